/- A range over a function: the loop's record as an assertion, the round, the call of yield, the statement, the mark. -/
import Derived.Test.YtjadcaoobnklcaaR1
namespace Go.Proofs.Ytjadcaoobnklcaa
open Sx Go
set_option linter.unusedVariables false
set_option linter.unusedSimpArgs false
/-- block b holds this object -/
@[irreducible] def obj (b : Nat) (o : Obj) : Asn where
  holds w fp := fp = [b] ∧ w.heap[b]? = some o
  frame w w' fp h hk := ⟨h.1, by rw [hk b (by simp [h.1])]; exact h.2⟩
  live w fp h b' hb := by
    obtain ⟨rfl, hT⟩ := h
    simp at hb; subst hb
    exact (Array.getElem?_eq_some_iff.1 hT).1
theorem obj_holds {b o w fp} : (obj b o).holds w fp ↔ fp = [b] ∧ w.heap[b]? = some o := by unfold obj; exact Iff.rfl
theorem _root_.Sx.St.obj_get {w0 H w b o} (h : St w0 H w) (hm : obj b o ∈ H) : w.heap[b]? = some o := by
  obtain ⟨f, hf⟩ := h.mem hm
  exact (obj_holds.1 hf).2
theorem _root_.Sx.St.obj_put {w0 H H' w b o} (o' : Obj) (h : St w0 H w) (hu : Upd H (obj b o) (obj b o') H') : St w0 H' (w.putObj b o') := by
  refine h.upd hu rfl rfl rfl (by simp) ?_
  intro f1 hf
  obtain ⟨rfl, hb⟩ := obj_holds.1 hf
  have hlt := (Array.getElem?_eq_some_iff.1 hb).1
  exact ⟨fun b' _ hb' => World.putObj_heap_other (by simpa using hb'), [b], by simp, by simp, obj_holds.2 ⟨rfl, World.putObj_heap_same hlt⟩⟩
theorem _root_.Sx.St.obj_new {w0 H w} (h : St w0 H w) (o : Obj) : St w0 (obj w.heap.size o :: H) (w.alloc o) := by
  refine St.step («as» := []) (bs := [obj w.heap.size o]) h rfl rfl rfl (by simp) ?_
  intro f1 hf _ _
  simp [All] at hf
  subst hf
  exact ⟨fun b hb _ => RowKit.Below.heap_alloc w _ _ hb, [w.heap.size], by simp, by simp, [w.heap.size], [], by simp, obj_holds.2 ⟨rfl, World.alloc_heap_new w _⟩, rfl⟩
theorem _root_.Sx.Upd.mem {H a a' H'} (h : Upd H a a' H') : a ∈ H := by
  induction h with
  | here => exact List.Mem.head _
  | there _ _ _ _ _ _ ih => exact List.Mem.tail _ ih
section
variable {P : Program} {f n l : Nat} {R : Ending → World → Prop} {D : List Deferred} {w0 : World} {k : List Item} {ov : Ov} {H H' : List Asn}
/-! the round -/
theorem Ro.JS_begin {r : Loop} (hu : Upd H (obj l (.loop r)) (obj l (.loop { r with state := .busy })) H') (hr : r.state = .ready) (h : Ro.JS P l n R D w0 k ov H') : Ro.JS P l n R D w0 (.beginRound :: k) ov H := by
  unfold Ro.JS at h ⊢
  intro a w ha hw
  have hl := hw.obj_get hu.mem
  exact (h a _ ha (hw.obj_put _ hu)).step fun b cs hb hk => stepR_beginRound hb (run_beginRound hl hr)
theorem Ro.JS_over {r : Loop} (hu : Upd H (obj l (.loop r)) (obj l (.loop { r with state := .ready, pending := none })) H') (h : ∀ w, St w0 H' w → R (.returned (.bool true)) w) : Ro.JS P l n R D w0 [] ov H := by
  unfold Ro.JS Ro.J
  intro a w ha hw b c cs hb hk
  have hl := hw.obj_get hu.mem
  exact ⟨_, _, h _ (hw.obj_put _ hu), .one (stepR_round_end hb hk (run_endRound none hl))⟩
theorem Ro.JS_ret {r : Loop} (hu : Upd H (obj l (.loop r)) (obj l (.loop { r with state := .done, pending := some .ret })) H') (h : ∀ w, St w0 H' w → R (.returned (.bool false)) w) : Ro.JS P l n R D w0 (.code .ret :: k) ov H := by
  unfold Ro.JS Ro.J
  intro a w ha hw b c cs hb hk
  have hl := hw.obj_get hu.mem
  exact ⟨_, _, h _ (hw.obj_put _ hu), .one (stepR_round_ret hb hk (run_endRound (some .ret) hl))⟩
theorem Ro.JS_leave {r : Loop} {id : Nat} (hx : exitTo id k = none) (hu : Upd H (obj l (.loop r)) (obj l (.loop { r with state := .done, pending := some (.exit id) })) H') (h : ∀ w, St w0 H' w → R (.returned (.bool false)) w) : Ro.JS P l n R D w0 (.code (.exit id) :: k) ov H := by
  unfold Ro.JS Ro.J
  intro a w ha hw b c cs hb hk
  have hl := hw.obj_get hu.mem
  exact ⟨_, _, h _ (hw.obj_put _ hu), .one (stepR_round_exit hb hk hx (run_endRound (some (.exit id)) hl))⟩
/-! a call of yield -/
/-- yield of loop l, at these values: the round hands back, as R says -/
def YieldC (P : Program) (l : Nat) (args : List Value) (w : World) (R : Ending → World → Prop) : Prop :=
  ∃ fn tmps assign body, (Instr.yield l args.toArray).run P w = .ok (.round l fn tmps assign body) w ∧
    ∀ (c : Frame) (cs : List Frame), ∃ v w', R (.returned v) w' ∧ Steps P (lone (Frame.round l fn tmps assign body .normal) (c :: cs) w) (lone (c.finish v) cs w')
theorem YieldC.mono {args : List Value} {w : World} {R R' : Ending → World → Prop} (h : YieldC P l args w R) (hr : ∀ e w', R e w' → R' e w') : YieldC P l args w R' :=
  let ⟨fn, tmps, assign, body, h1, h2⟩ := h
  ⟨fn, tmps, assign, body, h1, fun c cs => let ⟨v, w', h3, h4⟩ := h2 c cs; ⟨v, w', hr _ _ h3, h4⟩⟩
def putAll (n : Nat) : List Nat → List Value → Ov → Option Ov
  | [], [], ov => some ov
  | p :: ps, v :: vs, ov => if Nat.blt p n then putAll n ps vs ((p, v) :: ov) else none
  | _, _, _ => none
theorem putAll_rep : ∀ {ps : List Nat} {vs : List Value} {ov ov' : Ov} {tmps : Array Value}, putAll n ps vs ov = some ov' → Rep n D ov ⟨tmps, D⟩ →
    ps.length = vs.length ∧ Rep n D ov' ⟨(ps.zip vs).foldl (fun t (p, v) => t.setIfInBounds p v) tmps, D⟩
  | [], [], _, _, _, h, hr => by cases h; exact ⟨rfl, hr⟩
  | p :: ps, v :: vs, ov, ov', tmps, h, hr => by
    unfold putAll at h
    split at h
    · rename_i hp
      have h2 := hr.put (d := some p) (v := v) (by simpa [dOk] using hp)
      obtain ⟨h3, h4⟩ := putAll_rep h h2
      exact ⟨by simp [h3], h4⟩
    · cases h
  | [], _ :: _, _, _, _, h, _ => by simp [putAll] at h
  | _ :: _, [], _, _, _, h, _ => by simp [putAll] at h
theorem zip_arr (ps : List Nat) (vs : List Value) (tmps : Array Value) : (ps.toArray.zip vs.toArray).foldl (fun (t : Array Value) (x : Nat × Value) => t.setIfInBounds x.1 x.2) tmps = (ps.zip vs).foldl (fun t (p, v) => t.setIfInBounds p v) tmps := by
  simp
/-- a round, out of the walk of its body -/
theorem YieldC_of {r : Loop} {ps : List Nat} {vs : List Value} {ov' : Ov} {w : World} (hw : St w0 H w) (hm : obj l (.loop r) ∈ H) (hps : r.params = ps.toArray) (hp : putAll n ps vs ov = some ov') (hr : Rep n [] ov ⟨r.tmps, []⟩)
    (h : Ro.JS P l n R [] w0 [.code r.assign, .beginRound, .code r.body] ov' H) : YieldC P l vs w R := by
  have hl := hw.obj_get hm
  obtain ⟨h1, h2⟩ := putAll_rep hp hr
  refine ⟨_, _, _, _, run_yield (args := vs.toArray) hl (by rw [hps]; simp [h1]), fun c cs => ?_⟩
  unfold Ro.JS Ro.J at h
  let b : Frame := { (default : Frame) with fn := r.fn, kind := .normal, roundOf := some l }
  have hfold : (r.params.zip vs.toArray).foldl (fun (t : Array Value) (x : Nat × Value) => t.setIfInBounds x.1 x.2) r.tmps = (ps.zip vs).foldl (fun t (p, v) => t.setIfInBounds p v) r.tmps := by
    rw [hps]; exact zip_arr ps vs r.tmps
  have hb0 : Frame.round l r.fn ((r.params.zip vs.toArray).foldl (fun (t : Array Value) (x : Nat × Value) => t.setIfInBounds x.1 x.2) r.tmps) r.assign r.body .normal = b.atR { tmps := (ps.zip vs).foldl (fun t (p, v) => t.setIfInBounds p v) r.tmps, defers := [] } [.code r.assign, .beginRound, .code r.body] := by
    rw [hfold]; simp [Frame.round, Frame.atR, b]
  obtain ⟨v, w', hR, hs⟩ := h _ w h2 hw b c cs rfl rfl
  exact ⟨v, w', hR, by rw [← hb0] at hs; exact hs⟩
theorem JO_yield {ops : Array Oper} {lo : List Oper} {d : Option Nat} {T : Nat} {pos : String} {af : Array Edge} {g : Option (Nat × Bool)} {x : Operand} {xs : List Operand} {vs : List Value} {ts : Array Nat} (hv : ev ov x = some (.func (.yield l) #[] #[])) (hx : evs ov xs = some vs) (hd : dOk d n = true)
    (h : ∀ w, St w0 H w → YieldC P l vs w fun e w' => ∃ v, e = .returned v ∧ ∃ H', St w0 H' w' ∧ Sx.JR P f n R D w0 ops lo k (put d v ov) H') :
    Sx.JO P f n R D w0 ops ⟨d, .call ⟨.value x, xs.toArray, ts⟩, T, pos, af, g⟩ lo k ov H := by
  unfold Sx.JO
  intro i is hi hm a w ha hw hy
  unfold Sx.J
  intro b cs hb hk
  have hg := stepG_op (P := P) (b := b) (k := k) (cs := cs) (w := w) (rest := is) hi hy
  obtain ⟨fn, tmps, assign, body, hyi, hround⟩ := h w hw
  have hrun : (execOp a.eval ⟨d, .call ⟨.value x, xs.toArray, ts⟩, T, pos, af, g⟩).run P w = .ok (.round l fn tmps assign body) w := by
    simp only [execOp, resolve, ha.ev hv, Deferred.ofValue, Sem.run_bind, Sem.run_pure, Result.andThen_ok, invoke]
    rw [List.map_toArray, ha.evs hx]
    simpa using hyi
  obtain ⟨v, w', ⟨v', he, H', hw', hn⟩, hsteps⟩ := hround (b.at a (.inRegion ops (i :: is) :: k)) cs
  cases he
  have henter : step P (lone (b.at a (.inRegion ops (i :: is) :: k)) cs w) =
      .next (lone (Frame.round l fn tmps assign body .normal) (b.at a (.inRegion ops (i :: is) :: k) :: cs) w) :=
    step_lone_go (by rw [hg]; simp [stepG.apply, hrun, Frame.at])
  have hfin : (b.at a (.inRegion ops (i :: is) :: k)).finish v = b.at (a.put d v) (.inRegion ops is :: k) := by
    rw [Frame.finish_at, hi]; rfl
  unfold Sx.JR Sx.JS Sx.J at hn
  obtain ⟨e, w'', fr', hR, hc, hrest⟩ := hn is hm (a.put d v) w' (ha.put hd v) hw' b cs hb hk
  refine ⟨e, w'', fr', hR, ?_, hrest⟩
  refine Comes.of_steps (.head henter hsteps) ?_
  rw [hfin]; exact hc
/-! the statement -/
theorem JS_rangeFunc {gx : Operand} {ps : Array Nat} {assign body : Code} {gf : Nat} {lb : List Value} (hg : ev ov gx = some (.func (.func gf) #[] lb.toArray)) (hc : ∀ args w, (callFunc gf args).run P w = .ok (.enter gf args) w)
    (h : ∀ (l Dd : Nat) (tmps : Array Value), Rep n [] ov ⟨tmps, []⟩ → ∀ w, St w0 (obj l (.loop { state := .ready, pending := none, fn := f, tmps := tmps, params := ps, assign := assign, body := body, defers := Dd }) :: obj Dd (.deferred (some [])) :: H) w →
      Calls P gf (.func (.yield l) #[] #[] :: lb).toArray w fun e w' => ∃ v, e = .returned v ∧ ∃ (r : Loop) (H1 H2 : List Asn), St w0 H1 w' ∧ Upd H1 (obj l (.loop r)) (obj l (.loop { r with state := .exhausted })) H2 ∧ r.state ≠ .busy ∧
        Sx.JS P f n R ({ target := .collected Dd, args := #[] } :: D) w0 ((r.pending.map Item.code).toList ++ k) ov H2) :
    Sx.JS P f n R D w0 (.code (.rangeFunc gx ps assign body) :: k) ov H := by
  unfold Sx.JS
  intro a w ha hw
  unfold Sx.J
  intro b0 cs hb hk
  let b : Frame := { b0 with roundOf := none }
  have hbat : ∀ a t, b0.at a t = b.atR a t := fun a t => by simp [Frame.at, Frame.atR, b]
  let rec0 : Loop := { state := .ready, pending := none, fn := f, tmps := a.tmps, params := ps, assign := assign, body := body, defers := w.heap.size }
  have hst := (hw.obj_new (.deferred (some []))).obj_new (.loop rec0)
  have henter := run_enterLoop_outer (P := P) (w := w) b.fn a.tmps ps assign body
  have hro : b.roundOf = none := rfl
  have hfn : b.fn = f := hb
  rw [World.size_alloc] at hst
  obtain ⟨e, w', fr, ⟨v, he, r, H1, H2, hw', hu, hbusy, hn⟩, hsteps, _, hleave⟩ := h (w.heap.size + 1) w.heap.size a.tmps ⟨ha.size, rfl, ha.val⟩ _ hst (b.atR { a with defers := { target := .collected w.heap.size, args := #[] } :: a.defers } (.inRangeFunc (w.heap.size + 1) :: k) :: cs)
  subst he
  have hs1 : step P (lone (b.atR a (.code (.rangeFunc gx ps assign body) :: k)) cs w) = .next (lone (Frame.enter P gf (.func (.yield (w.heap.size + 1)) #[] #[] :: lb).toArray .normal) (b.atR { a with defers := { target := .collected w.heap.size, args := #[] } :: a.defers } (.inRangeFunc (w.heap.size + 1) :: k) :: cs) ((w.alloc (.deferred (some []))).alloc (.loop rec0))) := by
    refine stepR_rangeFunc (l := w.heap.size + 1) (mark := [{ target := .collected w.heap.size, args := #[] }]) (d := { target := .fn (.func gf) lb.toArray, args := #[.func (.yield (w.heap.size + 1)) #[] #[]] }) (w₁ := (w.alloc (.deferred (some []))).alloc (.loop rec0)) (w₁' := (w.alloc (.deferred (some []))).alloc (.loop rec0)) ?_ ?_ ?_
    · rw [hro, henter, hfn]
    · simp only [resolve, rangeCall, ha.ev hg]
      simp [go_sem]
    · simp [invoke, go_sem, hc]
  have hl := hw'.obj_get hu.mem
  have hs2 := step_leave_returned (P := P) (c := b.atR { a with defers := { target := .collected w.heap.size, args := #[] } :: a.defers } (.inRangeFunc (w.heap.size + 1) :: k)) (cs := cs) hleave
  rw [finish_atR_inRangeFunc] at hs2
  have hs3 := stepR_endRangeFunc (P := P) (b := b) (a := { a with defers := { target := .collected w.heap.size, args := #[] } :: a.defers }) (k := k) (cs := cs) (run_endLoop (P := P) hl hbusy)
  unfold Sx.JS Sx.J at hn
  obtain ⟨e, w'', fr', hR, hcm, hrest⟩ := hn { a with defers := { target := .collected w.heap.size, args := #[] } :: a.defers } _ ⟨ha.size, by rw [ha.defers], ha.val⟩ (hw'.obj_put _ hu) b0 cs hb hk
  refine ⟨e, w'', fr', hR, ?_, hrest⟩
  rw [hbat] at hcm ⊢
  exact Comes.of_steps (.head hs1 (Steps.trans hsteps (.head hs2 (.one hs3)))) hcm
/-! the way out of a function that has a mark -/
theorem JS_retM {Dd : Nat} {fn : Func} {rs : List ResultVar} {vs : List Value} {tb : Tb P} (hu : Upd H (obj Dd (.deferred (some []))) (obj Dd (.deferred none)) H') (hf : P.funcs[f]? = some fn) (hrs : fn.results = rs.toArray) (hr : ResV tb ov H' rs vs) (h : ∀ w, St w0 H' w → R (.returned (tupleOf vs)) w) :
    Sx.JS P f n R [{ target := .collected Dd, args := #[] }] w0 (.code .ret :: k) ov H := by
  unfold Sx.JS Sx.J
  intro a w ha hw b cs hb hk
  have hl := hw.obj_get hu.mem
  have hw' := hw.obj_put _ hu
  refine ⟨.returned (tupleOf vs), _, { b.at a (.code .ret :: k) with mode := .returning, defers := [] }, h _ hw', ?_, hb, rfl, rfl, hk, fn, by rw [← hf]; exact congrArg (P.funcs[·]?) hb, results_cells (n := n) (D := [{ target := .collected Dd, args := #[] }]) (by rw [hrs]; exact hr) ha hw'⟩
  refine Steps.head step_ret (.one ?_)
  have := step_collected (P := P) (fr := { b.at a (.code .ret :: k) with mode := .returning }) (cs := cs) (d := { target := .collected Dd, args := #[] }) (ds := []) (by simp) (by simp [Frame.at, ha.defers]) rfl (run_takeDeferred (P := P) hl)
  simpa using this
end
end Go.Proofs.Ytjadcaoobnklcaa
