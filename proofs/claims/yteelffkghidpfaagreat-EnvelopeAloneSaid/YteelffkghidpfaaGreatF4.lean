import Derived.Test.YteelffkghidpfaaGreatF3
set_option linter.unusedVariables false
set_option linter.unusedSimpArgs false
namespace Sx
open Go
section
variable {P : Program} {f n : Nat} {R : Ending → World → Prop} {D : List Deferred} {w0 : World} {k : List Item} {ov : Ov} {H H' : List Asn}
  {T : Nat} {pos : String} {af : Array Edge} {v : Value}
theorem enterR2 {o2 : Oper} {fn : Func} {id : Nat} {dd : Nat} {rest : Code} {ts : Array Nat} {vs : List Value} {u u' : FrameMode} {w : World} (hf : P.funcs[f]? = some fn) (hb : fn.body = some (.seq (.region id #[⟨some dd, .call ⟨.builtin .recover, #[], ts⟩, T, pos, af, none⟩, o2] false) rest)) (hn : fn.ntmps = n) (hl : Nat.ble vs.length n = true) (hd : Nat.blt dd n = true)
    (hw : St w0 H w) (hu : (u = .returning ∧ v = .nilIface ∧ u' = .returning) ∨ (∃ older, u = .panicking ({ v, recovered := false } :: older) ∧ u' = .panicking ({ v, recovered := true } :: older)))
    (h : JR P f n R [] w0 #[⟨some dd, .call ⟨.builtin .recover, #[], ts⟩, T, pos, af, none⟩, o2] [o2] [.code rest] ((dd, v) :: argsOv 0 vs) H) : CallsD P f vs.toArray u w fun e u2 w' => u2 = u' ∧ R e w' := by
  intro c₀ cs hm
  let b : Frame := { (default : Frame) with fn := f, kind := .deferred }
  have hl' : vs.length ≤ n := Nat.le_of_ble_eq_true hl
  have hd' : dd < n := by rwa [Nat.blt_eq] at hd
  let o : Oper := ⟨some dd, .call ⟨.builtin .recover, #[], ts⟩, T, pos, af, none⟩
  let a0 : Act := { tmps := vs.toArray ++ Array.replicate (fn.ntmps - vs.toArray.size) undef, defers := [] }
  have henter : Frame.enter P f vs.toArray .deferred = b.at a0 [.code (.seq (.region id #[o, o2] false) rest)] := by
    simp [Frame.enter, Frame.at, hf, hb, b, a0, o]
  have hrep : Rep n [] (argsOv 0 vs) a0 := by
    refine ⟨by simp [a0, hn]; omega, rfl, ?_⟩
    intro t v ht
    obtain ⟨_, h2⟩ := look_args vs 0 t v ht
    simp only [Nat.sub_zero] at h2
    have hlt : t < vs.length := (List.getElem?_eq_some_iff.1 h2).1
    simp only [a0]
    rw [Array.getElem?_append_left (by simpa using hlt)]
    simpa using h2
  have hrep' : Rep n [] ((dd, v) :: argsOv 0 vs) (a0.put (some dd) v) := hrep.put (d := some dd) (by simp [dOk, Nat.blt_eq, hd']) v
  have hrec : recoverD (c₀ :: cs) = match u with
      | .returning => none
      | _ => some (v, { c₀ with mode := u' } :: cs) := by
    rcases hu with ⟨rfl, rfl, rfl⟩ | ⟨older, rfl, rfl⟩
    · simp [recoverD, hm]
    · simp [recoverD, hm]
  have hrun : (execOp a0.eval o).run P w = .ok .recover w := by simp [o, execOp, resolve, invoke, builtin]
  have htr : tryRecover (b.at a0 (.inRegion #[o, o2] [0, 1] :: [.code rest])) (c₀ :: cs) = recoverD (c₀ :: cs) := tryRecover_deferred rfl _
  have hfin : ∀ v, (b.at a0 (.inRegion #[o, o2] (0 :: [1]) :: [.code rest])).finish v = b.at (a0.put o.dst v) (.inRegion #[o, o2] [1] :: [.code rest]) := by
    intro v; rw [Frame.finish_at]; rfl
  have hg := stepG_op (P := P) (b := b) (a := a0) (k := [.code rest]) (cs := c₀ :: cs) (w := w) (ops := #[o, o2]) (i := 0) (rest := [1]) (o := o) rfl rfl
  have h1 : step P (lone (b.at a0 [.code (.seq (.region id #[o, o2] false) rest)]) (c₀ :: cs) w) = .next (lone (b.at a0 [.code (.region id #[o, o2] false), .code rest]) (c₀ :: cs) w) := step_seq
  have h2 : step P (lone (b.at a0 [.code (.region id #[o, o2] false), .code rest]) (c₀ :: cs) w) = .next (lone (b.at a0 [.inRegion #[o, o2] [0, 1], .code rest]) (c₀ :: cs) w) := step_region
  have h3 : step P (lone (b.at a0 [.inRegion #[o, o2] [0, 1], .code rest]) (c₀ :: cs) w) = .next (lone (b.at (a0.put (some dd) v) [.inRegion #[o, o2] [1], .code rest]) ({ c₀ with mode := u' } :: cs) w) := by
    refine step_lone_go ?_
    rw [hg]
    have hf' := hfin v
    rcases hu with ⟨rfl, rfl, rfl⟩ | ⟨older, rfl, rfl⟩
    · have hc : ({ c₀ with mode := .returning } : Frame) = c₀ := by rw [← hm]
      rw [hc, ← hf']
      simp only [Frame.at] at htr hrec ⊢
      simp [stepG.apply, hrun, htr, hrec]
    · rw [← hf']
      simp only [Frame.at] at htr hrec ⊢
      simp [stepG.apply, hrun, htr, hrec]
  unfold JR at h; have h := h [1] rfl
  unfold JS J at h
  obtain ⟨e, w', fr, hR, hcm, hfn, hk, hgo⟩ := h _ w hrep' hw b ({ c₀ with mode := u' } :: cs) rfl (.inr rfl)
  rw [henter]
  exact ⟨e, u', w', fr, ⟨rfl, hR⟩, Comes.of_steps (.head h1 (.head h2 (.one h3))) hcm, hk, hgo⟩
end
section
variable {P : Program} {tb : Tb P} {n : Nat} {D : List Deferred} {w0 : World} {ov : Ov} {H : List Asn} {d : Option Nat} {x y : Operand} {T t s1 b1 T2 : Nat} {z1 : Option (List Value)} {pos : String} {af : Array Edge} {g : Option (Nat × Bool)}
theorem V_neIN (hx : ev ov x = some .nilIface) (h : tlook tb.l t = some ⟨.iface, s1, b1, z1⟩) (hd : dOk d n = true) :
    OpV P n D w0 ov H ⟨d, .binOp .neq t x (.const .nilIface) T2, T, pos, af, g⟩ (.bool false) := by
  unfold OpV
  exact ⟨hd, fun a w ha _ => by
    obtain ⟨ms, e1⟩ := und_iface h
    have hg : (eqGuard .neq t x (.const .nilIface) .nilIface .nilIface).run P w = .ok () w := by simp [eqGuard]
    have e2 := run_eqIN (P := P) w 9999 e1
    have hb : (binOp .neq t .nilIface .nilIface).run P w = .ok (.bool false) w := by
      simp only [binOp, Op.equal, Op.maxDepth, Sem.run_bind, e2, Result.andThen_ok, Sem.run_pure]; rfl
    have hc : a.eval (.const .nilIface) = .nilIface := rfl
    simp [execOp, ha.ev hx, hc, hg, hb]⟩
theorem V_assertN {tx t9 s2 b2 : Nat} {ty : Ty} {z : List Value} {zv : Value} (hx : ev ov x = some .nilIface) (h : tlook tb.l t9 = some ⟨ty, s2, b2, some z⟩) (hz : ∀ w : World, (zeroValue t9).run P w = .ok zv w) (hd : dOk d n = true) :
    OpV P n D w0 ov H ⟨d, .typeAssert x tx t9 true, T, pos, af, g⟩ (.tuple #[zv, .bool false]) := by
  unfold OpV
  exact ⟨hd, fun a w ha _ => by
    obtain ⟨dd, e1, e2⟩ := Tb.und h
    cases dd <;> simp [execOp, ha.ev hx, Instr.typeAssert, run_underlying e1, hz]⟩
theorem V_eqArr {us vs : List Value} {r : Bool} (hx : ev ov x = some (.agg us.toArray)) (hy : ev ov y = some (.agg vs.toArray)) (hm : P.eqGuardType P.depth t = false)
    (hr : ∀ w, (Op.equalIn 10000 t (.agg us.toArray) (.agg vs.toArray)).run P w = .ok r w) (hd : dOk d n = true) : OpV P n D w0 ov H ⟨d, .binOp .eql t x y T2, T, pos, af, g⟩ (.bool r) := by
  unfold OpV
  exact ⟨hd, fun a w ha _ => by
    have e1 := run_eqGuard_agg (P := P) (w := w) .eql t x y us.toArray vs.toArray hm
    have e3 := run_eql_struct (P := P) (w := w) t us.toArray vs.toArray
    simp only [execOp, ha.ev hx, ha.ev hy, Sem.run_bind, e1, Result.andThen_ok, e3, hr w, Sem.run_pure]⟩
end
end Sx

set_option linter.unusedVariables false
set_option linter.unusedSimpArgs false
set_option maxRecDepth 100000
namespace Go.Proofs.YteelffkghidpfaaGreat
open Sx Go
section
variable {w0 : World} {H : List Asn}
def FZ (r : Int) : List PanicEntry := [{ v := .iface 156 (.agg #[.int .i64 r]), recovered := false }]
theorem Need_c (b : Bool) (r : Int) (w : World) (hw : St w0 H w) :
    Calls Tryz.prog 151 #[.bool b, .int .i64 r] w fun e w' => (b = true ∧ e = .returned (.tuple #[]) ∧ St w0 H w') ∨ (b = false ∧ e = .panicked (FZ r) ∧ St w0 H w') := by
  refine enter (vs := [.bool b, .int .i64 r]) Tryz.func151 rfl rfl rfl hw ?_
  cases b
  · repeat (first | (apply gJO; refine JO_v (V_mkI (tb := tb) rfl rfl (by simp) rfl) ?_) | (refine sx ?_; try intro _))
    refine JO_panic Tryz.func151 rfl ?_
    intro a w _ hw
    exact .inr ⟨rfl, rfl, hw⟩
  · repeat (refine sx ?_; try intro _)
    refine JS_fin Tryz.func151 rfl rfl ?_
    intro w hw
    exact .inl ⟨rfl, rfl, hw⟩
theorem zz70 (w : World) : (zeroValue 156).run Tryz.prog w = .ok (.agg #[.int .i64 0]) w := by
  have h : (Tryz.prog.info? 156).bind (·.zero) = some (.agg #[.int .i64 0]) := by kernel_rfl
  obtain ⟨x, h1, h2⟩ := Option.bind_eq_some_iff.1 h
  simp [zeroValue, typeInfo, h1, h2]
theorem ZC_idle (bo be : Nat) (w : World) (hw : St w0 H w) :
    CallsD Tryz.prog 108 #[.pointer (some ⟨bo, 0, none⟩), .pointer (some ⟨be, 0, none⟩)] .returning w fun e u' w' => u' = .returning ∧ e = .returned (.tuple #[]) ∧ St w0 H w' := by
  refine enterR2 (vs := [.pointer (some ⟨bo, 0, none⟩), .pointer (some ⟨be, 0, none⟩)]) Tryz.func108 rfl rfl rfl rfl hw (.inl ⟨rfl, rfl, rfl⟩) ?_
  repeat (first | (apply gJO; first | refine JO_v (V_neIN (tb := tb) rfl rfl rfl) ?_ | refine JO_v (V_assertN (tb := tb) rfl rfl zz70 rfl) ?_) | (refine sx ?_; try intro _))
  exact JS_fin Tryz.func108 rfl rfl fun w hw => ⟨rfl, dS hw⟩
set_option maxRecDepth 10000 in
theorem ZC_got (bo be : Nat) (r : Int) (w : World) (hw : St w0 (blk bo [.slice none 0 0] :: blk be [.int .i64 0] :: H) w) :
    CallsD Tryz.prog 108 #[.pointer (some ⟨bo, 0, none⟩), .pointer (some ⟨be, 0, none⟩)] (.panicking (FZ r)) w fun e u' w' => u' = .panicking [{ v := .iface 156 (.agg #[.int .i64 r]), recovered := true }] ∧ e = .returned (.tuple #[]) ∧ St w0 (blk bo [.slice none 0 0] :: blk be [.int .i64 r] :: H) w' := by
  refine enterR2 (vs := [.pointer (some ⟨bo, 0, none⟩), .pointer (some ⟨be, 0, none⟩)]) Tryz.func108 rfl rfl rfl rfl hw (.inr ⟨[], rfl, rfl⟩) ?_
  repeat (first | (apply gJO; first | refine JO_v (V_eqIV (tb := tb) rfl rfl rfl) ?_ | refine JO_v (V_assertT (tb := tb) rfl rfl (by simp) rfl) ?_) | apply hIx' 3 | (refine sx ?_; try intro _))
  refine Hold.go ?_
  rename_i b
  refine JS_order2 [blk b [.int .i64 r]] [0, 1, 2, 3] [] (fun w hw => St.sub (by repeat (first | exact List.nil_sublist _ | apply List.Sublist.cons_cons | apply List.Sublist.cons)) hw) (Picks.cons rfl (Picks.cons rfl (Picks.cons rfl (Picks.cons rfl (Picks.nil))))) (by kernel_rfl) (by kernel_rfl) rfl (by decide +kernel) ?_
  repeat (first | (apply gQR2; first | apply QR2_un | apply QR2_nil) | (apply gQO2; first | refine aQ2 ?_ | (refine aK2 ?_ ?_; exact fun w hw => St.sub (by repeat (first | exact List.nil_sublist _ | apply List.Sublist.cons_cons | apply List.Sublist.cons)) hw)))
  exact JS_fin Tryz.func108 rfl rfl fun w hw => ⟨rfl, dS hw⟩
abbrev resZ (bo be : Nat) (H : List Asn) : List Asn := blk bo [.slice none 0 0] :: blk be [.int .i64 0] :: H
abbrev defZ (bo be : Nat) : List Deferred := [⟨.fn (.func 108) #[.pointer (some ⟨bo, 0, none⟩), .pointer (some ⟨be, 0, none⟩)], #[]⟩]
theorem LvZ_err {R : Ending → World → Prop} {n : Nat} {bo be : Nat} {r : Int} {a : Act} {D : List Deferred} (ha : Rep n D [(4, .pointer (some ⟨bo, 0, none⟩)), (5, .pointer (some ⟨be, 0, none⟩))] a) {w : World} (hw : St w0 (resZ bo be H) w)
    (hR : ∀ w, St w0 H w → R (.returned (.tuple #[.slice none 0 0, .int .i64 r])) w) : Leaves Tryz.prog Tryz.f69 a.tmps R (defZ bo be) (.panicking (FZ r)) w := by
  refine leaves_cons (f := 108) (args := #[.pointer (some ⟨bo, 0, none⟩), .pointer (some ⟨be, 0, none⟩)]) (by simp) (inv_fn Tryz.call108) ?_
  refine (ZC_got bo be r w hw).mono ?_
  rintro e u' w' ⟨rfl, rfl, hw'⟩
  show Leaves _ _ _ _ _ (settle _) _
  rw [show settle (.panicking [{ v := .iface 156 (.agg #[.int .i64 r]), recovered := true }]) = .returning from rfl]
  exact ⟨_, results_cells (tb := tb) (vs := [.slice none 0 0, .int .i64 r]) (ResV.one (tb := tb) rfl (by repeat (first | apply List.Mem.head | apply List.Mem.tail)) rfl rfl rfl (ResV.one (tb := tb) rfl (by repeat (first | apply List.Mem.head | apply List.Mem.tail)) rfl rfl rfl ResV.nil)) ha hw', hR w' hw'.drop.drop⟩
theorem LvZ_ok {R : Ending → World → Prop} {n : Nat} {bo be : Nat} {v1 : Value} {a : Act} {D : List Deferred} (ha : Rep n D [(4, .pointer (some ⟨bo, 0, none⟩)), (5, .pointer (some ⟨be, 0, none⟩))] a) {w : World} (hw : St w0 (blk bo [v1] :: blk be [.int .i64 0] :: H) w)
    (hR : ∀ w, St w0 H w → R (.returned (.tuple #[v1, .int .i64 0])) w) : Leaves Tryz.prog Tryz.f69 a.tmps R (defZ bo be) .returning w := by
  refine leaves_cons (f := 108) (args := #[.pointer (some ⟨bo, 0, none⟩), .pointer (some ⟨be, 0, none⟩)]) (by simp) (inv_fn Tryz.call108) ?_
  refine (ZC_idle bo be w hw).mono ?_
  rintro e u' w' ⟨rfl, rfl, hw'⟩
  show Leaves _ _ _ _ _ (settle _) _
  rw [show settle .returning = .returning from rfl]
  exact ⟨_, results_cells (tb := tb) (vs := [v1, .int .i64 0]) (ResV.one (tb := tb) rfl (by repeat (first | apply List.Mem.head | apply List.Mem.tail)) rfl rfl rfl (ResV.one (tb := tb) rfl (by repeat (first | apply List.Mem.head | apply List.Mem.tail)) rfl rfl rfl ResV.nil)) ha hw', hR w' hw'.drop.drop⟩
end
end Go.Proofs.YteelffkghidpfaaGreat

set_option linter.unusedVariables false
namespace Sx
open Go
def anyA {ι : Type} (f : ι → Asn) : Asn where
  holds w fp := ∃ i, (f i).holds w fp
  frame w w' fp h hk := h.elim fun i h => ⟨i, (f i).frame w w' fp h hk⟩
  live w fp h := h.elim fun i h => (f i).live w fp h
section
variable {P : Program} {n : Nat} {D : List Deferred} {w0 : World} {ov : Ov} {Hi H : List Asn} {K : KC}
  {Z : Array Oper × List Nat} {l : List Oper} {d : Option Nat} {T : Nat} {pos : String} {af : Array Edge} {g : Option (Nat × Bool)} {v : Value} {op : Op} {o : Oper} {ι : Type} {f : ι → Asn}
theorem St.any {w : World} (i : ι) (h : St w0 (f i :: H) w) : St w0 (anyA f :: H) w := by
  refine (St.conv (H := H) (bs := [anyA f]) (show St w0 ([f i] ++ H) w from h) ?_)
  rintro fp ⟨f1, f2, e, h1, h2⟩
  exact ⟨f1, f2, e, ⟨i, h1⟩, h2⟩
theorem St.any_out {w : World} (h : St w0 (anyA f :: H) w) : ∃ i, St w0 (f i :: H) w := by
  obtain ⟨fp, h1, h2, f1, f2, e, ⟨i, h3⟩, h4⟩ := h.own
  exact ⟨i, h.os, h.tape, h.output, h.size, h.old, fp, h1, h2, f1, f2, e, h3, h4⟩
theorem OpV_any (h : ∀ i, OpV P n D w0 ov (f i :: H) o v) (i0 : ι) : OpV P n D w0 ov (anyA f :: H) o v := by
  unfold OpV at *
  refine ⟨(h i0).1, fun a w ha hw => ?_⟩
  obtain ⟨i, hi⟩ := hw.any_out
  exact (h i).2 a w ha hi
theorem QO2_e {κ : Type} {v : κ → Value} {H' : κ → List Asn} (h : OpE P n D w0 ov H ⟨d, op, T, pos, af, g⟩ v H') (hlo : loud op = true) (hI : ∀ c w, St w0 (H' c) w → St w0 Hi w) (hn : ∀ c, QR2 P n D w0 Z l (put d (v c) ov) Hi (H' c) K) : QO2 P n D w0 Z ⟨d, op, T, pos, af, g⟩ l ov Hi H K := by
  unfold QO2
  intro a ha
  refine .inr ⟨hlo, fun w hw => ?_⟩
  obtain ⟨hd, h⟩ := h
  obtain ⟨c, w', hrun, hw'⟩ := h a w ha hw
  simp only [Oper.wpN, hrun, Oper.upN]
  refine ⟨St w0 Hi, St w0 (H' c), hw', hI c, .inl fun _ h => h, ?_⟩
  have := hn c
  unfold QR2 at this
  exact this _ (ha.put hd _)
theorem QO2_kS {H' : List Asn} (hlo : loud op = true) (h : OpK P n D w0 ov H ⟨d, op, T, pos, af, g⟩ H') (hs : Z.2.contains l.length = true) (hn : QR2 P n D w0 Z l (put d undef ov) H' H' K) : QO2 P n D w0 Z ⟨d, op, T, pos, af, g⟩ l ov Hi H K := by
  unfold QO2
  intro a ha
  unfold OpK at h
  refine .inr ⟨hlo, fun w hw => ?_⟩
  obtain ⟨w', hrun, hw'⟩ := h.2 a w ha hw
  simp only [Oper.wpN, hrun, Oper.upN]
  refine ⟨St w0 H', St w0 H', hw', fun _ h => h, .inr hs, ?_⟩
  unfold QR2 at hn
  exact hn _ (ha.put h.1 undef)
end
end Sx
namespace Go.Proofs.YteelffkghidpfaaGreat
open Sx Go
theorem aK2S {n : Nat} {D : List Deferred} {w0 : World} {ov : Ov} {Hi H H' : List Asn} {K : KC} {Z : Array Oper × List Nat} {l : List Oper} {d : Option Nat} {T : Nat} {pos : String} {af : Array Edge} {g : Option (Nat × Bool)} {op : Op}
    (hs : Z.2.contains l.length = true) (hn : QR2 Tryz.prog n D w0 Z l (put d undef ov) H' H' K) (h : OpK Tryz.prog n D w0 ov H ⟨d, op, T, pos, af, g⟩ H' := by first | exact K_store (tb := tb) rfl rfl (by repeat (first | apply Upd.here | apply Upd.there)) rfl rfl rfl (by repeat (first | exact trivial | refine ⟨rfl, ?_⟩)) rfl rfl | exact K_storeC1 (tb := tb) rfl rfl ints_set (by repeat (first | apply Upd.here | apply Upd.there)) rfl rfl (by rw [ints_len]; omega) rfl) (hlo : loud op = true := by rfl) : QO2 Tryz.prog n D w0 Z ⟨d, op, T, pos, af, g⟩ l ov Hi H K := QO2_kS hlo h hs hn
end Go.Proofs.YteelffkghidpfaaGreat

namespace Go.Proofs.YteelffkghidpfaaGreat
open Sx Go
set_option linter.unusedVariables false
set_option linter.unusedSimpArgs false
set_option maxRecDepth 100000
attribute [local irreducible] syA fc tk cds
theorem bitB_drop (B : List Int) (m n : Nat) (hm : B.length = m) : (fun j => ((bitsL B m).drop n).getD j 0) = bitB B n := by
  funext j
  rw [List.getD_eq_getElem?_getD, List.getElem?_drop, ← List.getD_eq_getElem?_getD]
  rcases Nat.lt_or_ge (n + j) (8 * m) with h | h
  · rw [bitsL_get B m (n + j) h]; simp [bitB]
  · rw [List.getD_eq_getElem?_getD, List.getElem?_eq_none (by rw [bitsL_len]; exact h)]
    unfold bitB
    rw [List.getD_eq_getElem?_getD (l := B), List.getElem?_eq_none (by omega)]; simp
section
variable {w0 : World} {H : List Asn}
theorem RBad_c (p : Option Addr) (c n : Nat) (L : List Int) (hr : Rd w0 H (.slice p n c) n (ints .u8 L)) (hL : L.length = n) (hB : OKB L) (hn : n ≤ 140737488355328) (w : World) (hw : St w0 H w) :
    Calls Tryz.prog 186 #[.slice p n c] w fun e w' => ∃ b : Bool, e = .returned (.bool b) ∧ (b = true ↔ ¬ OKL L) ∧ St w0 H w' := by
  refine enter (vs := [.slice p n c]) Tryz.func186 rfl rfl rfl hw ?_
  repeat (refine sx ?_; try intro _)
  refine JO_call Tryz.call184 rfl rfl fun w hw => (RCheck5_c p c n L hr hL hB hn w hw).mono ?_
  rintro e w' ⟨r, o, rfl, hw', h⟩
  refine ⟨_, rfl, _, hw', ?_⟩
  clear hw' hw w w'
  repeat (refine sx ?_; try intro _)
  refine JS_ret Tryz.func186 rfl rfl fun w hw => ⟨_, rfl, ?_, hw⟩
  subst hL
  rcases h with ⟨h, rfl, _⟩ | ⟨h1, h2, h3, rfl, _⟩ | ⟨h1, h2, h3, rfl, _⟩
  · refine ⟨fun _ h' => ?_, fun _ => rfl⟩
    rcases h with h | ⟨j, h⟩
    · have := h'.1; omega
    · have := h'.2.1 j; omega
  · exact ⟨fun _ h' => h3 h'.2.2, fun _ => rfl⟩
  · exact ⟨fun h => absurd h (by decide), fun h => absurd ⟨h1, h2, h3⟩ h⟩
variable {bs : Nat} {q : Option Addr} {d m : Nat} {B : List Int} {lim : Nat} {po : Option Addr} {co : Nat} {o : List Int}
theorem RSymE_c (v : Value) (a : Nat) (E : Int) (hE : E ≠ 0) (w : World) (hw : St w0 (strL bs q d m B lim a po co o E H) w) :
    Calls Tryz.prog 180 #[.pointer (some ⟨bs, 0, none⟩), v] w fun e w' => e = .returned (.int .i64 0) ∧ St w0 (strL bs q d m B lim a po co o E H) w' := by
  refine enter (vs := [.pointer (some ⟨bs, 0, none⟩), v]) Tryz.func180 rfl rfl rfl hw ?_
  repeat (refine sx ?_; try intro _)
  exact JS_ret Tryz.func180 rfl rfl fun w hw => ⟨rfl, hw⟩
set_option maxHeartbeats 1000000 in
theorem RSym_c (hK : InfK m B lim) (a : Nat) (ha : a ≤ 8 * m) (hm2 : m ≤ 17592186044410) (p : Option Addr) (c n : Nat) (L : List Int) (hr : Rd w0 H (.slice p n c) n (ints .u8 L)) (hL : L.length = n) (hB : OKB L) (hk : OKL L) (w : World) (hw : St w0 (strL bs q d m B lim a po co o 0 H) w) :
    Calls Tryz.prog 180 #[.pointer (some ⟨bs, 0, none⟩), .slice p n c] w fun e w' =>
      symP (bitB B 0) m L a (fun r => r ≠ 0 ∧ e = .returned (.int .i64 0) ∧ ∃ a', St w0 (strL bs q d m B lim a' po co o r H) w') (fun i a1 => e = .returned (.int .i64 i) ∧ St w0 (strL bs q d m B lim a1 po co o 0 H) w') := by
  refine enter (vs := [.pointer (some ⟨bs, 0, none⟩), .slice p n c]) Tryz.func180 rfl rfl rfl hw ?_
  have hbl := bitsL_len B m
  have hcap : ∀ w, St w0 (strL bs q d m B lim a po co o 0 H) w → 8 * m ≤ d := fun w hw => by
    have := (Rd.lcap (vec_rd (e := 5) (size := 1) (v := .slice q (8 * m) d) (n := 8 * m) (cs := ints .u8 (bitsL B m)) (by repeat (first | apply List.Mem.head | apply List.Mem.tail))) hw).1; omega
  repeat (first | (apply gJR; (refine sx ?_; try intro _)) | (apply gJO; (refine sx ?_; try intro _)) | (apply gQR; (refine sx ?_; try intro _)) | (apply gQO; first | refine QO_v rfl (V_slice (tb := tb) (lo := a) (hi := 8 * m) rfl rfl rfl rfl rfl (by rfl) (by omega) (fun w hw => ⟨by omega, hcap w hw⟩) rfl) ?_ | (refine sx ?_; try intro _)) | (apply gJS; (refine sx ?_; try intro _)))
  have hrs := Rd_sub (lo := a) (hi := 8 * m) (sz := 1) (vec_rd (w0 := w0) (H := strL bs q d m B lim a po co o 0 H) (e := 5) (size := 1) (v := .slice q (8 * m) d) (n := 8 * m) (cs := ints .u8 (bitsL B m)) (by repeat (first | apply List.Mem.head | apply List.Mem.tail))) (by omega) (by omega)
  simp only [Nat.mul_one, ints_drop, ints_take] at hrs
  rw [List.take_of_length_le (by rw [List.length_drop]; omega)] at hrs
  have hbd := bitB_drop B m a hK.hm
  have hr' : Rd w0 (strL bs q d m B lim a po co o 0 H) (.slice p n c) n (ints .u8 L) := Rd_weak hr fun w hw => dS hw
  refine QO_call Tryz.call225 rfl rfl fun w hw => (RRead_c p _ c _ n (8 * m - a) L _ hr' hL hB hk hrs (by rw [List.length_drop]; omega) (fun j => by rw [show ((bitsL B m).drop a).getD j 0 = bitB B a j from congrFun hbd j]; exact bitB_01 _ _ _) (by omega) w hw).mono ?_
  rintro e w' ⟨i, u, r, rfl, hw', hrd⟩
  refine ⟨_, rfl, _, hw', .inl fun w hw => hw, ?_⟩
  clear hw' hw w w' hrs
  rw [hbd, ← bitB_fun] at hrd
  have hsy := symS_of hB hk (bitB_01 B 0) hrd
  have hu : u ≤ 8 * m - a := by
    rcases hrd with ⟨j, rfl, _, ⟨n', hj, h0, hn, hle, _⟩, hu⟩ | ⟨_, _, ⟨_, h, _⟩ | ⟨_, _, h, _⟩ | ⟨_, _, ⟨_, h, _⟩ | ⟨h0, h, _⟩⟩⟩
    · rw [hu] at hn; omega
    · omega
    · omega
    · omega
    · omega
  have hi : r = 0 → 0 ≤ i ∧ i < L.length ∧ 0 < u := by
    intro hr0
    rcases hrd with ⟨j, rfl, _, ⟨n', hj, h0, hn, _⟩, hu⟩ | ⟨_, _, h | h | ⟨_, _, h | h⟩⟩
    · rw [hu] at hn; omega
    · omega
    · omega
    · omega
    · omega
  have hi0 : r ≠ 0 → i = 0 := by
    intro hr0
    rcases hrd with ⟨j, rfl, h, _⟩ | ⟨_, h, _⟩
    · exact absurd h hr0
    · exact h
  repeat (refine sx ?_; try intro _)
  refine JS_ret Tryz.func180 rfl rfl fun w hw => ?_
  unfold symP
  rw [hsy]
  by_cases h0 : r = 0
  · subst h0
    rw [if_pos rfl]
    obtain ⟨g1, g2, g3⟩ := hi rfl
    exact ⟨g1, g2, by omega, by omega, rfl, hw⟩
  · rw [if_neg h0, hi0 h0]
    exact ⟨h0, rfl, a + u, hw⟩
def RP (w0 : World) (bs : Nat) (q : Option Addr) (d m : Nat) (B : List Int) (lim : Nat) (H : List Asn) (r : Res) (w' : World) : Prop :=
  resP r (fun r => r ≠ 0 ∧ ∃ a po co o, St w0 (strL bs q d m B lim a po co o r H) w') (fun a' o' => a' ≤ 8 * m ∧ o'.length ≤ lim ∧ ∃ po co, St w0 (strL bs q d m B lim a' po co o' 0 H) w')
end
end Go.Proofs.YteelffkghidpfaaGreat

namespace Go.Proofs.YteelffkghidpfaaGreat
open Sx Go
set_option linter.unusedVariables false
set_option linter.unusedSimpArgs false
set_option maxRecDepth 100000
attribute [local irreducible] syA fc tk cds
theorem byts_succ (bt : Nat → Int) (a n : Nat) : byts bt a (n + 1) = byts bt a n ++ [nbt bt (a + 8 * n) 8] := by simp [byts, List.range_succ]
section
variable {w0 : World} {H : List Asn} {bs : Nat} {q : Option Addr} {d m : Nat} {B : List Int} {lim : Nat} {po : Option Addr} {co : Nat} {o : List Int}
set_option maxRecDepth 10000 in
set_option maxHeartbeats 2000000 in
theorem RSto_c (hK : InfK m B lim) (a : Nat) (ha : a ≤ 8 * m) (hm2 : m ≤ 17592186044410) (ho : o.length ≤ lim) (w : World) (hw : St w0 (strL bs q d m B lim a po co o 0 H) w) :
    Calls Tryz.prog 133 #[.pointer (some ⟨bs, 0, none⟩)] w fun e w' => e = .returned (.tuple #[]) ∧ RP w0 bs q d m B lim H (stoF (bitB B 0) (8 * m) lim a o) w' := by
  have hl := hK.hl
  have hbl := bitsL_len B m
  have hu := upto8_le ha
  have hu8 := upto8_8 a
  refine enter (vs := [.pointer (some ⟨bs, 0, none⟩)]) Tryz.func133 rfl rfl rfl hw ?_
  unfold stoF RP
  repeat (refine sx ?_; try intro _)
  refine JO_call Tryz.call179 rfl rfl fun w hw => (RUp_c a (by omega) w hw).mono ?_
  rintro e w' ⟨rfl, hw'⟩
  refine ⟨_, rfl, _, hw', ?_⟩
  clear hw' hw w w'
  generalize upto8 a = u at *
  obtain ⟨n, hn⟩ := Int.eq_ofNat_of_zero_le (nbt_bd (bitB B 0) (bitB_01 B 0) u 16).1
  have hn1 := (nbt_bd (bitB B 0) (bitB_01 B 0) u 16).2
  obtain ⟨x, hx⟩ := Int.eq_ofNat_of_zero_le (nbt_bd (bitB B 0) (bitB_01 B 0) (u + 16) 16).1
  have hx1 := (nbt_bd (bitB B 0) (bitB_01 B 0) (u + 16) 16).2
  have hp16 : (2 : Int) ^ 16 = 65536 := by decide
  rw [hn, hp16] at hn1
  rw [hx, hp16] at hx1
  rw [hn, hx]
  repeat (refine sx ?_; try intro _)
  refine JO_call Tryz.call132 rfl rfl fun w hw => (RGrp4_c hK u 16 (by omega) (by omega) hm2 w hw).mono ?_
  rintro e w' (⟨h, rfl, hw'⟩ | ⟨h1, he, hw'⟩)
  · refine ⟨_, rfl, _, hw', ?_⟩
    clear hw' hw w w'
    repeat (refine sx ?_; try intro _)
    refine JO_call Tryz.call132 rfl rfl fun w hw => (RGrpE_c 16 u 20 (by decide) w hw).mono ?_
    rintro e w' ⟨rfl, hw'⟩
    refine ⟨_, rfl, _, hw', ?_⟩
    clear hw' hw w w'
    repeat (first | (apply gJS; apply JS_loop') | (refine sx ?_; try intro _))
    refine JS_fin Tryz.func133 rfl rfl fun w hw => ⟨rfl, ?_⟩
    rw [if_pos h]
    exact ⟨by decide, _, _, _, _, hw⟩
  rw [hn] at he; subst he
  refine ⟨_, rfl, _, hw', ?_⟩
  clear hw' hw w w'
  rw [if_neg (by omega)]
  repeat (refine sx ?_; try intro _)
  refine JO_call Tryz.call132 rfl rfl fun w hw => (RGrp4_c hK (u + 16) 16 (by omega) (by omega) hm2 w hw).mono ?_
  rintro e w' (⟨h, rfl, hw'⟩ | ⟨h2, he, hw'⟩)
  · refine ⟨_, rfl, _, hw', ?_⟩
    clear hw' hw w w'
    rcases Nat.eq_zero_or_pos n with hn0 | hn0
    all_goals (repeat (first | (apply gJS; apply JS_loop') | (refine sx ?_; try intro _)))
    all_goals (refine JS_fin Tryz.func133 rfl rfl fun w hw => ⟨rfl, ?_⟩)
    all_goals (rw [if_pos (by omega)]; exact ⟨by decide, _, _, _, _, hw⟩)
  rw [hx] at he; subst he
  refine ⟨_, rfl, _, hw', ?_⟩
  clear hw' hw w w'
  rw [if_neg (by omega)]
  by_cases h3 : (n : Int) + x ≠ 65535
  · rcases Nat.eq_zero_or_pos n with hn0 | hn0
    all_goals (repeat (first | (apply gJS; apply JS_loop') | (refine sx ?_; try intro _)))
    all_goals (refine JS_fin Tryz.func133 rfl rfl fun w hw => ⟨rfl, ?_⟩)
    all_goals (rw [if_pos h3]; exact ⟨by decide, _, _, _, _, hw⟩)
  rw [if_neg h3]
  have h3' : (n : Int) + x = 65535 := by omega
  by_cases h4 : (lim : Int) - o.length < n
  · have hn0 : 0 < n := by omega
    repeat (first | (apply gJS; apply JS_loop') | (refine sx ?_; try intro _))
    refine JS_fin Tryz.func133 rfl rfl fun w hw => ⟨rfl, ?_⟩
    rw [if_pos h4]; exact ⟨by decide, _, _, _, _, hw⟩
  rw [if_neg h4]
  by_cases h5 : ((8 * m : Nat) : Int) < u + 32 + 8 * n
  · have hn0 : 0 < n := by omega
    repeat (first | (apply gJS; apply JS_loop') | (refine sx ?_; try intro _))
    refine JS_fin Tryz.func133 rfl rfl fun w hw => ⟨rfl, ?_⟩
    rw [if_pos h5]; exact ⟨by decide, _, _, _, _, hw⟩
  rw [if_neg h5, Int.toNat_natCast]
  repeat (first | (apply gJR; (refine sx ?_; try intro _)) | (apply gJO; (refine sx ?_; try intro _)) | (apply gQR; (refine sx ?_; try intro _)) | (apply gQO; (refine sx ?_; try intro _)) | apply JS_seq | apply JS_region | refine JS_draw [] (by kernel_rfl) (by kernel_rfl) (by decide +kernel) ?_ | refine JS_condF rfl ?_ | refine JS_cond_F rfl (by omega) ?_ | apply JS_skip)
  refine JS_block ?_
  refine JS_loop3 (fun (i : Nat) (p : Option Addr) (c : Nat) => [(0, .pointer (some ⟨bs, 0, none⟩)), (2, .int .i64 n), (4, .int .i64 i)]) (fun i p c => strL bs q d m B lim (u + 32 + 8 * i) p c (o ++ byts (bitB B 0) (u + 32) i) 0 H)
    (fun i _ _ => i ≤ n) (fun i _ _ => n - i) 0 po co (Nat.zero_le _) (by repeat (first | exact trivial | refine ⟨rfl, ?_⟩ | refine ⟨lookI rfl (by omega), ?_⟩)) (fun _ h => by rw [show byts (bitB B 0) (u + 32) 0 = [] from rfl, List.append_nil]; exact h) ?_
  intro i p c hi again
  by_cases hin : i < n
  · have hcs : o ++ byts (bitB B 0) (u + 32) (i + 1) = (o ++ byts (bitB B 0) (u + 32) i) ++ [nbt (bitB B 0) (u + 32 + 8 * i) 8] := by rw [byts_succ, List.append_assoc]
    have hlen : (o ++ byts (bitB B 0) (u + 32) i).length ≤ lim := by rw [List.length_append, byts_len]; omega
    generalize o ++ byts (bitB B 0) (u + 32) i = L at *
    repeat (first | (apply gJR; (refine sx ?_; try intro _)) | (apply gJO; (refine sx ?_; try intro _)) | apply JS_seq | apply JS_region | apply JS_block | refine JS_condT rfl ?_ | refine JS_cond_T rfl (by omega) ?_ | apply JS_skip)
    refine JS_order2 [anyA fun (x : Int) => blk bs [.slice q (8 * m) d, .int .i64 x, .slice p L.length c, .int .i64 lim, .int .i64 0]] [0, 1, 2, 3, 4, 5, 6, 7, 8, 9, 10, 11, 12] [0]
      (fun w hw => St.any (f := fun (x : Int) => blk bs [.slice q (8 * m) d, .int .i64 x, .slice p L.length c, .int .i64 lim, .int .i64 0]) ((u + 32 + 8 * i : Nat) : Int) (St.sub (by repeat (first | exact List.nil_sublist _ | apply List.Sublist.cons_cons | apply List.Sublist.cons)) hw)) (Picks.cons rfl (Picks.cons rfl (Picks.cons rfl (Picks.cons rfl (Picks.cons rfl (Picks.cons rfl (Picks.cons rfl (Picks.cons rfl (Picks.cons rfl (Picks.cons rfl (Picks.cons rfl (Picks.cons rfl (Picks.cons rfl (Picks.nil)))))))))))))) (by kernel_rfl) (by kernel_rfl) rfl (by decide +kernel) ?_
    repeat (first | (apply gQR2; apply QR2_un) | (apply gQO2; first | refine QO2_v rfl (OpV_any (fun x => V_load (tb := tb) rfl (by repeat (first | apply List.Mem.head | apply List.Mem.tail)) rfl rfl rfl rfl) 0) ?_ | refine aQ2 ?_))
    have hby := nbt_bd (bitB B 0) (bitB_01 B 0) (u + 32 + 8 * i) 8
    refine QO2_callE Tryz.call132 rfl rfl fun w hw => (RGrp4_c hK (u + 32 + 8 * i) 8 (by omega) (by omega) hm2 w hw).mono ?_
    rintro e w' (⟨h, _⟩ | ⟨h6, rfl, hw'⟩)
    · exact absurd h (by omega)
    generalize nbt (bitB B 0) (u + 32 + 8 * i) 8 = y at *
    have hy0 : 0 ≤ y ∧ y < 256 := hby
    refine .inl ⟨_, rfl, [anyA fun (x : Int) => blk bs [.slice q (8 * m) d, .int .i64 x, .slice p L.length c, .int .i64 lim, .int .i64 0]], _, hw', fun w hw => St.any (f := fun (x : Int) => blk bs [.slice q (8 * m) d, .int .i64 x, .slice p L.length c, .int .i64 lim, .int .i64 0]) ((u + 32 + 8 * i + 8 : Nat) : Int) (St.sub (by repeat (first | exact List.nil_sublist _ | apply List.Sublist.cons_cons | apply List.Sublist.cons)) hw), .inl fun w hw => hw, ?_⟩
    clear hw' hw w w'
    repeat (first | (apply gQR2; apply QR2_un) | (apply gQO2; refine aQ2 ?_))
    refine QO2_e (E_buildSlice (tb := tb) rfl rfl rfl rfl rfl rfl rfl rfl rfl) rfl (fun _ w hw => St.any (f := fun (x : Int) => blk bs [.slice q (8 * m) d, .int .i64 x, .slice p L.length c, .int .i64 lim, .int .i64 0]) ((u + 32 + 8 * i + 8 : Nat) : Int) (St.sub (by repeat (first | exact List.nil_sublist _ | apply List.Sublist.cons_cons | apply List.Sublist.cons)) hw)) ?_
    intro p1
    repeat (first | (apply gQR2; apply QR2_un) | (apply gQO2; refine aQ2 ?_))
    refine QO2_e (E_appendB (tb := tb) rfl rfl rfl rfl rfl rfl (by repeat (first | exact Sel.here _ _ | apply Sel.there)) (by first | exact vec_rd (by repeat (first | apply List.Mem.head | apply List.Mem.tail)) | assumption | exact ArgRd.rd (by assumption) _ | (apply Rd_weak; assumption; intro _ hx; exact dS hx)) (by simp only [ints_len, List.length_cons, List.length_nil]; first | omega | rfl) (by repeat (first | exact trivial | refine ⟨rfl, ?_⟩)) (by omega) (by omega) rfl) rfl (fun _ w hw => St.any (f := fun (x : Int) => blk bs [.slice q (8 * m) d, .int .i64 x, .slice p L.length c, .int .i64 lim, .int .i64 0]) ((u + 32 + 8 * i + 8 : Nat) : Int) (St.sub (by repeat (first | exact List.nil_sublist _ | apply List.Sublist.cons_cons | apply List.Sublist.cons)) hw)) ?_
    intro c1
    repeat (first | (apply gQR2; first | apply QR2_un | apply QR2_nil) | (apply gQO2; first | refine aQ2 ?_ | refine aK2S rfl ?_))
    repeat (refine sx ?_; try intro _)
    exact JS_again3 again (i + 1) c1.1 c1.2 (by omega) (by omega) (by exact ⟨rfl, rfl, rfl, trivial⟩) (fun w hw => by rw [hcs, show u + 32 + 8 * (i + 1) = u + 32 + 8 * i + 8 by omega]; unfold strL; rw [show (L ++ [y]).length = L.length + 1 by simp, ← ints_app1]; have g := vecB_fwd (by repeat (first | exact Sel.here _ _ | apply Sel.there)) hw; exact dS g)
  · obtain rfl : i = n := by omega
    clear again
    repeat (refine sx ?_; try intro _)
    refine JS_fin Tryz.func133 rfl rfl fun w hw => ⟨rfl, by omega, ?_, p, c, hw⟩
    rw [List.length_append, byts_len]; omega
end
end Go.Proofs.YteelffkghidpfaaGreat

namespace Sx
open Go
theorem JS_joinQ4 {P : Program} {f n : Nat} {R : Ending → World → Prop} {D : List Deferred} {w0 : World} {k : List Item} {ov : Ov} {H : List Asn} {α β γ δ : Type} {c1 c2 c3 c4 c5 rest : Code} (o : α → β → γ → δ → Ov) (H' : α → β → γ → δ → List Asn) (I : α → β → γ → δ → Prop)
    (cont : ∀ (x1 : α) (x2 : β) (x3 : γ) (x4 : δ), I x1 x2 x3 x4 → JS P f n R D w0 (.code rest :: k) (o x1 x2 x3 x4) (H' x1 x2 x3 x4))
    (h : (∀ (x1 : α) (x2 : β) (x3 : γ) (x4 : δ), I x1 x2 x3 x4 → JS P f n R D w0 (.code rest :: k) (o x1 x2 x3 x4) (H' x1 x2 x3 x4)) → JS P f n R D w0 (.code (.seq c1 (.seq c2 (.seq c3 (.seq c4 (.seq c5 rest))))) :: k) ov H) :
    JS P f n R D w0 (.code (.seq c1 (.seq c2 (.seq c3 (.seq c4 (.seq c5 rest))))) :: k) ov H := h cont
theorem JS_joinQ1 {P : Program} {f n : Nat} {R : Ending → World → Prop} {D : List Deferred} {w0 : World} {k : List Item} {ov : Ov} {H : List Asn} {α : Type} {c1 rest : Code} (o : α → Ov) (H' : α → List Asn) (I : α → Prop)
    (cont : ∀ (x1 : α), I x1 → JS P f n R D w0 (.code rest :: k) (o x1) (H' x1))
    (h : (∀ (x1 : α), I x1 → JS P f n R D w0 (.code rest :: k) (o x1) (H' x1)) → JS P f n R D w0 (.code (.seq c1 rest) :: k) ov H) :
    JS P f n R D w0 (.code (.seq c1 rest) :: k) ov H := h cont
end Sx
namespace Go.Proofs.YteelffkghidpfaaGreat
open Sx Go
set_option linter.unusedVariables false
set_option linter.unusedSimpArgs false
set_option maxRecDepth 100000
attribute [local irreducible] syA fc tk cds
section
variable {w0 : World} {H : List Asn} {bs : Nat} {q : Option Addr} {d m : Nat} {B : List Int} {lim : Nat} {po : Option Addr} {co : Nat} {o : List Int}
set_option maxRecDepth 10000 in
set_option maxHeartbeats 4000000 in
theorem RBlk_c (hK : InfK m B lim) (a : Nat) (ha : a ≤ 8 * m) (hm2 : m ≤ 17592186044410) (ho : o.length ≤ lim) (p1 p2 : Option Addr) (c1 c2 n1 n2 : Nat) (L D : List Int) (hr1 : Rd w0 H (.slice p1 n1 c1) n1 (ints .u8 L)) (hL : L.length = n1) (hB1 : OKB L) (hk1 : OKL L)
    (hr2 : Rd w0 H (.slice p2 n2 c2) n2 (ints .u8 D)) (hD : D.length = n2) (hB2 : OKB D) (hk2 : OKL D) (w : World) (hw : St w0 (strL bs q d m B lim a po co o 0 H) w) :
    Calls Tryz.prog 134 #[.pointer (some ⟨bs, 0, none⟩), .slice p1 n1 c1, .slice p2 n2 c2] w fun e w' => e = .returned (.tuple #[]) ∧ ∃ r, It (blkF (bitB B 0) (8 * m) lim L D) a o r ∧ RP w0 bs q d m B lim H r w' := by
  have hl := hK.hl
  have hm1 := hK.hm1
  have hL320 := hk1.1
  have hD320 := hk2.1
  refine enter (vs := [.pointer (some ⟨bs, 0, none⟩), .slice p1 n1 c1, .slice p2 n2 c2]) Tryz.func134 rfl rfl rfl hw ?_
  refine JS_block ?_
  refine JS_loop4 (fun (a1 : Nat) (o1 : List Int) (p : Option Addr) (c : Nat) => [(0, .pointer (some ⟨bs, 0, none⟩)), (1, .slice p1 n1 c1), (2, .slice p2 n2 c2)]) (fun a1 o1 p c => strL bs q d m B lim a1 p c o1 0 H)
    (fun a1 o1 _ _ => a1 ≤ 8 * m ∧ o1.length ≤ lim ∧ ∀ r, It (blkF (bitB B 0) (8 * m) lim L D) a1 o1 r → It (blkF (bitB B 0) (8 * m) lim L D) a o r) (fun a1 _ _ _ => 8 * m - a1) a o po co ⟨ha, ho, fun _ h => h⟩ (by repeat (first | exact trivial | refine ⟨rfl, ?_⟩ | refine ⟨lookI rfl (by omega), ?_⟩)) (fun _ h => h) ?_
  intro a1 o1 p c ⟨ha1, ho1, hinv⟩ again
  repeat (refine sx ?_; try intro _)
  refine JO_call Tryz.call180 rfl rfl fun w hw => (RSym_c hK a1 ha1 hm2 p1 c1 n1 L hr1 hL hB1 hk1 w hw).mono ?_
  intro e w' h
  unfold symP at h
  cases hsy : symS (bitB B 0) (8 * m) L a1 with
  | err r =>
    rw [hsy] at h
    obtain ⟨hr0, rfl, a', hw'⟩ := h
    refine ⟨_, rfl, _, hw', ?_⟩
    clear hw' hw w w' again
    repeat (refine sx ?_; try intro _)
    refine JS_ret Tryz.func134 rfl rfl fun w hw => ⟨rfl, .err r, hinv _ (.err (by unfold blkF; rw [hsy])), hr0, _, _, _, _, hw⟩
  | ok i a2 =>
  rw [hsy] at h
  obtain ⟨hi0, hiL, ha12, ha2, rfl, hw'⟩ := h
  refine ⟨_, rfl, _, hw', ?_⟩
  clear hw' hw w w'
  have hF : blkF (bitB B 0) (8 * m) lim L D a1 o1 = if i = 256 then .stop a2 o1
    else if i < 256 then (if (lim : Int) - o1.length < 1 then .err 64 else .go a2 (o1 ++ [i]))
    else if (lbase i).1 = 0 then .err 62
    else if 8 * m < a2 + (lbase i).2.toNat then .err 20
    else blk2 (bitB B 0) (8 * m) lim D o1 ((lbase i).1 + nbt (bitB B 0) a2 (lbase i).2.toNat) (a2 + (lbase i).2.toNat) := by unfold blkF; rw [hsy]
  by_cases h256 : i = 256
  · rw [if_pos h256] at hF
    clear again
    repeat (refine sx ?_; try intro _)
    exact JS_ret Tryz.func134 rfl rfl fun w hw => ⟨rfl, .ok a2 o1, hinv _ (.stop hF), ha2, ho1, p, c, hw⟩
  rw [if_neg h256] at hF
  by_cases hlt : i < 256
  · rw [if_pos hlt] at hF
    by_cases h : (lim : Int) - o1.length < 1
    · rw [if_pos h] at hF
      clear again
      repeat (refine sx ?_; try intro _)
      exact JS_ret Tryz.func134 rfl rfl fun w hw => ⟨rfl, .err 64, hinv _ (.err hF), by decide, _, _, _, _, hw⟩
    · rw [if_neg h] at hF
      repeat (refine sx ?_; try intro _)
      refine JO_app (tb := tb) rfl rfl rfl rfl rfl rfl (by repeat (first | exact Sel.here _ _ | apply Sel.there)) (vec_rd (List.Mem.head _)) rfl (by repeat (first | exact trivial | refine ⟨rfl, ?_⟩)) (by omega) rfl ?_
      intro p3 c3
      repeat (refine sx ?_; try intro _)
      exact JS_again4 again a2 (o1 ++ [i]) p3 c3 ⟨ha2, by simp; omega, fun r hr => hinv r (.go hF hr)⟩ (by omega) (by exact ⟨rfl, rfl, rfl, trivial⟩) (fun w hw => by unfold strL; rw [show (o1 ++ [i]).length = o1.length + 1 by simp, ← ints_app1]; exact dS hw)
  rw [if_neg hlt] at hF
  repeat (refine sx ?_; try intro _)
  refine JO_call Tryz.call181 rfl rfl fun w hw => (RBase_c i (by omega) w hw).mono ?_
  rintro e w' ⟨rfl, hw'⟩
  refine ⟨_, rfl, _, hw', ?_⟩
  clear hw' hw w w'
  by_cases hb0 : (lbase i).1 = 0
  · rw [if_pos hb0] at hF
    clear again
    generalize lbase i = lb at *
    repeat (refine sx ?_; try intro _)
    exact JS_ret Tryz.func134 rfl rfl fun w hw => ⟨rfl, .err 62, hinv _ (.err hF), by decide, _, _, _, _, hw⟩
  rw [if_neg hb0] at hF
  obtain ⟨_, _, g1, g2, g3, g4⟩ := lbase_ok hb0
  obtain ⟨⟨lb1, lb2⟩, hlb⟩ : ∃ x, lbase i = x := ⟨_, rfl⟩
  rw [hlb] at hF hb0 g1 g2 g3 g4 ⊢
  simp only at hF hb0 g1 g2 g3 g4 ⊢
  obtain ⟨k1, rfl⟩ : ∃ k : Nat, lb2 = k := ⟨lb2.toNat, by omega⟩
  simp only [Int.toNat_natCast] at hF
  obtain ⟨hn0, hn1⟩ := nbt_bd (bitB B 0) (bitB_01 B 0) a2 k1
  have hp1 : (2 : Int) ^ k1 ≤ 32 := by
    have : ∀ k : Fin 6, (2 : Int) ^ k.val ≤ 32 := by decide
    exact this ⟨k1, by omega⟩
  obtain ⟨x1, hn1e⟩ := Int.eq_ofNat_of_zero_le hn0
  rw [hn1e] at hF hn1
  repeat (first | (apply gJR; (refine sx ?_; try intro _)) | (apply gJO; (refine sx ?_; try intro _)))
  apply JS_seq
  apply JS_seq
  apply JS_region
  repeat (first | (apply gJR; (refine sx ?_; try intro _)) | (apply gJO; (refine sx ?_; try intro _)))
  refine JS_condF rfl ?_
  apply JS_skip
  refine JS_joinQ4 (fun (a4 : Nat) (E : Int) (ln bk : Nat) => [(0, .pointer (some ⟨bs, 0, none⟩)), (1, .slice p1 n1 c1), (2, .slice p2 n2 c2), (9, .int .i64 ln), (13, .int .i64 bk)]) (fun a4 E ln bk => strL bs q d m B lim a4 p c o1 E H)
    (fun a4 E ln bk => 3 ≤ ln ∧ ln ≤ 1000 ∧ bk ≤ 100000 ∧ ((E = 0 ∧ 0 < bk ∧ a4 ≤ 8 * m ∧ a1 < a4 ∧ blkF (bitB B 0) (8 * m) lim L D a1 o1 = if o1.length < bk then .err 63 else if (lim : Int) - o1.length < ln then .err 64 else .go a4 (cpy o1 bk ln)) ∨ (E ≠ 0 ∧ It (blkF (bitB B 0) (8 * m) lim L D) a o (.err E)))) ?_ ?_
  · clear hF hsy
    intro a4 E ln bk ⟨hln1, hln2, hbk2, hmode⟩
    refine JS_joinQ1 (fun (E' : Int) => [(0, .pointer (some ⟨bs, 0, none⟩)), (1, .slice p1 n1 c1), (2, .slice p2 n2 c2), (9, .int .i64 ln), (13, .int .i64 bk)]) (fun E' => strL bs q d m B lim a4 p c o1 E' H)
      (fun E' => (E' = 0 ∧ 0 < bk ∧ a4 ≤ 8 * m ∧ a1 < a4 ∧ bk ≤ o1.length ∧ blkF (bitB B 0) (8 * m) lim L D a1 o1 = if (lim : Int) - o1.length < ln then .err 64 else .go a4 (cpy o1 bk ln)) ∨ (E' ≠ 0 ∧ It (blkF (bitB B 0) (8 * m) lim L D) a o (.err E'))) ?_ ?_
    · clear hmode E
      intro E hmode
      rcases hmode with ⟨rfl, hbk1, ha4, ha14, hbl, hF⟩ | ⟨hE, hIt⟩
      · by_cases h2 : (lim : Int) - o1.length < ln
        · rw [if_pos h2] at hF
          clear again
          repeat (refine sx ?_; try intro _)
          refine JO_call Tryz.call183 rfl rfl fun w hw => (RFail_c 64 a4 0 w hw).mono ?_
          rintro e w' ⟨rfl, hw'⟩
          rw [if_pos rfl] at hw'
          refine ⟨_, rfl, _, hw', ?_⟩
          clear hw' hw w w'
          (repeat (first | (apply gJS; first | apply JS_loop' | apply JS_inLoop) | (refine sx ?_; try intro _)))
          exact JS_fin Tryz.func134 rfl rfl fun w hw => ⟨rfl, .err 64, hinv _ (.err hF), by decide, _, _, _, _, hw⟩
        · rw [if_neg h2] at hF
          repeat (first | (apply gJR; (refine sx ?_; try intro _)) | (apply gJO; (refine sx ?_; try intro _)) | (apply gQR; (refine sx ?_; try intro _)) | (apply gQO; (refine sx ?_; try intro _)) | apply JS_seq | apply JS_region | refine JS_draw [] (by kernel_rfl) (by kernel_rfl) (by decide +kernel) ?_ | refine JS_condF rfl ?_ | refine JS_cond_F rfl (by omega) ?_ | apply JS_skip)
          refine JS_block ?_
          refine JS_loop3 (fun (i : Nat) (p : Option Addr) (c : Nat) => [(0, .pointer (some ⟨bs, 0, none⟩)), (1, .slice p1 n1 c1), (2, .slice p2 n2 c2), (9, .int .i64 ln), (13, .int .i64 bk), (14, .int .i64 i)]) (fun i p c => strL bs q d m B lim a4 p c (cpy o1 bk i) 0 H)
            (fun i _ _ => i ≤ ln) (fun i _ _ => ln - i) 0 p c (Nat.zero_le _) (by repeat (first | exact trivial | refine ⟨rfl, ?_⟩ | refine ⟨lookI rfl (by omega), ?_⟩)) (fun _ h => h) ?_
          intro j p' c' hj again2
          have hcl := cpy_len o1 bk j
          by_cases hil : j < ln
          · clear again
            have hcs : cpy o1 bk (j + 1) = cpy o1 bk j ++ [(cpy o1 bk j).getD ((cpy o1 bk j).length - bk) 0] := rfl
            generalize cpy o1 bk j = L1 at *
            have gi : (ints .u8 L1)[L1.length - bk]? = some (.int .u8 (L1.getD (L1.length - bk) 0)) := ints_get (by omega)
            generalize L1.getD (L1.length - bk) 0 = x at *
            repeat (first | (apply gQO; first | refine QO_v rfl (V_index (tb := tb) (j := L1.length - bk) rfl rfl rfl rfl (Rd.sl (vec_rd (by repeat (first | apply List.Mem.head | apply List.Mem.tail)))) (by omega) (by omega) rfl) ?_ | refine QO_v rfl (V_loadC (tb := tb) rfl (vec_rd (by repeat (first | apply List.Mem.head | apply List.Mem.tail))) rfl rfl gi rfl) ?_ | (refine QO_e (E_buildSlice (tb := tb) rfl rfl rfl rfl rfl rfl rfl rfl rfl) rfl (.inr fun _ _ hw => dS hw) ?_; intro _) | (refine QO_e (E_appendB (tb := tb) rfl rfl rfl rfl rfl rfl (by repeat (first | exact Sel.here _ _ | apply Sel.there)) (by first | exact vec_rd (by repeat (first | apply List.Mem.head | apply List.Mem.tail)) | assumption | exact ArgRd.rd (by assumption) _ | (apply Rd_weak; assumption; intro _ hx; exact dS hx)) (by simp only [ints_len, List.length_cons, List.length_nil]; first | omega | rfl) (by first | exact ints_one | (repeat (first | exact trivial | refine ⟨rfl, ?_⟩))) (by omega) (by omega) rfl) rfl (.inr fun _ _ hw => vecB_back (by repeat (first | exact Sel.here _ _ | apply Sel.there)) hw) ?_; intro _)) | (refine sx ?_; try intro _))
            rename_i p5 c5
            exact JS_again3 again2 (j + 1) c5.1 c5.2 (by omega) (by omega) (by exact ⟨rfl, rfl, rfl, rfl, rfl, rfl, trivial⟩) (fun w hw => by rw [hcs]; unfold strL; rw [show (L1 ++ [x]).length = L1.length + 1 by simp, ← ints_app1]; have g := vecB_fwd (by repeat (first | exact Sel.here _ _ | apply Sel.there)) hw; exact dS g)
          · obtain rfl : j = ln := by omega
            clear again2
            repeat (refine sx ?_; try intro _)
            exact JS_again4 again a4 (cpy o1 bk j) p' c' ⟨ha4, by omega, fun r hr => hinv r (.go hF hr)⟩ (by omega) (by exact ⟨rfl, rfl, rfl, trivial⟩) (fun w hw => hw)
      · clear again
        by_cases h2 : (lim : Int) - o1.length < ln
        · repeat (refine sx ?_; try intro _)
          refine JO_call Tryz.call183 rfl rfl fun w hw => (RFail_c 64 a4 E w hw).mono ?_
          rintro e w' ⟨rfl, hw'⟩
          rw [if_neg hE] at hw'
          refine ⟨_, rfl, _, hw', ?_⟩
          clear hw' hw w w'
          (repeat (first | (apply gJS; first | apply JS_loop' | apply JS_inLoop) | (refine sx ?_; try intro _)))
          exact JS_fin Tryz.func134 rfl rfl fun w hw => ⟨rfl, .err E, hIt, hE, _, _, _, _, hw⟩
        · (repeat (first | (apply gJS; first | apply JS_loop' | apply JS_inLoop) | (refine sx ?_; try intro _)))
          exact JS_fin Tryz.func134 rfl rfl fun w hw => ⟨rfl, .err E, hIt, hE, _, _, _, _, hw⟩
    · clear again
      intro K
      by_cases h1 : o1.length < bk
      · repeat (refine sx ?_; try intro _)
        refine JO_call Tryz.call183 rfl rfl fun w hw => (RFail_c 63 a4 E w hw).mono ?_
        rintro e w' ⟨rfl, hw'⟩
        refine ⟨_, rfl, _, hw', ?_⟩
        clear hw' hw w w'
        repeat (first | (apply gJR; (refine sx ?_; try intro _)) | (apply gJO; (refine sx ?_; try intro _)))
        rcases hmode with ⟨rfl, hbk1, ha4, ha14, hF⟩ | ⟨hE, hIt⟩
        · rw [if_pos rfl]
          exact JS_to1 K 63 (.inr ⟨by decide, hinv _ (.err (by rw [hF, if_pos h1]))⟩) (by repeat (first | exact trivial | refine ⟨rfl, ?_⟩ | refine ⟨lookI rfl (by omega), ?_⟩)) (fun w hw => hw)
        · rw [if_neg hE]
          exact JS_to1 K E (.inr ⟨hE, hIt⟩) (by repeat (first | exact trivial | refine ⟨rfl, ?_⟩ | refine ⟨lookI rfl (by omega), ?_⟩)) (fun w hw => hw)
      · apply JS_seq
        apply JS_seq
        apply JS_region
        repeat (first | (apply gJR; (refine sx ?_; try intro _)) | (apply gJO; (refine sx ?_; try intro _)))
        refine JS_condF rfl ?_
        apply JS_skip
        rcases hmode with ⟨rfl, hbk1, ha4, ha14, hF⟩ | ⟨hE, hIt⟩
        · rw [if_neg h1] at hF
          exact JS_to1 K 0 (.inl ⟨rfl, hbk1, ha4, ha14, by omega, hF⟩) (by repeat (first | exact trivial | refine ⟨rfl, ?_⟩ | refine ⟨lookI rfl (by omega), ?_⟩)) (fun w hw => hw)
        · exact JS_to1 K E (.inr ⟨hE, hIt⟩) (by repeat (first | exact trivial | refine ⟨rfl, ?_⟩ | refine ⟨lookI rfl (by omega), ?_⟩)) (fun w hw => hw)
  · clear again
    intro K
    have hf0 : lfar 0 = (1, 0) := by decide
    repeat (refine sx ?_; try intro _)
    refine JO_call Tryz.call132 rfl rfl fun w hw => (RGrp4_c hK a2 k1 (by omega) ha2 hm2 w hw).mono ?_
    rintro e w' (⟨h, rfl, hw'⟩ | ⟨h1, he, hw'⟩)
    · refine ⟨_, rfl, _, hw', ?_⟩
      clear hw' hw w w'
      rw [if_pos h] at hF
      repeat (refine sx ?_; try intro _)
      refine JO_call Tryz.call180 rfl rfl fun w hw => (RSymE_c _ a2 20 (by decide) w hw).mono ?_
      rintro e w' ⟨rfl, hw'⟩
      refine ⟨_, rfl, _, hw', ?_⟩
      clear hw' hw w w'
      repeat (refine sx ?_; try intro _)
      refine JO_call Tryz.call182 rfl rfl fun w hw => (RFar_c 0 (by omega) w hw).mono ?_
      rw [hf0]
      rintro e w' ⟨rfl, hw'⟩
      refine ⟨_, rfl, _, hw', ?_⟩
      clear hw' hw w w'
      repeat (refine sx ?_; try intro _)
      refine JO_call Tryz.call132 rfl rfl fun w hw => (RGrpE_c 0 a2 20 (by decide) w hw).mono ?_
      rintro e w' ⟨rfl, hw'⟩
      refine ⟨_, rfl, _, hw', ?_⟩
      clear hw' hw w w'
      repeat (first | (apply gJR; (refine sx ?_; try intro _)) | (apply gJO; (refine sx ?_; try intro _)))
      exact JS_to4 K a2 20 lb1.toNat 1 ⟨by omega, by omega, by omega, .inr ⟨by decide, hinv _ (.err hF)⟩⟩ (by repeat (first | exact trivial | refine ⟨rfl, ?_⟩ | refine ⟨lookI rfl (by omega), ?_⟩)) (fun w hw => hw)
    rw [hn1e] at he; subst he
    refine ⟨_, rfl, _, hw', ?_⟩
    clear hw' hw w w'
    rw [if_neg (by omega)] at hF
    obtain ⟨ln, hln⟩ : ∃ ln : Nat, lb1 + (x1 : Int) = ln := ⟨(lb1 + (x1 : Int)).toNat, by omega⟩
    rw [hln] at hF
    repeat (refine sx ?_; try intro _)
    simp only [hln]
    refine JO_call Tryz.call180 rfl rfl fun w hw => (RSym_c hK (a2 + k1) h1 hm2 p2 c2 n2 D hr2 hD hB2 hk2 w hw).mono ?_
    intro e w' h
    unfold symP at h
    cases hsy2 : symS (bitB B 0) (8 * m) D (a2 + k1) with
    | err r =>
      rw [hsy2] at h
      obtain ⟨hr0, rfl, a', hw'⟩ := h
      refine ⟨_, rfl, _, hw', ?_⟩
      clear hw' hw w w'
      have hIt := hinv _ (.err (show blkF (bitB B 0) (8 * m) lim L D a1 o1 = .err r by rw [hF]; unfold blk2; rw [hsy2]))
      repeat (refine sx ?_; try intro _)
      refine JO_call Tryz.call182 rfl rfl fun w hw => (RFar_c 0 (by omega) w hw).mono ?_
      rw [hf0]
      rintro e w' ⟨rfl, hw'⟩
      refine ⟨_, rfl, _, hw', ?_⟩
      clear hw' hw w w'
      repeat (refine sx ?_; try intro _)
      refine JO_call Tryz.call132 rfl rfl fun w hw => (RGrpE_c 0 a' r hr0 w hw).mono ?_
      rintro e w' ⟨rfl, hw'⟩
      refine ⟨_, rfl, _, hw', ?_⟩
      clear hw' hw w w'
      repeat (first | (apply gJR; (refine sx ?_; try intro _)) | (apply gJO; (refine sx ?_; try intro _)))
      exact JS_to4 K a' r ln 1 ⟨by omega, by omega, by omega, .inr ⟨hr0, hIt⟩⟩ (by repeat (first | exact trivial | refine ⟨rfl, ?_⟩ | refine ⟨lookI rfl (by omega), ?_⟩)) (fun w hw => hw)
    | ok dd a3 =>
    rw [hsy2] at h
    obtain ⟨hd0, hdD, ha23, ha3, rfl, hw'⟩ := h
    refine ⟨_, rfl, _, hw', ?_⟩
    clear hw' hw w w'
    have hF2 : blk2 (bitB B 0) (8 * m) lim D o1 ln (a2 + k1) = if (lfar dd).1 = 0 then .err 62
      else if 8 * m < a3 + (lfar dd).2.toNat then .err 20
      else if (o1.length : Int) < (lfar dd).1 + nbt (bitB B 0) a3 (lfar dd).2.toNat then .err 63
      else if (lim : Int) - o1.length < ln then .err 64
      else .go (a3 + (lfar dd).2.toNat) (cpy o1 ((lfar dd).1 + nbt (bitB B 0) a3 (lfar dd).2.toNat).toNat (ln : Int).toNat) := by unfold blk2; rw [hsy2]
    rw [hF2] at hF
    clear hF2
    repeat (refine sx ?_; try intro _)
    refine JO_call Tryz.call182 rfl rfl fun w hw => (RFar_c dd (by omega) w hw).mono ?_
    rintro e w' ⟨rfl, hw'⟩
    refine ⟨_, rfl, _, hw', ?_⟩
    clear hw' hw w w'
    by_cases hz : (lfar dd).1 = 0
    · rw [if_pos hz] at hF
      have hz2 : (lfar dd) = (0, 0) := by
        by_cases h : dd < 0 ∨ 29 < dd
        · unfold lfar; rw [if_pos h]
        · obtain ⟨k, rfl⟩ : ∃ k : Nat, dd = k := ⟨dd.toNat, by omega⟩
          have := lfar_bd k (by omega)
          omega
      rw [hz2]
      clear hz hz2
      repeat (refine sx ?_; try intro _)
      refine JO_call Tryz.call183 rfl rfl fun w hw => (RFail_c 62 a3 0 w hw).mono ?_
      rw [if_pos rfl]
      rintro e w' ⟨rfl, hw'⟩
      refine ⟨_, rfl, _, hw', ?_⟩
      clear hw' hw w w'
      repeat (refine sx ?_; try intro _)
      refine JO_call Tryz.call132 rfl rfl fun w hw => (RGrpE_c 0 a3 62 (by decide) w hw).mono ?_
      rintro e w' ⟨rfl, hw'⟩
      refine ⟨_, rfl, _, hw', ?_⟩
      clear hw' hw w w'
      repeat (first | (apply gJR; (refine sx ?_; try intro _)) | (apply gJO; (refine sx ?_; try intro _)))
      exact JS_to4 K a3 62 ln 0 ⟨by omega, by omega, by omega, .inr ⟨by decide, hinv _ (.err hF)⟩⟩ (by repeat (first | exact trivial | refine ⟨rfl, ?_⟩ | refine ⟨lookI rfl (by omega), ?_⟩)) (fun w hw => hw)
    rw [if_neg hz] at hF
    obtain ⟨_, _, d1, d2, d3, d4⟩ := lfar_ok hz
    obtain ⟨⟨lf1, lf2⟩, hlf⟩ : ∃ x, lfar dd = x := ⟨_, rfl⟩
    rw [hlf] at hF hz d1 d2 d3 d4 ⊢
    simp only at hF hz d1 d2 d3 d4 ⊢
    obtain ⟨k2, rfl⟩ : ∃ k : Nat, lf2 = k := ⟨lf2.toNat, by omega⟩
    simp only [Int.toNat_natCast] at hF
    obtain ⟨hm0, hm1'⟩ := nbt_bd (bitB B 0) (bitB_01 B 0) a3 k2
    have hp2 : (2 : Int) ^ k2 ≤ 8192 := by
      have : ∀ k : Fin 14, (2 : Int) ^ k.val ≤ 8192 := by decide
      exact this ⟨k2, by omega⟩
    obtain ⟨x2, hn2e⟩ := Int.eq_ofNat_of_zero_le hm0
    rw [hn2e] at hF hm1'
    repeat (refine sx ?_; try intro _)
    refine JO_call Tryz.call132 rfl rfl fun w hw => (RGrp4_c hK a3 k2 (by omega) ha3 hm2 w hw).mono ?_
    rintro e w' (⟨h, rfl, hw'⟩ | ⟨h2, he, hw'⟩)
    · refine ⟨_, rfl, _, hw', ?_⟩
      clear hw' hw w w'
      rw [if_pos h] at hF
      repeat (first | (apply gJR; (refine sx ?_; try intro _)) | (apply gJO; (refine sx ?_; try intro _)))
      exact JS_to4 K a3 20 ln lf1.toNat ⟨by omega, by omega, by omega, .inr ⟨by decide, hinv _ (.err hF)⟩⟩ (by repeat (first | exact trivial | refine ⟨rfl, ?_⟩ | refine ⟨lookI rfl (by omega), ?_⟩)) (fun w hw => hw)
    rw [hn2e] at he; subst he
    refine ⟨_, rfl, _, hw', ?_⟩
    clear hw' hw w w'
    rw [if_neg (by omega)] at hF
    obtain ⟨bk, hbk⟩ : ∃ bk : Nat, lf1 + (x2 : Int) = bk := ⟨(lf1 + (x2 : Int)).toNat, by omega⟩
    rw [hbk, Int.toNat_natCast] at hF
    repeat (first | (apply gJR; (refine sx ?_; try intro _)) | (apply gJO; (refine sx ?_; try intro _)))
    refine JS_to4 K (a3 + k2) 0 ln bk ⟨by omega, by omega, by omega, .inl ⟨rfl, by omega, h2, by omega, ?_⟩⟩ (by repeat (first | exact trivial | refine ⟨rfl, ?_⟩ | refine ⟨lookI rfl (by omega), ?_⟩)) (fun w hw => hw)
    rw [hF]
    by_cases h : o1.length < bk
    · rw [if_pos (by omega), if_pos h]
    · rw [if_neg (by omega), if_neg h]
end
end Go.Proofs.YteelffkghidpfaaGreat

namespace Sx
open Go
theorem JS_joinQ46 {P : Program} {f n : Nat} {R : Ending → World → Prop} {D : List Deferred} {w0 : World} {k : List Item} {ov : Ov} {H : List Asn} {α β γ δ : Type} {c1 c2 c3 c4 c5 c6 rest : Code} (o : α → β → γ → δ → Ov) (H' : α → β → γ → δ → List Asn) (I : α → β → γ → δ → Prop)
    (cont : ∀ (x1 : α) (x2 : β) (x3 : γ) (x4 : δ), I x1 x2 x3 x4 → JS P f n R D w0 (.code rest :: k) (o x1 x2 x3 x4) (H' x1 x2 x3 x4))
    (h : (∀ (x1 : α) (x2 : β) (x3 : γ) (x4 : δ), I x1 x2 x3 x4 → JS P f n R D w0 (.code rest :: k) (o x1 x2 x3 x4) (H' x1 x2 x3 x4)) → JS P f n R D w0 (.code (.seq c1 (.seq c2 (.seq c3 (.seq c4 (.seq c5 (.seq c6 rest)))))) :: k) ov H) :
    JS P f n R D w0 (.code (.seq c1 (.seq c2 (.seq c3 (.seq c4 (.seq c5 (.seq c6 rest)))))) :: k) ov H := h cont
end Sx
namespace Go.Proofs.YteelffkghidpfaaGreat
open Sx Go
set_option linter.unusedVariables false
set_option linter.unusedSimpArgs false
set_option maxRecDepth 100000
attribute [local irreducible] syA fc tk cds
section
variable {w0 : World} {H : List Asn} {bs : Nat} {q : Option Addr} {d m : Nat} {B : List Int} {lim : Nat} {po : Option Addr} {co : Nat} {o : List Int}
theorem strL_in {w : World} {a : Nat} {E : Int} {x : Asn} (h : St w0 (x :: strL bs q d m B lim a po co o E H) w) : St w0 (strL bs q d m B lim a po co o E (x :: H)) w :=
  h.perm (List.perm_append_comm_assoc [x] [_, _, _] H)
set_option maxRecDepth 10000 in
set_option maxHeartbeats 4000000 in
theorem RLens_c (hK : InfK m B lim) (a : Nat) (ha : a ≤ 8 * m) (hm2 : m ≤ 17592186044410) (many : Nat) (hmn : many ≤ 1000) (pC : Option Addr) (cC : Nat) (C : List Int) (hrC : Rd w0 H (.slice pC 19 cC) 19 (ints .u8 C)) (hC : C.length = 19) (hBC : OKB C) (hkC : OKL C) (w : World) (hw : St w0 (strL bs q d m B lim a po co o 0 H) w) :
    Calls Tryz.prog 185 #[.pointer (some ⟨bs, 0, none⟩), .slice pC 19 cC, .int .i64 many] w fun e w' => ∃ r, It (lenF (bitB B 0) (8 * m) C many) a [] r ∧ resP r (fun r => r ≠ 0 ∧ (∃ v, e = .returned v) ∧ ∃ a', St w0 (strL bs q d m B lim a' po co o r H) w')
      (fun a' l => a' ≤ 8 * m ∧ l.length = many ∧ OKB l ∧ ∃ p c, e = .returned (.slice p many c) ∧ St w0 (strL bs q d m B lim a' po co o 0 (vec 5 1 (.slice p many c) many (ints .u8 l) :: H)) w') := by
  have hl := hK.hl
  have hm1 := hK.hm1
  refine enter (vs := [.pointer (some ⟨bs, 0, none⟩), .slice pC 19 cC, .int .i64 many]) Tryz.func185 rfl rfl rfl hw ?_
  repeat (first | (apply gJR; (refine sx ?_; try intro _)) | (apply gJO; (refine sx ?_; try intro _)) | apply JS_seq | apply JS_region)
  refine JS_block ?_
  refine JS_loop4 (fun (a1 : Nat) (l : List Int) (p : Option Addr) (c : Nat) => [(0, .pointer (some ⟨bs, 0, none⟩)), (1, .slice pC 19 cC), (2, .int .i64 many), (7, .slice p l.length c)]) (fun a1 l p c => strL bs q d m B lim a1 po co o 0 (vec 5 1 (.slice p l.length c) l.length (ints .u8 l) :: H))
    (fun a1 l _ _ => a1 ≤ 8 * m ∧ l.length ≤ many ∧ OKB l ∧ ∀ r, It (lenF (bitB B 0) (8 * m) C many) a1 l r → It (lenF (bitB B 0) (8 * m) C many) a [] r) (fun a1 _ _ _ => 8 * m - a1) a [] none 0 ⟨ha, Nat.zero_le _, OKB_nil, fun _ h => h⟩ (by repeat (first | exact trivial | refine ⟨rfl, ?_⟩ | refine ⟨lookI rfl (by omega), ?_⟩)) (fun _ h => strL_in (St.nilvec h)) ?_
  intro a1 l p c ⟨ha1, hll, hOl, hinv⟩ again
  by_cases hmany : many ≤ l.length
  · obtain rfl : many = l.length := by omega
    clear again
    repeat (refine sx ?_; try intro _)
    refine JS_ret Tryz.func185 rfl rfl ?_
    intro w hw
    exact ⟨.ok a1 l, hinv _ (.stop (by unfold lenF; rw [if_pos (Nat.le_refl _)])), ha1, rfl, hOl, p, c, rfl, hw⟩
  have hrC' : Rd w0 (vec 5 1 (.slice p l.length c) l.length (ints .u8 l) :: H) (.slice pC 19 cC) 19 (ints .u8 C) := Rd_weak hrC fun w hw => dS hw
  repeat (first | (apply gJR; (refine sx ?_; try intro _)) | (apply gJO; (refine sx ?_; try intro _)) | apply JS_region | refine JS_condT rfl ?_ | refine JS_cond_T rfl (by omega) ?_)
  apply JS_seq
  apply JS_seq
  apply JS_region
  repeat (first | (apply gJR; (refine sx ?_; try intro _)) | (apply gJO; (refine sx ?_; try intro _)))
  refine JS_condT rfl ?_
  apply JS_skip
  refine JS_block ?_
  refine JS_joinQ46 (fun (E : Int) (t : Nat) (x : Int) (a3 : Nat) => [(0, .pointer (some ⟨bs, 0, none⟩)), (1, .slice pC 19 cC), (2, .int .i64 many), (7, .slice p l.length c), (9, .int .i64 t), (10, .int .u8 x)])
    (fun E t x a3 => strL bs q d m B lim a3 po co o E (vec 5 1 (.slice p l.length c) l.length (ints .u8 l) :: H))
    (fun E t x a3 => 1 ≤ t ∧ t ≤ 1000 ∧ 0 ≤ x ∧ x < 256 ∧ ((E = 0 ∧ a3 ≤ 8 * m ∧ a1 < a3 ∧ lenF (bitB B 0) (8 * m) C many a1 l = lenP many l x t a3) ∨ (E ≠ 0 ∧ It (lenF (bitB B 0) (8 * m) C many) a [] (.err E)))) ?_ ?_
  · intro E t x a3 ⟨ht0, ht, hx0, hx1, hmode⟩
    by_cases h : (many : Int) < l.length + t
    · clear again
      repeat (refine sx ?_; try intro _)
      refine JO_call Tryz.call183 rfl rfl fun w hw => (RFail_c 62 a3 E w hw).mono ?_
      rintro e w' ⟨rfl, hw'⟩
      refine ⟨_, rfl, _, hw', ?_⟩
      clear hw' hw w w'
      obtain ⟨E2, hE2, hIt, heq⟩ : ∃ E2 : Int, E2 ≠ 0 ∧ It (lenF (bitB B 0) (8 * m) C many) a [] (.err E2) ∧ (if E = 0 then 62 else E) = E2 := by
        rcases hmode with ⟨rfl, ha4, ha14, hF⟩ | ⟨hE, hIt⟩
        · exact ⟨62, by decide, hinv _ (.err (by rw [hF]; unfold lenP; rw [if_pos h])), rfl⟩
        · exact ⟨E, hE, hIt, if_neg hE⟩
      rw [heq]
      (repeat (first | (apply gJS; first | apply JS_loop' | apply JS_inLoop) | (refine sx ?_; try intro _)))
      exact JS_ret Tryz.func185 rfl rfl fun w hw => ⟨.err E2, hIt, hE2, ⟨_, rfl⟩, a3, dS hw⟩
    · rcases hmode with ⟨rfl, ha4, ha14, hF⟩ | ⟨hE, hIt⟩
      · have hF : lenF (bitB B 0) (8 * m) C many a1 l = .go a3 (l ++ List.replicate t x) := by rw [hF]; unfold lenP; rw [if_neg h, Int.toNat_natCast]
        repeat (first | (apply gJR; (refine sx ?_; try intro _)) | (apply gJO; (refine sx ?_; try intro _)) | apply JS_seq | apply JS_region | refine JS_condF rfl ?_ | refine JS_cond_F rfl (by omega) ?_ | apply JS_skip)
        refine JS_block ?_
        refine JS_loop3 (fun (j : Nat) (p : Option Addr) (c : Nat) => [(0, .pointer (some ⟨bs, 0, none⟩)), (1, .slice pC 19 cC), (2, .int .i64 many), (7, .slice p (l.length + j) c), (9, .int .i64 t), (10, .int .u8 x), (11, .int .i64 j)]) (fun j p c => strL bs q d m B lim a3 po co o 0 (vec 5 1 (.slice p (l.length + j) c) (l.length + j) (ints .u8 (l ++ List.replicate j x)) :: H))
          (fun j _ _ => j ≤ t) (fun j _ _ => t - j) 0 p c (Nat.zero_le _) (by repeat (first | exact trivial | refine ⟨rfl, ?_⟩ | refine ⟨lookI rfl (by omega), ?_⟩)) (fun _ h => by rw [show List.replicate 0 x = [] from rfl, List.append_nil]; exact h) ?_
        intro j p' c' hj again2
        by_cases hjt : j < t
        · clear again
          have hcs : l ++ List.replicate (j + 1) x = (l ++ List.replicate j x) ++ [x] := by rw [List.replicate_succ', List.append_assoc]
          have hlen : (l ++ List.replicate j x).length = l.length + j := by simp
          generalize l ++ List.replicate j x = L1 at *
          repeat (refine sx ?_; try intro _)
          refine JO_app (tb := tb) rfl rfl rfl rfl rfl rfl (by repeat (first | exact Sel.here _ _ | apply Sel.there)) (vec_rd (List.Mem.head _)) rfl (by repeat (first | exact trivial | refine ⟨rfl, ?_⟩)) (by omega) rfl ?_
          intro p5 c5
          repeat (refine sx ?_; try intro _)
          exact JS_again3 again2 (j + 1) p5 c5 (by omega) (by omega) (by repeat (first | exact trivial | refine ⟨rfl, ?_⟩ | refine ⟨lookI rfl (by omega), ?_⟩)) (fun w hw => by rw [hcs, ← ints_app1]; exact dS hw)
        · obtain rfl : j = t := by omega
          clear again2
          repeat (refine sx ?_; try intro _)
          exact JS_again4 again a3 (l ++ List.replicate j x) p' c' ⟨ha4, by simp; omega, OKB_app hOl (OKB_rep ⟨hx0, hx1⟩ j), fun r hr => hinv r (.go hF hr)⟩ (by omega)
            (by rw [List.length_append, List.length_replicate]; exact ⟨rfl, rfl, rfl, rfl, trivial⟩) (fun w hw => by rw [List.length_append, List.length_replicate]; exact hw)
      · clear again
        (repeat (first | (apply gJS; first | apply JS_loop' | apply JS_inLoop) | (refine sx ?_; try intro _)))
        exact JS_ret Tryz.func185 rfl rfl fun w hw => ⟨.err E, hIt, hE, ⟨_, rfl⟩, a3, dS hw⟩
  · clear again
    intro K
    repeat (refine sx ?_; try intro _)
    refine JO_call Tryz.call180 rfl rfl fun w hw => (RSym_c hK a1 ha1 hm2 pC cC 19 C hrC' hC hBC hkC w hw).mono ?_
    intro e w' h
    unfold symP at h
    cases hsy : symS (bitB B 0) (8 * m) C a1 with
    | err r =>
      rw [hsy] at h
      obtain ⟨hr0, rfl, a', hw'⟩ := h
      refine ⟨_, rfl, _, hw', ?_⟩
      clear hw' hw w w'
      have hIt := hinv _ (.err (show lenF (bitB B 0) (8 * m) C many a1 l = .err r by unfold lenF; rw [if_neg hmany, hsy]))
      (repeat (first | (apply gJR; (refine sx ?_; try intro _)) | (apply gJO; (refine sx ?_; try intro _))))
      (apply JS_seq; apply JS_region; repeat (first | (apply gJR; (refine sx ?_; try intro _)) | (apply gJO; (refine sx ?_; try intro _))))
      (apply JS_seq; apply JS_region; repeat (first | (apply gJR; (refine sx ?_; try intro _)) | (apply gJO; (refine sx ?_; try intro _))))
      (apply JS_seq; apply JS_seq; apply JS_region; (repeat (first | (apply gJR; (refine sx ?_; try intro _)) | (apply gJO; (refine sx ?_; try intro _)))); refine JS_condF rfl ?_; apply JS_skip)
      (apply JS_seq; apply JS_seq; apply JS_region; (repeat (first | (apply gJR; (refine sx ?_; try intro _)) | (apply gJO; (refine sx ?_; try intro _)))); refine JS_condF rfl ?_; apply JS_skip)
      (apply JS_seq; apply JS_seq; apply JS_region; (repeat (first | (apply gJR; (refine sx ?_; try intro _)) | (apply gJO; (refine sx ?_; try intro _)))); refine JS_condF rfl ?_; apply JS_skip)
      exact JS_to4 K r 1 0 a' ⟨by omega, by omega, by omega, by omega, .inr ⟨hr0, hIt⟩⟩ (by repeat (first | exact trivial | refine ⟨rfl, ?_⟩ | refine ⟨lookI rfl (by omega), ?_⟩)) (fun w hw => hw)
    | ok i a2 =>
    rw [hsy] at h
    obtain ⟨hi0, hiC, ha12, ha2, rfl, hw'⟩ := h
    refine ⟨_, rfl, _, hw', ?_⟩
    clear hw' hw w w'
    have hF : lenF (bitB B 0) (8 * m) C many a1 l = if i = 16 then (if l.length = 0 then .err 62 else if 8 * m < a2 + 2 then .err 20 else lenP many l (l.getD (l.length - 1) 0) (3 + nbt (bitB B 0) a2 2) (a2 + 2))
      else if i = 17 then (if 8 * m < a2 + 3 then .err 20 else lenP many l 0 (3 + nbt (bitB B 0) a2 3) (a2 + 3))
      else if i = 18 then (if 8 * m < a2 + 7 then .err 20 else lenP many l 0 (11 + nbt (bitB B 0) a2 7) (a2 + 7))
      else lenP many l i 1 a2 := by unfold lenF; rw [if_neg hmany, hsy]
    by_cases h16 : i = 16
    · rw [if_pos h16] at hF
      by_cases hl0 : l.length = 0
      · rw [if_pos hl0] at hF
        repeat (refine sx ?_; try intro _)
        refine JO_call Tryz.call183 rfl rfl fun w hw => (RFail_c 62 a2 0 w hw).mono ?_
        rw [if_pos rfl]
        rintro e w' ⟨rfl, hw'⟩
        refine ⟨_, rfl, _, hw', ?_⟩
        clear hw' hw w w'
        repeat (refine sx ?_; try intro _)
        exact JS_ret Tryz.func185 rfl rfl fun w hw => ⟨.err 62, hinv _ (.err hF), by decide, ⟨_, rfl⟩, a2, dS hw⟩
      rw [if_neg hl0] at hF
      have hlst := hOl (l.length - 1)
      have gl : (ints .u8 l)[l.length - 1]? = some (.int .u8 (l.getD (l.length - 1) 0)) := ints_get (by omega)
      generalize l.getD (l.length - 1) 0 = x at *
      repeat (first | (apply gJO; first | refine JO_v (V_index (tb := tb) (j := l.length - 1) rfl rfl rfl rfl (Rd.sl (vec_rd (by repeat (first | apply List.Mem.head | apply List.Mem.tail)))) (by omega) (by omega) rfl) ?_ | refine JO_v (V_loadC (tb := tb) rfl (vec_rd (by repeat (first | apply List.Mem.head | apply List.Mem.tail))) rfl rfl gl rfl) ?_) | (refine sx ?_; try intro _))
      refine JO_call Tryz.call132 rfl rfl fun w hw => (RGrp4_c hK a2 2 (by omega) ha2 hm2 w hw).mono ?_
      rintro e w' (⟨h, rfl, hw'⟩ | ⟨h1, he, hw'⟩)
      · refine ⟨_, rfl, _, hw', ?_⟩
        clear hw' hw w w'
        rw [if_pos h] at hF
        (repeat (first | (apply gJR; (refine sx ?_; try intro _)) | (apply gJO; (refine sx ?_; try intro _))))
        (apply JS_seq; apply JS_seq; apply JS_region; (repeat (first | (apply gJR; (refine sx ?_; try intro _)) | (apply gJO; (refine sx ?_; try intro _)))); refine JS_condF rfl ?_; apply JS_skip)
        (apply JS_seq; apply JS_seq; apply JS_region; (repeat (first | (apply gJR; (refine sx ?_; try intro _)) | (apply gJO; (refine sx ?_; try intro _)))); refine JS_condF rfl ?_; apply JS_skip)
        exact JS_to4 K 20 3 x a2 ⟨by omega, by omega, hlst.1, hlst.2, .inr ⟨by decide, hinv _ (.err hF)⟩⟩ (by repeat (first | exact trivial | refine ⟨rfl, ?_⟩ | refine ⟨lookI rfl (by omega), ?_⟩)) (fun w hw => hw)
      rw [if_neg (by omega)] at hF
      obtain ⟨n, hn⟩ := Int.eq_ofNat_of_zero_le (nbt_bd (bitB B 0) (bitB_01 B 0) a2 2).1
      have hn1 := (nbt_bd (bitB B 0) (bitB_01 B 0) a2 2).2
      rw [hn] at he hn1 hF
      subst he
      have hn2 : (n : Int) < 4 := hn1
      refine ⟨_, rfl, _, hw', ?_⟩
      clear hw' hw w w'
      (repeat (first | (apply gJR; (refine sx ?_; try intro _)) | (apply gJO; (refine sx ?_; try intro _))))
      (apply JS_seq; apply JS_seq; apply JS_region; (repeat (first | (apply gJR; (refine sx ?_; try intro _)) | (apply gJO; (refine sx ?_; try intro _)))); refine JS_condF rfl ?_; apply JS_skip)
      (apply JS_seq; apply JS_seq; apply JS_region; (repeat (first | (apply gJR; (refine sx ?_; try intro _)) | (apply gJO; (refine sx ?_; try intro _)))); refine JS_condF rfl ?_; apply JS_skip)
      exact JS_to4 K 0 (3 + n) x (a2 + 2) ⟨by omega, by omega, hlst.1, hlst.2, .inl ⟨rfl, h1, by omega, hF⟩⟩ (by repeat (first | exact trivial | refine ⟨rfl, ?_⟩ | refine ⟨lookI rfl (by omega), ?_⟩)) (fun w hw => hw)
    rw [if_neg h16] at hF
    (repeat (first | (apply gJR; (refine sx ?_; try intro _)) | (apply gJO; (refine sx ?_; try intro _))))
    (apply JS_seq; apply JS_region; repeat (first | (apply gJR; (refine sx ?_; try intro _)) | (apply gJO; (refine sx ?_; try intro _))))
    (apply JS_seq; apply JS_region; repeat (first | (apply gJR; (refine sx ?_; try intro _)) | (apply gJO; (refine sx ?_; try intro _))))
    (apply JS_seq; apply JS_seq; apply JS_region; (repeat (first | (apply gJR; (refine sx ?_; try intro _)) | (apply gJO; (refine sx ?_; try intro _)))); refine JS_condF rfl ?_; apply JS_skip)
    by_cases h17 : i = 17
    · rw [if_pos h17] at hF
      repeat (refine sx ?_; try intro _)
      refine JO_call Tryz.call132 rfl rfl fun w hw => (RGrp4_c hK a2 3 (by omega) ha2 hm2 w hw).mono ?_
      rintro e w' (⟨h, rfl, hw'⟩ | ⟨h1, he, hw'⟩)
      · refine ⟨_, rfl, _, hw', ?_⟩
        clear hw' hw w w'
        rw [if_pos h] at hF
        (repeat (first | (apply gJR; (refine sx ?_; try intro _)) | (apply gJO; (refine sx ?_; try intro _))))
        (apply JS_seq; apply JS_seq; apply JS_region; (repeat (first | (apply gJR; (refine sx ?_; try intro _)) | (apply gJO; (refine sx ?_; try intro _)))); refine JS_condF rfl ?_; apply JS_skip)
        exact JS_to4 K 20 3 0 a2 ⟨by omega, by omega, by omega, by omega, .inr ⟨by decide, hinv _ (.err hF)⟩⟩ (by repeat (first | exact trivial | refine ⟨rfl, ?_⟩ | refine ⟨lookI rfl (by omega), ?_⟩)) (fun w hw => hw)
      rw [if_neg (by omega)] at hF
      obtain ⟨n, hn⟩ := Int.eq_ofNat_of_zero_le (nbt_bd (bitB B 0) (bitB_01 B 0) a2 3).1
      have hn1 := (nbt_bd (bitB B 0) (bitB_01 B 0) a2 3).2
      rw [hn] at he hn1 hF
      subst he
      have hn2 : (n : Int) < 8 := hn1
      refine ⟨_, rfl, _, hw', ?_⟩
      clear hw' hw w w'
      (repeat (first | (apply gJR; (refine sx ?_; try intro _)) | (apply gJO; (refine sx ?_; try intro _))))
      (apply JS_seq; apply JS_seq; apply JS_region; (repeat (first | (apply gJR; (refine sx ?_; try intro _)) | (apply gJO; (refine sx ?_; try intro _)))); refine JS_condF rfl ?_; apply JS_skip)
      exact JS_to4 K 0 (3 + n) 0 (a2 + 3) ⟨by omega, by omega, by omega, by omega, .inl ⟨rfl, h1, by omega, hF⟩⟩ (by repeat (first | exact trivial | refine ⟨rfl, ?_⟩ | refine ⟨lookI rfl (by omega), ?_⟩)) (fun w hw => hw)
    rw [if_neg h17] at hF
    (apply JS_seq; apply JS_seq; apply JS_region; (repeat (first | (apply gJR; (refine sx ?_; try intro _)) | (apply gJO; (refine sx ?_; try intro _)))); refine JS_condF rfl ?_; apply JS_skip)
    by_cases h18 : i = 18
    · rw [if_pos h18] at hF
      repeat (refine sx ?_; try intro _)
      refine JO_call Tryz.call132 rfl rfl fun w hw => (RGrp4_c hK a2 7 (by omega) ha2 hm2 w hw).mono ?_
      rintro e w' (⟨h, rfl, hw'⟩ | ⟨h1, he, hw'⟩)
      · refine ⟨_, rfl, _, hw', ?_⟩
        clear hw' hw w w'
        rw [if_pos h] at hF
        (repeat (first | (apply gJR; (refine sx ?_; try intro _)) | (apply gJO; (refine sx ?_; try intro _))))
        exact JS_to4 K 20 11 0 a2 ⟨by omega, by omega, by omega, by omega, .inr ⟨by decide, hinv _ (.err hF)⟩⟩ (by repeat (first | exact trivial | refine ⟨rfl, ?_⟩ | refine ⟨lookI rfl (by omega), ?_⟩)) (fun w hw => hw)
      rw [if_neg (by omega)] at hF
      obtain ⟨n, hn⟩ := Int.eq_ofNat_of_zero_le (nbt_bd (bitB B 0) (bitB_01 B 0) a2 7).1
      have hn1 := (nbt_bd (bitB B 0) (bitB_01 B 0) a2 7).2
      rw [hn] at he hn1 hF
      subst he
      have hn2 : (n : Int) < 128 := hn1
      refine ⟨_, rfl, _, hw', ?_⟩
      clear hw' hw w w'
      (repeat (first | (apply gJR; (refine sx ?_; try intro _)) | (apply gJO; (refine sx ?_; try intro _))))
      exact JS_to4 K 0 (11 + n) 0 (a2 + 7) ⟨by omega, by omega, by omega, by omega, .inl ⟨rfl, h1, by omega, hF⟩⟩ (by repeat (first | exact trivial | refine ⟨rfl, ?_⟩ | refine ⟨lookI rfl (by omega), ?_⟩)) (fun w hw => hw)
    rw [if_neg h18] at hF
    (apply JS_seq; apply JS_seq; apply JS_region; (repeat (first | (apply gJR; (refine sx ?_; try intro _)) | (apply gJO; (refine sx ?_; try intro _)))); refine JS_condF rfl ?_; apply JS_skip)
    exact JS_to4 K 0 1 i a2 ⟨by omega, by omega, hi0, by omega, .inl ⟨rfl, ha2, ha12, hF⟩⟩ (by repeat (first | exact trivial | refine ⟨rfl, ?_⟩ | refine ⟨lookI rfl (by omega), ?_⟩)) (fun w hw => hw)
end
end Go.Proofs.YteelffkghidpfaaGreat

namespace Sx
open Go
theorem JS_joinQ53 {P : Program} {f n : Nat} {R : Ending → World → Prop} {D : List Deferred} {w0 : World} {k : List Item} {ov : Ov} {H : List Asn} {α β γ δ ε : Type} {c1 c2 c3 rest : Code} (o : α → β → γ → δ → ε → Ov) (H' : α → β → γ → δ → ε → List Asn) (I : α → β → γ → δ → ε → Prop)
    (cont : ∀ (x1 : α) (x2 : β) (x3 : γ) (x4 : δ) (x5 : ε), I x1 x2 x3 x4 x5 → JS P f n R D w0 (.code rest :: k) (o x1 x2 x3 x4 x5) (H' x1 x2 x3 x4 x5))
    (h : (∀ (x1 : α) (x2 : β) (x3 : γ) (x4 : δ) (x5 : ε), I x1 x2 x3 x4 x5 → JS P f n R D w0 (.code rest :: k) (o x1 x2 x3 x4 x5) (H' x1 x2 x3 x4 x5)) → JS P f n R D w0 (.code (.seq c1 (.seq c2 (.seq c3 rest))) :: k) ov H) :
    JS P f n R D w0 (.code (.seq c1 (.seq c2 (.seq c3 rest))) :: k) ov H := h cont
theorem JS_joinQ54 {P : Program} {f n : Nat} {R : Ending → World → Prop} {D : List Deferred} {w0 : World} {k : List Item} {ov : Ov} {H : List Asn} {α β γ δ ε : Type} {c1 c2 c3 c4 rest : Code} (o : α → β → γ → δ → ε → Ov) (H' : α → β → γ → δ → ε → List Asn) (I : α → β → γ → δ → ε → Prop)
    (cont : ∀ (x1 : α) (x2 : β) (x3 : γ) (x4 : δ) (x5 : ε), I x1 x2 x3 x4 x5 → JS P f n R D w0 (.code rest :: k) (o x1 x2 x3 x4 x5) (H' x1 x2 x3 x4 x5))
    (h : (∀ (x1 : α) (x2 : β) (x3 : γ) (x4 : δ) (x5 : ε), I x1 x2 x3 x4 x5 → JS P f n R D w0 (.code rest :: k) (o x1 x2 x3 x4 x5) (H' x1 x2 x3 x4 x5)) → JS P f n R D w0 (.code (.seq c1 (.seq c2 (.seq c3 (.seq c4 rest)))) :: k) ov H) :
    JS P f n R D w0 (.code (.seq c1 (.seq c2 (.seq c3 (.seq c4 rest)))) :: k) ov H := h cont
end Sx
namespace Go.Proofs.YteelffkghidpfaaGreat
open Sx Go
set_option linter.unusedVariables false
set_option linter.unusedSimpArgs false
set_option maxRecDepth 100000
attribute [local irreducible] syA fc tk cds
theorem OKB_set {C : List Int} (h : OKB C) {x : Int} (hx : 0 ≤ x ∧ x < 256) (k : Nat) : OKB (C.set k x) := by
  intro j
  rw [List.getD_eq_getElem?_getD, List.getElem?_set]
  split
  · split
    · exact hx
    · exact ⟨by decide, by decide⟩
  · have := h j; rwa [List.getD_eq_getElem?_getD] at this
open Classical in
noncomputable def des1b (bt : Nat → Int) (N lim lit sp : Nat) (C : List Int) (a : Nat) (o : List Int) : Res :=
  if ¬ OKL C ∨ ¬ tk C = 32768 then .err 62
  else match itF (lenF bt N C (lit + sp)) a [] with
    | .err e => .err e
    | .ok a' l => des2 bt N lim lit l a' o
theorem des1_b (bt : Nat → Int) (N lim lit sp ln : Nat) (a : Nat) (o : List Int) : des1 bt N lim lit sp ln a o = if 286 < lit ∨ 30 < sp then .err 62 else if N < a + 3 * ln then .err 20 else des1b bt N lim lit sp (ccl bt a ln) (a + 3 * ln) o := rfl
theorem des1b_bad {bt : Nat → Int} {N lim lit sp : Nat} {C : List Int} {a : Nat} {o : List Int} (h : ¬ OKL C ∨ ¬ tk C = 32768) : des1b bt N lim lit sp C a o = .err 62 := by
  unfold des1b; rw [if_pos h]
theorem des1b_ok {bt : Nat → Int} {N lim lit sp : Nat} {C : List Int} {a : Nat} {o : List Int} (h : ¬ (¬ OKL C ∨ ¬ tk C = 32768)) : des1b bt N lim lit sp C a o = match itF (lenF bt N C (lit + sp)) a [] with
    | .err e => .err e
    | .ok a' l => des2 bt N lim lit l a' o := by
  unfold des1b; rw [if_neg h]
section
variable {w0 : World} {H : List Asn} {bs : Nat} {q : Option Addr} {d m : Nat} {B : List Int} {lim : Nat} {po : Option Addr} {co : Nat} {o : List Int}
theorem RP_drop {x : Asn} {r : Res} {w : World} (h : RP w0 bs q d m B lim (x :: H) r w) : RP w0 bs q d m B lim H r w := by
  unfold RP at *
  cases r with
  | err r => exact ⟨h.1, h.2.elim fun a h => h.elim fun po h => h.elim fun co h => h.elim fun o h => ⟨a, po, co, o, dS h⟩⟩
  | ok a o => exact ⟨h.1, h.2.1, h.2.2.elim fun po h => h.elim fun co h => ⟨po, co, dS h⟩⟩
theorem strL_ins {w : World} {a : Nat} {E : Int} (X : List Asn) (h : St w0 (X ++ strL bs q d m B lim a po co o E H) w) : St w0 (strL bs q d m B lim a po co o E (X ++ H)) w :=
  h.perm (List.perm_append_comm_assoc X [_, _, _] H)
set_option maxRecDepth 10000 in
set_option maxHeartbeats 4000000 in
theorem RDes_c (hK : InfK m B lim) (a : Nat) (ha : a ≤ 8 * m) (hm2 : m ≤ 17592186044410) (ho : o.length ≤ lim) (w : World) (hw : St w0 (strL bs q d m B lim a po co o 0 H) w) :
    Calls Tryz.prog 136 #[.pointer (some ⟨bs, 0, none⟩)] w fun e w' => e = .returned (.tuple #[]) ∧ RP w0 bs q d m B lim H (desF (bitB B 0) (8 * m) lim a o) w' := by
  have hl := hK.hl
  have hm1 := hK.hm1
  refine enter (vs := [.pointer (some ⟨bs, 0, none⟩)]) Tryz.func136 rfl rfl rfl hw ?_
  obtain ⟨F, hFd⟩ : ∃ F, desF (bitB B 0) (8 * m) lim a o = F := ⟨_, rfl⟩
  rw [hFd]
  refine JS_joinQ53 (fun (E : Int) (a3 lit sp ln : Nat) => [(0, .pointer (some ⟨bs, 0, none⟩)), (2, .int .i64 lit), (3, .int .i64 sp), (4, .int .i64 ln)]) (fun E a3 _ _ _ => strL bs q d m B lim a3 po co o E H)
    (fun E a3 lit sp ln => lit ≤ 300 ∧ 257 ≤ lit ∧ 1 ≤ sp ∧ sp ≤ 40 ∧ 4 ≤ ln ∧ ln ≤ 19 ∧ ((E = 0 ∧ a3 ≤ 8 * m ∧ F = des1 (bitB B 0) (8 * m) lim lit sp ln a3 o) ∨ (E ≠ 0 ∧ F = .err E))) ?_ ?_
  · clear hFd
    intro E a3 lit sp ln ⟨hlit, hlit2, hsp1, hsp, hln1, hln2, hmode⟩
    refine JS_joinQ54 (fun (E : Int) (a4 : Nat) (C : List Int) (pC : Option Addr) (cC : Nat) => [(0, .pointer (some ⟨bs, 0, none⟩)), (2, .int .i64 lit), (3, .int .i64 sp), (6, .slice pC 19 cC)]) (fun E a4 C pC cC => strL bs q d m B lim a4 po co o E (vec 5 1 (.slice pC 19 cC) 19 (ints .u8 C) :: H))
      (fun E a4 C pC cC => C.length = 19 ∧ OKB C ∧ ((E = 0 ∧ a4 ≤ 8 * m ∧ F = des1b (bitB B 0) (8 * m) lim lit sp C a4 o) ∨ (E ≠ 0 ∧ F = .err E))) ?_ ?_
    · clear hmode E
      intro E a4 C pC cC ⟨hC, hBC, hmode⟩
      repeat (refine sx ?_; try intro _)
      refine JO_call Tryz.call184 rfl rfl fun w hw => (RCheck5_c pC cC 19 C (vec_rd (by repeat (first | apply List.Mem.head | apply List.Mem.tail))) hC hBC (by omega) w hw).mono ?_
      rintro e w' ⟨r, ob, rfl, hw', hcase⟩
      refine ⟨_, rfl, _, hw', ?_⟩
      clear hw' hw w w'
      have hbad : (r ≠ 0 ∨ ob = false) ↔ (¬ OKL C ∨ ¬ tk C = 32768) := by
        rcases hcase with ⟨h, rfl, rfl⟩ | ⟨h1, h2, h3, rfl, rfl⟩ | ⟨h1, h2, h3, rfl, rfl⟩
        · refine ⟨fun _ => .inl fun h' => ?_, fun _ => .inr rfl⟩
          rcases h with h | ⟨j, h⟩
          · omega
          · have := h'.2.1 j; omega
        · exact ⟨fun _ => .inl fun h' => h3 h'.2.2, fun _ => .inr rfl⟩
        · have hok : OKL C := ⟨by omega, h2, h3⟩
          constructor
          · rintro (h | h)
            · exact absurd rfl h
            · exact .inr (by simpa using h)
          · rintro (h | h)
            · exact absurd hok h
            · exact .inr (by simpa using h)
      by_cases hb : r ≠ 0 ∨ ob = false
      · obtain ⟨E2, hE2, hF2, heq⟩ : ∃ E2 : Int, E2 ≠ 0 ∧ F = .err E2 ∧ (if E = 0 then 62 else E) = E2 := by
          rcases hmode with ⟨rfl, ha4, hF⟩ | ⟨hE, hF⟩
          · exact ⟨62, by decide, by rw [hF, des1b_bad (hbad.1 hb)], rfl⟩
          · exact ⟨E, hE, hF, if_neg hE⟩
        have hb' : r ≠ 0 ∨ (r = 0 ∧ ob = false) := by
          by_cases h : r = 0
          · exact .inr ⟨h, hb.resolve_left fun h' => h' h⟩
          · exact .inl h
        rcases hb' with h | ⟨rfl, rfl⟩
        all_goals (repeat (refine sx ?_; try intro _))
        all_goals (refine JO_call Tryz.call183 rfl rfl fun w hw => (RFail_c 62 a4 E w hw).mono ?_)
        all_goals (rw [heq]; rintro e w' ⟨rfl, hw'⟩; refine ⟨_, rfl, _, hw', ?_⟩; clear hw' hw w w'; repeat (refine sx ?_; try intro _))
        all_goals (refine JS_ret Tryz.func136 rfl rfl fun w hw => ⟨rfl, ?_⟩; rw [hF2]; exact ⟨hE2, a4, _, _, _, dS hw⟩)
      · obtain rfl : r = 0 := by
          by_cases h : r = 0
          · exact h
          · exact absurd (.inl h) hb
        obtain rfl : ob = true := by
          cases ob with
          | true => rfl
          | false => exact absurd (.inr rfl) hb
        rcases hmode with ⟨rfl, ha4, hF⟩ | ⟨hE, hF⟩
        rotate_left
        · repeat (refine sx ?_; try intro _)
          refine JS_ret Tryz.func136 rfl rfl fun w hw => ⟨rfl, ?_⟩
          rw [hF]
          exact ⟨hE, a4, _, _, _, dS hw⟩
        rw [des1b_ok (fun h => hb (hbad.2 h))] at hF
        have hkC : OKL C := by
          rcases hcase with ⟨_, h, _⟩ | ⟨_, _, _, h, _⟩ | ⟨h1, h2, h3, _, _⟩
          · exact absurd h (by decide)
          · exact absurd h (by decide)
          · exact ⟨by omega, h2, h3⟩
        have hls : (lit : Int) + sp = ((lit + sp : Nat) : Int) := by omega
        repeat (refine sx ?_; try intro _)
        simp only [hls]
        refine JO_call Tryz.call185 rfl rfl fun w hw => (RLens_c hK a4 ha4 hm2 (lit + sp) (by omega) pC cC C (vec_rd (List.Mem.head _)) hC hBC hkC w hw).mono ?_
        rintro e w' ⟨r, hr, h⟩
        rw [itF_of hr] at hF
        clear hr
        cases r with
        | err r =>
          obtain ⟨hr0, ⟨v, rfl⟩, a', hw'⟩ := h
          refine ⟨_, rfl, _, hw', ?_⟩
          clear hw' hw w w'
          simp only at hF
          repeat (refine sx ?_; try intro _)
          refine JS_ret Tryz.func136 rfl rfl fun w hw => ⟨rfl, ?_⟩
          rw [hF]
          exact ⟨hr0, a', _, _, _, dS hw⟩
        | ok a' l =>
        obtain ⟨ha', hll, hol, p, c, rfl, hw'⟩ := h
        have hcap : lit + sp ≤ c := (Rd.lcap (vec_rd (e := 5) (size := 1) (v := .slice p (lit + sp) c) (n := lit + sp) (cs := ints .u8 l) (by repeat (first | apply List.Mem.head | apply List.Mem.tail))) hw').1
        refine ⟨_, rfl, _, hw', ?_⟩
        clear hw' hw w w'
        simp only at hF
        unfold des2 at hF
        have g256 : (ints .u8 l)[256]? = some (.int .u8 (l.getD 256 0)) := ints_get (by omega)
        have h256 := hol 256
        by_cases hz : l.getD 256 0 = 0
        · rw [if_pos hz] at hF
          repeat (first | (apply gJO; first | refine JO_v (V_loadC (tb := tb) rfl (vec_rd (e := 5) (size := 1) (v := .slice p (lit + sp) c) (n := lit + sp) (cs := ints .u8 l) (by repeat (first | apply List.Mem.head | apply List.Mem.tail))) rfl rfl g256 rfl) ?_ | refine JO_v (V_slice (tb := tb) (lo := 0) (hi := lit) rfl rfl rfl rfl rfl (by rfl) (by rfl) (fun w hw => ⟨by omega, by omega⟩) rfl) ?_ | refine JO_v (V_slice (tb := tb) (lo := lit) (hi := lit + sp) rfl rfl rfl rfl rfl (by rfl) (by rfl) (fun w hw => ⟨by omega, by omega⟩) rfl) ?_) | (refine sx ?_; try intro _))
          refine JS_ret Tryz.func136 rfl rfl fun w hw => ⟨rfl, ?_⟩
          rw [hF]
          exact ⟨by decide, a', _, _, _, dS hw⟩
        rw [if_neg hz] at hF
        have hl1 : (l.take lit).length = lit := by rw [List.length_take]; omega
        have hl2 : (l.drop lit).length = sp := by rw [List.length_drop]; omega
        have ho1 : OKB (l.take lit) := Byt_take hol _
        have ho2 : OKB (l.drop lit) := Byt_drop hol _
        have e2 : lit + sp - lit = sp := by omega
        have R1 : Rd w0 (vec 5 1 (.slice p (lit + sp) c) (lit + sp) (ints .u8 l) :: vec 5 1 (.slice pC 19 cC) 19 (ints .u8 C) :: H) (.slice p lit c) lit (ints .u8 (l.take lit)) := by
          have := Rd_sub (lo := 0) (hi := lit) (sz := 1) (vec_rd (w0 := w0) (H := vec 5 1 (.slice p (lit + sp) c) (lit + sp) (ints .u8 l) :: vec 5 1 (.slice pC 19 cC) 19 (ints .u8 C) :: H) (e := 5) (size := 1) (v := .slice p (lit + sp) c) (n := lit + sp) (cs := ints .u8 l) (by repeat (first | apply List.Mem.head | apply List.Mem.tail))) (by omega) (by omega)
          simp only [subB_0, Nat.sub_zero, Nat.zero_mul, Nat.mul_one, List.drop_zero, ints_take] at this
          exact this
        have R2 : Rd w0 (vec 5 1 (.slice p (lit + sp) c) (lit + sp) (ints .u8 l) :: vec 5 1 (.slice pC 19 cC) 19 (ints .u8 C) :: H) (.slice (subB p lit c 1) sp (c - lit)) sp (ints .u8 (l.drop lit)) := by
          have := Rd_sub (lo := lit) (hi := lit + sp) (sz := 1) (vec_rd (w0 := w0) (H := vec 5 1 (.slice p (lit + sp) c) (lit + sp) (ints .u8 l) :: vec 5 1 (.slice pC 19 cC) 19 (ints .u8 C) :: H) (e := 5) (size := 1) (v := .slice p (lit + sp) c) (n := lit + sp) (cs := ints .u8 l) (by repeat (first | apply List.Mem.head | apply List.Mem.tail))) (by omega) (by omega)
          simp only [e2, Nat.mul_one, ints_drop, ints_take] at this
          rw [List.take_of_length_le (by omega)] at this
          exact this
        repeat (first | (apply gJO; first | refine JO_v (V_loadC (tb := tb) rfl (vec_rd (e := 5) (size := 1) (v := .slice p (lit + sp) c) (n := lit + sp) (cs := ints .u8 l) (by repeat (first | apply List.Mem.head | apply List.Mem.tail))) rfl rfl g256 rfl) ?_ | refine JO_v (V_slice (tb := tb) (lo := 0) (hi := lit) rfl rfl rfl rfl rfl (by rfl) (by rfl) (fun w hw => ⟨by omega, by omega⟩) rfl) ?_ | refine JO_v (V_slice (tb := tb) (lo := lit) (hi := lit + sp) rfl rfl rfl rfl rfl (by rfl) (by rfl) (fun w hw => ⟨by omega, by omega⟩) rfl) ?_) | (refine sx ?_; try intro _))
        simp only [subB_0, Nat.sub_zero]
        refine JO_call Tryz.call186 rfl rfl fun w hw => (RBad_c p c lit (l.take lit) (Rd_weak R1 fun w hw => dS hw) hl1 ho1 (by omega) w hw).mono ?_
        rintro e w' ⟨b1, rfl, hb1, hw'⟩
        refine ⟨_, rfl, _, hw', ?_⟩
        clear hw' hw w w'
        cases b1 with
        | true =>
          rw [if_pos (hb1.1 rfl)] at hF
          repeat (first | (apply gJO; first | refine JO_v (V_loadC (tb := tb) rfl (vec_rd (e := 5) (size := 1) (v := .slice p (lit + sp) c) (n := lit + sp) (cs := ints .u8 l) (by repeat (first | apply List.Mem.head | apply List.Mem.tail))) rfl rfl g256 rfl) ?_ | refine JO_v (V_slice (tb := tb) (lo := 0) (hi := lit) rfl rfl rfl rfl rfl (by rfl) (by rfl) (fun w hw => ⟨by omega, by omega⟩) rfl) ?_ | refine JO_v (V_slice (tb := tb) (lo := lit) (hi := lit + sp) rfl rfl rfl rfl rfl (by rfl) (by rfl) (fun w hw => ⟨by omega, by omega⟩) rfl) ?_) | (refine sx ?_; try intro _))
          refine JS_ret Tryz.func136 rfl rfl fun w hw => ⟨rfl, ?_⟩
          rw [hF]
          exact ⟨by decide, a', _, _, _, dS hw⟩
        | false =>
        have hk1 : OKL (l.take lit) := Classical.byContradiction fun h => by have := hb1.2 h; cases this
        rw [if_neg (fun h => h hk1)] at hF
        repeat (first | (apply gJO; first | refine JO_v (V_loadC (tb := tb) rfl (vec_rd (e := 5) (size := 1) (v := .slice p (lit + sp) c) (n := lit + sp) (cs := ints .u8 l) (by repeat (first | apply List.Mem.head | apply List.Mem.tail))) rfl rfl g256 rfl) ?_ | refine JO_v (V_slice (tb := tb) (lo := 0) (hi := lit) rfl rfl rfl rfl rfl (by rfl) (by rfl) (fun w hw => ⟨by omega, by omega⟩) rfl) ?_ | refine JO_v (V_slice (tb := tb) (lo := lit) (hi := lit + sp) rfl rfl rfl rfl rfl (by rfl) (by rfl) (fun w hw => ⟨by omega, by omega⟩) rfl) ?_) | (refine sx ?_; try intro _))
        simp only [e2]
        refine JO_call Tryz.call186 rfl rfl fun w hw => (RBad_c _ _ sp (l.drop lit) (Rd_weak R2 fun w hw => dS hw) hl2 ho2 (by omega) w hw).mono ?_
        rintro e w' ⟨b2, rfl, hb2, hw'⟩
        refine ⟨_, rfl, _, hw', ?_⟩
        clear hw' hw w w'
        cases b2 with
        | true =>
          rw [if_pos (hb2.1 rfl)] at hF
          repeat (first | (apply gJO; first | refine JO_v (V_loadC (tb := tb) rfl (vec_rd (e := 5) (size := 1) (v := .slice p (lit + sp) c) (n := lit + sp) (cs := ints .u8 l) (by repeat (first | apply List.Mem.head | apply List.Mem.tail))) rfl rfl g256 rfl) ?_ | refine JO_v (V_slice (tb := tb) (lo := 0) (hi := lit) rfl rfl rfl rfl rfl (by rfl) (by rfl) (fun w hw => ⟨by omega, by omega⟩) rfl) ?_ | refine JO_v (V_slice (tb := tb) (lo := lit) (hi := lit + sp) rfl rfl rfl rfl rfl (by rfl) (by rfl) (fun w hw => ⟨by omega, by omega⟩) rfl) ?_) | (refine sx ?_; try intro _))
          refine JS_ret Tryz.func136 rfl rfl fun w hw => ⟨rfl, ?_⟩
          rw [hF]
          exact ⟨by decide, a', _, _, _, dS hw⟩
        | false =>
        have hk2 : OKL (l.drop lit) := Classical.byContradiction fun h => by have := hb2.2 h; cases this
        rw [if_neg (fun h => h hk2)] at hF
        repeat (first | (apply gQO; first | refine QO_v rfl (V_slice (tb := tb) (lo := 0) (hi := lit) rfl rfl rfl rfl rfl (by rfl) (by rfl) (fun w hw => ⟨by omega, by omega⟩) rfl) ?_ | refine QO_v rfl (V_slice (tb := tb) (lo := lit) (hi := lit + sp) rfl rfl rfl rfl rfl (by rfl) (by rfl) (fun w hw => ⟨by omega, by omega⟩) rfl) ?_) | (apply gJO; first | refine JO_v (V_loadC (tb := tb) rfl (vec_rd (e := 5) (size := 1) (v := .slice p (lit + sp) c) (n := lit + sp) (cs := ints .u8 l) (by repeat (first | apply List.Mem.head | apply List.Mem.tail))) rfl rfl g256 rfl) ?_ | refine JO_v (V_slice (tb := tb) (lo := 0) (hi := lit) rfl rfl rfl rfl rfl (by rfl) (by rfl) (fun w hw => ⟨by omega, by omega⟩) rfl) ?_ | refine JO_v (V_slice (tb := tb) (lo := lit) (hi := lit + sp) rfl rfl rfl rfl rfl (by rfl) (by rfl) (fun w hw => ⟨by omega, by omega⟩) rfl) ?_) | (refine sx ?_; try intro _))
        simp only [subB_0, Nat.sub_zero, e2]
        refine QO_call Tryz.call134 rfl rfl fun w hw => (RBlk_c hK a' ha' hm2 ho p (subB p lit c 1) c (c - lit) lit sp (l.take lit) (l.drop lit) R1 hl1 ho1 hk1 R2 hl2 ho2 hk2 w hw).mono ?_
        rintro e w' ⟨rfl, r, hr, hrp⟩
        rw [itF_of hr] at hF
        clear hr
        have hrp2 := RP_drop (RP_drop hrp)
        clear hrp
        subst hF
        unfold RP at hrp2
        cases F with
        | err E =>
          obtain ⟨hE, a2, po2, co2, o2, hw'⟩ := hrp2
          refine ⟨_, rfl, _, hw', .inr rfl, ?_⟩
          clear hw' hw w w'
          repeat (refine sx ?_; try intro _)
          exact JS_fin Tryz.func136 rfl rfl fun w hw => ⟨rfl, hE, a2, po2, co2, o2, hw⟩
        | ok a2 o2 =>
          obtain ⟨h1, h2, po2, co2, hw'⟩ := hrp2
          refine ⟨_, rfl, _, hw', .inr rfl, ?_⟩
          clear hw' hw w w'
          repeat (refine sx ?_; try intro _)
          exact JS_fin Tryz.func136 rfl rfl fun w hw => ⟨rfl, h1, h2, po2, co2, hw⟩
    · intro K
      by_cases hbig : 286 < lit ∨ 30 < sp
      · obtain ⟨E2, hE2, hF2, heq⟩ : ∃ E2 : Int, E2 ≠ 0 ∧ F = .err E2 ∧ (if E = 0 then 62 else E) = E2 := by
          rcases hmode with ⟨rfl, ha4, hF⟩ | ⟨hE, hF⟩
          · exact ⟨62, by decide, by rw [hF, des1_b, if_pos hbig], rfl⟩
          · exact ⟨E, hE, hF, if_neg hE⟩
        have : (286 < lit) ∨ (¬ 286 < lit ∧ 30 < sp) := by omega
        rcases this with h | ⟨h, h'⟩
        all_goals (repeat (refine sx ?_; try intro _))
        all_goals (refine JO_call Tryz.call183 rfl rfl fun w hw => (RFail_c 62 a3 E w hw).mono ?_)
        all_goals (rw [heq]; rintro e w' ⟨rfl, hw'⟩; refine ⟨_, rfl, _, hw', ?_⟩; clear hw' hw w w'; (repeat (first | (apply gJR; (refine sx ?_; try intro _)) | (apply gJO; (refine sx ?_; try intro _)))))
        all_goals ((apply JS_seq; apply JS_region; repeat (first | (apply gJR; (refine sx ?_; try intro _)) | (apply gJO; (refine sx ?_; try intro _)))))
        all_goals ((apply JS_seq; apply JS_region; repeat (first | (apply gJR; (refine sx ?_; try intro _)) | (apply gJO; (refine sx ?_; try intro _)))))
        all_goals (rename_i p5 p6; apply JS_seq; apply JS_seq; apply JS_region; (repeat (first | (apply gJR; (refine sx ?_; try intro _)) | (apply gJO; (refine sx ?_; try intro _)))); apply JS_block; apply JS_loop'; apply JS_seq; apply JS_seq; apply JS_region; (repeat (first | (apply gJR; (refine sx ?_; try intro _)) | (apply gJO; (refine sx ?_; try intro _)))); refine JS_condF rfl ?_; refine JS_exit rfl ?_)
        all_goals (exact JS_to5 K E2 a3 (List.replicate 19 0) (some p6) 19 ⟨rfl, OKB_rep ⟨by decide, by decide⟩ 19, .inr ⟨hE2, hF2⟩⟩ (by repeat (first | exact trivial | refine ⟨rfl, ?_⟩ | refine ⟨lookI rfl (by omega), ?_⟩)) (fun w hw => strL_ins [vec 5 1 (.slice (some p6) 19 19) 19 (ints .u8 (List.replicate 19 0))] (dS hw)))
      rcases hmode with ⟨rfl, ha4, hF⟩ | ⟨hE, hF⟩
      rotate_left
      · (apply JS_seq; apply JS_seq; apply JS_region; (repeat (first | (apply gJR; (refine sx ?_; try intro _)) | (apply gJO; (refine sx ?_; try intro _)))); refine JS_condF rfl ?_; apply JS_skip)
        (apply JS_seq; apply JS_region; repeat (first | (apply gJR; (refine sx ?_; try intro _)) | (apply gJO; (refine sx ?_; try intro _))))
        (apply JS_seq; apply JS_region; repeat (first | (apply gJR; (refine sx ?_; try intro _)) | (apply gJO; (refine sx ?_; try intro _))))
        rename_i p5 p6
        apply JS_seq; apply JS_seq; apply JS_region; (repeat (first | (apply gJR; (refine sx ?_; try intro _)) | (apply gJO; (refine sx ?_; try intro _)))); apply JS_block; apply JS_loop'; apply JS_seq; apply JS_seq; apply JS_region; (repeat (first | (apply gJR; (refine sx ?_; try intro _)) | (apply gJO; (refine sx ?_; try intro _)))); refine JS_condF rfl ?_; refine JS_exit rfl ?_
        exact JS_to5 K E a3 (List.replicate 19 0) (some p6) 19 ⟨rfl, OKB_rep ⟨by decide, by decide⟩ 19, .inr ⟨hE, hF⟩⟩ (by repeat (first | exact trivial | refine ⟨rfl, ?_⟩ | refine ⟨lookI rfl (by omega), ?_⟩)) (fun w hw => strL_ins [vec 5 1 (.slice (some p6) 19 19) 19 (ints .u8 (List.replicate 19 0))] (dS hw))
      rw [des1_b, if_neg hbig] at hF
      (apply JS_seq; apply JS_seq; apply JS_region; (repeat (first | (apply gJR; (refine sx ?_; try intro _)) | (apply gJO; (refine sx ?_; try intro _)))); refine JS_condF rfl ?_; apply JS_skip)
      (apply JS_seq; apply JS_region; repeat (first | (apply gJR; (refine sx ?_; try intro _)) | (apply gJO; (refine sx ?_; try intro _))))
      (apply JS_seq; apply JS_region; repeat (first | (apply gJR; (refine sx ?_; try intro _)) | (apply gJO; (refine sx ?_; try intro _))))
      rename_i p5 p6
      apply JS_seq; apply JS_seq; apply JS_region; (repeat (first | (apply gJR; (refine sx ?_; try intro _)) | (apply gJO; (refine sx ?_; try intro _))))
      refine JS_block ?_
      refine JS_loop1 (fun (i : Nat) => [(0, .pointer (some ⟨bs, 0, none⟩)), (2, .int .i64 lit), (3, .int .i64 sp), (4, .int .i64 ln), (5, .slice (some p5) 19 19), (6, .slice (some p6) 19 19), (7, .int .i64 i)])
        (fun i => strL bs q d m B lim (a3 + 3 * i) po co o 0 (vec 5 1 (.slice (some p6) 19 19) 19 (ints .u8 (ccl (bitB B 0) a3 i)) :: vec 3 1 (.slice (some p5) 19 19) 19 (ints .i64 ordI) :: H)) (fun i => i ≤ ln ∧ a3 + 3 * i ≤ 8 * m) (fun i => ln - i) 0 ⟨Nat.zero_le _, by omega⟩ (by repeat (first | exact trivial | refine ⟨rfl, ?_⟩ | refine ⟨lookI rfl (by omega), ?_⟩))
        (fun w h => strL_ins [vec 5 1 (.slice (some p6) 19 19) 19 (ints .u8 (ccl (bitB B 0) a3 0)), vec 3 1 (.slice (some p5) 19 19) 19 (ints .i64 ordI)] h) ?_
      intro i ⟨hi, hai⟩ again
      have hcc := ccl_len (bitB B 0) a3 i
      have hco := ccl_okb (bitB B 0) (bitB_01 B 0) a3 i
      by_cases hil : i < ln
      · have gi : (ints .i64 ordI)[i]? = some (.int .i64 (ordI.getD i 0)) := ints_get (by show i < 19; omega)
        have ho19 := ordL_get i (by omega)
        have hcs : ccl (bitB B 0) a3 (i + 1) = (ccl (bitB B 0) a3 i).set (ordL.getD i 0) (nbt (bitB B 0) (a3 + 3 * i) 3) := rfl
        have hco1 := ccl_okb (bitB B 0) (bitB_01 B 0) a3 (i + 1)
        rw [ordI_get i (by omega)] at gi
        generalize ordL.getD i 0 = k at *
        generalize ccl (bitB B 0) a3 i = C at *
        apply JS_seq; apply JS_seq; apply JS_region; (repeat (first | (apply gJR; (refine sx ?_; try intro _)) | (apply gJO; (refine sx ?_; try intro _))))
        refine JS_condT rfl ?_
        apply JS_skip
        apply JS_seq
        apply JS_block
        refine JS_order2 [vec 5 1 (.slice (some p6) 19 19) 19 (ints .u8 C), vec 3 1 (.slice (some p5) 19 19) 19 (ints .i64 ordI)] [0, 1, 2, 3, 4, 5, 6, 7, 8, 9] [0] (fun w hw => St.sub (by repeat (first | exact List.nil_sublist _ | apply List.Sublist.cons_cons | apply List.Sublist.cons)) hw) (Picks.cons rfl (Picks.cons rfl (Picks.cons rfl (Picks.cons rfl (Picks.cons rfl (Picks.cons rfl (Picks.cons rfl (Picks.cons rfl (Picks.cons rfl (Picks.cons rfl (Picks.nil))))))))))) (by kernel_rfl) (by kernel_rfl) rfl (by decide +kernel) ?_
        repeat (first | (apply gQR2; apply QR2_un) | (apply gQO2; first | refine QO2_v rfl (V_index (tb := tb) (j := i) rfl rfl rfl rfl (Rd.sl (vec_rd (cs := ints .i64 ordI) (by repeat (first | apply List.Mem.head | apply List.Mem.tail)))) (by omega) (by (try simp only [tn, tna, tn1, tn2, tn3, tn4, tnd16, tnd8, Int.reduceToNat]); first | exact Nat.mul_one _ | exact rfl) rfl) ?_ | refine QO2_v rfl (V_loadC (tb := tb) rfl (vec_rd (cs := ints .i64 ordI) (by repeat (first | apply List.Mem.head | apply List.Mem.tail))) rfl rfl gi rfl) ?_ | refine aQ2 ?_))
        refine QO2_callE Tryz.call132 rfl rfl fun w hw => (RGrp4_c hK (a3 + 3 * i) 3 (by omega) (by omega) hm2 w hw).mono ?_
        rintro e w' (⟨h, rfl, hw'⟩ | ⟨h1, he, hw'⟩)
        · refine .inl ⟨_, rfl, [vec 5 1 (.slice (some p6) 19 19) 19 (ints .u8 C), vec 3 1 (.slice (some p5) 19 19) 19 (ints .i64 ordI)], _, hw', fun w hw => St.sub (by repeat (first | exact List.nil_sublist _ | apply List.Sublist.cons_cons | apply List.Sublist.cons)) hw, .inl fun w hw => hw, ?_⟩
          clear hw' hw w w' again
          rw [if_pos (by omega)] at hF
          repeat (first | (apply gQR2; first | apply QR2_un | apply QR2_nil) | (apply gQO2; first | refine QO2_v rfl (V_index (tb := tb) (j := k) rfl rfl rfl rfl (Rd.sl (vec_rd (cs := ints .u8 C) (by repeat (first | apply List.Mem.head | apply List.Mem.tail)))) (by omega) (by (try simp only [tn, tna, tn1, tn2, tn3, tn4, tnd16, tnd8, Int.reduceToNat]); first | exact Nat.mul_one _ | exact rfl) rfl) ?_ | refine aQ2 ?_ | refine aK2S rfl ?_))
          apply JS_inBlock; apply JS_region; (repeat (first | (apply gJR; (refine sx ?_; try intro _)) | (apply gJO; (refine sx ?_; try intro _))))
          apply JS_inLoop; apply JS_seq; apply JS_seq; apply JS_region
          by_cases hnx : (i : Int) + 1 < ln
          all_goals ((repeat (first | (apply gJR; (refine sx ?_; try intro _)) | (apply gJO; (refine sx ?_; try intro _)))); refine JS_condF rfl ?_; refine JS_exit rfl ?_)
          all_goals (exact JS_to5 K 20 (a3 + 3 * i) (C.set k 0) (some p6) 19 ⟨by rw [List.length_set]; exact hcc, OKB_set hco ⟨by decide, by decide⟩ k, .inr ⟨by decide, hF⟩⟩ (by repeat (first | exact trivial | refine ⟨rfl, ?_⟩ | refine ⟨lookI rfl (by omega), ?_⟩)) (fun w hw => dS hw))
        obtain ⟨x, hx⟩ := Int.eq_ofNat_of_zero_le (nbt_bd (bitB B 0) (bitB_01 B 0) (a3 + 3 * i) 3).1
        have hx1 := (nbt_bd (bitB B 0) (bitB_01 B 0) (a3 + 3 * i) 3).2
        rw [hx] at he hx1 hcs
        subst he
        have hx2 : (x : Int) < 8 := hx1
        refine .inl ⟨_, rfl, [vec 5 1 (.slice (some p6) 19 19) 19 (ints .u8 C), vec 3 1 (.slice (some p5) 19 19) 19 (ints .i64 ordI)], _, hw', fun w hw => St.sub (by repeat (first | exact List.nil_sublist _ | apply List.Sublist.cons_cons | apply List.Sublist.cons)) hw, .inl fun w hw => hw, ?_⟩
        clear hw' hw w w'
        repeat (first | (apply gQR2; first | apply QR2_un | apply QR2_nil) | (apply gQO2; first | refine QO2_v rfl (V_index (tb := tb) (j := k) rfl rfl rfl rfl (Rd.sl (vec_rd (cs := ints .u8 C) (by repeat (first | apply List.Mem.head | apply List.Mem.tail)))) (by omega) (by (try simp only [tn, tna, tn1, tn2, tn3, tn4, tnd16, tnd8, Int.reduceToNat]); first | exact Nat.mul_one _ | exact rfl) rfl) ?_ | refine aQ2 ?_ | refine aK2S rfl ?_))
        repeat (refine sx ?_; try intro _)
        exact JS_again1 again (i + 1) ⟨by omega, by omega⟩ (by omega) (by repeat (first | exact trivial | refine ⟨rfl, ?_⟩ | refine ⟨lookI rfl (by omega), ?_⟩)) (fun w hw => by rw [hcs]; exact hw)
      · obtain rfl : i = ln := by omega
        clear again
        rw [if_neg (by omega)] at hF
        apply JS_seq; apply JS_seq; apply JS_region; (repeat (first | (apply gJR; (refine sx ?_; try intro _)) | (apply gJO; (refine sx ?_; try intro _))))
        refine JS_condF rfl ?_
        refine JS_exit rfl ?_
        exact JS_to5 K 0 (a3 + 3 * i) (ccl (bitB B 0) a3 i) (some p6) 19 ⟨hcc, hco, .inl ⟨rfl, hai, hF⟩⟩ (by repeat (first | exact trivial | refine ⟨rfl, ?_⟩ | refine ⟨lookI rfl (by omega), ?_⟩)) (fun w hw => dS hw)
  · intro K
    unfold desF at hFd
    obtain ⟨n1, hn1⟩ := Int.eq_ofNat_of_zero_le (nbt_bd (bitB B 0) (bitB_01 B 0) a 5).1
    have hb1 := (nbt_bd (bitB B 0) (bitB_01 B 0) a 5).2
    obtain ⟨n2, hn2⟩ := Int.eq_ofNat_of_zero_le (nbt_bd (bitB B 0) (bitB_01 B 0) (a + 5) 5).1
    have hb2 := (nbt_bd (bitB B 0) (bitB_01 B 0) (a + 5) 5).2
    obtain ⟨n3, hn3⟩ := Int.eq_ofNat_of_zero_le (nbt_bd (bitB B 0) (bitB_01 B 0) (a + 10) 4).1
    have hb3 := (nbt_bd (bitB B 0) (bitB_01 B 0) (a + 10) 4).2
    rw [hn1] at hb1
    rw [hn2] at hb2
    rw [hn3] at hb3
    have hb1' : (n1 : Int) < 32 := hb1
    have hb2' : (n2 : Int) < 32 := hb2
    have hb3' : (n3 : Int) < 16 := hb3
    rw [hn1, hn2, hn3, show ((n1 : Int) + 257).toNat = n1 + 257 by omega, show ((n2 : Int) + 1).toNat = n2 + 1 by omega, show ((n3 : Int) + 4).toNat = n3 + 4 by omega] at hFd
    repeat (refine sx ?_; try intro _)
    refine JO_call Tryz.call132 rfl rfl fun w hw => (RGrp4_c hK a 5 (by omega) ha hm2 w hw).mono ?_
    rintro e w' (⟨h, rfl, hw'⟩ | ⟨h1, he, hw'⟩)
    · refine ⟨_, rfl, _, hw', ?_⟩
      clear hw' hw w w'
      rw [if_pos h] at hFd
      repeat (refine sx ?_; try intro _)
      refine JO_call Tryz.call132 rfl rfl fun w hw => (RGrpE_c 5 a 20 (by decide) w hw).mono ?_
      rintro e w' ⟨rfl, hw'⟩
      refine ⟨_, rfl, _, hw', ?_⟩
      clear hw' hw w w'
      repeat (refine sx ?_; try intro _)
      refine JO_call Tryz.call132 rfl rfl fun w hw => (RGrpE_c 4 a 20 (by decide) w hw).mono ?_
      rintro e w' ⟨rfl, hw'⟩
      refine ⟨_, rfl, _, hw', ?_⟩
      clear hw' hw w w'
      (repeat (first | (apply gJR; (refine sx ?_; try intro _)) | (apply gJO; (refine sx ?_; try intro _))))
      exact JS_to5 K 20 a 257 1 4 ⟨by omega, by omega, by omega, by omega, by omega, by omega, .inr ⟨by decide, hFd.symm⟩⟩ (by repeat (first | exact trivial | refine ⟨rfl, ?_⟩ | refine ⟨lookI rfl (by omega), ?_⟩)) (fun w hw => hw)
    rw [hn1] at he; subst he
    refine ⟨_, rfl, _, hw', ?_⟩
    clear hw' hw w w'
    rw [if_neg (by omega)] at hFd
    repeat (refine sx ?_; try intro _)
    refine JO_call Tryz.call132 rfl rfl fun w hw => (RGrp4_c hK (a + 5) 5 (by omega) h1 hm2 w hw).mono ?_
    rintro e w' (⟨h, rfl, hw'⟩ | ⟨h2, he, hw'⟩)
    · refine ⟨_, rfl, _, hw', ?_⟩
      clear hw' hw w w'
      rw [if_pos (by omega)] at hFd
      repeat (refine sx ?_; try intro _)
      refine JO_call Tryz.call132 rfl rfl fun w hw => (RGrpE_c 4 (a + 5) 20 (by decide) w hw).mono ?_
      rintro e w' ⟨rfl, hw'⟩
      refine ⟨_, rfl, _, hw', ?_⟩
      clear hw' hw w w'
      (repeat (first | (apply gJR; (refine sx ?_; try intro _)) | (apply gJO; (refine sx ?_; try intro _))))
      exact JS_to5 K 20 (a + 5) (n1 + 257) 1 4 ⟨by omega, by omega, by omega, by omega, by omega, by omega, .inr ⟨by decide, hFd.symm⟩⟩ (by repeat (first | exact trivial | refine ⟨rfl, ?_⟩ | refine ⟨lookI rfl (by omega), ?_⟩)) (fun w hw => hw)
    rw [hn2] at he; subst he
    refine ⟨_, rfl, _, hw', ?_⟩
    clear hw' hw w w'
    rw [if_neg (by omega)] at hFd
    repeat (refine sx ?_; try intro _)
    refine JO_call Tryz.call132 rfl rfl fun w hw => (RGrp4_c hK (a + 10) 4 (by omega) h2 hm2 w hw).mono ?_
    rintro e w' (⟨h, rfl, hw'⟩ | ⟨h3, he, hw'⟩)
    · refine ⟨_, rfl, _, hw', ?_⟩
      clear hw' hw w w'
      rw [if_pos (by omega)] at hFd
      (repeat (first | (apply gJR; (refine sx ?_; try intro _)) | (apply gJO; (refine sx ?_; try intro _))))
      exact JS_to5 K 20 (a + 10) (n1 + 257) (n2 + 1) 4 ⟨by omega, by omega, by omega, by omega, by omega, by omega, .inr ⟨by decide, hFd.symm⟩⟩ (by repeat (first | exact trivial | refine ⟨rfl, ?_⟩ | refine ⟨lookI rfl (by omega), ?_⟩)) (fun w hw => hw)
    rw [hn3] at he; subst he
    refine ⟨_, rfl, _, hw', ?_⟩
    clear hw' hw w w'
    rw [if_neg (by omega)] at hFd
    (repeat (first | (apply gJR; (refine sx ?_; try intro _)) | (apply gJO; (refine sx ?_; try intro _))))
    exact JS_to5 K 0 (a + 14) (n1 + 257) (n2 + 1) (n3 + 4) ⟨by omega, by omega, by omega, by omega, by omega, by omega, .inl ⟨rfl, h3, hFd.symm⟩⟩ (by repeat (first | exact trivial | refine ⟨rfl, ?_⟩ | refine ⟨lookI rfl (by omega), ?_⟩)) (fun w hw => hw)
end
end Go.Proofs.YteelffkghidpfaaGreat

namespace Sx
open Go
theorem JS_joinQ51 {P : Program} {f n : Nat} {R : Ending → World → Prop} {D : List Deferred} {w0 : World} {k : List Item} {ov : Ov} {H : List Asn} {α β γ δ ε : Type} {c1 rest : Code} (o : α → β → γ → δ → ε → Ov) (H' : α → β → γ → δ → ε → List Asn) (I : α → β → γ → δ → ε → Prop)
    (cont : ∀ (x1 : α) (x2 : β) (x3 : γ) (x4 : δ) (x5 : ε), I x1 x2 x3 x4 x5 → JS P f n R D w0 (.code rest :: k) (o x1 x2 x3 x4 x5) (H' x1 x2 x3 x4 x5))
    (h : (∀ (x1 : α) (x2 : β) (x3 : γ) (x4 : δ) (x5 : ε), I x1 x2 x3 x4 x5 → JS P f n R D w0 (.code rest :: k) (o x1 x2 x3 x4 x5) (H' x1 x2 x3 x4 x5)) → JS P f n R D w0 (.code (.seq c1 rest) :: k) ov H) :
    JS P f n R D w0 (.code (.seq c1 rest) :: k) ov H := h cont
end Sx
namespace Go.Proofs.YteelffkghidpfaaGreat
open Sx Go
set_option linter.unusedVariables false
set_option linter.unusedSimpArgs false
set_option maxRecDepth 100000
attribute [local irreducible] syA fc tk cds
theorem reps_set (x : Int) (k n : Nat) (h : k < n) : (reps x k n).set k x = reps x (k + 1) n := by
  unfold reps
  rw [List.set_append_right _ _ (by simp)]
  simp only [List.length_replicate, Nat.sub_self]
  obtain ⟨d, hd⟩ : ∃ d, n - k = d + 1 := ⟨n - k - 1, by omega⟩
  rw [hd, show n - (k + 1) = d by omega, List.replicate_succ, List.set_cons_zero, List.replicate_succ', List.append_assoc]
  rfl
section
variable {w0 : World} {H : List Asn}
set_option maxRecDepth 10000 in
set_option maxHeartbeats 4000000 in
theorem RIRead_c (p : Option Addr) (c m : Nat) (B : List Int) (hr : Rd w0 H (.slice p m c) m (ints .u8 B)) (hm : B.length = m) (hB : OKB B) (hm2 : m ≤ 17592186044410) (L : Int) (hL : -9223372036854775808 ≤ L ∧ L < 9223372036854775808) (w : World) (hw : St w0 H w) :
    Calls Tryz.prog 96 #[.slice p m c, .int .i64 L] w fun e w' => ((L < 0 ∨ 1048576 < L) ∧ e = .returned (.tuple #[.slice none 0 0, .int .i64 0, .int .i64 1]) ∧ St w0 H w') ∨
      (0 ≤ L ∧ L ≤ 1048576 ∧ ∃ r, ALLR B L.toNat r ∧ resP r (fun x => x ≠ 0 ∧ e = .returned (.tuple #[.slice none 0 0, .int .i64 0, .int .i64 x]) ∧ St w0 H w')
        (fun a o => a ≤ 8 * m ∧ o.length ≤ L.toNat ∧ ∃ p c, e = .returned (.tuple #[.slice p o.length c, .int .i64 ((a + 7) / 8 : Nat), .int .i64 0]) ∧ St w0 (vec 5 1 (.slice p o.length c) o.length (ints .u8 o) :: H) w')) := by
  refine enter (vs := [.slice p m c, .int .i64 L]) Tryz.func96 rfl rfl rfl hw ?_
  subst hm
  obtain ⟨m, hm⟩ : ∃ m, B.length = m := ⟨_, rfl⟩
  unfold ALLR
  rw [hm] at hr hm2 ⊢
  by_cases hbad : L < 0 ∨ 1048576 < L
  · have : (L < 0) ∨ (¬ L < 0 ∧ 1048576 < L) := by omega
    rcases this with h | ⟨h, h'⟩
    · repeat (refine sx ?_; try intro _)
      exact JS_ret Tryz.func96 rfl rfl fun w hw => .inl ⟨hbad, rfl, hw⟩
    · repeat (refine sx ?_; try intro _)
      exact JS_ret Tryz.func96 rfl rfl fun w hw => .inl ⟨hbad, rfl, hw⟩
  obtain ⟨lim, rfl⟩ : ∃ lim : Nat, L = lim := ⟨L.toNat, by omega⟩
  have hK : InfK m B lim := ⟨hm, hB, by omega, by omega⟩
  have hl := hK.hl
  rw [Int.toNat_natCast]
  repeat (refine sx ?_; try intro _)
  refine JO_call Tryz.call131 rfl rfl fun w hw => (Bits4_c p c m B hr hm hB hm2 w hw).mono ?_
  rintro e w' ⟨q, d, rfl, hw'⟩
  refine ⟨_, rfl, _, hw', ?_⟩
  clear hw' hw w w'
  (repeat (first | (apply gJR; (refine sx ?_; try intro _)) | (apply gJO; (refine sx ?_; try intro _))))
  rename_i bs
  apply JS_seq; apply JS_region; (repeat (first | (apply gJR; (refine sx ?_; try intro _)) | (apply gJO; (refine sx ?_; try intro _))))
  refine JS_joinQ51 (fun (E : Int) (a : Nat) (o : List Int) (po : Option Addr) (co : Nat) => [(7, .pointer (some ⟨bs, 0, none⟩))]) (fun E a o po co => strL bs q d m B lim a po co o E H)
    (fun E a o po co => (E = 0 ∧ a ≤ 8 * m ∧ o.length ≤ lim ∧ It (rdF (bitB B 0) (8 * m) lim) 0 [] (.ok a o)) ∨ (E ≠ 0 ∧ It (rdF (bitB B 0) (8 * m) lim) 0 [] (.err E))) ?_ ?_
  · intro E a o po co hmode
    rcases hmode with ⟨rfl, ha, ho, hIt⟩ | ⟨hE, hIt⟩
    · repeat (refine sx ?_; try intro _)
      refine JS_ret Tryz.func96 rfl rfl fun w hw => .inr ⟨by omega, by omega, .ok a o, hIt, ha, ho, po, co, ?_, dS hw⟩
      have hx : ((a : Int) + 7) / 8 = (((a + 7) / 8 : Nat) : Int) := by omega
      rw [← hx]; rfl
    · repeat (refine sx ?_; try intro _)
      exact JS_ret Tryz.func96 rfl rfl fun w hw => .inr ⟨by omega, by omega, .err E, hIt, hE, rfl, dS hw⟩
  intro K
  apply JS_seq
  refine JS_block ?_
  refine JS_loop5 (fun (a : Nat) (o : List Int) (po : Option Addr) (co : Nat) (last : Int) => [(7, .pointer (some ⟨bs, 0, none⟩)), (8, .int .i64 last)])
    (fun a o po co _ => strL bs q d m B lim a po co o 0 H)
    (fun a o _ _ last => a ≤ 8 * m ∧ o.length ≤ lim ∧ ((last = 0 ∧ ∀ r, It (rdF (bitB B 0) (8 * m) lim) a o r → It (rdF (bitB B 0) (8 * m) lim) 0 [] r) ∨ (last ≠ 0 ∧ It (rdF (bitB B 0) (8 * m) lim) 0 [] (.ok a o))))
    (fun a _ _ _ _ => 8 * m - a) 0 [] none 0 0 ⟨Nat.zero_le _, Nat.zero_le _, .inl ⟨rfl, fun _ h => h⟩⟩ (by repeat (first | exact trivial | refine ⟨rfl, ?_⟩ | refine ⟨lookI rfl (by omega), ?_⟩)) (fun w h => (St.nilvec (e := 5) (sz := 1) (base := none) h).perm (List.Perm.swap _ _ _)) ?_
  intro a o po co last ⟨ha, ho, hinv⟩ again
  rcases hinv with ⟨rfl, hinv⟩ | ⟨hl0, hfin⟩
  · have hF : rdF (bitB B 0) (8 * m) lim a o = if 8 * m < a + 1 then .err 20
      else if 8 * m < a + 3 then .err 20
      else match kndF (bitB B 0) (8 * m) lim (nbt (bitB B 0) (a + 1) 2) (a + 3) o with
        | .err e => .err e
        | .ok a' o' => if nbt (bitB B 0) a 1 = 0 then .go a' o' else .stop a' o' := rfl
    obtain ⟨x1, hx1⟩ := Int.eq_ofNat_of_zero_le (nbt_bd (bitB B 0) (bitB_01 B 0) a 1).1
    have hb1 := (nbt_bd (bitB B 0) (bitB_01 B 0) a 1).2
    obtain ⟨k, hk⟩ := Int.eq_ofNat_of_zero_le (nbt_bd (bitB B 0) (bitB_01 B 0) (a + 1) 2).1
    have hb2 := (nbt_bd (bitB B 0) (bitB_01 B 0) (a + 1) 2).2
    rw [hx1] at hb1 hF
    rw [hk] at hb2 hF
    have hb1 : (x1 : Int) < 2 := hb1
    have hb2 : (k : Int) < 4 := hb2
    repeat (refine sx ?_; try intro _)
    refine JO_call Tryz.call132 rfl rfl fun w hw => (RGrp4_c hK a 1 (by omega) ha hm2 w hw).mono ?_
    rintro e w' (⟨h, rfl, hw'⟩ | ⟨h1, he, hw'⟩)
    · refine ⟨_, rfl, _, hw', ?_⟩
      clear hw' hw w w' again
      repeat (refine sx ?_; try intro _)
      refine JO_call Tryz.call132 rfl rfl fun w hw => (RGrpE_c 2 a 20 (by decide) w hw).mono ?_
      rintro e w' ⟨rfl, hw'⟩
      refine ⟨_, rfl, _, hw', ?_⟩
      clear hw' hw w w'
      (repeat (first | (apply gJR; (refine sx ?_; try intro _)) | (apply gJO; (refine sx ?_; try intro _))))
      apply JS_seq; apply JS_seq; apply JS_region; (repeat (first | (apply gJR; (refine sx ?_; try intro _)) | (apply gJO; (refine sx ?_; try intro _))))
      refine JS_condT rfl ?_
      refine JS_exit rfl ?_
      exact JS_to5 K 20 a o po co (.inr ⟨by decide, hinv _ (.err (by rw [hF, if_pos h]))⟩) (by repeat (first | exact trivial | refine ⟨rfl, ?_⟩ | refine ⟨lookI rfl (by omega), ?_⟩)) (fun w hw => hw)
    rw [hx1] at he; subst he
    refine ⟨_, rfl, _, hw', ?_⟩
    clear hw' hw w w'
    rw [if_neg (by omega)] at hF
    repeat (refine sx ?_; try intro _)
    refine JO_call Tryz.call132 rfl rfl fun w hw => (RGrp4_c hK (a + 1) 2 (by omega) h1 hm2 w hw).mono ?_
    rintro e w' (⟨h, rfl, hw'⟩ | ⟨h2, he, hw'⟩)
    · refine ⟨_, rfl, _, hw', ?_⟩
      clear hw' hw w w' again
      (repeat (first | (apply gJR; (refine sx ?_; try intro _)) | (apply gJO; (refine sx ?_; try intro _))))
      apply JS_seq; apply JS_seq; apply JS_region; (repeat (first | (apply gJR; (refine sx ?_; try intro _)) | (apply gJO; (refine sx ?_; try intro _))))
      refine JS_condT rfl ?_
      refine JS_exit rfl ?_
      exact JS_to5 K 20 (a + 1) o po co (.inr ⟨by decide, hinv _ (.err (by rw [hF, if_pos (by omega)]))⟩) (by repeat (first | exact trivial | refine ⟨rfl, ?_⟩ | refine ⟨lookI rfl (by omega), ?_⟩)) (fun w hw => hw)
    rw [hk] at he; subst he
    refine ⟨_, rfl, _, hw', ?_⟩
    clear hw' hw w w'
    rw [if_neg (by omega)] at hF
    have hgo : ∀ a' o', kndF (bitB B 0) (8 * m) lim k (a + 3) o = .ok a' o' → a' ≤ 8 * m → o'.length ≤ lim → (a' ≤ 8 * m ∧ o'.length ≤ lim ∧ (((x1 : Int) = 0 ∧ ∀ r, It (rdF (bitB B 0) (8 * m) lim) a' o' r → It (rdF (bitB B 0) (8 * m) lim) 0 [] r) ∨ ((x1 : Int) ≠ 0 ∧ It (rdF (bitB B 0) (8 * m) lim) 0 [] (.ok a' o')))) ∧ 8 * m - a' < 8 * m - a := by
      intro a' o' hkn h3 h4
      have hge := kndF_ge hkn
      rw [hkn] at hF
      simp only at hF
      refine ⟨⟨h3, h4, ?_⟩, by omega⟩
      by_cases h0 : (x1 : Int) = 0
      · rw [if_pos h0] at hF
        exact .inl ⟨h0, fun r hr => hinv r (.go hF hr)⟩
      · rw [if_neg h0] at hF
        exact .inr ⟨h0, hinv _ (.stop hF)⟩
    have herr : ∀ r, kndF (bitB B 0) (8 * m) lim k (a + 3) o = .err r → It (rdF (bitB B 0) (8 * m) lim) 0 [] (.err r) := by
      intro r hkn
      rw [hkn] at hF
      exact hinv _ (.err hF)
    clear hF hinv
    rcases (show k = 0 ∨ k = 1 ∨ k = 2 ∨ k = 3 by omega) with rfl | rfl | rfl | rfl
    · repeat (refine sx ?_; try intro _)
      refine JO_call Tryz.call133 rfl rfl fun w hw => (RSto_c hK (a + 3) (by omega) hm2 ho w hw).mono ?_
      rintro e w' ⟨rfl, h⟩
      obtain ⟨r, hr⟩ : ∃ r, stoF (bitB B 0) (8 * m) lim (a + 3) o = r := ⟨_, rfl⟩
      rw [hr] at h
      unfold RP at h
      cases r with
      | err r =>
        obtain ⟨hr0, a', po', co', o', hw'⟩ := h
        refine ⟨_, rfl, _, hw', ?_⟩
        clear hw' hw w w' again
        repeat (refine sx ?_; try intro _)
        apply JS_inLoop; apply JS_seq; apply JS_seq; apply JS_region
        by_cases hx0 : (x1 : Int) = 0
        all_goals ((repeat (first | (apply gJR; (refine sx ?_; try intro _)) | (apply gJO; (refine sx ?_; try intro _)))); refine JS_condF rfl ?_; refine JS_exit rfl ?_)
        all_goals (exact JS_to5 K r a' o' po' co' (.inr ⟨hr0, herr r hr⟩) (by repeat (first | exact trivial | refine ⟨rfl, ?_⟩ | refine ⟨lookI rfl (by omega), ?_⟩)) (fun w hw => dS hw))
      | ok a' o' =>
        obtain ⟨h3, h4, po', co', hw'⟩ := h
        obtain ⟨g1, g2⟩ := hgo a' o' hr h3 h4
        refine ⟨_, rfl, _, hw', ?_⟩
        clear hw' hw w w'
        repeat (refine sx ?_; try intro _)
        exact JS_again5 again a' o' po' co' x1 g1 g2 (by repeat (first | exact trivial | refine ⟨rfl, ?_⟩ | refine ⟨lookI rfl (by omega), ?_⟩)) (fun w hw => dS hw)
    · repeat (refine sx ?_; try intro _)
      rename_i p5
      refine JS_loop1 (fun (i : Nat) => [(7, .pointer (some ⟨bs, 0, none⟩)), (8, .int .i64 x1), (10, .slice (some p5) 32 32), (11, .int .i64 i)]) (fun i => vec 5 1 (.slice (some p5) 32 32) 32 (ints .u8 (reps 5 i 32)) :: strL bs q d m B lim (a + 3) po co o 0 H) (fun i => i ≤ 32) (fun i => 32 - i) 0 (by omega) (by repeat (first | exact trivial | refine ⟨rfl, ?_⟩ | refine ⟨lookI rfl (by omega), ?_⟩)) (fun _ h => h) ?_
      intro i hi again2
      by_cases hil : i < 32
      · clear again
        have hrs := reps_set 5 i 32 hil
        have hrl := reps_len 5 i 32 hi
        repeat (refine sx ?_; try intro _)
        exact JS_again1 again2 (i + 1) (by omega) (by omega) (by repeat (first | exact trivial | refine ⟨rfl, ?_⟩ | refine ⟨lookI rfl (by omega), ?_⟩)) (fun w hw => by rw [← hrs]; exact hw)
      · obtain rfl : i = 32 := by omega
        clear again2
        rw [reps_full]
        repeat (refine sx ?_; try intro _)
        refine JO_call Tryz.call135 rfl rfl fun w hw => (RFixed_c w hw).mono ?_
        rintro e w' ⟨p6, c6, rfl, hw'⟩
        refine ⟨_, rfl, _, hw', ?_⟩
        clear hw' hw w w'
        repeat (refine sx ?_; try intro _)
        refine JO_call Tryz.call134 rfl rfl fun w hw => (RBlk_c hK (a + 3) (by omega) hm2 ho p6 (some p5) c6 32 288 32 (tab 288 fixF) (List.replicate 32 5) (vec_rd (H := [vec 5 1 (.slice p6 288 c6) 288 (ints .u8 (tab 288 fixF)), vec 5 1 (.slice (some p5) 32 32) 32 (ints .u8 (List.replicate 32 5))] ++ H) (by repeat (first | apply List.Mem.head | apply List.Mem.tail))) (tab_len _ _) fix_okb fix_okl (vec_rd (H := [vec 5 1 (.slice p6 288 c6) 288 (ints .u8 (tab 288 fixF)), vec 5 1 (.slice (some p5) 32 32) 32 (ints .u8 (List.replicate 32 5))] ++ H) (by repeat (first | apply List.Mem.head | apply List.Mem.tail))) (List.length_replicate ..) spans_okb spans_okl w (strL_ins [vec 5 1 (.slice p6 288 c6) 288 (ints .u8 (tab 288 fixF)), vec 5 1 (.slice (some p5) 32 32) 32 (ints .u8 (List.replicate 32 5))] hw)).mono ?_
        rintro e w' ⟨rfl, r, hr, h⟩
        unfold RP at h
        cases r with
        | err r =>
          obtain ⟨hr0, a', po', co', o', hw'⟩ := h
          refine ⟨_, rfl, _, hw', ?_⟩
          clear hw' hw w w' again
          repeat (refine sx ?_; try intro _)
          apply JS_inLoop; apply JS_seq; apply JS_seq; apply JS_region
          by_cases hx0 : (x1 : Int) = 0
          all_goals ((repeat (first | (apply gJR; (refine sx ?_; try intro _)) | (apply gJO; (refine sx ?_; try intro _)))); refine JS_condF rfl ?_; refine JS_exit rfl ?_)
          all_goals (exact JS_to5 K r a' o' po' co' (.inr ⟨hr0, herr r (itF_of hr)⟩) (by repeat (first | exact trivial | refine ⟨rfl, ?_⟩ | refine ⟨lookI rfl (by omega), ?_⟩)) (fun w hw => dS hw))
        | ok a' o' =>
          obtain ⟨h3, h4, po', co', hw'⟩ := h
          obtain ⟨g1, g2⟩ := hgo a' o' (itF_of hr) h3 h4
          refine ⟨_, rfl, _, hw', ?_⟩
          clear hw' hw w w'
          repeat (refine sx ?_; try intro _)
          exact JS_again5 again a' o' po' co' x1 g1 g2 (by repeat (first | exact trivial | refine ⟨rfl, ?_⟩ | refine ⟨lookI rfl (by omega), ?_⟩)) (fun w hw => dS hw)
    · repeat (refine sx ?_; try intro _)
      refine JO_call Tryz.call136 rfl rfl fun w hw => (RDes_c hK (a + 3) (by omega) hm2 ho w hw).mono ?_
      rintro e w' ⟨rfl, h⟩
      obtain ⟨r, hr⟩ : ∃ r, desF (bitB B 0) (8 * m) lim (a + 3) o = r := ⟨_, rfl⟩
      rw [hr] at h
      unfold RP at h
      cases r with
      | err r =>
        obtain ⟨hr0, a', po', co', o', hw'⟩ := h
        refine ⟨_, rfl, _, hw', ?_⟩
        clear hw' hw w w' again
        repeat (refine sx ?_; try intro _)
        apply JS_inLoop; apply JS_seq; apply JS_seq; apply JS_region
        by_cases hx0 : (x1 : Int) = 0
        all_goals ((repeat (first | (apply gJR; (refine sx ?_; try intro _)) | (apply gJO; (refine sx ?_; try intro _)))); refine JS_condF rfl ?_; refine JS_exit rfl ?_)
        all_goals (exact JS_to5 K r a' o' po' co' (.inr ⟨hr0, herr r hr⟩) (by repeat (first | exact trivial | refine ⟨rfl, ?_⟩ | refine ⟨lookI rfl (by omega), ?_⟩)) (fun w hw => dS hw))
      | ok a' o' =>
        obtain ⟨h3, h4, po', co', hw'⟩ := h
        obtain ⟨g1, g2⟩ := hgo a' o' hr h3 h4
        refine ⟨_, rfl, _, hw', ?_⟩
        clear hw' hw w w'
        repeat (refine sx ?_; try intro _)
        exact JS_again5 again a' o' po' co' x1 g1 g2 (by repeat (first | exact trivial | refine ⟨rfl, ?_⟩ | refine ⟨lookI rfl (by omega), ?_⟩)) (fun w hw => dS hw)
    · clear again
      repeat (refine sx ?_; try intro _)
      apply JS_inLoop; apply JS_seq; apply JS_seq; apply JS_region
      by_cases hx0 : (x1 : Int) = 0
      all_goals ((repeat (first | (apply gJR; (refine sx ?_; try intro _)) | (apply gJO; (refine sx ?_; try intro _)))); refine JS_condF rfl ?_; refine JS_exit rfl ?_)
      all_goals (exact JS_to5 K 60 (a + 1 + 2) o po co (.inr ⟨by decide, herr 60 rfl⟩) (by repeat (first | exact trivial | refine ⟨rfl, ?_⟩ | refine ⟨lookI rfl (by omega), ?_⟩)) (fun w hw => hw))
  · clear again
    apply JS_seq; apply JS_seq; apply JS_region; (repeat (first | (apply gJR; (refine sx ?_; try intro _)) | (apply gJO; (refine sx ?_; try intro _))))
    refine JS_condF rfl ?_
    refine JS_exit rfl ?_
    exact JS_to5 K 0 a o po co (.inl ⟨rfl, ha, ho, hfin⟩) (by repeat (first | exact trivial | refine ⟨rfl, ?_⟩ | refine ⟨lookI rfl (by omega), ?_⟩)) (fun w hw => hw)
end
end Go.Proofs.YteelffkghidpfaaGreat

namespace Go.Proofs.YteelffkghidpfaaGreat
open Sx Go
set_option linter.unusedVariables false
set_option linter.unusedSimpArgs false
set_option maxRecDepth 100000
attribute [local irreducible] syA fc tk cds
def PLg (f : Nat → Nat → List Int → Stp) : Prop := ∀ lim lim' a o a' o', f lim a o = .go a' o' → o.length ≤ o'.length ∧ (o'.length ≤ lim' → f lim' a o = .go a' o') ∧ (o.length ≤ lim' → lim' < o'.length → f lim' a o = .err 64)
def PLs (f : Nat → Nat → List Int → Stp) : Prop := ∀ lim lim' a o a' o', f lim a o = .stop a' o' → o.length ≤ o'.length ∧ (o'.length ≤ lim' → f lim' a o = .stop a' o') ∧ (o.length ≤ lim' → lim' < o'.length → f lim' a o = .err 64)
def PLr (g : Nat → Nat → List Int → Res) : Prop := ∀ lim lim' a o a' o', g lim a o = .ok a' o' → o.length ≤ o'.length ∧ (o'.length ≤ lim' → g lim' a o = .ok a' o') ∧ (o.length ≤ lim' → lim' < o'.length → g lim' a o = .err 64)
end Go.Proofs.YteelffkghidpfaaGreat

namespace Go.Proofs.YteelffkghidpfaaGreat
open Sx Go
set_option linter.unusedVariables false
set_option linter.unusedSimpArgs false
set_option maxRecDepth 100000
attribute [local irreducible] syA fc tk cds
theorem RD_total (L : List Int) (b : Nat → Int) (left : Nat) : ∃ i u r, RD L b left i u r := by
  by_cases h : ∃ j, DEC L b left j
  · obtain ⟨j, hj⟩ := h
    obtain ⟨n, h1, h2, h3, h4⟩ := hj
    exact ⟨j, n, 0, .inl ⟨j, rfl, rfl, ⟨n, h1, h2, h3, h4⟩, h3⟩⟩
  · have hno : ∀ j, ¬ DEC L b left j := fun j hj => h ⟨j, hj⟩
    by_cases h1 : sm L = 0
    · exact ⟨0, 0, 62, .inr ⟨hno, rfl, .inl ⟨h1, rfl, rfl⟩⟩⟩
    · by_cases h2 : tk L = 32768
      · exact ⟨0, left, 20, .inr ⟨hno, rfl, .inr (.inl ⟨h1, h2, rfl, rfl⟩)⟩⟩
      · rcases Nat.eq_zero_or_pos left with h3 | h3
        · exact ⟨0, 0, 20, .inr ⟨hno, rfl, .inr (.inr ⟨h1, h2, .inl ⟨h3, rfl, rfl⟩⟩)⟩⟩
        · exact ⟨0, 1, 62, .inr ⟨hno, rfl, .inr (.inr ⟨h1, h2, .inr ⟨h3, rfl, rfl⟩⟩)⟩⟩
theorem symS_RD (bt : Nat → Int) (N : Nat) (L : List Int) (a : Nat) : ∃ i u r, RD L (fun j => bt (a + j)) (N - a) i u r ∧ symS bt N L a = if r = 0 then .ok i (a + u) else .err r := by
  have hex : ∃ x : Int × Nat × Int, RD L (fun j => bt (a + j)) (N - a) x.1 x.2.1 x.2.2 := by
    obtain ⟨i, u, r, h⟩ := RD_total L (fun j => bt (a + j)) (N - a)
    exact ⟨(i, u, r), h⟩
  refine ⟨hex.choose.1, hex.choose.2.1, hex.choose.2.2, hex.choose_spec, ?_⟩
  unfold symS
  rw [dif_pos hex]
theorem symS_ne {bt : Nat → Int} {N a : Nat} {L : List Int} {e : Int} (h : symS bt N L a = .err e) : e ≠ 0 := by
  obtain ⟨i, u, r, _, h2⟩ := symS_RD bt N L a
  rw [h2] at h
  split at h
  · cases h
  · rename_i hr
    simp only [Sy.err.injEq] at h
    rw [← h]; exact hr
theorem symS_gt {bt : Nat → Int} {N a a1 : Nat} {L : List Int} {i : Int} (h : symS bt N L a = .ok i a1) (ha : a ≤ N) : a < a1 ∧ a1 ≤ N ∧ 0 ≤ i ∧ i < L.length := by
  obtain ⟨i', u, r, h1, h2⟩ := symS_RD bt N L a
  rw [h2] at h
  split at h
  · rename_i hr
    subst hr
    simp only [Sy.ok.injEq] at h
    obtain ⟨rfl, rfl⟩ := h
    rcases h1 with ⟨j, rfl, _, ⟨n, hj, h0, hn, hle, _⟩, hu⟩ | ⟨_, _, h | h | ⟨_, _, h | h⟩⟩
    · rw [hu] at hn; omega
    all_goals omega
  · cases h
theorem It_total {f : Nat → List Int → Stp} {N : Nat} (hf : ∀ a o a' o', a ≤ N → f a o = .go a' o' → a < a' ∧ a' ≤ N) : ∀ (a : Nat) (o : List Int), a ≤ N → ∃ r, It f a o r := by
  have key : ∀ m a o, N - a = m → a ≤ N → ∃ r, It f a o r := by
    intro m
    induction m using Nat.strongRecOn with
    | _ m ih =>
      intro a o hm ha
      cases h : f a o with
      | err e => exact ⟨_, .err h⟩
      | stop a' o' => exact ⟨_, .stop h⟩
      | go a' o' =>
        obtain ⟨h1, h2⟩ := hf a o a' o' ha h
        obtain ⟨r, hr⟩ := ih (N - a') (by omega) a' o' rfl h2
        exact ⟨r, .go h hr⟩
  exact fun a o ha => key _ a o rfl ha
theorem It_ne {f : Nat → List Int → Stp} (hf : ∀ a o e, f a o = .err e → e ≠ 0) {a : Nat} {o : List Int} {r : Res} (h : It f a o r) : ∀ e, r = .err e → e ≠ 0 := by
  induction h with
  | err h => intro e he; cases he; exact hf _ _ _ h
  | stop _ => intro e he; cases he
  | go _ _ ih => exact ih
theorem itF_ne {f : Nat → List Int → Stp} {N : Nat} (hf : ∀ a o a' o', a ≤ N → f a o = .go a' o' → a < a' ∧ a' ≤ N) (he : ∀ a o e, f a o = .err e → e ≠ 0) {a : Nat} {o : List Int} {e : Int} (ha : a ≤ N) (h : itF f a o = .err e) : e ≠ 0 := by
  obtain ⟨r, hr⟩ := It_total hf a o ha
  have := itF_of hr
  rw [h] at this
  exact It_ne he hr e this.symm
theorem blk2_gt {bt : Nat → Int} {N lim a a' : Nat} {D o o' : List Int} {len : Int} (h : blk2 bt N lim D o len a = .go a' o') (ha : a ≤ N) : a < a' ∧ a' ≤ N := by
  unfold blk2 at h
  split at h
  · cases h
  · rename_i d a2 hs
    have := symS_gt hs ha
    split at h
    · cases h
    · split at h
      · cases h
      · split at h
        · cases h
        · split at h
          · cases h
          · simp only [Stp.go.injEq] at h; omega
theorem blk2_ne {bt : Nat → Int} {N lim a : Nat} {D o : List Int} {len e : Int} (h : blk2 bt N lim D o len a = .err e) : e ≠ 0 := by
  unfold blk2 at h
  split at h
  · rename_i hs
    simp only [Stp.err.injEq] at h
    exact h ▸ symS_ne hs
  · split at h
    · simp only [Stp.err.injEq] at h; omega
    · split at h
      · simp only [Stp.err.injEq] at h; omega
      · split at h
        · simp only [Stp.err.injEq] at h; omega
        · split at h
          · simp only [Stp.err.injEq] at h; omega
          · cases h
theorem blkF_gt {bt : Nat → Int} {N lim a a' : Nat} {L D o o' : List Int} (ha : a ≤ N) (h : blkF bt N lim L D a o = .go a' o') : a < a' ∧ a' ≤ N := by
  unfold blkF at h
  split at h
  · cases h
  · rename_i i a1 hs
    have := symS_gt hs ha
    split at h
    · cases h
    · split at h
      · split at h
        · cases h
        · simp only [Stp.go.injEq] at h; omega
      · split at h
        · cases h
        · split at h
          · cases h
          · have := blk2_gt h (by omega); omega
theorem blkF_ne {bt : Nat → Int} {N lim a : Nat} {L D o : List Int} {e : Int} (h : blkF bt N lim L D a o = .err e) : e ≠ 0 := by
  unfold blkF at h
  split at h
  · rename_i hs
    simp only [Stp.err.injEq] at h
    exact h ▸ symS_ne hs
  · split at h
    · cases h
    · split at h
      · split at h
        · simp only [Stp.err.injEq] at h; omega
        · cases h
      · split at h
        · simp only [Stp.err.injEq] at h; omega
        · split at h
          · simp only [Stp.err.injEq] at h; omega
          · exact blk2_ne h
theorem lenP_ne {many : Nat} {l : List Int} {x t : Int} {a : Nat} {e : Int} (h : lenP many l x t a = .err e) : e ≠ 0 := by
  unfold lenP at h
  split at h
  · simp only [Stp.err.injEq] at h; omega
  · cases h
theorem lenP_go {many : Nat} {l l' : List Int} {x t : Int} {a a' : Nat} (h : lenP many l x t a = .go a' l') : a = a' := lenP_ge (.inl h)
theorem lenF_gt {bt : Nat → Int} {N a a' many : Nat} {C l l' : List Int} (ha : a ≤ N) (h : lenF bt N C many a l = .go a' l') : a < a' ∧ a' ≤ N := by
  unfold lenF at h
  split at h
  · cases h
  · split at h
    · cases h
    · rename_i i a1 hs
      have := symS_gt hs ha
      split at h
      · split at h
        · cases h
        · split at h
          · cases h
          · have := lenP_go h; omega
      · split at h
        · split at h
          · cases h
          · have := lenP_go h; omega
        · split at h
          · split at h
            · cases h
            · have := lenP_go h; omega
          · have := lenP_go h; omega
theorem lenF_ne {bt : Nat → Int} {N a many : Nat} {C l : List Int} {e : Int} (h : lenF bt N C many a l = .err e) : e ≠ 0 := by
  unfold lenF at h
  split at h
  · cases h
  · split at h
    · rename_i hs
      simp only [Stp.err.injEq] at h
      exact h ▸ symS_ne hs
    · split at h
      · split at h
        · simp only [Stp.err.injEq] at h; omega
        · split at h
          · simp only [Stp.err.injEq] at h; omega
          · exact lenP_ne h
      · split at h
        · split at h
          · simp only [Stp.err.injEq] at h; omega
          · exact lenP_ne h
        · split at h
          · split at h
            · simp only [Stp.err.injEq] at h; omega
            · exact lenP_ne h
          · exact lenP_ne h
theorem stoF_ne {bt : Nat → Int} {N lim a : Nat} {o : List Int} {e : Int} (h : stoF bt N lim a o = .err e) : e ≠ 0 := by
  unfold stoF at h
  repeat (split at h; (simp only [Res.err.injEq] at h; omega))
  cases h
theorem It_le {f : Nat → List Int → Stp} {N : Nat} (hg : ∀ a o a' o', a ≤ N → f a o = .go a' o' → a' ≤ N) (hs : ∀ a o a' o', a ≤ N → f a o = .stop a' o' → a' ≤ N) {a : Nat} {o : List Int} {r : Res} (h : It f a o r) : a ≤ N → ∀ a' o', r = .ok a' o' → a' ≤ N := by
  induction h with
  | err _ => intro _ a' o' h; cases h
  | stop h => intro ha a' o' h'; cases h'; exact hs _ _ _ _ ha h
  | go h _ ih => intro ha; exact ih (hg _ _ _ _ ha h)
theorem lenF_le {bt : Nat → Int} {N a a' many : Nat} {C l l' : List Int} (ha : a ≤ N) (h : lenF bt N C many a l = .stop a' l') : a' ≤ N := by
  have := lenF_ge (.inr h)
  unfold lenF at h
  split at h
  · simp only [Stp.stop.injEq] at h; omega
  · exfalso
    split at h
    · cases h
    · split at h
      · split at h
        · cases h
        · split at h
          · cases h
          · unfold lenP at h; split at h <;> cases h
      · split at h
        · split at h
          · cases h
          · unfold lenP at h; split at h <;> cases h
        · split at h
          · split at h
            · cases h
            · unfold lenP at h; split at h <;> cases h
          · unfold lenP at h; split at h <;> cases h
theorem itlen_le {bt : Nat → Int} {N many a a' : Nat} {C l l' : List Int} (ha : a ≤ N) (h : itF (lenF bt N C many) a l = .ok a' l') : a' ≤ N :=
  It_le (N := N) (fun _ _ _ _ ha h => (lenF_gt ha h).2) (fun _ _ _ _ => lenF_le) (itF_ok h) ha _ _ rfl
theorem itblk_ne {bt : Nat → Int} {N lim a : Nat} {L D o : List Int} {e : Int} (ha : a ≤ N) (h : itF (blkF bt N lim L D) a o = .err e) : e ≠ 0 :=
  itF_ne (N := N) (fun _ _ _ _ => blkF_gt) (fun _ _ _ => blkF_ne) ha h
theorem desF_ne {bt : Nat → Int} {N lim a : Nat} {o : List Int} {e : Int} (h : desF bt N lim a o = .err e) : e ≠ 0 := by
  unfold desF at h
  split at h
  · simp only [Res.err.injEq] at h; omega
  · split at h
    · simp only [Res.err.injEq] at h; omega
    · split at h
      · simp only [Res.err.injEq] at h; omega
      · unfold des1 at h
        split at h
        · simp only [Res.err.injEq] at h; omega
        · split at h
          · simp only [Res.err.injEq] at h; omega
          · split at h
            · simp only [Res.err.injEq] at h; omega
            · split at h
              · rename_i hl
                simp only [Res.err.injEq] at h
                exact h ▸ itF_ne (N := N) (fun _ _ _ _ => lenF_gt) (fun _ _ _ => lenF_ne) (by omega) hl
              · rename_i a1 l1 hl
                have ha1 := itlen_le (by omega) hl
                unfold des2 at h
                split at h
                · simp only [Res.err.injEq] at h; omega
                · split at h
                  · simp only [Res.err.injEq] at h; omega
                  · split at h
                    · simp only [Res.err.injEq] at h; omega
                    · exact itblk_ne ha1 h
theorem kndF_ne {bt : Nat → Int} {N lim a : Nat} {k : Int} {o : List Int} {e : Int} (ha : a ≤ N) (h : kndF bt N lim k a o = .err e) : e ≠ 0 := by
  unfold kndF at h
  split at h
  · exact stoF_ne h
  · split at h
    · exact itblk_ne ha h
    · split at h
      · exact desF_ne h
      · simp only [Res.err.injEq] at h; omega
theorem rdF_ne {bt : Nat → Int} {N lim a : Nat} {o : List Int} {e : Int} (h : rdF bt N lim a o = .err e) : e ≠ 0 := by
  unfold rdF at h
  split at h
  · simp only [Stp.err.injEq] at h; omega
  · split at h
    · simp only [Stp.err.injEq] at h; omega
    · split at h
      · rename_i hk
        simp only [Stp.err.injEq] at h
        exact h ▸ kndF_ne (by omega) hk
      · split at h <;> cases h
theorem ALLR_ne {B : List Int} {lim : Nat} {e : Int} (h : ALLR B lim (.err e)) : e ≠ 0 := It_ne (fun _ _ _ => rdF_ne) h e rfl
end Go.Proofs.YteelffkghidpfaaGreat

set_option linter.unusedVariables false
set_option linter.unusedSimpArgs false
set_option maxRecDepth 100000
namespace Go.Proofs.YteelffkghidpfaaGreat
open Sx Go
theorem symS_nn {bt : Nat → Int} {N a a1 : Nat} {L : List Int} {i : Int} (h : symS bt N L a = .ok i a1) : 0 ≤ i := by
  obtain ⟨i', u, r, h1, h2⟩ := symS_RD bt N L a
  rw [h2] at h
  split at h
  · rename_i hr
    subst hr
    simp only [Sy.ok.injEq] at h
    obtain ⟨rfl, rfl⟩ := h
    rcases h1 with ⟨j, rfl, _, ⟨n, hj, h0, hn, hle, _⟩, hu⟩ | ⟨_, _, h | h | ⟨_, _, h | h⟩⟩ <;> omega
  · cases h
theorem It_okb {f : Nat → List Int → Stp} (hg : ∀ a o a' o', OKB o → f a o = .go a' o' → OKB o') (hs : ∀ a o a' o', OKB o → f a o = .stop a' o' → OKB o') {a : Nat} {o : List Int} {r : Res} (h : It f a o r) : OKB o → ∀ a' o', r = .ok a' o' → OKB o' := by
  induction h with
  | err h => intro ho a' o' he; cases he
  | stop h => intro ho a' o' he; cases he; exact hs _ _ _ _ ho h
  | go h _ ih => intro ho; exact ih (hg _ _ _ _ ho h)
theorem cpy_okb {o : List Int} (ho : OKB o) (back : Nat) : ∀ n, OKB (cpy o back n)
  | 0 => ho
  | n + 1 => OKB_app (cpy_okb ho back n) (OKB_rep (cpy_okb ho back n _) 1)
theorem blk2_okb {bt : Nat → Int} {N lim a a' : Nat} {D o o' : List Int} {len : Int} (ho : OKB o) (h : blk2 bt N lim D o len a = .go a' o') : OKB o' := by
  unfold blk2 at h
  split at h
  · cases h
  · split at h
    · cases h
    · split at h
      · cases h
      · split at h
        · cases h
        · split at h
          · cases h
          · simp only [Stp.go.injEq] at h
            rw [← h.2]; exact cpy_okb ho _ _
theorem blk2_nostop {bt : Nat → Int} {N lim a a' : Nat} {D o o' : List Int} {len : Int} (h : blk2 bt N lim D o len a = .stop a' o') : False := by
  unfold blk2 at h
  split at h
  · cases h
  · split at h
    · cases h
    · split at h
      · cases h
      · split at h
        · cases h
        · split at h <;> cases h
theorem blkF_okb {bt : Nat → Int} {N lim a a' : Nat} {L D o o' : List Int} (ho : OKB o) (h : blkF bt N lim L D a o = .go a' o' ∨ blkF bt N lim L D a o = .stop a' o') : OKB o' := by
  unfold blkF at h
  split at h
  · rcases h with h | h <;> cases h
  · rename_i i a1 hs
    have hi := symS_nn hs
    split at h
    · rcases h with h | h
      · cases h
      · simp only [Stp.stop.injEq] at h; rw [← h.2]; exact ho
    · split at h
      · split at h
        · rcases h with h | h <;> cases h
        · rcases h with h | h
          · simp only [Stp.go.injEq] at h
            rw [← h.2]; exact OKB_app ho (OKB_rep ⟨hi, by omega⟩ 1)
          · cases h
      · split at h
        · rcases h with h | h <;> cases h
        · split at h
          · rcases h with h | h <;> cases h
          · rcases h with h | h
            · exact blk2_okb ho h
            · exact (blk2_nostop h).elim
theorem itblk_okb {bt : Nat → Int} {N lim a a' : Nat} {L D o o' : List Int} (ho : OKB o) (h : itF (blkF bt N lim L D) a o = .ok a' o') : OKB o' :=
  It_okb (fun _ _ _ _ ho h => blkF_okb ho (.inl h)) (fun _ _ _ _ ho h => blkF_okb ho (.inr h)) (itF_ok h) ho _ _ rfl
theorem byts_okb {bt : Nat → Int} (hb : ∀ j, bt j = 0 ∨ bt j = 1) (a n : Nat) : OKB (byts bt a n) := by
  refine OKB_of (List.all_eq_true.2 fun x hx => ?_)
  obtain ⟨j, _, rfl⟩ := List.mem_map.1 hx
  have := nbt_bd bt hb (a + 8 * j) 8
  exact decide_eq_true ⟨this.1, this.2⟩
theorem kndF_okb {bt : Nat → Int} (hb : ∀ j, bt j = 0 ∨ bt j = 1) {N lim a a' : Nat} {k : Int} {o o' : List Int} (ho : OKB o) (h : kndF bt N lim k a o = .ok a' o') : OKB o' := by
  unfold kndF at h
  split at h
  · unfold stoF at h
    split at h; · cases h
    split at h; · cases h
    split at h; · cases h
    split at h; · cases h
    split at h; · cases h
    simp only [Res.ok.injEq] at h
    rw [← h.2]; exact OKB_app ho (byts_okb hb _ _)
  · split at h
    · exact itblk_okb ho h
    · split at h
      · unfold desF at h
        split at h; · cases h
        split at h; · cases h
        split at h; · cases h
        unfold des1 at h
        split at h; · cases h
        split at h; · cases h
        split at h; · cases h
        split at h; · cases h
        unfold des2 at h
        split at h; · cases h
        split at h; · cases h
        split at h; · cases h
        exact itblk_okb ho h
      · cases h
theorem rdF_okb {bt : Nat → Int} (hb : ∀ j, bt j = 0 ∨ bt j = 1) {N lim a a' : Nat} {o o' : List Int} (ho : OKB o) (h : rdF bt N lim a o = .go a' o' ∨ rdF bt N lim a o = .stop a' o') : OKB o' := by
  unfold rdF at h
  split at h; · rcases h with h | h <;> cases h
  split at h; · rcases h with h | h <;> cases h
  split at h
  · rcases h with h | h <;> cases h
  · rename_i a1 o1 hk
    have := kndF_okb hb ho hk
    split at h
    · rcases h with h | h
      · simp only [Stp.go.injEq] at h; rw [← h.2]; exact this
      · cases h
    · rcases h with h | h
      · cases h
      · simp only [Stp.stop.injEq] at h; rw [← h.2]; exact this
theorem ALLR_okb {B : List Int} {lim a : Nat} {o : List Int} (h : ALLR B lim (.ok a o)) : OKB o :=
  It_okb (fun _ _ _ _ ho h => rdF_okb (bitB_01 B 0) ho (.inl h)) (fun _ _ _ _ ho h => rdF_okb (bitB_01 B 0) ho (.inr h)) h (fun j => by simp) _ _ rfl
end Go.Proofs.YteelffkghidpfaaGreat

set_option linter.unusedVariables false
set_option linter.unusedSimpArgs false
set_option maxRecDepth 100000
namespace Go.Proofs.YteelffkghidpfaaGreat
open Sx Go
def ZT (B : List Int) (r : Res) (e : Int) (o : List Int) : Prop :=
  match r with
  | .err x => e = x ∧ o = []
  | .ok a o' => ((B.drop (2 + (a + 7) / 8)).length < 4 ∧ e = 20 ∧ o = []) ∨ (4 ≤ (B.drop (2 + (a + 7) / 8)).length ∧
      (((B.drop (2 + (a + 7) / 8)).take 4 ≠ sb4 (adl o') ∧ e = 91 ∧ o = []) ∨ ((B.drop (2 + (a + 7) / 8)).take 4 = sb4 (adl o') ∧
        ((4 < (B.drop (2 + (a + 7) / 8)).length ∧ e = 92 ∧ o = []) ∨ ((B.drop (2 + (a + 7) / 8)).length = 4 ∧ e = 0 ∧ o = o')))))
def ZR (B : List Int) (L : Int) (e : Int) (o : List Int) : Prop :=
  ((L < 0 ∨ 1048576 < L) ∧ e = 1 ∧ o = []) ∨ ((0 ≤ L ∧ L ≤ 1048576) ∧ ((B.length < 2 ∧ e = 20 ∧ o = []) ∨ (2 ≤ B.length ∧
    ((¬ hdOK B ∧ e = 90 ∧ o = []) ∨ (hdOK B ∧ ∃ r, ALLR (B.drop 2) L.toNat r ∧ ZT B r e o)))))
theorem ZT_one {B : List Int} {r : Res} {e e' : Int} {o o' : List Int} (h : ZT B r e o) (h' : ZT B r e' o') : e = e' ∧ o = o' := by
  cases r with
  | err x => exact ⟨h.1.trans h'.1.symm, h.2.trans h'.2.symm⟩
  | ok a q =>
    rcases h with ⟨h1, rfl, rfl⟩ | ⟨h1, h | ⟨h2, h | h⟩⟩ <;> rcases h' with ⟨g1, rfl, rfl⟩ | ⟨g1, g | ⟨g2, g | g⟩⟩ <;> first | (exfalso; omega) | skip
    · exact ⟨rfl, rfl⟩
    · exact ⟨h.2.1.trans g.2.1.symm, h.2.2.trans g.2.2.symm⟩
    · exact absurd g2 h.1
    · exact absurd g2 h.1
    · exact absurd h2 g.1
    · exact ⟨h.2.1.trans g.2.1.symm, h.2.2.trans g.2.2.symm⟩
    · exact absurd h2 g.1
    · exact ⟨h.2.1.trans g.2.1.symm, h.2.2.trans g.2.2.symm⟩
theorem ZR_one {B : List Int} {L e e' : Int} {o o' : List Int} (h : ZR B L e o) (h' : ZR B L e' o') : e = e' ∧ o = o' := by
  rcases h with ⟨h1, rfl, rfl⟩ | ⟨h1, ⟨h2, rfl, rfl⟩ | ⟨h2, ⟨h3, rfl, rfl⟩ | ⟨h3, r, h4, h5⟩⟩⟩ <;> rcases h' with ⟨g1, rfl, rfl⟩ | ⟨g1, ⟨g2, rfl, rfl⟩ | ⟨g2, ⟨g3, rfl, rfl⟩ | ⟨g3, r', g4, g5⟩⟩⟩ <;> first | (exfalso; omega) | exact ⟨rfl, rfl⟩ | exact absurd g3 h3 | exact absurd h3 g3 | skip
  rw [It.one h4 g4] at h5
  exact ZT_one h5 g5
section
variable {w0 : World} {H : List Asn}
set_option maxRecDepth 10000 in
theorem RPack9_c (p : Option Addr) (c m : Nat) (B : List Int) (hr : Rd w0 H (.slice p m c) m (ints .u8 B)) (hm : B.length = m) (hB : OKB B) (h4 : m ≤ 1100000) (w : World) (hw : St w0 H w) :
    Calls Tryz.prog 48 #[.slice p m c] w fun e w' => ∃ q d, e = .returned (.slice q (pkB B).length d) ∧ St w0 (vec 5 1 (.slice q (pkB B).length d) (pkB B).length (ints .u8 (pkB B)) :: H) w' := by
  refine enter (vs := [.slice p m c]) Tryz.func48 rfl rfl rfl hw ?_
  clear hw w
  have o3 : OKB (bestB B) := by have o1 := pack_okb' (fixL B) (fixL_01 B); have o2 := sbs_okb hB; unfold bestB; split <;> assumption
  have o4 := bestB_pos B
  have o5 := bestB_len hB
  obtain ⟨E, hE⟩ : ∃ E, bestB B = E := ⟨_, rfl⟩
  obtain ⟨s, hs⟩ : ∃ s, adl B = s := ⟨_, rfl⟩
  have hD := fun {H} hr w hw => RBest_c (H := H) (w0 := w0) p c m B hr hm hB h4 w hw
  have hS := fun {H} hr w hw => RSum9_c (H := H) (w0 := w0) p c m B hr hm hB (by omega) w hw
  have hP : pkB B = [120, 1] ++ E ++ sb4 s := by unfold pkB; rw [hE, hs]
  have hl : ([120, 1] ++ E ++ sb4 s).length = 2 + E.length + 4 := by simp [sb4]; omega
  rw [hE] at o3 o4 o5 hD
  rw [hs] at hS
  rw [hP, hl]
  repeat (refine sx ?_; try intro _)
  refine JO_call Tryz.call82 rfl rfl fun w hw => (hD (Rd_weak hr fun w hw => dS hw) w hw).mono ?_
  rintro e w' ⟨q1, d1, rfl, hw'⟩
  refine ⟨_, rfl, _, hw', ?_⟩
  clear hw' hw w w'
  repeat (first | (apply gJO; (refine JO_app (tb := tb) rfl rfl rfl rfl rfl rfl (by repeat (first | exact Sel.here _ _ | apply Sel.there)) (by first | exact vec_rd (by repeat (first | apply List.Mem.head | apply List.Mem.tail)) | assumption | exact ArgRd.rd (by assumption) _ | (apply Rd_weak; assumption; intro _ hx; exact dS hx)) (by simp only [ints_len, List.length_cons, List.length_nil]; first | omega | rfl) (by first | exact ints_one | (repeat (first | exact trivial | refine ⟨rfl, ?_⟩))) (by omega) rfl ?_; intro _ _)) | (refine sx ?_; try intro _))
  refine JO_call Tryz.call83 rfl rfl fun w hw => (hS (Rd_weak hr fun w hw => dS hw) w hw).mono ?_
  rintro e w' ⟨q2, d2, rfl, hw'⟩
  refine ⟨_, rfl, _, hw', ?_⟩
  clear hw' hw w w'
  repeat (first | (apply gJO; (refine JO_app (tb := tb) rfl rfl rfl rfl rfl rfl (by repeat (first | exact Sel.here _ _ | apply Sel.there)) (by first | exact vec_rd (by repeat (first | apply List.Mem.head | apply List.Mem.tail)) | assumption | exact ArgRd.rd (by assumption) _ | (apply Rd_weak; assumption; intro _ hx; exact dS hx)) (by simp only [ints_len, List.length_cons, List.length_nil]; first | omega | rfl) (by first | exact ints_one | (repeat (first | exact trivial | refine ⟨rfl, ?_⟩))) (by omega) rfl ?_; intro _ _)) | (refine sx ?_; try intro _))
  exact JS_ret Tryz.func48 rfl rfl fun w hw => ⟨_, _, rfl, by rw [← ints_app, ← ints_app]; exact dS hw⟩
set_option maxRecDepth 10000 in
theorem ROpen9_c (p : Option Addr) (c m : Nat) (B : List Int) (hr : Rd w0 H (.slice p m c) m (ints .u8 B)) (hm : B.length = m) (hB : OKB B) (h4 : m ≤ 1100000) (L : Int) (hL : -9223372036854775808 ≤ L ∧ L < 9223372036854775808) (w : World) (hw : St w0 H w) :
    Calls Tryz.prog 52 #[.slice p m c, .int .i64 L] w fun e w' => ∃ x o q d, ZR B L x o ∧ e = .returned (.tuple #[.slice q o.length d, .int .i64 x]) ∧ St w0 (vec 5 1 (.slice q o.length d) o.length (ints .u8 o) :: H) w' := by
  have hend : ∀ {x : Int} {w : World}, ZR B L x [] → St w0 H w → ∃ x' o q d, ZR B L x' o ∧ (Ending.returned (.tuple #[.slice none 0 0, .int .i64 x]) : Ending) = .returned (.tuple #[.slice q o.length d, .int .i64 x']) ∧ St w0 (vec 5 1 (.slice q o.length d) o.length (ints .u8 o) :: H) w :=
    fun {x w} hz hw => ⟨x, [], none, 0, hz, rfl, hw.nilvec⟩
  have hmc : m ≤ c := (hr.lcap hw).1
  refine enter (vs := [.slice p m c, .int .i64 L]) Tryz.func52 rfl rfl rfl hw ?_
  clear hw w
  by_cases h1 : L < 0
  · repeat (refine sx ?_; try intro _)
    exact JS_ret Tryz.func52 rfl rfl fun w hw => hend (.inl ⟨.inl h1, rfl, rfl⟩) hw
  by_cases h2 : 1048576 < L
  · repeat (refine sx ?_; try intro _)
    exact JS_ret Tryz.func52 rfl rfl fun w hw => hend (.inl ⟨.inr h2, rfl, rfl⟩) hw
  have hrr : ∀ {x o}, ((B.length < 2 ∧ x = 20 ∧ o = []) ∨ (2 ≤ B.length ∧ ((¬ hdOK B ∧ x = 90 ∧ o = []) ∨ (hdOK B ∧ ∃ r, ALLR (B.drop 2) L.toNat r ∧ ZT B r x o)))) → ZR B L x o := fun h => .inr ⟨⟨by omega, by omega⟩, h⟩
  by_cases h3 : m < 2
  · repeat (refine sx ?_; try intro _)
    exact JS_ret Tryz.func52 rfl rfl fun w hw => hend (hrr (.inl ⟨by omega, rfl, rfl⟩)) hw
  repeat (refine sx ?_; try intro _)
  refine JO_call Tryz.call95 rfl rfl fun w hw => (RHead_c p c m B (Rd_weak hr fun w hw => dS hw) hm hB w hw).mono ?_
  rintro e w' ⟨rfl, hw'⟩
  refine ⟨_, rfl, _, hw', ?_⟩
  clear hw' hw w w'
  by_cases h5 : hdOK B
  · rw [show decide (hdOK B) = true from decide_eq_true h5]
    repeat (first | (apply gJO; refine JO_v (V_slice (tb := tb) (lo := 2) (hi := m) rfl rfl rfl rfl rfl rfl (by omega) (fun w hw => ⟨by omega, by omega⟩) rfl) ?_) | (refine sx ?_; try intro _))
    refine JO_call Tryz.call96 rfl rfl fun w hw => (RIRead_c (subB p 2 c 1) (c - 2) (m - 2) (B.drop 2) (Rd_weak (Rd_drop hr hm (by omega)) fun w hw => dS hw) (by rw [List.length_drop]; omega) (OKB_drop hB 2) (by omega) L hL w hw).mono ?_
    rintro e w' (⟨h, _⟩ | ⟨_, _, r, hA, hp⟩)
    · omega
    obtain ⟨hz, hz'⟩ : (∀ {x o}, ZT B r x o → ZR B L x o) ∧ True := ⟨fun h => hrr (.inr ⟨by omega, .inr ⟨h5, r, hA, h⟩⟩), trivial⟩
    clear hrr hz'
    cases r with
    | err x =>
      obtain ⟨hx, rfl, hw'⟩ := hp
      refine ⟨_, rfl, _, hw', ?_⟩
      clear hw' hw w w'
      repeat (refine sx ?_; try intro _)
      exact JS_ret Tryz.func52 rfl rfl fun w hw => hend (hz ⟨rfl, rfl⟩) hw
    | ok a o =>
    obtain ⟨ha, ho, q, d, rfl, hw'⟩ := hp
    refine ⟨_, rfl, _, hw', ?_⟩
    clear hw' hw w w'
    obtain ⟨t, ht⟩ : ∃ t, (a + 7) / 8 = t := ⟨_, rfl⟩
    have hto : t ≤ m - 2 := by omega
    have hTl : (B.drop (2 + t)).length = m - (2 + t) := by rw [List.length_drop, hm]
    have hrT := Rd_drop (n := 2 + t) hr hm (by omega)
    obtain ⟨T, hT⟩ : ∃ T, B.drop (2 + t) = T := ⟨_, rfl⟩
    have hz2 : ∀ {x o'}, ((T.length < 4 ∧ x = 20 ∧ o' = []) ∨ (4 ≤ T.length ∧ ((T.take 4 ≠ sb4 (adl o) ∧ x = 91 ∧ o' = []) ∨ (T.take 4 = sb4 (adl o) ∧ ((4 < T.length ∧ x = 92 ∧ o' = []) ∨ (T.length = 4 ∧ x = 0 ∧ o' = o)))))) → ZR B L x o' := fun h => hz (by unfold ZT; dsimp only; rw [ht, hT]; exact h)
    rw [hT] at hTl hrT
    rw [ht]
    clear hz
    repeat (first | (apply gJO; refine JO_v (V_slice (tb := tb) (lo := 2 + t) (hi := m) rfl rfl rfl rfl rfl (by omega) (by omega) (fun w hw => ⟨by omega, by omega⟩) rfl) ?_) | (refine sx ?_; try intro _))
    by_cases h6 : m - (2 + t) < 4
    · repeat (refine sx ?_; try intro _)
      exact JS_ret Tryz.func52 rfl rfl fun w hw => hend (hz2 (.inl ⟨by omega, rfl, rfl⟩)) hw.drop
    have hr4 := Rd_take (n := 4) hrT hTl (by omega)
    have hl4 : (T.take 4).length = 4 := by rw [List.length_take]; omega
    have hoB : OKB o := ALLR_okb hA
    have hTo : OKB T := by rw [← hT]; exact OKB_drop hB _
    have hadl := adl_bd hoB
    obtain ⟨s, hs⟩ : ∃ s, adl o = s := ⟨_, rfl⟩
    repeat (first | apply hIx 13 | (refine sx ?_; try intro _))
    refine Hold.go ?_
    refine JS_seq ?_
    refine JS_draw [] (by kernel_rfl) (by kernel_rfl) (by decide +kernel) ?_
    repeat (first | (apply gQO; first | refine QO_v rfl (V_slice (tb := tb) (lo := 0) (hi := 4) rfl rfl rfl rfl rfl (by rfl) (by rfl) (fun w hw => ⟨by omega, by omega⟩) rfl) ?_ | refine QO_v rfl (V_str (tb := tb) rfl (Rd_weak hr4 fun w hw => dS hw) hl4 rfl rfl rfl rfl) ?_) | (refine sx ?_; try intro _))
    refine QO_call Tryz.call83 rfl rfl fun w hw => (RSum9_c q d o.length o (vec_rd (by repeat (first | apply List.Mem.head | apply List.Mem.tail))) rfl hoB (by omega) w hw).mono ?_
    rintro e w' ⟨q2, d2, rfl, hw'⟩
    refine ⟨_, rfl, _, hw', .inl fun w hw => dS hw, ?_⟩
    clear hw' hw w w'
    rw [hs] at hz2 hadl ⊢
    have hsb : OKB (sb4 s) := OKB_of (by simp only [sb4, List.all_cons, List.all_nil, Bool.and_true, Bool.and_eq_true, decide_eq_true_eq]; omega)
    have hT4 : OKB (T.take 4) := OKB_take hTo 4
    by_cases h7 : T.take 4 = sb4 s
    · rw [h7]
      repeat (first | (apply gQO; first | refine QO_v rfl (V_str (tb := tb) rfl (vec_rd (cs := ints .u8 (sb4 s)) (List.Mem.head _)) rfl rfl rfl rfl rfl) ?_ | refine QO_v rfl (V_neStrF (A := sb4 s) rfl rfl hsb rfl) ?_) | apply hIx 15 | (refine sx ?_; try intro _))
      by_cases h8 : 4 < m - (2 + t)
      · refine Hold.go ?_
        repeat (refine sx ?_; try intro _)
        exact JS_ret Tryz.func52 rfl rfl fun w hw => hend (hz2 (.inr ⟨by omega, .inr ⟨h7, .inl ⟨by omega, rfl, rfl⟩⟩⟩)) hw.drop.drop
      · refine Hold.go ?_
        repeat (refine sx ?_; try intro _)
        exact JS_ret Tryz.func52 rfl rfl fun w hw => ⟨0, o, q, d, hz2 (.inr ⟨by omega, .inr ⟨h7, .inr ⟨by omega, rfl, rfl⟩⟩⟩), rfl, hw.drop⟩
    · have hne : decide (T.take 4 ≠ sb4 s) = true := decide_eq_true h7
      repeat (first | (apply gQO; first | refine QO_v rfl (V_str (tb := tb) rfl (vec_rd (cs := ints .u8 (sb4 s)) (List.Mem.head _)) rfl rfl rfl rfl rfl) ?_ | (refine QO_v rfl (V_neStr rfl rfl hT4 hsb rfl) ?_; rw [hne])) | (refine sx ?_; try intro _))
      exact JS_ret Tryz.func52 rfl rfl fun w hw => hend (hz2 (.inr ⟨by omega, .inl ⟨h7, rfl, rfl⟩⟩)) hw.drop.drop
  · rw [show decide (hdOK B) = false from decide_eq_false h5]
    repeat (refine sx ?_; try intro _)
    exact JS_ret Tryz.func52 rfl rfl fun w hw => hend (hrr (.inr ⟨by omega, .inl ⟨h5, rfl, rfl⟩⟩)) hw
end
end Go.Proofs.YteelffkghidpfaaGreat

set_option linter.unusedVariables false
set_option linter.unusedSimpArgs false
set_option maxRecDepth 100000
namespace Go.Proofs.YteelffkghidpfaaGreat
open Sx Go
theorem eq66 (a b : List Int) (ha : a.length = 4) (hb : b.length = 4) (w : World) : (Op.equalIn 10000 116 (.agg (ints .u8 a).toArray) (.agg (ints .u8 b).toArray)).run Tryz.prog w = .ok (decide (a = b)) w := by
  match a, ha, b, hb with
  | [a0, a1, a2, a3], _, [b0, b1, b2, b3], _ =>
  have hu : Tryz.prog.underlying 116 = some (.array 4 5) := by kernel_rfl
  have hs : (Tryz.prog.info? 5).isSome = true := by kernel_rfl
  obtain ⟨i, hi⟩ := Option.isSome_iff_exists.1 hs
  have e0 := und_int (tb := tb) (t := 5) rfl
  have hc : Tryz.prog.cellsOf 5 = 1 := by kernel_rfl
  have hp : Tryz.prog.plainKey 5 = true := by kernel_rfl
  have E : ∀ x y : Int, (Op.equalIn 9999 5 (.int .u8 x) (.int .u8 y)).run Tryz.prog w = .ok (x == y) w := fun x y => run_equalIn_int (P := Tryz.prog) w 9998 5 .u8 .u8 x y e0
  have P : ∀ (xs : Array Value) (j : Nat) (v : Value), xs[j]? = some v → (part 5 xs j).run Tryz.prog w = .ok v w := fun xs j v h => run_part_plain (P := Tryz.prog) (w := w) (e := 5) hp h
  rw [run_equalIn_array (P := Tryz.prog) (w := w) 9999 _ _ hu hi, hc]
  have r4 : List.range 4 = [0, 1, 2, 3] := rfl
  have p0 := P (ints .u8 [a0, a1, a2, a3]).toArray 0 (.int .u8 a0) rfl
  have p1 := P (ints .u8 [a0, a1, a2, a3]).toArray 1 (.int .u8 a1) rfl
  have p2 := P (ints .u8 [a0, a1, a2, a3]).toArray 2 (.int .u8 a2) rfl
  have p3 := P (ints .u8 [a0, a1, a2, a3]).toArray 3 (.int .u8 a3) rfl
  have q0 := P (ints .u8 [b0, b1, b2, b3]).toArray 0 (.int .u8 b0) rfl
  have q1 := P (ints .u8 [b0, b1, b2, b3]).toArray 1 (.int .u8 b1) rfl
  have q2 := P (ints .u8 [b0, b1, b2, b3]).toArray 2 (.int .u8 b2) rfl
  have q3 := P (ints .u8 [b0, b1, b2, b3]).toArray 3 (.int .u8 b3) rfl
  rw [r4]
  simp only [Op.eqItems, Nat.zero_mul, Nat.mul_one, Sem.run_bind, p0, p1, p2, p3, q0, q1, q2, q3, E, Result.andThen_ok, Sem.run_ite, Sem.run_pure]
  by_cases h0 : a0 = b0 <;> by_cases h1 : a1 = b1 <;> by_cases h2 : a2 = b2 <;> by_cases h3 : a3 = b3 <;> simp [h0, h1, h2, h3]
theorem m66 : Tryz.prog.eqGuardType Tryz.prog.depth 116 = false := by kernel_rfl
section
variable {w0 : World} {H : List Asn}
set_option maxRecDepth 10000 in
theorem Opened_c (p : Option Addr) (c m : Nat) (B : List Int) (hr : Rd w0 H (.slice p m c) m (ints .u8 B)) (hm : B.length = m) (hB : OKB B) (h4 : m ≤ 1100000) (L : Int) (hL : -9223372036854775808 ≤ L ∧ L < 9223372036854775808) (w : World) (hw : St w0 H w) :
    Calls Tryz.prog 109 #[.slice p m c, .int .i64 L] w fun e w' => (∃ x, ZR B L x [] ∧ x ≠ 0 ∧ e = .panicked (FZ x) ∧ St w0 H w') ∨ (∃ o q d, ZR B L 0 o ∧ e = .returned (.slice q o.length d) ∧ St w0 (vec 5 1 (.slice q o.length d) o.length (ints .u8 o) :: H) w') := by
  have hmc : m ≤ c := (hr.lcap hw).1
  refine enter (vs := [.slice p m c, .int .i64 L]) Tryz.func109 rfl rfl rfl hw ?_
  clear hw w
  obtain ⟨b1, hb1⟩ : ∃ b, decide (0 ≤ L ∧ L ≤ 1048576) = b := ⟨_, rfl⟩
  by_cases h1 : L < 0
  · repeat (refine sx ?_; try intro _)
    refine JO_callE Tryz.func109 Tryz.call151 rfl rfl fun A hA w hw => (Need_c _ 1 w hw).mono ?_
    rintro e w' (⟨h, rfl, hw'⟩ | ⟨h, rfl, hw'⟩)
    · cases h
    · exact .inr ⟨_, rfl, .inl ⟨1, .inl ⟨.inl h1, rfl, rfl⟩, by decide, rfl, hw'⟩⟩
  by_cases h2 : 1048576 < L
  · repeat (refine sx ?_; try intro _)
    refine JO_callE Tryz.func109 Tryz.call151 rfl rfl fun A hA w hw => (Need_c _ 1 w hw).mono ?_
    rintro e w' (⟨h, rfl, hw'⟩ | ⟨h, rfl, hw'⟩)
    · cases h
    · exact .inr ⟨_, rfl, .inl ⟨1, .inl ⟨.inr h2, rfl, rfl⟩, by decide, rfl, hw'⟩⟩
  have hrr : ∀ {x o}, ((B.length < 2 ∧ x = 20 ∧ o = []) ∨ (2 ≤ B.length ∧ ((¬ hdOK B ∧ x = 90 ∧ o = []) ∨ (hdOK B ∧ ∃ r, ALLR (B.drop 2) L.toNat r ∧ ZT B r x o)))) → ZR B L x o := fun h => .inr ⟨⟨by omega, by omega⟩, h⟩
  repeat (refine sx ?_; try intro _)
  refine JO_callE Tryz.func109 Tryz.call151 rfl rfl fun A hA w hw => (Need_c _ 1 w hw).mono ?_
  rintro e w' (⟨h, rfl, hw'⟩ | ⟨h, rfl, hw'⟩)
  rotate_left
  · exact absurd h (by first | (simp; done) | (simp; omega))
  refine .inl ⟨_, rfl, _, hw', ?_⟩
  clear hw' hw w w' hA A h
  by_cases h3 : m < 2
  · repeat (refine sx ?_; try intro _)
    refine JO_callE Tryz.func109 Tryz.call151 rfl rfl fun A hA w hw => (Need_c _ 20 w hw).mono ?_
    rintro e w' (⟨h, rfl, hw'⟩ | ⟨h, rfl, hw'⟩)
    · exact absurd h (by first | (simp; done) | (simp; omega))
    · exact .inr ⟨_, rfl, .inl ⟨20, hrr (.inl ⟨by omega, rfl, rfl⟩), by decide, rfl, hw'⟩⟩
  repeat (refine sx ?_; try intro _)
  refine JO_callE Tryz.func109 Tryz.call151 rfl rfl fun A hA w hw => (Need_c _ 20 w hw).mono ?_
  rintro e w' (⟨h, rfl, hw'⟩ | ⟨h, rfl, hw'⟩)
  rotate_left
  · exact absurd h (by first | (simp; done) | (simp; omega))
  refine .inl ⟨_, rfl, _, hw', ?_⟩
  clear hw' hw w w' hA A h
  repeat (refine sx ?_; try intro _)
  refine JO_call Tryz.call152 rfl rfl fun w hw => (ZHead_c p c m B (Rd_weak hr fun w hw => dS hw) hm hB w hw).mono ?_
  rintro e w' ⟨rfl, hw'⟩
  refine ⟨_, rfl, _, hw', ?_⟩
  clear hw' hw w w'
  by_cases h5 : hdOK B
  rotate_left
  · rw [show decide (hdOK B) = false from decide_eq_false h5]
    repeat (refine sx ?_; try intro _)
    refine JO_callE Tryz.func109 Tryz.call151 rfl rfl fun A hA w hw => (Need_c _ 90 w hw).mono ?_
    rintro e w' (⟨h, rfl, hw'⟩ | ⟨h, rfl, hw'⟩)
    · exact absurd h (by first | (simp; done) | (simp; omega))
    · exact .inr ⟨_, rfl, .inl ⟨90, hrr (.inr ⟨by omega, .inl ⟨h5, rfl, rfl⟩⟩), by decide, rfl, hw'⟩⟩
  rw [show decide (hdOK B) = true from decide_eq_true h5]
  repeat (refine sx ?_; try intro _)
  refine JO_callE Tryz.func109 Tryz.call151 rfl rfl fun A hA w hw => (Need_c _ 90 w hw).mono ?_
  rintro e w' (⟨h, rfl, hw'⟩ | ⟨h, rfl, hw'⟩)
  rotate_left
  · exact absurd h (by first | (simp; done) | (simp; omega))
  refine .inl ⟨_, rfl, _, hw', ?_⟩
  clear hw' hw w w' hA A h
  repeat (first | (apply gJO; refine JO_v (V_slice (tb := tb) (lo := 2) (hi := m) rfl rfl rfl rfl rfl rfl (by omega) (fun w hw => ⟨by omega, by omega⟩) rfl) ?_) | (refine sx ?_; try intro _))
  refine JO_call Tryz.call153 rfl rfl fun w hw => (IRead_c (subB p 2 c 1) (c - 2) (m - 2) (B.drop 2) (Rd_weak (Rd_drop hr hm (by omega)) fun w hw => dS hw) (by rw [List.length_drop]; omega) (OKB_drop hB 2) (by omega) L hL w hw).mono ?_
  rintro e w' (⟨h, _⟩ | ⟨_, _, r, hA, hp⟩)
  · omega
  obtain ⟨hz, hz'⟩ : (∀ {x o}, ZT B r x o → ZR B L x o) ∧ True := ⟨fun h => hrr (.inr ⟨by omega, .inr ⟨h5, r, hA, h⟩⟩), trivial⟩
  clear hrr hz'
  cases r with
  | err x =>
    obtain ⟨rfl, hw'⟩ := hp
    have hx := ALLR_ne hA
    refine ⟨_, rfl, _, hw', ?_⟩
    clear hw' hw w w'
    repeat (refine sx ?_; try intro _)
    refine JO_callE Tryz.func109 Tryz.call151 rfl rfl fun A hA w hw => (Need_c _ x w hw).mono ?_
    rintro e w' (⟨h, rfl, hw'⟩ | ⟨h, rfl, hw'⟩)
    · exact absurd h (by simp [hx])
    · exact .inr ⟨_, rfl, .inl ⟨x, hz ⟨rfl, rfl⟩, hx, rfl, hw'⟩⟩
  | ok a o =>
  obtain ⟨ha, ho, q, d, rfl, hw'⟩ := hp
  refine ⟨_, rfl, _, hw', ?_⟩
  clear hw' hw w w'
  obtain ⟨t, ht⟩ : ∃ t, (a + 7) / 8 = t := ⟨_, rfl⟩
  have hto : t ≤ m - 2 := by omega
  have hTl : (B.drop (2 + t)).length = m - (2 + t) := by rw [List.length_drop, hm]
  have hrT := Rd_drop (n := 2 + t) hr hm (by omega)
  obtain ⟨T, hT⟩ : ∃ T, B.drop (2 + t) = T := ⟨_, rfl⟩
  have hz2 : ∀ {x o'}, ((T.length < 4 ∧ x = 20 ∧ o' = []) ∨ (4 ≤ T.length ∧ ((T.take 4 ≠ sb4 (adl o) ∧ x = 91 ∧ o' = []) ∨ (T.take 4 = sb4 (adl o) ∧ ((4 < T.length ∧ x = 92 ∧ o' = []) ∨ (T.length = 4 ∧ x = 0 ∧ o' = o)))))) → ZR B L x o' := fun h => hz (by unfold ZT; dsimp only; rw [ht, hT]; exact h)
  have hoB : OKB o := ALLR_okb hA
  rw [hT] at hTl hrT
  rw [ht]
  clear hz
  repeat (refine sx ?_; try intro _)
  refine JO_callE Tryz.func109 Tryz.call151 rfl rfl fun A hA w hw => (Need_c _ 0 w hw).mono ?_
  rintro e w' (⟨h, rfl, hw'⟩ | ⟨h, rfl, hw'⟩)
  rotate_left
  · exact absurd h (by first | (simp; done) | (simp; omega))
  refine .inl ⟨_, rfl, _, hw', ?_⟩
  clear hw' hw w w' hA A h
  repeat (first | (apply gJO; refine JO_v (V_slice (tb := tb) (lo := 2 + t) (hi := m) rfl rfl rfl rfl rfl (by omega) (by omega) (fun w hw => ⟨by omega, by omega⟩) rfl) ?_) | (refine sx ?_; try intro _))
  by_cases h6 : m - (2 + t) < 4
  · refine JO_callE Tryz.func109 Tryz.call151 rfl rfl fun A hA w hw => (Need_c _ 20 w hw).mono ?_
    rintro e w' (⟨h, rfl, hw'⟩ | ⟨h, rfl, hw'⟩)
    · exact absurd h (by first | (simp; done) | (simp; omega))
    · exact .inr ⟨_, rfl, .inl ⟨20, hz2 (.inl ⟨by omega, rfl, rfl⟩), by decide, rfl, hw'.drop⟩⟩
  refine JO_callE Tryz.func109 Tryz.call151 rfl rfl fun A hA w hw => (Need_c _ 20 w hw).mono ?_
  rintro e w' (⟨h, rfl, hw'⟩ | ⟨h, rfl, hw'⟩)
  rotate_left
  · exact absurd h (by first | (simp; done) | (simp; omega))
  refine .inl ⟨_, rfl, _, hw', ?_⟩
  clear hw' hw w w' hA A h
  have hr4 := Rd_take (n := 4) hrT hTl (by omega)
  have hl4 : (T.take 4).length = 4 := by rw [List.length_take]; omega
  have hadl := adl_bd hoB
  obtain ⟨s, hs⟩ : ∃ s, adl o = s := ⟨_, rfl⟩
  repeat (first | apply hIx 8 | (refine sx ?_; try intro _))
  refine Hold.go ?_
  have hv : ((ints .u8 T).drop (0 * 1)).take 4 = ints .u8 (T.take 4) := by simp [ints, List.map_take]
  have hvl : (ints .u8 (T.take 4)).length = 4 := by simp only [ints_len]; exact hl4
  have heq := eq66 (T.take 4) (sb4 s) hl4 rfl
  refine JS_seq ?_
  refine JS_draw [0] (by kernel_rfl) (by kernel_rfl) (by decide +kernel) ?_
  repeat (first | (apply gQO; first | refine QO_v rfl (V_slice (tb := tb) (lo := 0) (hi := 4) rfl rfl rfl rfl rfl (by rfl) (by rfl) (fun w hw => ⟨by omega, by omega⟩) rfl) ?_ | refine QO_v rfl (V_arrayAt (tb := tb) rfl rfl (by omega) rfl) ?_ | refine QO_v rfl (V_loadSub (tb := tb) (lo := 0) (q := 4) rfl (Rd_weak hrT fun w hw => dS hw) rfl rfl (by omega) rfl (by decide) hvl hv rfl) ?_) | (refine sx ?_; try intro _))
  refine QO_call Tryz.call78 rfl rfl fun w hw => (ZSum_c q d o.length o (vec_rd (by repeat (first | apply List.Mem.head | apply List.Mem.tail))) rfl hoB (by omega) w hw).mono ?_
  rintro e w' ⟨rfl, hw'⟩
  refine ⟨_, rfl, _, hw', .inl fun w hw => hw, ?_⟩
  clear hw' hw w w'
  rw [hs] at hz2 hadl ⊢
  repeat (first | (apply gQO; refine QO_v rfl (V_eqArr (us := ints .u8 (T.take 4)) (vs := ints .u8 (sb4 s)) rfl rfl m66 heq rfl) ?_) | (refine sx ?_; try intro _))
  refine QO_callE Tryz.call151 rfl rfl fun w hw => (Need_c _ 91 w hw).mono ?_
  rintro e w' (⟨h, rfl, hw'⟩ | ⟨h, rfl, hw'⟩)
  rotate_left
  · exact .inr ⟨_, rfl, QK_e Tryz.func109 (.inl ⟨91, hz2 (.inr ⟨by omega, .inl ⟨of_decide_eq_false h, rfl, rfl⟩⟩), by decide, rfl, hw'.drop⟩)⟩
  have h7 := of_decide_eq_true h
  refine .inl ⟨_, rfl, _, hw', .inr rfl, ?_⟩
  clear hw' hw w w' h
  by_cases h8 : 4 < m - (2 + t)
  · repeat (refine sx ?_; try intro _)
    refine JO_callE Tryz.func109 Tryz.call151 rfl rfl fun A hA w hw => (Need_c _ 92 w hw).mono ?_
    rintro e w' (⟨h, rfl, hw'⟩ | ⟨h, rfl, hw'⟩)
    · exact absurd h (by first | (simp; done) | (simp; omega))
    · exact .inr ⟨_, rfl, .inl ⟨92, hz2 (.inr ⟨by omega, .inr ⟨h7, .inl ⟨by omega, rfl, rfl⟩⟩⟩), by decide, rfl, hw'.drop⟩⟩
  repeat (refine sx ?_; try intro _)
  refine JO_callE Tryz.func109 Tryz.call151 rfl rfl fun A hA w hw => (Need_c _ 92 w hw).mono ?_
  rintro e w' (⟨h, rfl, hw'⟩ | ⟨h, rfl, hw'⟩)
  rotate_left
  · exact absurd h (by first | (simp; done) | (simp; omega))
  refine .inl ⟨_, rfl, _, hw', ?_⟩
  clear hw' hw w w' hA A h
  repeat (refine sx ?_; try intro _)
  exact JS_ret Tryz.func109 rfl rfl fun w hw => .inr ⟨o, q, d, hz2 (.inr ⟨by omega, .inr ⟨h7, .inr ⟨by omega, rfl, rfl⟩⟩⟩), rfl, hw⟩
set_option maxRecDepth 10000 in
theorem ZOpen_c (p : Option Addr) (c m : Nat) (B : List Int) (hr : Rd w0 H (.slice p m c) m (ints .u8 B)) (hm : B.length = m) (hB : OKB B) (h4 : m ≤ 1100000) (L : Int) (hL : -9223372036854775808 ≤ L ∧ L < 9223372036854775808) (w : World) (hw : St w0 H w) :
    Calls Tryz.prog 69 #[.slice p m c, .int .i64 L] w fun e w' => ∃ x o q d, ZR B L x o ∧ e = .returned (.tuple #[.slice q o.length d, .int .i64 x]) ∧ St w0 (vec 5 1 (.slice q o.length d) o.length (ints .u8 o) :: H) w' := by
  refine enter (vs := [.slice p m c, .int .i64 L]) Tryz.func69 rfl rfl rfl hw ?_
  clear hw w
  repeat (first | (apply gJR; (refine sx ?_; try intro _)) | (apply gJO; first | (refine JO_deferv rfl rfl rfl ?_) | (refine JO_defer rfl rfl ?_) | (refine sx ?_; try intro _)) | apply JS_seq | apply JS_region)
  rename_i bo be
  refine JO_callE Tryz.func69 Tryz.call109 rfl rfl fun A hA w hw => (Opened_c p c m B (Rd_weak hr fun w hw => dS hw) hm hB h4 L hL w hw).mono ?_
  rintro e w' (⟨x, hz, hx, rfl, hw'⟩ | ⟨o, q, d, hz, rfl, hw'⟩)
  · exact .inr ⟨_, rfl, LvZ_err (hA.sub (by repeat (first | exact trivial | refine ⟨rfl, ?_⟩ | refine ⟨lookI rfl (by omega), ?_⟩))) (hw'.perm (List.Perm.swap _ _ _)) fun w hw => ⟨x, [], none, 0, hz, rfl, hw.nilvec⟩⟩
  refine .inl ⟨_, rfl, _, hw', ?_⟩
  clear hw' hw w w' hA A
  repeat (refine sx ?_; try intro _)
  refine JS_retD Tryz.func69 fun A w hA hw => LvZ_ok (H := vec 5 1 (.slice q o.length d) o.length (ints .u8 o) :: H) (hA.sub (by repeat (first | exact trivial | refine ⟨rfl, ?_⟩ | refine ⟨lookI rfl (by omega), ?_⟩))) (hw.perm (by (repeat (first | exact List.Perm.refl _ | refine List.Perm.cons _ ?_ | refine (List.perm_middle (l₁ := [_])).trans (List.Perm.cons _ ?_) | refine (List.perm_middle (l₁ := [_, _])).trans (List.Perm.cons _ ?_) | refine (List.perm_middle (l₁ := [_, _, _])).trans (List.Perm.cons _ ?_) | refine (List.perm_middle (l₁ := [_, _, _, _])).trans (List.Perm.cons _ ?_) | refine (List.perm_middle (l₁ := [_, _, _, _, _])).trans (List.Perm.cons _ ?_) | refine (List.perm_middle (l₁ := [_, _, _, _, _, _])).trans (List.Perm.cons _ ?_) | refine (List.perm_middle (l₁ := [_, _, _, _, _, _, _])).trans (List.Perm.cons _ ?_) | refine (List.perm_middle (l₁ := [_, _, _, _, _, _, _, _])).trans (List.Perm.cons _ ?_) | refine (List.perm_middle (l₁ := [_, _, _, _, _, _, _, _, _])).trans (List.Perm.cons _ ?_) | refine (List.perm_middle (l₁ := [_, _, _, _, _, _, _, _, _, _])).trans (List.Perm.cons _ ?_) | refine (List.perm_middle (l₁ := [_, _, _, _, _, _, _, _, _, _, _])).trans (List.Perm.cons _ ?_) | refine (List.perm_middle (l₁ := [_, _, _, _, _, _, _, _, _, _, _, _])).trans (List.Perm.cons _ ?_) | refine (List.perm_middle (l₁ := [_, _, _, _, _, _, _, _, _, _, _, _, _])).trans (List.Perm.cons _ ?_))))) fun w hw => ⟨0, o, q, d, hz, rfl, hw⟩
end
end Go.Proofs.YteelffkghidpfaaGreat

namespace Go.Proofs.YteelffkghidpfaaGreat
open Sx Go
set_option linter.unusedVariables false
set_option linter.unusedSimpArgs false
set_option maxRecDepth 100000
attribute [local irreducible] syA fc tk cds
theorem bval_take (c : Int) (n : Nat) (hc : 0 ≤ c ∧ c < 2 ^ n) : ∀ k, k ≤ n → bval (fun j => (bms c n).getD j 0) k = c / 2 ^ (n - k) := by
  intro k
  induction k with
  | zero => intro _; rw [Nat.sub_zero]; exact (Int.ediv_eq_zero_of_lt hc.1 hc.2).symm
  | succ k ih =>
    intro hk
    have h1 := ih (by omega)
    have h2 : (bms c n).getD k 0 = c / 2 ^ (n - 1 - k) % 2 := by simp [bms, List.getD_eq_getElem?_getD, show k < n by omega]
    rw [show n - k = (n - (k + 1)) + 1 by omega, div_step] at h1
    rw [show n - 1 - k = n - (k + 1) by omega] at h2
    show 2 * bval (fun j => (bms c n).getD j 0) k + (bms c n).getD k 0 = _
    omega
end Go.Proofs.YteelffkghidpfaaGreat

namespace Go.Proofs.YteelffkghidpfaaGreat
open Sx Go
set_option linter.unusedVariables false
set_option linter.unusedSimpArgs false
set_option maxRecDepth 100000
attribute [local irreducible] syA fc tk cds
theorem bval_cg {b b' : Nat → Int} : ∀ {n : Nat}, (∀ j, j < n → b j = b' j) → bval b n = bval b' n
  | 0, _ => rfl
  | n + 1, h => by simp only [bval]; rw [bval_cg (n := n) (fun j hj => h j (by omega)), h n (by omega)]
structure AG (bt bt' : Nat → Int) (N N' M : Nat) : Prop where
  eq : ∀ j, j < M → bt j = bt' j
  le : M ≤ N
  le' : M ≤ N'
  b : ∀ j, bt j = 0 ∨ bt j = 1
  b' : ∀ j, bt' j = 0 ∨ bt' j = 1
section
variable {bt bt' : Nat → Int} {N N' M : Nat}
theorem AG.nbt (h : AG bt bt' N N' M) {a c : Nat} (hc : a + c ≤ M) : nbt bt a c = nbt bt' a c := nbt_congr fun j hj => h.eq _ (by omega)
def AGg (M : Nat) (c : Prop) (f f' : Nat → List Int → Stp) : Prop := ∀ a o a' o', a ≤ M → f a o = .go a' o' → (a' ≤ M → f' a o = .go a' o') ∧ (c → M < a' → f' a o = .err 20)
def AGs (M : Nat) (c : Prop) (f f' : Nat → List Int → Stp) : Prop := ∀ a o a' o', a ≤ M → f a o = .stop a' o' → (a' ≤ M → f' a o = .stop a' o') ∧ (c → M < a' → f' a o = .err 20)
def AGr (M : Nat) (c : Prop) (f f' : Nat → List Int → Res) : Prop := ∀ a o a' o', a ≤ M → f a o = .ok a' o' → (a' ≤ M → f' a o = .ok a' o') ∧ (c → M < a' → f' a o = .err 20)
end
end Go.Proofs.YteelffkghidpfaaGreat

set_option linter.unusedVariables false
set_option linter.unusedSimpArgs false
set_option maxRecDepth 100000
namespace Go.Proofs.YteelffkghidpfaaGreat
open Sx Go
attribute [local irreducible] syA fc tk cds
def AtB (bt : Nat → Int) (a : Nat) (L : List Int) : Prop := ∀ j, j < L.length → bt (a + j) = L.getD j 0
theorem AtB.left {bt : Nat → Int} {a : Nat} {L M : List Int} (h : AtB bt a (L ++ M)) : AtB bt a L := fun j hj => by
  rw [h j (by rw [List.length_append]; omega), List.getD_eq_getElem?_getD, List.getElem?_append_left hj, ← List.getD_eq_getElem?_getD]
theorem AtB.right {bt : Nat → Int} {a : Nat} {L M : List Int} (h : AtB bt a (L ++ M)) : AtB bt (a + L.length) M := fun j hj => by
  rw [Nat.add_assoc, h (L.length + j) (by rw [List.length_append]; omega), List.getD_eq_getElem?_getD, List.getElem?_append_right (by omega), Nat.add_sub_cancel_left, ← List.getD_eq_getElem?_getD]
theorem sym_bits {bt : Nat → Int} {N a : Nat} {L : List Int} (hB : OKB L) (hk : OKL L) (hb : ∀ j, bt j = 0 ∨ bt j = 1) {i n : Nat} (hi : i < L.length) (h0 : 0 < n) (hn : L.getD i 0 = (n : Int)) (hN : a + n ≤ N) (h : AtB bt a (bms (cd L i) n)) : symS bt N L a = .ok i (a + n) := by
  have hc := cd_lt L hB hk i n hi h0 hn
  have hv : bval (fun j => bt (a + j)) n = cd L i := by
    rw [bval_cg (b' := fun j => (bms (cd L i) n).getD j 0) (fun j hj => h j (by rw [bms_ln]; exact hj)), bval_take (cd L i) n hc n (Nat.le_refl _), Nat.sub_self, Int.pow_zero, Int.ediv_one]
  have := symS_of (bt := bt) (N := N) (a := a) hB hk hb (i := i) (u := n) (r := 0) (.inl ⟨i, rfl, rfl, ⟨n, hi, h0, hn, by omega, hv⟩, hn⟩)
  rw [if_pos rfl] at this
  exact this
theorem nbt_at {bt : Nat → Int} {a k : Nat} {r : Int} (hr : 0 ≤ r ∧ r < 2 ^ k) (h : AtB bt a (grp r k)) : nbt bt a k = r := by
  rw [← bnum_nbt, num_congr (g := fun t => r / 2 ^ t % 2) k (fun t ht => by rw [h t (by rw [grp_len]; exact ht), grp_get ht]), bnum_bits, Int.emod_eq_of_lt hr.1 hr.2]
theorem sam_same (B : List Int) : ∀ (f i k j : Nat), j < sam B i k f → B.getD (i + j) 0 = B.getD (k + j) 0
  | 0, i, k, j, h => by rw [sam] at h; omega
  | f + 1, i, k, j, h => by
    rw [sam] at h
    split at h
    · rename_i hc
      cases j with
      | zero => exact hc.2
      | succ j =>
        have := sam_same B f (i + 1) (k + 1) j (by omega)
        rw [show i + (j + 1) = i + 1 + j by omega, show k + (j + 1) = k + 1 + j by omega]; exact this
    · omega
theorem bst_same (B : List Int) (at_ : Nat) : ∀ (i : Nat) (s : Nat × Nat), i ≤ at_ → (s.1 = 0 ∨ (s.1 = sam B (at_ - s.2) at_ 258 ∧ s.2 ≤ at_)) → (bst B at_ i s).1 = 0 ∨ ((bst B at_ i s).1 = sam B (at_ - (bst B at_ i s).2) at_ 258 ∧ (bst B at_ i s).2 ≤ at_)
  | 0, s, _, h => by rw [bst]; exact h
  | i + 1, s, hi, h => by
    rw [bst]
    split
    · exact h
    · refine bst_same B at_ i _ (by omega) ?_
      split
      · right
        refine ⟨?_, by show at_ - i ≤ at_; omega⟩
        show sam B i at_ 258 = sam B (at_ - (at_ - i)) at_ 258
        rw [show at_ - (at_ - i) = i by omega]
      · exact h
theorem tok_same {B : List Int} {at_ n d : Nat} {x : Int} (h : tok B at_ = (x, n, d)) : ∀ j, j < n → B.getD (at_ - d + j) 0 = B.getD (at_ + j) 0 := by
  intro j hj
  have hb := bst_same B at_ at_ (0, 0) (Nat.le_refl _) (.inl rfl)
  unfold tok at h
  split at h
  · have : n = 0 := (Prod.mk.inj (Prod.mk.inj h).2).1.symm
    omega
  · have h1 := (Prod.mk.inj (Prod.mk.inj h).2).1
    have h2 := (Prod.mk.inj (Prod.mk.inj h).2).2
    rw [h1, h2] at hb
    rcases hb with hb | hb
    · omega
    · exact sam_same B 258 (at_ - d) at_ j (by omega)
theorem cpy_take {B : List Int} {at_ d : Nat} (h1 : 1 ≤ d) (h2 : d ≤ at_) : ∀ n, at_ + n ≤ B.length → (∀ j, j < n → B.getD (at_ - d + j) 0 = B.getD (at_ + j) 0) → cpy (B.take at_) d n = B.take (at_ + n)
  | 0, _, _ => rfl
  | n + 1, hn, hs => by
    have ih := cpy_take h1 h2 n (by omega) (fun j hj => hs j (by omega))
    have hl : (B.take (at_ + n)).length = at_ + n := by rw [List.length_take]; omega
    rw [cpy, ih, hl, ← Nat.add_assoc, List.take_add_one, List.getElem?_eq_getElem (show at_ + n < B.length by omega)]
    have e := hs n (by omega)
    have g : (B.take (at_ + n)).getD (at_ + n - d) 0 = B.getD (at_ + n) 0 := by
      rw [List.getD_eq_getElem?_getD, List.getElem?_take, if_pos (by omega), ← List.getD_eq_getElem?_getD, ← e, show at_ + n - d = at_ - d + n by omega]
    rw [g, List.getD_eq_getElem?_getD, List.getElem?_eq_getElem (show at_ + n < B.length by omega)]
    rfl
def tkg (cl cs : Nat → List Int) (t : Int × Nat × Nat) : List Int :=
  if t.2.2 = 0 then cl t.1.toNat
  else cl (lenS t.2.1).1.toNat ++ grp (lenS t.2.1).2.2 (lenS t.2.1).2.1.toNat ++ cs (spanS t.2.2).1.toNat ++ grp (spanS t.2.2).2.2 (spanS t.2.2).2.1.toNat
def ts1 (t : Int × Nat × Nat) : Nat := if t.2.2 = 0 then t.1.toNat else (lenS t.2.1).1.toNat
def ts2 (t : Int × Nat × Nat) : Nat := (spanS t.2.2).1.toNat
theorem lbase_pos : ∀ j : Fin 29, 3 ≤ (lbase (257 + (j.val : Int))).1 := by decide +kernel
theorem lfar_pos : ∀ j : Fin 30, 1 ≤ (lfar (j.val : Int)).1 := by decide +kernel
def CODED (bt : Nat → Int) (N : Nat) (L : List Int) (c : Nat → List Int) (k : Nat) : Prop := ∀ a, a + (c k).length ≤ N → AtB bt a (c k) → symS bt N L a = .ok k (a + (c k).length)
section
variable {bt : Nat → Int} {N lim : Nat} {L D : List Int} {cl cs : Nat → List Int} {B : List Int}
attribute [local irreducible] grp lenS spanS lbase lfar
theorem tok_step (hB : OKB B) {at_ a : Nat} (hat : at_ < B.length) (hlim : B.length ≤ lim) (h1 : CODED bt N L cl (ts1 (tok B at_))) (h2 : (tok B at_).2.2 ≠ 0 → CODED bt N D cs (ts2 (tok B at_))) (hN : a + (tkg cl cs (tok B at_)).length ≤ N) (hA : AtB bt a (tkg cl cs (tok B at_))) :
    blkF bt N lim L D a (B.take at_) = .go (a + (tkg cl cs (tok B at_)).length) (B.take (at_ + max 1 (tok B at_).2.1)) := by
  have hl : (B.take at_).length = at_ := by rw [List.length_take]; omega
  rcases tok_bd B at_ hat with h | ⟨n, d, h, g1, g2, g3, g4, g5, g6⟩
  · rw [h] at h1 hN hA ⊢
    have hb := hB at_
    obtain ⟨x, hx⟩ : ∃ x : Nat, B.getD at_ 0 = x := ⟨(B.getD at_ 0).toNat, by omega⟩
    rw [hx] at h1 hN hA ⊢
    have e1 : tkg cl cs ((x : Int), 0, 0) = cl x := by unfold tkg; rw [if_pos rfl]; rfl
    have e2 : ts1 ((x : Int), 0, 0) = x := by unfold ts1; rw [if_pos rfl]; rfl
    rw [e1] at hN hA ⊢
    rw [e2] at h1
    have hs := h1 a hN hA
    unfold blkF
    rw [hs]
    simp only []
    show (if (x : Int) = 256 then _ else _) = Stp.go _ (B.take (at_ + 1))
    rw [if_neg (by omega), if_pos (by omega), if_neg (by omega), List.take_add_one, List.getElem?_eq_getElem hat]
    rw [List.getD_eq_getElem?_getD, List.getElem?_eq_getElem hat, Option.getD_some] at hx
    rw [hx]
    rfl
  · have hsame := tok_same h
    rw [h] at h1 h2 hN hA ⊢
    obtain ⟨s, nb, r, e1, a1, a2, a3, a4, a5, a6⟩ := lenS_bd n (by omega) (by omega)
    obtain ⟨s', nb', r', e2, c1, c3, c4, c5, c6⟩ := spanS_bd d (by omega) (by omega)
    have a7 : 3 ≤ n - r := by
      have := lbase_pos ⟨s - 257, by omega⟩
      simp only [] at this
      rw [show (257 : Int) + ((s - 257 : Nat) : Int) = s by omega, a6] at this
      exact this
    have c7 : 1 ≤ d - r' := by
      have := lfar_pos ⟨s', by omega⟩
      simp only [] at this
      rw [c6] at this
      exact this
    have htb : tkg cl cs ((0 : Int), n, d) = cl s ++ grp r nb ++ cs s' ++ grp r' nb' := by
      unfold tkg
      simp only []
      rw [if_neg (by omega), e1, e2]
      simp only [Int.toNat_natCast]
    have ht1 : ts1 ((0 : Int), n, d) = s := by unfold ts1; simp only []; rw [if_neg (by omega), e1]; simp only [Int.toNat_natCast]
    have ht2 : ts2 ((0 : Int), n, d) = s' := by unfold ts2; simp only []; rw [e2]; simp only [Int.toNat_natCast]
    rw [htb] at hN hA ⊢
    rw [ht1] at h1
    rw [ht2] at h2
    simp only [List.length_append, grp_len] at hN ⊢
    have b1 := hA.left.left.left
    have b2 := hA.left.left.right
    have b3 := hA.left.right
    have b4 := hA.right
    simp only [List.length_append, grp_len, ← Nat.add_assoc] at b2 b3 b4
    have v1 := h1 a (by omega) b1
    have v2 := nbt_at ⟨a4, a5⟩ b2
    have v3 := h2 (by show d ≠ 0; omega) (a + (cl s).length + nb) (by omega) b3
    have v4 := nbt_at ⟨c4, c5⟩ b4
    unfold blkF
    rw [v1]
    simp only []
    rw [if_neg (by omega), if_neg (by omega), a6]
    simp only []
    rw [if_neg (by omega), Int.toNat_natCast, if_neg (by omega), v2]
    unfold blk2
    rw [v3]
    simp only []
    rw [c6]
    simp only []
    rw [if_neg (by omega), Int.toNat_natCast, if_neg (by omega), v4, hl, if_neg (by omega), if_neg (by omega), show (d : Int) - r' + r' = d by omega, show (n : Int) - r + r = n by omega, Int.toNat_natCast, Int.toNat_natCast, cpy_take g4 g5 n g3 hsame]
    rw [show max 1 n = n by omega]
    congr 1
    omega
theorem toks_It (hB : OKB B) (hlim : B.length ≤ lim) (h256 : CODED bt N L cl 256) : ∀ (f at_ a : Nat), B.length - at_ ≤ f → at_ ≤ B.length → (∀ t ∈ toks B f at_, CODED bt N L cl (ts1 t) ∧ (t.2.2 ≠ 0 → CODED bt N D cs (ts2 t))) →
    a + ((toks B f at_).flatMap (tkg cl cs) ++ cl 256).length ≤ N → AtB bt a ((toks B f at_).flatMap (tkg cl cs) ++ cl 256) → It (blkF bt N lim L D) a (B.take at_) (.ok (a + ((toks B f at_).flatMap (tkg cl cs) ++ cl 256).length) B) := by
  have hend : ∀ a, a + (cl 256).length ≤ N → AtB bt a (cl 256) → It (blkF bt N lim L D) a (B.take B.length) (.ok (a + (cl 256).length) B) := fun a hN hA => by
    rw [List.take_length]
    refine .stop ?_
    unfold blkF
    rw [h256 a hN hA]
    rfl
  intro f
  induction f with
  | zero =>
    intro at_ a hf hat hT hN hA
    obtain rfl : at_ = B.length := by omega
    rw [toks, List.flatMap_nil, List.nil_append] at hN hA ⊢
    exact hend a hN hA
  | succ f ih =>
    intro at_ a hf hat hT hN hA
    rw [toks] at hT hN hA ⊢
    by_cases h : at_ < B.length
    · rw [if_pos h] at hT hN hA ⊢
      rw [List.flatMap_cons, List.append_assoc] at hN hA ⊢
      have hT0 := hT (tok B at_) (by simp)
      rw [List.length_append] at hN ⊢
      have hs := tok_step hB h hlim hT0.1 hT0.2 (by omega) hA.left
      have hbd := tok_bd B at_ h
      have hle : at_ + max 1 (tok B at_).2.1 ≤ B.length := by
        rcases hbd with h' | ⟨n, d, h', g1, g2, g3, _⟩
        · rw [h']; show at_ + 1 ≤ _; omega
        · rw [h']; show at_ + max 1 n ≤ _; omega
      have hr := ih (at_ + max 1 (tok B at_).2.1) (a + (tkg cl cs (tok B at_)).length) (by omega) hle (fun t ht => hT t (by simp [ht])) (by omega) hA.right
      rw [Nat.add_assoc] at hr
      exact .go hs hr
    · rw [if_neg h] at hT hN hA ⊢
      obtain rfl : at_ = B.length := by omega
      rw [List.flatMap_nil, List.nil_append] at hN hA ⊢
      exact hend a hN hA
end
end Go.Proofs.YteelffkghidpfaaGreat

set_option linter.unusedVariables false
set_option linter.unusedSimpArgs false
set_option maxRecDepth 100000
namespace Go.Proofs.YteelffkghidpfaaGreat
open Sx Go
attribute [local irreducible] syA fc tk cds
theorem fx_coded {bt : Nat → Int} {N : Nat} (hb : ∀ j, bt j = 0 ∨ bt j = 1) (k : Nat) (hk : k < 288) : CODED bt N (tab 288 fixF) fxS k := by
  intro a hN hA
  obtain ⟨x, h1, h2, h3, _⟩ := fx_at k hk
  have hc : fxC.getD k 0 = cd fxB k := by
    unfold fxC
    rw [cds_get fxB fxB_okl.2.1 k (by rw [fxB_len]; exact hk), if_pos (by omega)]
  have e : fxS k = bms (cd fxB k) x := by unfold fxS; rw [h1, Int.toNat_natCast, hc]
  rw [e, bms_ln] at hN ⊢
  rw [e] at hA
  rw [fxB_eq]
  exact sym_bits fxB_okb fxB_okl hb (by rw [fxB_len]; exact hk) (by omega) h1 hN hA
theorem sp_coded {bt : Nat → Int} {N : Nat} (hb : ∀ j, bt j = 0 ∨ bt j = 1) (k : Nat) (hk : k < 32) : CODED bt N (List.replicate 32 5) spS k := by
  intro a hN hA
  obtain ⟨h1, _⟩ := sp_at k hk
  have hc : spC.getD k 0 = cd spB k := by
    unfold spC
    rw [cds_get spB spB_okl.2.1 k (by rw [spB_len]; exact hk), if_pos (by rw [h1]; decide)]
  have e : spS k = bms (cd spB k) 5 := by unfold spS; rw [hc]
  rw [e, bms_ln] at hN ⊢
  rw [e] at hA
  rw [spB_eq]
  exact sym_bits spB_okb spB_okl hb (by rw [spB_len]; exact hk) (by omega) h1 hN hA
theorem TOK_ts {t : Int × Nat × Nat} (h : TOK t) : ts1 t < 286 ∧ ts2 t < 30 := by
  have hz : (spanS ((0 : Nat) : Int)).1.toNat = 0 := by decide +kernel
  unfold ts1 ts2
  rcases h with ⟨h1, h2, h3, h4⟩ | ⟨h1, h2, h3, h4, h5⟩
  · rw [if_pos h4, h4, hz]; omega
  · rw [if_neg (by omega)]
    obtain ⟨s, b, r, e, a1, a2, a3, _⟩ := lenS_bd t.2.1 (by omega) (by omega)
    obtain ⟨s', b', r', e', a1', a3', _⟩ := spanS_bd t.2.2 (by omega) (by omega)
    rw [e, e']
    simp only [Int.toNat_natCast]
    omega
theorem pack_at (L S : List Int) (hL : ∀ j, L.getD j 0 = 0 ∨ L.getD j 0 = 1) : AtB (bitB (pack L ++ S) 0) 0 L := by
  intro j hj
  have h := pack_bit L hL 0 j
  unfold bitB at h ⊢
  rw [Nat.zero_add] at h ⊢
  rw [Nat.zero_add, List.getD_eq_getElem?_getD, List.getElem?_append_left (by rw [pack_len]; omega), ← List.getD_eq_getElem?_getD, h]
theorem ALLR_fix {B S : List Int} {lim : Nat} (hB : OKB B) (hl : B.length ≤ lim) : ALLR (pack (fixL B) ++ S) lim (.ok (fixL B).length B) := by
  have hb := bitB_01 (pack (fixL B) ++ S) 0
  have hA := pack_at (fixL B) S (fixL_01 B)
  have hlen : (fixL B).length ≤ 8 * (pack (fixL B) ++ S).length := by rw [List.length_append, pack_len]; omega
  unfold ALLR
  obtain ⟨N, hN⟩ : ∃ N, 8 * (pack (fixL B) ++ S).length = N := ⟨_, rfl⟩
  obtain ⟨bt, hbt⟩ : ∃ bt, bitB (pack (fixL B) ++ S) 0 = bt := ⟨_, rfl⟩
  rw [hN] at hlen ⊢
  rw [hbt] at hb hA ⊢
  have hfix : fixL B = grp 1 1 ++ (grp 1 2 ++ ((toks B B.length 0).flatMap (tkg fxS spS) ++ fxS 256)) := by
    unfold fixL; simp only [List.append_assoc]; rfl
  rw [hfix] at hA hlen ⊢
  have b1 := hA.left
  have b2 := hA.right.left
  have b3 := hA.right.right
  simp only [grp_len, Nat.zero_add] at b1 b2 b3
  have v1 := nbt_at (k := 1) ⟨by decide, by decide⟩ b1
  have v2 := nbt_at (k := 2) ⟨by decide, by decide⟩ b2
  obtain ⟨M, hM⟩ : ∃ M, (toks B B.length 0).flatMap (tkg fxS spS) ++ fxS 256 = M := ⟨_, rfl⟩
  rw [hM] at b3 hlen ⊢
  simp only [List.length_append, grp_len] at hlen ⊢
  have hIt := toks_It (bt := bt) (N := N) (L := tab 288 fixF) (D := List.replicate 32 5) (cl := fxS) (cs := spS) hB hl (fx_coded hb 256 (by omega)) B.length 0 3 (by omega) (by omega)
    (fun t ht => by have := TOK_ts (toks_TOK hB _ _ t ht); exact ⟨fx_coded hb _ (by omega), fun _ => sp_coded hb _ (by omega)⟩) (by rw [hM]; omega) (by rw [hM]; exact b3)
  rw [hM, List.take_zero] at hIt
  have hk : kndF bt N lim 1 (0 + 3) [] = .ok (3 + M.length) B := by
    unfold kndF
    rw [if_neg (by decide), if_pos rfl]
    exact itF_of hIt
  refine .stop ?_
  unfold rdF
  rw [if_neg (by omega), if_neg (by omega), show (0 : Nat) + 1 = 1 from rfl, v2, hk]
  simp only []
  rw [v1, if_neg (by decide)]
  congr 1
  omega
theorem ALLR_best {B S : List Int} {lim : Nat} (hB : OKB B) (hS : OKB (sbs B ++ S)) (hl : B.length ≤ lim) : ∃ a, (a + 7) / 8 = (bestB B).length ∧ ALLR (bestB B ++ S) lim (.ok a B) := by
  unfold bestB
  split
  · exact ⟨_, by omega, ALLR_sbs hS hl⟩
  · exact ⟨_, (pack_len _).symm, ALLR_fix hB hl⟩
end Go.Proofs.YteelffkghidpfaaGreat

set_option linter.unusedVariables false
set_option linter.unusedSimpArgs false
set_option maxRecDepth 100000
namespace Go.Proofs.YteelffkghidpfaaGreat
open Sx Go
theorem sb4_okb {s : Int} (h : 0 ≤ s ∧ s < 4294967296) : OKB (sb4 s) := OKB_of (by simp only [sb4, List.all_cons, List.all_nil, Bool.and_true, Bool.and_eq_true, decide_eq_true_eq]; omega)
theorem pk_okb {B : List Int} (hB : OKB B) : OKB (pkB B) := by
  have o1 := pack_okb' (fixL B) (fixL_01 B)
  have o2 := sbs_okb hB
  have o3 : OKB (bestB B) := by unfold bestB; split <;> assumption
  exact OKB_app (OKB_app (okb_small (by decide)) o3) (sb4_okb (adl_bd hB))
theorem pk_len (B : List Int) : (pkB B).length = (bestB B).length + 6 := by simp [pkB, sb4]
theorem pk_head (B S : List Int) : hdOK (pkB B ++ S) := by
  have h0 : (pkB B ++ S).getD 0 0 = 120 := rfl
  have h1 : (pkB B ++ S).getD 1 0 = 1 := rfl
  unfold hdOK
  rw [h0, h1]
  refine ⟨by simp only [List.length_append, pk_len]; omega, by decide, by decide, by decide, by decide⟩
theorem pk_drop2 (B S : List Int) : (pkB B ++ S).drop 2 = bestB B ++ (sb4 (adl B) ++ S) := by
  simp [pkB, List.append_assoc]
theorem pk_dropn (B S : List Int) : (pkB B ++ S).drop (2 + (bestB B).length) = sb4 (adl B) ++ S := by
  rw [← List.drop_drop, pk_drop2]
  simp
theorem ZR_pk {B S : List Int} (hB : OKB B) (hS : OKB S) (L : Int) (hL : 0 ≤ L ∧ L ≤ 1048576) (hl : (B.length : Int) ≤ L) : ZR (pkB B ++ S) L (if S = [] then 0 else 92) (if S = [] then B else []) := by
  obtain ⟨a, ha, hA⟩ := ALLR_best (lim := L.toNat) (S := sb4 (adl B) ++ S) hB (OKB_app (sbs_okb hB) (OKB_app (sb4_okb (adl_bd hB)) hS)) (by omega)
  refine .inr ⟨hL, .inr ⟨by simp only [List.length_append, pk_len]; omega, .inr ⟨pk_head B S, _, by rw [pk_drop2]; exact hA, ?_⟩⟩⟩
  have h4 : (sb4 (adl B)).length = 4 := rfl
  unfold ZT
  dsimp only
  rw [ha, pk_dropn, List.length_append, h4]
  refine .inr ⟨by omega, .inr ⟨by rw [List.take_append_of_le_length (by rw [h4]; omega)]; rfl, ?_⟩⟩
  by_cases h : S = []
  · rw [if_pos h, if_pos h, h]; exact .inr ⟨rfl, rfl, rfl⟩
  · rw [if_neg h, if_neg h]
    have := List.length_pos_iff.2 h
    exact .inl ⟨by omega, rfl, rfl⟩
section
variable {w0 : World} {H : List Asn}
end
end Go.Proofs.YteelffkghidpfaaGreat

namespace Go.Proofs.YteelffkghidpfaaGreat
open Sx Go
set_option linter.unusedVariables false
set_option linter.unusedSimpArgs false
theorem p256_le (k : Nat) (h : k ≤ 8) : (256 : Int) ^ k ≤ 18446744073709551616 := by
  have : ∀ k, k < 9 → (256 : Int) ^ k ≤ 18446744073709551616 := by decide
  exact this k (by omega)
section
variable {w0 : World} {H : List Asn}
abbrev RdR (w0 : World) (H : List Asn) (b : Nat) (u : Value) (at_ : Nat) (D : Int × Nat × Int) : Ending → World → Prop := fun e w' => e = .returned (.tuple #[.int .u64 D.1, .int .i64 D.2.2]) ∧ St w0 (blk b (rdC u (at_ + D.2.1)) :: H) w'
set_option maxRecDepth 10000 in
set_option maxHeartbeats 2000000 in
theorem RLow_c (s : Nat) (hs : s ≤ 8) (b : Nat) (p : Option Addr) (c m at_ : Nat) (B : List Int) (hR : Rd w0 H (.slice p m c) m (ints .u8 B)) (hm : B.length = m) (hB : OKB B) (ha : at_ ≤ m) (hmm : m ≤ 140737488355328) (w : World) (hw : St w0 (blk b (rdC (.slice p m c) at_) :: H) w) :
    Calls Tryz.prog 194 #[.pointer (some ⟨b, 0, none⟩), .int .i64 s] w (RdR w0 H b (.slice p m c) at_ (dFix false s (B.drop at_))) := by
  unfold RdR
  have hdl : (B.drop at_).length = m - at_ := by rw [List.length_drop, hm]
  refine enter (vs := [.pointer (some ⟨b, 0, none⟩), .int .i64 s]) Tryz.func194 rfl rfl rfl hw ?_
  clear hw w
  repeat (refine sx ?_; try intro _)
  refine JO_call Tryz.call116 rfl rfl fun w hw => (RLeft_c b p c m at_ (List.Mem.head _) ha hmm w hw).mono ?_
  rintro e w' ⟨rfl, hw'⟩
  (refine ⟨_, rfl, _, hw', ?_⟩; clear hw' hw w w')
  unfold dFix
  rw [hdl]
  by_cases hlt : m - at_ < s
  · rw [if_pos hlt]
    repeat (refine sx ?_; try intro _)
    exact JS_ret Tryz.func194 rfl rfl fun w hw => ⟨rfl, hw⟩
  · rw [if_neg hlt]
    have hRD := dropB_get B at_
    have hOK := hB.drop at_
    generalize hRR : B.drop at_ = R at *
    repeat (first | (apply gJR; (refine sx ?_; try intro _)) | (apply gJO; (refine sx ?_; try intro _)) | (apply gJS; refine JS_condF rfl ?_) | (apply gJS; refine JS_cond_F rfl (by omega) ?_) | apply JS_skip | apply JS_seq | apply JS_region)
    refine JS_block ?_
    refine JS_loop1 (fun (i : Nat) => [(0, .pointer (some ⟨b, 0, none⟩)), (1, .int .i64 s), (6, .int .u64 (lowN (R.take i))), (12, .int .i64 s), (13, .int .i64 i)]) (fun _ => blk b (rdC (.slice p m c) at_) :: H) (fun i => i ≤ s) (fun i => s - i) 0 (Nat.zero_le _) (by repeat (first | exact trivial | refine ⟨rfl, ?_⟩ | refine ⟨lookI rfl (by omega), ?_⟩)) (fun w hw => hw) ?_
    intro i hi again
    by_cases his : i < s
    · have hg := ints_get (K := .u8) (l := B) (j := at_ + i) (by omega)
      have hx := hRD i
      have hxb := hOK i
      have hst := takeB_step R i (by omega)
      have hbd := lowN_bd (R.take i) fun x hx => hOK.mem x (List.mem_of_mem_take hx)
      have hap := lowN_app (R.getD i 0) (R.take i)
      have htl : (R.take i).length = i := by rw [List.length_take]; omega
      rw [htl] at hbd hap
      rw [← hst] at hap
      rw [← hx] at hg
      have hp : (256 : Int) ^ i = 2 ^ (8 * i) := by rw [Int.pow_mul]; rfl
      rw [hp] at hbd hap
      have hbd2 := lowN_bd (R.take (i + 1)) fun x hx => hOK.mem x (List.mem_of_mem_take hx)
      have htl2 : (R.take (i + 1)).length = i + 1 := by rw [List.length_take]; omega
      rw [htl2] at hbd2
      have h64 := p256_le (i + 1) (by omega)
      generalize R.getD i 0 = x at *
      generalize lowN (R.take i) = a at *
      have hlo : 0 ≤ x * 2 ^ (8 * i) := Int.mul_nonneg hxb.1 (Int.le_of_lt (Int.lt_of_le_of_lt hbd.1 hbd.2))
      have ca : IntKind.i64.wrap ((at_ : Int) + i) = ((at_ + i : Nat) : Int) := (wi64 (by omega)).trans (by omega)
      have ej : min (8 * (i : Int)).toNat IntKind.u64.bits = 8 * i := by
        rw [show IntKind.u64.bits = 64 from rfl]; omega
      have cs : IntKind.u64.wrap (x * 2 ^ (8 * i)) = x * 2 ^ (8 * i) := wu64 (by omega)
      have co := or_hi (a := a) (b := x) (8 * i) hbd hxb.1 (by omega)
      rw [← hap] at co
      repeat (first | (apply gQO; first | refine QO_v rfl (oL (V_load (tb := tb) rfl (List.Mem.head _) rfl rfl rfl rfl)) ?_ | refine QO_v rfl (V_add rfl rfl ca rfl) ?_ | refine QO_v rfl (oIA (V_index (tb := tb) rfl rfl rfl rfl (Rd.sl (Rd_weak hR fun w hw => dS hw)) (by omega) (by (try simp only [tn, tna, tn1, tn2, tn3, tn4, tnd16, tnd8, Int.reduceToNat]); first | exact Nat.mul_one _ | exact rfl) rfl)) ?_ | refine QO_v rfl (oL (V_loadC (tb := tb) rfl (Rd_weak hR fun w hw => dS hw) rfl rfl hg rfl)) ?_ | refine QO_v rfl (V_shl rfl rfl (by omega) ej cs rfl) ?_ | refine QO_v rfl (V_or rfl rfl co rfl) ?_) | (refine sx ?_; try intro _))
      exact JS_again1 again (i + 1) (by omega) (by omega) (by repeat (first | exact trivial | refine ⟨rfl, ?_⟩ | refine ⟨lookI rfl (by omega), ?_⟩)) (fun w hw => hw)
    · obtain rfl : i = s := by omega
      have cb : IntKind.i64.wrap ((at_ : Int) + i) = ((at_ + i : Nat) : Int) := (wi64 (by omega)).trans (by omega)
      generalize lowN (R.take i) = a at *
      repeat (first | (apply gJO; first | refine JO_v (oL (V_load (tb := tb) rfl (List.Mem.head _) rfl rfl rfl rfl)) ?_ | refine JO_v (V_add rfl rfl cb rfl) ?_) | (refine sx ?_; try intro _))
      exact JS_ret Tryz.func194 rfl rfl fun w hw => ⟨rfl, hw⟩
set_option maxRecDepth 10000 in
set_option maxHeartbeats 2000000 in
theorem RHigh_c (s : Nat) (hs : s ≤ 8) (b : Nat) (p : Option Addr) (c m at_ : Nat) (B : List Int) (hR : Rd w0 H (.slice p m c) m (ints .u8 B)) (hm : B.length = m) (hB : OKB B) (ha : at_ ≤ m) (hmm : m ≤ 140737488355328) (w : World) (hw : St w0 (blk b (rdC (.slice p m c) at_) :: H) w) :
    Calls Tryz.prog 196 #[.pointer (some ⟨b, 0, none⟩), .int .i64 s] w (RdR w0 H b (.slice p m c) at_ (dFix true s (B.drop at_))) := by
  unfold RdR
  have hdl : (B.drop at_).length = m - at_ := by rw [List.length_drop, hm]
  refine enter (vs := [.pointer (some ⟨b, 0, none⟩), .int .i64 s]) Tryz.func196 rfl rfl rfl hw ?_
  clear hw w
  repeat (refine sx ?_; try intro _)
  refine JO_call Tryz.call116 rfl rfl fun w hw => (RLeft_c b p c m at_ (List.Mem.head _) ha hmm w hw).mono ?_
  rintro e w' ⟨rfl, hw'⟩
  (refine ⟨_, rfl, _, hw', ?_⟩; clear hw' hw w w')
  unfold dFix
  rw [hdl]
  by_cases hlt : m - at_ < s
  · rw [if_pos hlt]
    repeat (refine sx ?_; try intro _)
    exact JS_ret Tryz.func196 rfl rfl fun w hw => ⟨rfl, hw⟩
  · rw [if_neg hlt]
    have hRD := dropB_get B at_
    have hOK := hB.drop at_
    generalize hRR : B.drop at_ = R at *
    repeat (first | (apply gJR; (refine sx ?_; try intro _)) | (apply gJO; (refine sx ?_; try intro _)) | (apply gJS; refine JS_condF rfl ?_) | (apply gJS; refine JS_cond_F rfl (by omega) ?_) | apply JS_skip | apply JS_seq | apply JS_region)
    refine JS_block ?_
    refine JS_loop1 (fun (i : Nat) => [(0, .pointer (some ⟨b, 0, none⟩)), (1, .int .i64 s), (6, .int .u64 (hiN (R.take i))), (12, .int .i64 s), (13, .int .i64 i)]) (fun _ => blk b (rdC (.slice p m c) at_) :: H) (fun i => i ≤ s) (fun i => s - i) 0 (Nat.zero_le _) (by repeat (first | exact trivial | refine ⟨rfl, ?_⟩ | refine ⟨lookI rfl (by omega), ?_⟩)) (fun w hw => hw) ?_
    intro i hi again
    by_cases his : i < s
    · have hg := ints_get (K := .u8) (l := B) (j := at_ + i) (by omega)
      have hx := hRD i
      have hxb := hOK i
      have hst := takeB_step R i (by omega)
      have hap := hiN_app (R.getD i 0) (R.take i)
      rw [← hst] at hap
      rw [← hx] at hg
      have hbd := hiN_bd (R.take i) fun x hx => hOK.mem x (List.mem_of_mem_take hx)
      have hbd2 := hiN_bd (R.take (i + 1)) fun x hx => hOK.mem x (List.mem_of_mem_take hx)
      have htl2 : (R.take (i + 1)).length = i + 1 := by rw [List.length_take]; omega
      rw [htl2] at hbd2
      have h64 := p256_le (i + 1) (by omega)
      generalize R.getD i 0 = x at *
      generalize hiN (R.take i) = a at *
      have ca : IntKind.i64.wrap ((at_ : Int) + i) = ((at_ + i : Nat) : Int) := (wi64 (by omega)).trans (by omega)
      have cs : IntKind.u64.wrap (a * 2 ^ 8) = a * 2 ^ 8 := wu64 (by omega)
      have ej : min (8 : Int).toNat IntKind.u64.bits = 8 := by decide
      have co : IntKind.u64.wrap ((BitVec.ofInt IntKind.u64.bits (a * 2 ^ 8) ||| BitVec.ofInt IntKind.u64.bits x).toNat) = hiN (R.take (i + 1)) := by
        rw [BitVec.or_comm, or_hi (a := x) (b := a) 8 hxb hbd.1 (by omega), hap]; omega
      repeat (first | (apply gQO; first | refine QO_v rfl (oL (V_load (tb := tb) rfl (List.Mem.head _) rfl rfl rfl rfl)) ?_ | refine QO_v rfl (V_add rfl rfl ca rfl) ?_ | refine QO_v rfl (oIA (V_index (tb := tb) rfl rfl rfl rfl (Rd.sl (Rd_weak hR fun w hw => dS hw)) (by omega) (by (try simp only [tn, tna, tn1, tn2, tn3, tn4, tnd16, tnd8, Int.reduceToNat]); first | exact Nat.mul_one _ | exact rfl) rfl)) ?_ | refine QO_v rfl (oL (V_loadC (tb := tb) rfl (Rd_weak hR fun w hw => dS hw) rfl rfl hg rfl)) ?_ | refine QO_v rfl (V_shl rfl rfl (by omega) ej cs rfl) ?_ | refine QO_v rfl (V_or rfl rfl co rfl) ?_) | (refine sx ?_; try intro _))
      exact JS_again1 again (i + 1) (by omega) (by omega) (by repeat (first | exact trivial | refine ⟨rfl, ?_⟩ | refine ⟨lookI rfl (by omega), ?_⟩)) (fun w hw => hw)
    · obtain rfl : i = s := by omega
      have cb : IntKind.i64.wrap ((at_ : Int) + i) = ((at_ + i : Nat) : Int) := (wi64 (by omega)).trans (by omega)
      generalize hiN (R.take i) = a at *
      repeat (first | (apply gJO; first | refine JO_v (oL (V_load (tb := tb) rfl (List.Mem.head _) rfl rfl rfl rfl)) ?_ | refine JO_v (V_add rfl rfl cb rfl) ?_) | (refine sx ?_; try intro _))
      exact JS_ret Tryz.func196 rfl rfl fun w hw => ⟨rfl, hw⟩
theorem dLeb_step {i : Nat} {a x : Int} {r : List Int} (h1 : ¬ (i = 9 ∧ 1 < x)) (h2 : 127 < x) : dLeb i a (x :: r) = dLeb (i + 1) (a + x % 128 * 128 ^ i) r := by
  rw [dLeb, if_neg h1, if_pos h2]
theorem p128 (i : Nat) : (128 : Int) ^ i = 2 ^ (7 * i) := by rw [Int.pow_mul]; rfl
theorem p128_le (k : Nat) (h : k ≤ 9) : (128 : Int) ^ k ≤ 9223372036854775808 ∧ 0 < (128 : Int) ^ k := by
  have : ∀ k, k < 10 → (128 : Int) ^ k ≤ 9223372036854775808 ∧ 0 < (128 : Int) ^ k := by decide
  exact this k (by omega)
set_option maxRecDepth 10000 in
set_option maxHeartbeats 4000000 in
theorem RLeb_c (s : Int) (b : Nat) (p : Option Addr) (c m at_ : Nat) (B : List Int) (hR : Rd w0 H (.slice p m c) m (ints .u8 B)) (hm : B.length = m) (hB : OKB B) (ha : at_ ≤ m) (hmm : m ≤ 140737488355328) (w : World) (hw : St w0 (blk b (rdC (.slice p m c) at_) :: H) w) :
    Calls Tryz.prog 198 #[.pointer (some ⟨b, 0, none⟩), .int .i64 s] w (RdR w0 H b (.slice p m c) at_ (dLeb 0 0 (B.drop at_))) := by
  unfold RdR
  have hdl : (B.drop at_).length = m - at_ := by rw [List.length_drop, hm]
  have hRD := dropB_get B at_
  have hOK := hB.drop at_
  have hst := dropB_step (B.drop at_)
  generalize B.drop at_ = R at *
  refine enter (vs := [.pointer (some ⟨b, 0, none⟩), .int .i64 s]) Tryz.func198 rfl rfl rfl hw ?_
  clear hw w
  repeat (first | (apply gJR; (refine sx ?_; try intro _)) | (apply gJO; (refine sx ?_; try intro _)) | apply JS_seq | apply JS_region)
  refine JS_block ?_
  refine JS_loop2 (fun (i : Nat) (a : Int) => [(0, .pointer (some ⟨b, 0, none⟩)), (1, .int .i64 s), (6, .int .u64 a), (7, .int .i64 i)]) (fun _ _ => blk b (rdC (.slice p m c) at_) :: H) (fun i a => dLeb i a (R.drop i) = dLeb 0 0 R ∧ i ≤ 9 ∧ i ≤ R.length ∧ 0 ≤ a ∧ a < 128 ^ i) (fun i _ => 10 - i) 0 0 ⟨rfl, by omega, Nat.zero_le _, by decide, by decide⟩ (by repeat (first | exact trivial | refine ⟨rfl, ?_⟩ | refine ⟨lookI rfl (by omega), ?_⟩)) (fun w hw => hw) ?_
  intro i a ⟨he, hi9, hiR, ha0, ha1⟩ again
  have ca : IntKind.i64.wrap ((at_ : Int) + i) = ((at_ + i : Nat) : Int) := (wi64 (by omega)).trans (by omega)
  by_cases hend : i < R.length
  · have hg := ints_get (K := .u8) (l := B) (j := at_ + i) (by omega)
    rw [← hRD i] at hg
    have hxb := hOK i
    rw [hst i hend] at he
    generalize R.getD i 0 = x at *
    have hge : ¬ ((m : Int) ≤ ((at_ + i : Nat) : Int)) := by omega
    by_cases h9 : i = 9 ∧ 1 < x
    · obtain ⟨rfl, h91⟩ := h9
      have hres : dLeb 0 0 R = (0, 0, 21) := by rw [← he, dLeb, if_pos ⟨rfl, h91⟩]
      rw [hres]
      repeat (first | (apply gQO; first | refine QO_v rfl (oL (V_load (tb := tb) rfl (List.Mem.head _) rfl rfl rfl rfl)) ?_ | refine QO_v rfl (V_add rfl rfl ca rfl) ?_ | refine QO_v rfl (oIA (V_index (tb := tb) rfl rfl rfl rfl (Rd.sl (Rd_weak hR fun w hw => dS hw)) (by omega) (by (try simp only [tn, tna, tn1, tn2, tn3, tn4, tnd16, tnd8, Int.reduceToNat]); first | exact Nat.mul_one _ | exact rfl) rfl)) ?_ | refine QO_v rfl (oL (V_loadC (tb := tb) rfl (Rd_weak hR fun w hw => dS hw) rfl rfl hg rfl)) ?_ | refine QO_v rfl (V_shl rfl rfl (by omega) ej cs rfl) ?_ | refine QO_v rfl (V_or rfl rfl co rfl) ?_) | (refine sx ?_; try intro _))
      exact JS_ret Tryz.func198 rfl rfl fun w hw => ⟨rfl, hw⟩
    · have h9' : i ≠ 9 ∨ (i = 9 ∧ ¬ 1 < x) := by omega
      have hp := p128_le i hi9
      have hp2 := p128 i
      have hbig : x % 128 * 128 ^ i ≤ 127 * 128 ^ i := Int.mul_le_mul_of_nonneg_right (by omega) (Int.le_of_lt hp.2)
      have hnn : 0 ≤ x % 128 * 128 ^ i := Int.mul_nonneg (by omega) (Int.le_of_lt hp.2)
      have hsum : a + x % 128 * 128 ^ i < 128 ^ (i + 1) ∧ a + x % 128 * 128 ^ i < 18446744073709551616 := by
        rw [Int.pow_succ]
        rcases h9' with h | ⟨rfl, h⟩
        · have h8 := p128_le (i + 1) (by omega)
          rw [Int.pow_succ] at h8
          generalize (128 : Int) ^ i = z at *
          omega
        · have hx2 : x % 128 = x := by omega
          rw [hx2] at *
          have hx1 : x * 128 ^ 9 ≤ 1 * 128 ^ 9 := Int.mul_le_mul_of_nonneg_right (by omega) (Int.le_of_lt hp.2)
          have e9 : (128 : Int) ^ 9 = 9223372036854775808 := by decide
          rw [e9] at *
          omega
      rw [hp2] at hbig hnn ha1
      have hs7 : (128 : Int) ^ i = 2 ^ (7 * i) := hp2
      have cm := mask7_u8 hxb
      have ej : min (7 * (i : Int)).toNat IntKind.u64.bits = 7 * i := by
        rw [show IntKind.u64.bits = 64 from rfl]; omega
      rw [hp2] at hsum
      have co := or_hi (a := a) (b := x % 128) (7 * i) ⟨ha0, ha1⟩ (by omega) hsum.2
      obtain ⟨t2, ht2⟩ : ∃ t, t = x % 128 * 2 ^ (7 * i) := ⟨_, rfl⟩
      obtain ⟨a2, ha2⟩ : ∃ t, t = a + t2 := ⟨_, rfl⟩
      have ha3 : a2 = a + x % 128 * 2 ^ (7 * i) := by rw [ha2, ht2]
      have cs : IntKind.u64.wrap (x % 128 * 2 ^ (7 * i)) = t2 := by rw [ht2]; exact wu64 (by omega)
      rw [← ha3, ← ht2] at co
      rw [← ha3] at hsum
      have hn2 : 0 ≤ a2 := by omega
      clear hbig
      have hcase : (127 < x) ∨ (¬ 127 < x ∧ x = 0 ∧ 0 < i) ∨ (¬ 127 < x ∧ x = 0 ∧ ¬ 0 < i) ∨ (¬ 127 < x ∧ ¬ x = 0) := by omega
      have h9c : (¬ i = 9) ∨ (i = 9 ∧ ¬ 1 < x) := by omega
      have cc : IntKind.u64.wrap (x % 128) = x % 128 := wu64 (by omega)
      have cx : IntKind.u8.wrap (x % 128) = x % 128 := wu8 (by omega)
      rcases hcase with hx | ⟨hx, hx0, hi0⟩ | ⟨hx, hx0, hi0⟩ | ⟨hx, hx0⟩
      · rw [dLeb_step h9 hx, hs7, ← ha3] at he
        have hne9 : ¬ i = 9 := by omega
        repeat (first | (apply gQO; first | refine QO_v rfl (oL (V_load (tb := tb) rfl (List.Mem.head _) rfl rfl rfl rfl)) ?_ | refine QO_v rfl (V_add rfl rfl ca rfl) ?_ | refine QO_v rfl (oIA (V_index (tb := tb) rfl rfl rfl rfl (Rd.sl (Rd_weak hR fun w hw => dS hw)) (by omega) (by (try simp only [tn, tna, tn1, tn2, tn3, tn4, tnd16, tnd8, Int.reduceToNat]); first | exact Nat.mul_one _ | exact rfl) rfl)) ?_ | refine QO_v rfl (oL (V_loadC (tb := tb) rfl (Rd_weak hR fun w hw => dS hw) rfl rfl hg rfl)) ?_ | refine QO_v rfl (V_shl rfl rfl (by omega) ej cs rfl) ?_ | refine QO_v rfl (V_or rfl rfl co rfl) ?_) | (apply gJO; first | refine JO_v (oL (V_load (tb := tb) rfl (List.Mem.head _) rfl rfl rfl rfl)) ?_ | refine JO_v (V_add rfl rfl cb rfl) ?_ | refine JO_v (V_shl rfl rfl (by omega) ej cs rfl) ?_ | refine JO_v (V_or rfl rfl co rfl) ?_ | refine JO_v (V_and rfl rfl cm rfl) ?_) | (refine sx ?_; try intro _))
        exact JS_again2 again (i + 1) a2 ⟨he, by omega, by omega, hn2, hsum.1⟩ (by omega) (by repeat (first | exact trivial | refine ⟨rfl, ?_⟩ | refine ⟨lookI rfl (by omega), ?_⟩)) (fun w hw => hw)
      · have hres : dLeb 0 0 R = (0, 0, 21) := by rw [← he, dLeb, if_neg h9, if_neg hx, if_pos ⟨hx0, hi0⟩]
        rw [hres]
        rcases h9c with h9c | ⟨h9c, h9d⟩
        all_goals (
          repeat (first | (apply gQO; first | refine QO_v rfl (oL (V_load (tb := tb) rfl (List.Mem.head _) rfl rfl rfl rfl)) ?_ | refine QO_v rfl (V_add rfl rfl ca rfl) ?_ | refine QO_v rfl (oIA (V_index (tb := tb) rfl rfl rfl rfl (Rd.sl (Rd_weak hR fun w hw => dS hw)) (by omega) (by (try simp only [tn, tna, tn1, tn2, tn3, tn4, tnd16, tnd8, Int.reduceToNat]); first | exact Nat.mul_one _ | exact rfl) rfl)) ?_ | refine QO_v rfl (oL (V_loadC (tb := tb) rfl (Rd_weak hR fun w hw => dS hw) rfl rfl hg rfl)) ?_ | refine QO_v rfl (V_shl rfl rfl (by omega) ej cs rfl) ?_ | refine QO_v rfl (V_or rfl rfl co rfl) ?_) | (apply gJO; first | refine JO_v (oL (V_load (tb := tb) rfl (List.Mem.head _) rfl rfl rfl rfl)) ?_ | refine JO_v (V_add rfl rfl cb rfl) ?_ | refine JO_v (V_shl rfl rfl (by omega) ej cs rfl) ?_ | refine JO_v (V_or rfl rfl co rfl) ?_ | refine JO_v (V_and rfl rfl cm rfl) ?_) | (refine sx ?_; try intro _))
          exact JS_ret Tryz.func198 rfl rfl fun w hw => ⟨rfl, hw⟩)
      all_goals (
        have hres : dLeb 0 0 R = (a2, i + 1, 0) := by rw [← he, dLeb, if_neg h9, if_neg hx, if_neg (by omega), hs7, ← ha3]
        rw [hres]
        have cb : IntKind.i64.wrap ((at_ : Int) + ((i : Int) + 1)) = ((at_ + (i + 1) : Nat) : Int) := (wi64 (by omega)).trans (by omega)
        rcases h9c with h9c | ⟨h9c, h9d⟩
        all_goals first
          | (exfalso; omega)
          | (repeat (first | (apply gQO; first | refine QO_v rfl (oL (V_load (tb := tb) rfl (List.Mem.head _) rfl rfl rfl rfl)) ?_ | refine QO_v rfl (V_add rfl rfl ca rfl) ?_ | refine QO_v rfl (oIA (V_index (tb := tb) rfl rfl rfl rfl (Rd.sl (Rd_weak hR fun w hw => dS hw)) (by omega) (by (try simp only [tn, tna, tn1, tn2, tn3, tn4, tnd16, tnd8, Int.reduceToNat]); first | exact Nat.mul_one _ | exact rfl) rfl)) ?_ | refine QO_v rfl (oL (V_loadC (tb := tb) rfl (Rd_weak hR fun w hw => dS hw) rfl rfl hg rfl)) ?_ | refine QO_v rfl (V_shl rfl rfl (by omega) ej cs rfl) ?_ | refine QO_v rfl (V_or rfl rfl co rfl) ?_) | (apply gJO; first | refine JO_v (oL (V_load (tb := tb) rfl (List.Mem.head _) rfl rfl rfl rfl)) ?_ | refine JO_v (V_add rfl rfl cb rfl) ?_ | refine JO_v (V_shl rfl rfl (by omega) ej cs rfl) ?_ | refine JO_v (V_or rfl rfl co rfl) ?_ | refine JO_v (V_and rfl rfl cm rfl) ?_) | (refine sx ?_; try intro _))
             exact JS_ret Tryz.func198 rfl rfl fun w hw => ⟨rfl, hw⟩))
  · have hres : dLeb 0 0 R = (0, 0, 20) := by
      rw [← he, List.drop_of_length_le (by omega)]; rfl
    rw [hres]
    have hge : ((m : Int) ≤ ((at_ + i : Nat) : Int)) := by omega
    repeat (first | (apply gQO; first | refine QO_v rfl (oL (V_load (tb := tb) rfl (List.Mem.head _) rfl rfl rfl rfl)) ?_ | refine QO_v rfl (V_add rfl rfl ca rfl) ?_ | refine QO_v rfl (oIA (V_index (tb := tb) rfl rfl rfl rfl (Rd.sl (Rd_weak hR fun w hw => dS hw)) (by omega) (by (try simp only [tn, tna, tn1, tn2, tn3, tn4, tnd16, tnd8, Int.reduceToNat]); first | exact Nat.mul_one _ | exact rfl) rfl)) ?_ | refine QO_v rfl (oL (V_loadC (tb := tb) rfl (Rd_weak hR fun w hw => dS hw) rfl rfl hg rfl)) ?_ | refine QO_v rfl (V_shl rfl rfl (by omega) ej cs rfl) ?_ | refine QO_v rfl (V_or rfl rfl co rfl) ?_) | (refine sx ?_; try intro _))
    exact JS_ret Tryz.func198 rfl rfl fun w hw => ⟨rfl, hw⟩
end
end Go.Proofs.YteelffkghidpfaaGreat

namespace Go.Proofs.YteelffkghidpfaaGreat
open Sx Go
set_option linter.unusedVariables false
set_option linter.unusedSimpArgs false
theorem dNine_step {i : Nat} {a x : Int} {r : List Int} (h1 : i < 8) (h2 : 127 < x) : dNine i a (x :: r) = dNine (i + 1) (a + x % 128 * 128 ^ i) r := by
  rw [dNine, if_pos ⟨h1, h2⟩]
theorem i64v_back {a : Int} (h : 0 ≤ a ∧ a < 18446744073709551616) : IntKind.u64.wrap (i64v a) = a := by rw [mu64]; unfold i64v; split <;> omega
section
variable {w0 : World} {H : List Asn}
set_option maxRecDepth 10000 in
set_option maxHeartbeats 4000000 in
theorem RNine_c (s : Int) (b : Nat) (p : Option Addr) (c m at_ : Nat) (B : List Int) (hR : Rd w0 H (.slice p m c) m (ints .u8 B)) (hm : B.length = m) (hB : OKB B) (ha : at_ ≤ m) (hmm : m ≤ 140737488355328) (w : World) (hw : St w0 (blk b (rdC (.slice p m c) at_) :: H) w) :
    Calls Tryz.prog 202 #[.pointer (some ⟨b, 0, none⟩), .int .i64 s] w (RdR w0 H b (.slice p m c) at_ (dNine 0 0 (B.drop at_))) := by
  unfold RdR
  have hdl : (B.drop at_).length = m - at_ := by rw [List.length_drop, hm]
  have hRD := dropB_get B at_
  have hOK := hB.drop at_
  have hst := dropB_step (B.drop at_)
  generalize B.drop at_ = R at *
  refine enter (vs := [.pointer (some ⟨b, 0, none⟩), .int .i64 s]) Tryz.func202 rfl rfl rfl hw ?_
  clear hw w
  repeat (first | (apply gJR; (refine sx ?_; try intro _)) | (apply gJO; (refine sx ?_; try intro _)) | apply JS_seq | apply JS_region)
  refine JS_block ?_
  refine JS_loop2 (fun (i : Nat) (a : Int) => [(0, .pointer (some ⟨b, 0, none⟩)), (1, .int .i64 s), (6, .int .u64 a), (9, .int .i64 i)]) (fun _ _ => blk b (rdC (.slice p m c) at_) :: H) (fun i a => dNine i a (R.drop i) = dNine 0 0 R ∧ i ≤ 8 ∧ i ≤ R.length ∧ 0 ≤ a ∧ a < 128 ^ i) (fun i _ => 10 - i) 0 0 ⟨rfl, by omega, Nat.zero_le _, by decide, by decide⟩ (by repeat (first | exact trivial | refine ⟨rfl, ?_⟩ | refine ⟨lookI rfl (by omega), ?_⟩)) (fun w hw => hw) ?_
  intro i a ⟨he, hi9, hiR, ha0, ha1⟩ again
  have ca : IntKind.i64.wrap ((at_ : Int) + i) = ((at_ + i : Nat) : Int) := (wi64 (by omega)).trans (by omega)
  by_cases hend : i < R.length
  · have hg := ints_get (K := .u8) (l := B) (j := at_ + i) (by omega)
    rw [← hRD i] at hg
    have hxb := hOK i
    rw [hst i hend] at he
    generalize R.getD i 0 = x at *
    have hge : ¬ ((m : Int) ≤ ((at_ + i : Nat) : Int)) := by omega
    have hp2 := p128 i
    rw [hp2] at ha1
    have hp := p128_le i (by omega)
    rw [hp2] at hp
    by_cases h8 : i = 8
    · subst h8
      have ej : min (56 : Int).toNat IntKind.u64.bits = 56 := by decide
      have e56 : (2 : Int) ^ (7 * 8) = 72057594037927936 := by decide
      have cs : IntKind.u64.wrap (x * 2 ^ 56) = x * 72057594037927936 := wu64 (by omega)
      have co := or_hi (a := a) (b := x) 56 ⟨ha0, ha1⟩ hxb.1 (by omega)
      have cx : IntKind.u64.wrap x = x := wu64 (by omega)
      rw [show x * (2 : Int) ^ 56 = x * 72057594037927936 from rfl] at co
      by_cases hx0 : x = 0
      · have hres : dNine 0 0 R = (0, 0, 21) := by rw [← he, dNine, if_neg (by omega), if_pos ⟨hx0, by decide⟩]
        rw [hres]
        generalize a + x * 72057594037927936 = a2 at *
        generalize hx5 : x * 72057594037927936 = x5 at *
        repeat (first | (apply gQO; first | refine QO_v rfl (oL (V_load (tb := tb) rfl (List.Mem.head _) rfl rfl rfl rfl)) ?_ | refine QO_v rfl (V_add rfl rfl ca rfl) ?_ | refine QO_v rfl (oIA (V_index (tb := tb) rfl rfl rfl rfl (Rd.sl (Rd_weak hR fun w hw => dS hw)) (by omega) (by (try simp only [tn, tna, tn1, tn2, tn3, tn4, tnd16, tnd8, Int.reduceToNat]); first | exact Nat.mul_one _ | exact rfl) rfl)) ?_ | refine QO_v rfl (oL (V_loadC (tb := tb) rfl (Rd_weak hR fun w hw => dS hw) rfl rfl hg rfl)) ?_ | refine QO_v rfl (V_shl rfl rfl (by omega) ej cs rfl) ?_ | refine QO_v rfl (V_or rfl rfl co rfl) ?_) | (apply gJO; first | refine JO_v (oL (V_load (tb := tb) rfl (List.Mem.head _) rfl rfl rfl rfl)) ?_ | refine JO_v (V_add rfl rfl cb rfl) ?_ | refine JO_v (V_shl rfl rfl (by omega) ej cs rfl) ?_ | refine JO_v (V_or rfl rfl co rfl) ?_ | refine JO_v (V_and rfl rfl cm rfl) ?_) | (refine sx ?_; try intro _))
        exact JS_ret Tryz.func202 rfl rfl fun w hw => ⟨rfl, hw⟩
      · have hres : dNine 0 0 R = (uns (a + x * 72057594037927936), 9, 0) := by
          rw [← he, dNine, if_neg (by omega), if_neg (by omega), if_pos rfl, show (128 : Int) ^ 8 = 72057594037927936 by decide]
        rw [hres]
        have cb : IntKind.i64.wrap ((at_ : Int) + (8 + 1)) = ((at_ + 9 : Nat) : Int) := (wi64 (by omega)).trans (by omega)
        have hab : 0 ≤ a + x * 72057594037927936 ∧ a + x * 72057594037927936 < 18446744073709551616 := by omega
        have hub := uns_bd hab
        have hU := fun {H} w hw => Unsign_c (w0 := w0) (H := H) (a + x * 72057594037927936) hab w hw
        have ci := i64v_back hub
        generalize a + x * 72057594037927936 = a2 at *
        generalize hx5 : x * 72057594037927936 = x5 at *
        generalize uns a2 = y at *
        repeat (first | (apply gQO; first | refine QO_v rfl (oL (V_load (tb := tb) rfl (List.Mem.head _) rfl rfl rfl rfl)) ?_ | refine QO_v rfl (V_add rfl rfl ca rfl) ?_ | refine QO_v rfl (oIA (V_index (tb := tb) rfl rfl rfl rfl (Rd.sl (Rd_weak hR fun w hw => dS hw)) (by omega) (by (try simp only [tn, tna, tn1, tn2, tn3, tn4, tnd16, tnd8, Int.reduceToNat]); first | exact Nat.mul_one _ | exact rfl) rfl)) ?_ | refine QO_v rfl (oL (V_loadC (tb := tb) rfl (Rd_weak hR fun w hw => dS hw) rfl rfl hg rfl)) ?_ | refine QO_v rfl (V_shl rfl rfl (by omega) ej cs rfl) ?_ | refine QO_v rfl (V_or rfl rfl co rfl) ?_) | (apply gJO; first | refine JO_v (oL (V_load (tb := tb) rfl (List.Mem.head _) rfl rfl rfl rfl)) ?_ | refine JO_v (V_add rfl rfl cb rfl) ?_ | refine JO_v (V_shl rfl rfl (by omega) ej cs rfl) ?_ | refine JO_v (V_or rfl rfl co rfl) ?_ | refine JO_v (V_and rfl rfl cm rfl) ?_) | (refine sx ?_; try intro _))
        refine JO_call Tryz.call228 rfl rfl fun w hw => (hU w hw).mono ?_
        rintro e w' ⟨rfl, hw'⟩
        (refine ⟨_, rfl, _, hw', ?_⟩; clear hw' hw w w')
        repeat (first | (apply gJO; first | refine JO_v (V_conv (tb := tb) rfl rfl rfl ci rfl) ?_) | (refine sx ?_; try intro _))
        exact JS_ret Tryz.func202 rfl rfl fun w hw => ⟨rfl, hw⟩
    · have hi8 : i < 8 := by omega
      have hbig : x % 128 * 2 ^ (7 * i) ≤ 127 * 2 ^ (7 * i) := Int.mul_le_mul_of_nonneg_right (by omega) (Int.le_of_lt hp.2)
      have hnn : 0 ≤ x % 128 * 2 ^ (7 * i) := Int.mul_nonneg (by omega) (Int.le_of_lt hp.2)
      have hp3 := p128_le (i + 1) (by omega)
      have hs7 : (128 : Int) ^ i = 2 ^ (7 * i) := hp2
      have cm := mask7_u8 hxb
      have ej : min (7 * (i : Int)).toNat IntKind.u64.bits = 7 * i := by
        rw [show IntKind.u64.bits = 64 from rfl]; omega
      have hsum : a + x % 128 * 2 ^ (7 * i) < 128 ^ (i + 1) := by
        rw [Int.pow_succ, hp2]
        generalize (2 : Int) ^ (7 * i) = z at *
        omega
      have co := or_hi (a := a) (b := x % 128) (7 * i) ⟨ha0, ha1⟩ (by omega) (by omega)
      obtain ⟨t2, ht2⟩ : ∃ t, t = x % 128 * 2 ^ (7 * i) := ⟨_, rfl⟩
      obtain ⟨a2, ha2⟩ : ∃ t, t = a + t2 := ⟨_, rfl⟩
      have ha3 : a2 = a + x % 128 * 2 ^ (7 * i) := by rw [ha2, ht2]
      have cs : IntKind.u64.wrap (x % 128 * 2 ^ (7 * i)) = t2 := by rw [ht2]; exact wu64 (by omega)
      rw [← ha3, ← ht2] at co
      rw [← ha3] at hsum
      have hn2 : 0 ≤ a2 := by omega
      clear hbig
      have hcase : (127 < x) ∨ (¬ 127 < x ∧ x = 0 ∧ 0 < i) ∨ (¬ 127 < x ∧ x = 0 ∧ ¬ 0 < i) ∨ (¬ 127 < x ∧ ¬ x = 0) := by omega
      have cc : IntKind.u64.wrap (x % 128) = x % 128 := wu64 (by omega)
      rcases hcase with hx | ⟨hx, hx0, hi0⟩ | ⟨hx, hx0, hi0⟩ | ⟨hx, hx0⟩
      · rw [dNine_step hi8 hx, hs7, ← ha3] at he
        repeat (first | (apply gQO; first | refine QO_v rfl (oL (V_load (tb := tb) rfl (List.Mem.head _) rfl rfl rfl rfl)) ?_ | refine QO_v rfl (V_add rfl rfl ca rfl) ?_ | refine QO_v rfl (oIA (V_index (tb := tb) rfl rfl rfl rfl (Rd.sl (Rd_weak hR fun w hw => dS hw)) (by omega) (by (try simp only [tn, tna, tn1, tn2, tn3, tn4, tnd16, tnd8, Int.reduceToNat]); first | exact Nat.mul_one _ | exact rfl) rfl)) ?_ | refine QO_v rfl (oL (V_loadC (tb := tb) rfl (Rd_weak hR fun w hw => dS hw) rfl rfl hg rfl)) ?_ | refine QO_v rfl (V_shl rfl rfl (by omega) ej cs rfl) ?_ | refine QO_v rfl (V_or rfl rfl co rfl) ?_) | (apply gJO; first | refine JO_v (oL (V_load (tb := tb) rfl (List.Mem.head _) rfl rfl rfl rfl)) ?_ | refine JO_v (V_add rfl rfl cb rfl) ?_ | refine JO_v (V_shl rfl rfl (by omega) ej cs rfl) ?_ | refine JO_v (V_or rfl rfl co rfl) ?_ | refine JO_v (V_and rfl rfl cm rfl) ?_) | (refine sx ?_; try intro _))
        exact JS_again2 again (i + 1) a2 ⟨he, by omega, by omega, hn2, hsum⟩ (by omega) (by repeat (first | exact trivial | refine ⟨rfl, ?_⟩ | refine ⟨lookI rfl (by omega), ?_⟩)) (fun w hw => hw)
      · have hres : dNine 0 0 R = (0, 0, 21) := by rw [← he, dNine, if_neg (by omega), if_pos ⟨hx0, hi0⟩]
        rw [hres]
        repeat (first | (apply gQO; first | refine QO_v rfl (oL (V_load (tb := tb) rfl (List.Mem.head _) rfl rfl rfl rfl)) ?_ | refine QO_v rfl (V_add rfl rfl ca rfl) ?_ | refine QO_v rfl (oIA (V_index (tb := tb) rfl rfl rfl rfl (Rd.sl (Rd_weak hR fun w hw => dS hw)) (by omega) (by (try simp only [tn, tna, tn1, tn2, tn3, tn4, tnd16, tnd8, Int.reduceToNat]); first | exact Nat.mul_one _ | exact rfl) rfl)) ?_ | refine QO_v rfl (oL (V_loadC (tb := tb) rfl (Rd_weak hR fun w hw => dS hw) rfl rfl hg rfl)) ?_ | refine QO_v rfl (V_shl rfl rfl (by omega) ej cs rfl) ?_ | refine QO_v rfl (V_or rfl rfl co rfl) ?_) | (apply gJO; first | refine JO_v (oL (V_load (tb := tb) rfl (List.Mem.head _) rfl rfl rfl rfl)) ?_ | refine JO_v (V_add rfl rfl cb rfl) ?_ | refine JO_v (V_shl rfl rfl (by omega) ej cs rfl) ?_ | refine JO_v (V_or rfl rfl co rfl) ?_ | refine JO_v (V_and rfl rfl cm rfl) ?_) | (refine sx ?_; try intro _))
        exact JS_ret Tryz.func202 rfl rfl fun w hw => ⟨rfl, hw⟩
      all_goals (
        have hres : dNine 0 0 R = (uns a2, i + 1, 0) := by rw [← he, dNine, if_neg (by omega), if_neg (by omega), if_neg h8, hs7, ← ha3]
        rw [hres]
        have cb : IntKind.i64.wrap ((at_ : Int) + ((i : Int) + 1)) = ((at_ + (i + 1) : Nat) : Int) := (wi64 (by omega)).trans (by omega)
        have hab : 0 ≤ a2 ∧ a2 < 18446744073709551616 := by omega
        have hub := uns_bd hab
        have hU := fun {H} w hw => Unsign_c (w0 := w0) (H := H) a2 hab w hw
        have ci := i64v_back hub
        generalize uns a2 = y at *
        repeat (first | (apply gQO; first | refine QO_v rfl (oL (V_load (tb := tb) rfl (List.Mem.head _) rfl rfl rfl rfl)) ?_ | refine QO_v rfl (V_add rfl rfl ca rfl) ?_ | refine QO_v rfl (oIA (V_index (tb := tb) rfl rfl rfl rfl (Rd.sl (Rd_weak hR fun w hw => dS hw)) (by omega) (by (try simp only [tn, tna, tn1, tn2, tn3, tn4, tnd16, tnd8, Int.reduceToNat]); first | exact Nat.mul_one _ | exact rfl) rfl)) ?_ | refine QO_v rfl (oL (V_loadC (tb := tb) rfl (Rd_weak hR fun w hw => dS hw) rfl rfl hg rfl)) ?_ | refine QO_v rfl (V_shl rfl rfl (by omega) ej cs rfl) ?_ | refine QO_v rfl (V_or rfl rfl co rfl) ?_) | (apply gJO; first | refine JO_v (oL (V_load (tb := tb) rfl (List.Mem.head _) rfl rfl rfl rfl)) ?_ | refine JO_v (V_add rfl rfl cb rfl) ?_ | refine JO_v (V_shl rfl rfl (by omega) ej cs rfl) ?_ | refine JO_v (V_or rfl rfl co rfl) ?_ | refine JO_v (V_and rfl rfl cm rfl) ?_) | (refine sx ?_; try intro _))
        refine JO_call Tryz.call228 rfl rfl fun w hw => (hU w hw).mono ?_
        rintro e w' ⟨rfl, hw'⟩
        (refine ⟨_, rfl, _, hw', ?_⟩; clear hw' hw w w')
        repeat (first | (apply gJO; first | refine JO_v (V_conv (tb := tb) rfl rfl rfl ci rfl) ?_) | (refine sx ?_; try intro _))
        exact JS_ret Tryz.func202 rfl rfl fun w hw => ⟨rfl, hw⟩)
  · have hres : dNine 0 0 R = (0, 0, 20) := by
      rw [← he, List.drop_of_length_le (by omega)]; rfl
    rw [hres]
    have hge : ((m : Int) ≤ ((at_ + i : Nat) : Int)) := by omega
    repeat (first | (apply gQO; first | refine QO_v rfl (oL (V_load (tb := tb) rfl (List.Mem.head _) rfl rfl rfl rfl)) ?_ | refine QO_v rfl (V_add rfl rfl ca rfl) ?_ | refine QO_v rfl (oIA (V_index (tb := tb) rfl rfl rfl rfl (Rd.sl (Rd_weak hR fun w hw => dS hw)) (by omega) (by (try simp only [tn, tna, tn1, tn2, tn3, tn4, tnd16, tnd8, Int.reduceToNat]); first | exact Nat.mul_one _ | exact rfl) rfl)) ?_ | refine QO_v rfl (oL (V_loadC (tb := tb) rfl (Rd_weak hR fun w hw => dS hw) rfl rfl hg rfl)) ?_ | refine QO_v rfl (V_shl rfl rfl (by omega) ej cs rfl) ?_ | refine QO_v rfl (V_or rfl rfl co rfl) ?_) | (refine sx ?_; try intro _))
    exact JS_ret Tryz.func202 rfl rfl fun w hw => ⟨rfl, hw⟩
theorem dLeb_bd : ∀ (R : List Int) (i : Nat) (a : Int), (∀ x ∈ R, 0 ≤ x ∧ x < 256) → i ≤ 9 → 0 ≤ a → a < 128 ^ i → 0 ≤ (dLeb i a R).1 ∧ (dLeb i a R).1 < 18446744073709551616
  | [], i, a, _, _, _, _ => by simp [dLeb]
  | x :: r, i, a, h, hi, ha0, ha1 => by
    have hx := h x List.mem_cons_self
    have hp := p128_le i hi
    have hbig : x % 128 * 128 ^ i ≤ 127 * 128 ^ i := Int.mul_le_mul_of_nonneg_right (by omega) (Int.le_of_lt hp.2)
    have hnn : 0 ≤ x % 128 * 128 ^ i := Int.mul_nonneg (by omega) (Int.le_of_lt hp.2)
    unfold dLeb
    split
    · simp
    · rename_i h9
      have hs : a + x % 128 * 128 ^ i < 18446744073709551616 := by
        rcases Nat.lt_or_ge i 9 with h | h
        · have h8 := p128_le (i + 1) (by omega)
          rw [Int.pow_succ] at h8
          generalize (128 : Int) ^ i = z at *
          omega
        · obtain rfl : i = 9 := by omega
          have hx1 : x % 128 * 128 ^ 9 ≤ 1 * 128 ^ 9 := Int.mul_le_mul_of_nonneg_right (by omega) (Int.le_of_lt hp.2)
          have e9 : (128 : Int) ^ 9 = 9223372036854775808 := by decide
          rw [e9] at *
          omega
      split
      · refine dLeb_bd r (i + 1) _ (fun y hy => h y (List.mem_cons_of_mem _ hy)) (by omega) (by omega) ?_
        rw [Int.pow_succ]
        generalize (128 : Int) ^ i = z at *
        omega
      · split
        · simp
        · exact ⟨by show 0 ≤ a + x % 128 * 128 ^ i; omega, hs⟩
set_option maxRecDepth 10000 in
theorem RZig_c (s : Int) (b : Nat) (p : Option Addr) (c m at_ : Nat) (B : List Int) (hR : Rd w0 H (.slice p m c) m (ints .u8 B)) (hm : B.length = m) (hB : OKB B) (ha : at_ ≤ m) (hmm : m ≤ 140737488355328) (w : World) (hw : St w0 (blk b (rdC (.slice p m c) at_) :: H) w) :
    Calls Tryz.prog 200 #[.pointer (some ⟨b, 0, none⟩), .int .i64 s] w (RdR w0 H b (.slice p m c) at_ (uns (dLeb 0 0 (B.drop at_)).1, (dLeb 0 0 (B.drop at_)).2.1, (dLeb 0 0 (B.drop at_)).2.2)) := by
  have hL := fun w hw => RLeb_c (w0 := w0) (H := H) s b p c m at_ B hR hm hB ha hmm w hw
  have hbd := dLeb_bd (B.drop at_) 0 0 (fun x hx => hB.mem x (List.mem_of_mem_drop hx)) (by omega) (by decide) (by decide)
  unfold RdR at *
  generalize dLeb 0 0 (B.drop at_) = D at *
  obtain ⟨d1, d2, d3⟩ := D
  simp only [] at hbd hL ⊢
  have hub := uns_bd hbd
  have ci := i64v_back hub
  have hU := fun {H} w hw => Unsign_c (w0 := w0) (H := H) d1 hbd w hw
  generalize uns d1 = y at *
  refine enter (vs := [.pointer (some ⟨b, 0, none⟩), .int .i64 s]) Tryz.func200 rfl rfl rfl hw ?_
  clear hw w
  repeat (refine sx ?_; try intro _)
  refine JO_call Tryz.call198 rfl rfl fun w hw => (hL w hw).mono ?_
  rintro e w' ⟨rfl, hw'⟩
  (refine ⟨_, rfl, _, hw', ?_⟩; clear hw' hw w w')
  repeat (refine sx ?_; try intro _)
  refine JO_call Tryz.call228 rfl rfl fun w hw => (hU w hw).mono ?_
  rintro e w' ⟨rfl, hw'⟩
  (refine ⟨_, rfl, _, hw', ?_⟩; clear hw' hw w w')
  repeat (first | (apply gJO; first | refine JO_v (V_conv (tb := tb) rfl rfl rfl ci rfl) ?_) | (refine sx ?_; try intro _))
  exact JS_ret Tryz.func200 rfl rfl fun w hw => ⟨rfl, hw⟩
theorem RGet_c (k : Nat) (b : Nat) (p : Option Addr) (c m at_ : Nat) (B : List Int) (hR : Rd w0 H (.slice p m c) m (ints .u8 B)) (hm : B.length = m) (hB : OKB B) (ha : at_ ≤ m) (hmm : m ≤ 140737488355328) (w : World) (hw : St w0 (blk b (rdC (.slice p m c) at_) :: H) w) :
    Calls Tryz.prog (getF k) #[.pointer (some ⟨b, 0, none⟩), .int .i64 (szA k)] w (RdR w0 H b (.slice p m c) at_ (dec k (B.drop at_))) := by
  match k with
  | 0 => exact RLow_c 1 (by decide) b p c m at_ B hR hm hB ha hmm w hw
  | 1 => exact RLow_c 2 (by decide) b p c m at_ B hR hm hB ha hmm w hw
  | 2 => exact RHigh_c 2 (by decide) b p c m at_ B hR hm hB ha hmm w hw
  | 3 => exact RLow_c 4 (by decide) b p c m at_ B hR hm hB ha hmm w hw
  | 4 => exact RHigh_c 4 (by decide) b p c m at_ B hR hm hB ha hmm w hw
  | 5 => exact RLow_c 8 (by decide) b p c m at_ B hR hm hB ha hmm w hw
  | 6 => exact RHigh_c 8 (by decide) b p c m at_ B hR hm hB ha hmm w hw
  | 7 => exact RLeb_c _ b p c m at_ B hR hm hB ha hmm w hw
  | 8 => exact RZig_c _ b p c m at_ B hR hm hB ha hmm w hw
  | j + 9 => exact RNine_c _ b p c m at_ B hR hm hB ha hmm w hw
set_option maxRecDepth 10000 in
set_option maxHeartbeats 2000000 in
theorem Next_c (k : Nat) (hk : k < 10) (b : Nat) (p : Option Addr) (c m at_ : Nat) (B : List Int) (hR : Rd w0 H (.slice p m c) m (ints .u8 B)) (hm : B.length = m) (hB : OKB B) (ha : at_ ≤ m) (hmm : m ≤ 140737488355328) (w : World) (hw : St w0 (blk b (rdC (.slice p m c) at_) :: H) w) :
    Calls Tryz.prog 106 #[.pointer (some ⟨b, 0, none⟩), .int .u8 (ltA k)] w (RdR w0 H b (.slice p m c) at_ (dec k (B.drop at_))) := by
  have hG := fun w hw => RGet_c (w0 := w0) (H := H) k b p c m at_ B hR hm hB ha hmm w hw
  have hall := fm_all k
  have hpk := congrArg some (getA_eq k)
  have hsk := get_call k
  unfold RdR at *
  generalize dec k (B.drop at_) = D at *
  refine enter (vs := [.pointer (some ⟨b, 0, none⟩), .int .u8 (ltA k)]) Tryz.func106 rfl rfl rfl hw ?_
  clear hw w
  repeat (refine sx ?_; try intro _)
  refine JO_call Tryz.call105 rfl rfl fun w hw => (FormOf_c k hk w hw).mono ?_
  rintro e w' ⟨rfl, hw'⟩
  (refine ⟨_, rfl, _, hw', ?_⟩; clear hw' hw w w')
  repeat (first | (apply gJO; refine JO_k (K_store (tb := tb) rfl rfl (by repeat (first | apply Upd.here | apply Upd.there)) rfl rfl rfl hall rfl rfl) ?_) | (refine sx ?_; try intro _))
  refine JO_callv (us := []) (cs := []) hpk hsk rfl rfl fun w hw => (hG w (dS hw)).mono ?_
  rintro e w' ⟨rfl, hw'⟩
  (refine ⟨_, rfl, _, hw', ?_⟩; clear hw' hw w w')
  repeat (refine sx ?_; try intro _)
  exact JS_ret Tryz.func106 rfl rfl fun w hw => ⟨rfl, hw⟩
end
end Go.Proofs.YteelffkghidpfaaGreat

namespace Go.Proofs.YteelffkghidpfaaGreat
open Sx Go
set_option linter.unusedVariables false
set_option linter.unusedSimpArgs false
structure DOK (R : List Int) (D : Int × Nat × Int) : Prop where
  used : D.2.1 ≤ R.length
  num : 0 ≤ D.1 ∧ D.1 < 18446744073709551616
  err : D.2.2 = 0 ∨ D.2.2 = 20 ∨ D.2.2 = 21
theorem DOK.bad (R : List Int) (e : Int) (h : e = 20 ∨ e = 21) : DOK R (0, 0, e) := ⟨Nat.zero_le _, ⟨Int.le_refl _, (by decide : (0 : Int) < 18446744073709551616)⟩, .inr h⟩
theorem dFix_ok (hi : Bool) (s : Nat) (hs : s ≤ 8) (R : List Int) (hR : OKB R) : DOK R (dFix hi s R) := by
  unfold dFix
  split
  · exact .bad R 20 (.inl rfl)
  · rename_i h
    have hl : (R.take s).length = s := by rw [List.length_take]; omega
    have h1 := lowN_bd (R.take s) fun x hx => hR.mem x (List.mem_of_mem_take hx)
    have h2 := hiN_bd (R.take s) fun x hx => hR.mem x (List.mem_of_mem_take hx)
    have h3 := p256_le s hs
    rw [hl] at h1 h2
    refine ⟨by show s ≤ R.length; omega, ?_, .inl rfl⟩
    cases hi
    · exact ⟨h1.1, Int.lt_of_lt_of_le h1.2 h3⟩
    · exact ⟨h2.1, Int.lt_of_lt_of_le h2.2 h3⟩
theorem dLeb_use : ∀ (R : List Int) (i : Nat) (a : Int), ((dLeb i a R).2.1 = 0 ∨ (i < (dLeb i a R).2.1 ∧ (dLeb i a R).2.1 ≤ i + R.length)) ∧ ((dLeb i a R).2.2 = 0 ∨ (dLeb i a R).2.2 = 20 ∨ (dLeb i a R).2.2 = 21)
  | [], i, a => by simp [dLeb]
  | x :: r, i, a => by
    have ih := dLeb_use r (i + 1) (a + x % 128 * 128 ^ i)
    unfold dLeb
    rw [List.length_cons]
    split
    · simp
    · split
      · omega
      · split
        · simp
        · exact ⟨.inr ⟨Nat.lt_succ_self _, by show i + 1 ≤ i + (r.length + 1); omega⟩, .inl rfl⟩
theorem dNine_use : ∀ (R : List Int) (i : Nat) (a : Int), ((dNine i a R).2.1 = 0 ∨ (i < (dNine i a R).2.1 ∧ (dNine i a R).2.1 ≤ i + R.length)) ∧ ((dNine i a R).2.2 = 0 ∨ (dNine i a R).2.2 = 20 ∨ (dNine i a R).2.2 = 21)
  | [], i, a => by simp [dNine]
  | x :: r, i, a => by
    have ih := dNine_use r (i + 1) (a + x % 128 * 128 ^ i)
    unfold dNine
    rw [List.length_cons]
    split
    · omega
    · split
      · simp
      · exact ⟨.inr ⟨Nat.lt_succ_self _, by show i + 1 ≤ i + (r.length + 1); omega⟩, .inl rfl⟩
theorem dNine_bd : ∀ (R : List Int) (i : Nat) (a : Int), (∀ x ∈ R, 0 ≤ x ∧ x < 256) → i ≤ 8 → 0 ≤ a → a < 128 ^ i → 0 ≤ (dNine i a R).1 ∧ (dNine i a R).1 < 18446744073709551616
  | [], i, a, _, _, _, _ => by simp [dNine]
  | x :: r, i, a, h, hi, ha0, ha1 => by
    have hx := h x List.mem_cons_self
    have hp := p128_le i (by omega)
    have hbig : x % 128 * 128 ^ i ≤ 127 * 128 ^ i := Int.mul_le_mul_of_nonneg_right (by omega) (Int.le_of_lt hp.2)
    have hnn : 0 ≤ x % 128 * 128 ^ i := Int.mul_nonneg (by omega) (Int.le_of_lt hp.2)
    unfold dNine
    split
    · rename_i h1
      refine dNine_bd r (i + 1) _ (fun y hy => h y (List.mem_cons_of_mem _ hy)) (by omega) (by omega) ?_
      rw [Int.pow_succ]
      generalize (128 : Int) ^ i = z at *
      omega
    · split
      · simp
      · refine uns_bd ?_
        split
        · subst i
          have e9 : (128 : Int) ^ 8 = 72057594037927936 := by decide
          rw [e9] at *
          omega
        · have h8 := p128_le (i + 1) (by omega)
          rw [Int.pow_succ] at h8
          generalize (128 : Int) ^ i = z at *
          omega
theorem dec_ok (k : Nat) (R : List Int) (hR : OKB R) : DOK R (dec k R) := by
  have hl := dLeb_use R 0 0
  have hlb := dLeb_bd R 0 0 (fun x hx => hR.mem x hx) (by omega) (by decide) (by decide)
  have hn := dNine_use R 0 0
  have hnb := dNine_bd R 0 0 (fun x hx => hR.mem x hx) (by omega) (by decide) (by decide)
  match k with
  | 0 => exact dFix_ok _ _ (by decide) R hR
  | 1 => exact dFix_ok _ _ (by decide) R hR
  | 2 => exact dFix_ok _ _ (by decide) R hR
  | 3 => exact dFix_ok _ _ (by decide) R hR
  | 4 => exact dFix_ok _ _ (by decide) R hR
  | 5 => exact dFix_ok _ _ (by decide) R hR
  | 6 => exact dFix_ok _ _ (by decide) R hR
  | 7 => exact ⟨by show (dLeb 0 0 R).2.1 ≤ _; omega, hlb, hl.2⟩
  | 8 => exact ⟨by show (dLeb 0 0 R).2.1 ≤ _; omega, uns_bd hlb, hl.2⟩
  | j + 9 => exact ⟨by show (dNine 0 0 R).2.1 ≤ _; omega, hnb, hn.2⟩
def decs : List Nat → List Int → List Int × Nat × Int
  | [], _ => ([], 0, 0)
  | k :: ks, R => if (dec k R).2.2 ≠ 0 then ([], 0, (dec k R).2.2) else
      if (decs ks (R.drop (dec k R).2.1)).2.2 ≠ 0 then ([], 0, (decs ks (R.drop (dec k R).2.1)).2.2) else
        ((dec k R).1 :: (decs ks (R.drop (dec k R).2.1)).1, (dec k R).2.1 + (decs ks (R.drop (dec k R).2.1)).2.1, 0)
def dJoin (L : List Int) (a : Nat) (D : List Int × Nat × Int) : List Int × Nat × Int := if D.2.2 ≠ 0 then ([], 0, D.2.2) else (L ++ D.1, a + D.2.1, 0)
section
variable {w0 : World} {H : List Asn}
set_option maxRecDepth 10000 in
theorem NewR_c (p : Option Addr) (c m : Nat) (B : List Int) (hr : Rd w0 H (.slice p m c) m (ints .u8 B)) (hm : B.length = m) (hB : OKB B) (hm1 : m ≤ 140737488355328) (hpm : p = none → m = 0) (w : World) (hw : St w0 H w) :
    Calls Tryz.prog 88 #[.slice p m c] w fun e w' => ∃ rb q d, e = .returned (.pointer (some ⟨rb, 0, none⟩)) ∧ St w0 (blk rb (rdC (.slice q m d) 0) :: vec 5 1 (.slice q m d) m (ints .u8 B) :: H) w' := by
  refine enter (vs := [.slice p m c]) Tryz.func88 rfl rfl rfl hw ?_
  clear hw w
  repeat (refine sx ?_; try intro _)
  refine JO_call Tryz.call128 rfl rfl fun w hw => (Clone_c p c m B hr hm hB hm1 hpm w hw).mono ?_
  rintro e w' ⟨q, d, rfl, hw'⟩
  (refine ⟨_, rfl, _, hw', ?_⟩; clear hw' hw w w')
  repeat (refine sx ?_; try intro _)
  exact JS_ret Tryz.func88 rfl rfl fun w hw => ⟨_, q, d, rfl, hw⟩
end
end Go.Proofs.YteelffkghidpfaaGreat

namespace Go.Proofs.YteelffkghidpfaaGreat
open Sx Go
set_option linter.unusedVariables false
set_option linter.unusedSimpArgs false
def hiA : Nat → Bool
  | 2 => true | 4 => true | 6 => true | _ => false
theorem tab_cons (n : Nat) (f : Nat → Int) : tab (n + 1) f = f 0 :: tab n fun i => f (i + 1) := by
  unfold tab
  rw [List.range_succ_eq_map, List.map_cons, List.map_map]; rfl
theorem hiB_cons (i : Nat) (n : Int) : hiB (i + 1) n = lowF n i :: hiB i n := by
  unfold hiB
  rw [tab_cons]
  congr 1
  exact tab_congr fun j hj => by rw [show i + 1 - 1 - (j + 1) = i - 1 - j by omega]
theorem lowB_snoc (i : Nat) (n : Int) : lowB (i + 1) n = lowB i n ++ [lowF n i] := tab_succ i (lowF n)
theorem div_st2 {n : Int} (i : Nat) : n / 256 ^ i / 256 = n / 256 ^ (i + 1) := by
  rw [Int.ediv_ediv_of_nonneg (by exact Int.le_of_lt (Int.pow_pos (by decide))), Int.pow_succ]
theorem div_bd {n : Int} (h : 0 ≤ n) (i : Nat) : 0 ≤ n / 256 ^ i ∧ n / 256 ^ i ≤ n := ⟨Int.ediv_nonneg h (Int.le_of_lt (Int.pow_pos (by decide))), Int.ediv_le_self _ h⟩
section
variable {w0 : World} {H : List Asn}
set_option maxRecDepth 10000 in
set_option maxHeartbeats 2000000 in
theorem RFix_c (k : Nat) (hk : k < 10) (w : World) (hw : St w0 H w) :
    Calls Tryz.prog 93 #[.int .u8 (ltA k)] w fun e w' => e = .returned (.tuple #[.int .i64 (szA k), .bool (hiA k)]) ∧ St w0 H w' := by
  refine enter (vs := [.int .u8 (ltA k)]) Tryz.func93 rfl rfl rfl hw ?_
  clear hw w
  match k, hk with
  | 0, _ | 1, _ | 2, _ | 3, _ | 4, _ | 5, _ | 6, _ | 7, _ | 8, _ | 9, _ =>
    repeat (refine sx ?_; try intro _)
    exact JS_ret Tryz.func93 rfl rfl fun w hw => ⟨rfl, hw⟩
  | k + 10, h => exact absurd h (by omega)
set_option maxRecDepth 10000 in
theorem RSign_c (a : Int) (ha : 0 ≤ a ∧ a < 18446744073709551616) (w : World) (hw : St w0 H w) :
    Calls Tryz.prog 123 #[.int .u64 a] w fun e w' => e = .returned (.int .u64 (sgn a)) ∧ St w0 H w' := by
  refine enter (vs := [.int .u64 a]) Tryz.func123 rfl rfl rfl hw ?_
  clear hw w
  unfold sgn
  by_cases h : a < 9223372036854775808
  · rw [if_pos h]
    repeat (refine sx ?_; try intro _)
    exact JS_ret Tryz.func123 rfl rfl fun w hw => ⟨rfl, hw⟩
  · rw [if_neg h]
    repeat (refine sx ?_; try intro _)
    exact JS_ret Tryz.func123 rfl rfl fun w hw => ⟨by rw [show 36893488147419103231 - 2 * a = 2 * (18446744073709551615 - a) + 1 by omega]; rfl, hw⟩
set_option maxRecDepth 10000 in
set_option maxHeartbeats 4000000 in
theorem OneF_c (k : Nat) (hk : k < 7) (n : Int) (hn : 0 ≤ n ∧ n < 18446744073709551616) (w : World) (hw : St w0 H w) :
    Calls Tryz.prog 81 #[.int .u8 (ltA k), .int .u64 n] w fun e w' => ∃ p c, e = .returned (.tuple #[.slice p (encN k n).length c, .bool (decide (n / 256 ^ (szA k).toNat = 0))]) ∧ St w0 (vec 5 1 (.slice p (encN k n).length c) (encN k n).length (ints .u8 (encN k n)) :: H) w' := by
  have hfx := fun {H} w hw => RFix_c (w0 := w0) (H := H) k (by omega) w hw
  have hs : 0 < szA k ∧ szA k ≤ 8 := by
    match k, hk with
    | 0, _ | 1, _ | 2, _ | 3, _ | 4, _ | 5, _ | 6, _ => decide
    | k + 7, h => exact absurd h (by omega)
  have hen : encN k n = if hiA k then hiB (szA k).toNat n else lowB (szA k).toNat n := by
    match k, hk with
    | 0, _ | 1, _ | 2, _ | 3, _ | 4, _ | 5, _ | 6, _ => rfl
    | k + 7, h => exact absurd h (by omega)
  obtain ⟨s, hse⟩ := Int.eq_ofNat_of_zero_le (Int.le_of_lt hs.1)
  rw [hse, Int.toNat_natCast] at hen ⊢
  rw [hse] at hfx hs
  refine enter (vs := [.int .u8 (ltA k), .int .u64 n]) Tryz.func81 rfl rfl rfl hw ?_
  clear hw w
  repeat (refine sx ?_; try intro _)
  refine JO_call Tryz.call93 rfl rfl fun w hw => (hfx w hw).mono ?_
  rintro e w' ⟨rfl, hw'⟩
  (refine ⟨_, rfl, _, hw', ?_⟩; clear hw' hw w w')
  clear hfx
  have hd0 := (div_bd hn.1 s)
  cases hh : hiA k with
  | false =>
    rw [hh] at hen
    simp only [Bool.false_eq_true, if_false] at hen
    rw [hen]
    repeat (first | (apply gJR; (refine sx ?_; try intro _)) | (apply gJO; (refine sx ?_; try intro _)) | (apply gJS; first | refine JS_condT rfl ?_ | refine JS_cond_T rfl (by omega) ?_) | apply JS_skip | apply JS_seq | apply JS_region)
    refine JS_block ?_
    refine JS_loop3 (fun (i : Nat) (p : Option Addr) (c : Nat) => [(6, .int .i64 s), (7, .bool false), (8, .slice p (lowB i n).length c), (9, .int .u64 (n / 256 ^ i)), (10, .int .i64 i)]) (fun i p c => vec 5 1 (.slice p (lowB i n).length c) (lowB i n).length (ints .u8 (lowB i n)) :: H) (fun i _ _ => i ≤ s) (fun i _ _ => s - i) 0 none 0 (Nat.zero_le _) (by exact ⟨rfl, rfl, rfl, lookI rfl (by simp), rfl, trivial⟩) (fun w hw => St.nilvec hw) ?_
    intro i p c hi again
    by_cases his : i < s
    · have hb := div_bd hn.1 i
      have hst := div_st2 (n := n) i
      have hf : n / 256 ^ i % 256 = lowF n i := rfl
      have hfb := lowF_bd n i
      have hsn := lowB_snoc i n
      have hl : (lowB i n).length = i := tab_len _ _
      have again' := again (i + 1)
      clear again
      rw [hsn] at again'
      generalize lowB i n = X at *
      generalize lowF n i = z at *
      rw [← hst] at again'
      clear hst
      generalize n / 256 ^ i = m at *
      have c8 : IntKind.u8.wrap (m % 256) = z := by rw [mu8]; omega
      repeat (first | (apply gJO; first | refine JO_v (V_conv (tb := tb) rfl rfl rfl c8 rfl) ?_ | (refine JO_app (tb := tb) rfl rfl rfl rfl rfl rfl (by repeat (first | exact Sel.here _ _ | apply Sel.there)) (by first | exact vec_rd (by repeat (first | apply List.Mem.head | apply List.Mem.tail)) | assumption | exact ArgRd.rd (by assumption) _ | (apply Rd_weak; assumption; intro _ hx; exact dS hx)) (by simp only [ints_len, List.length_cons, List.length_nil]; first | omega | rfl) (by first | exact ints_one | (repeat (first | exact trivial | refine ⟨rfl, ?_⟩))) (by omega) rfl ?_; intro _ _)) | (refine sx ?_; try intro _))
      have e1 : ints .u8 X ++ [Value.int .u8 z] = ints .u8 (X ++ [z]) := by rw [← ints_app]; rfl
      exact JS_weak (again' _ _ (by omega) (by omega)) (by rw [List.length_append]; exact ⟨rfl, rfl, rfl, rfl, rfl, trivial⟩) (fun w hw => by rw [List.length_append, ← e1]; exact dS hw)
    · obtain rfl : i = s := by omega
      repeat (refine sx ?_; try intro _)
      exact JS_ret Tryz.func81 rfl rfl fun w hw => ⟨p, c, rfl, hw⟩
  | true =>
    rw [hh] at hen
    simp only [if_true] at hen
    rw [hen]
    repeat (first | (apply gJR; (refine sx ?_; try intro _)) | (apply gJO; (refine sx ?_; try intro _)) | (apply gJS; first | refine JS_condT rfl ?_ | refine JS_cond_T rfl (by omega) ?_) | apply JS_skip | apply JS_seq | apply JS_region)
    refine JS_block ?_
    refine JS_loop3 (fun (i : Nat) (p : Option Addr) (c : Nat) => [(6, .int .i64 s), (7, .bool true), (8, .slice p (hiB i n).length c), (9, .int .u64 (n / 256 ^ i)), (10, .int .i64 i)]) (fun i p c => vec 5 1 (.slice p (hiB i n).length c) (hiB i n).length (ints .u8 (hiB i n)) :: H) (fun i _ _ => i ≤ s) (fun i _ _ => s - i) 0 none 0 (Nat.zero_le _) (by exact ⟨rfl, rfl, rfl, lookI rfl (by simp), rfl, trivial⟩) (fun w hw => St.nilvec hw) ?_
    intro i p c hi again
    by_cases his : i < s
    · have hb := div_bd hn.1 i
      have hst := div_st2 (n := n) i
      have hf : n / 256 ^ i % 256 = lowF n i := rfl
      have hfb := lowF_bd n i
      have hsn := hiB_cons i n
      have hl : (hiB i n).length = i := tab_len _ _
      have again' := again (i + 1)
      clear again
      rw [hsn] at again'
      generalize hiB i n = X at *
      generalize lowF n i = z at *
      rw [← hst] at again'
      clear hst
      generalize n / 256 ^ i = m at *
      have c8 : IntKind.u8.wrap (m % 256) = z := by rw [mu8]; omega
      repeat (first | (apply gJO; first | refine JO_v (V_conv (tb := tb) rfl rfl rfl c8 rfl) ?_ | (refine JO_app (tb := tb) rfl rfl rfl rfl rfl rfl (by repeat (first | exact Sel.here _ _ | apply Sel.there)) (by first | exact vec_rd (by repeat (first | apply List.Mem.head | apply List.Mem.tail)) | assumption | exact ArgRd.rd (by assumption) _ | (apply Rd_weak; assumption; intro _ hx; exact dS hx)) (by simp only [ints_len, List.length_cons, List.length_nil]; first | omega | rfl) (by first | exact ints_one | (repeat (first | exact trivial | refine ⟨rfl, ?_⟩))) (by omega) rfl ?_; intro _ _)) | (refine sx ?_; try intro _))
      have e1 : [Value.int .u8 z] ++ ints .u8 X = ints .u8 (z :: X) := rfl
      have e2 : (z :: X).length = 1 + X.length := by rw [List.length_cons]; omega
      exact JS_weak (again' _ _ (by omega) (by omega)) (by rw [e2]; exact ⟨rfl, rfl, rfl, rfl, rfl, trivial⟩) (fun w hw => by rw [e2, ← e1]; exact dS hw)
    · obtain rfl : i = s := by omega
      repeat (refine sx ?_; try intro _)
      exact JS_ret Tryz.func81 rfl rfl fun w hw => ⟨p, c, rfl, hw⟩
theorem varB_last' {f : Nat} {m : Int} (h : m ≤ 127 ∨ f = 0) : varB f m = [m] := by
  rcases h with h | rfl
  · exact varB_last h
  · rfl
set_option maxRecDepth 10000 in
set_option maxHeartbeats 4000000 in
theorem OneV_c (k : Nat) (hk : 7 ≤ k ∧ k < 10) (n : Int) (hn : 0 ≤ n ∧ n < 18446744073709551616) (w : World) (hw : St w0 H w) :
    Calls Tryz.prog 81 #[.int .u8 (ltA k), .int .u64 n] w fun e w' => ∃ p c, e = .returned (.tuple #[.slice p (encN k n).length c, .bool true]) ∧ St w0 (vec 5 1 (.slice p (encN k n).length c) (encN k n).length (ints .u8 (encN k n)) :: H) w' := by
  have hfx := fun {H} w hw => RFix_c (w0 := w0) (H := H) k (by omega) w hw
  have hs : szA k = 0 ∧ hiA k = false := by
    rcases (show k = 7 ∨ k = 8 ∨ k = 9 by omega) with rfl | rfl | rfl <;> decide
  rw [hs.1, hs.2] at hfx
  have hlet : ltA k = 118 ∨ ltA k = 122 ∨ ltA k = 110 := by
    rcases (show k = 7 ∨ k = 8 ∨ k = 9 by omega) with rfl | rfl | rfl <;> decide
  have hsg := sgn_bd hn
  obtain ⟨F, m0, hen, hm0, hF, hm1, hF9⟩ : ∃ (F : Nat) (m0 : Int), encN k n = varB F m0 ∧ (0 ≤ m0 ∧ m0 < 18446744073709551616) ∧ ((ltA k = 110 ∧ F = 8) ∨ (ltA k ≠ 110 ∧ F = 9)) ∧ ((ltA k = 118 ∧ m0 = n) ∨ (ltA k ≠ 118 ∧ m0 = sgn n)) ∧ F ≤ 9 := by
    rcases (show k = 7 ∨ k = 8 ∨ k = 9 by omega) with rfl | rfl | rfl
    · exact ⟨9, n, rfl, hn, .inr ⟨by decide, rfl⟩, .inl ⟨rfl, rfl⟩, by decide⟩
    · exact ⟨9, sgn n, rfl, hsg, .inr ⟨by decide, rfl⟩, .inr ⟨by decide, rfl⟩, by decide⟩
    · exact ⟨8, sgn n, rfl, hsg, .inl ⟨by decide, rfl⟩, .inr ⟨by decide, rfl⟩, by decide⟩
  rw [hen]
  have hSg := fun {H} w hw => RSign_c (w0 := w0) (H := H) n hn w hw
  have hltb := ltA_bd k
  clear hs hen
  generalize ltA k = l at *
  refine enter (vs := [.int .u8 l, .int .u64 n]) Tryz.func81 rfl rfl rfl hw ?_
  clear hw w
  repeat (refine sx ?_; try intro _)
  refine JO_call Tryz.call93 rfl rfl fun w hw => (hfx w hw).mono ?_
  rintro e w' ⟨rfl, hw'⟩
  (refine ⟨_, rfl, _, hw', ?_⟩; clear hw' hw w w')
  clear hfx
  have hK : JS Tryz.prog 81 Tryz.f81.ntmps (fun e w' => ∃ p c, e = .returned (.tuple #[.slice p (varB F m0).length c, .bool true]) ∧ St w0 (vec 5 1 (.slice p (varB F m0).length c) (varB F m0).length (ints .u8 (varB F m0)) :: H) w') [] w0 (todo Tryz.f81 [.b, .b, .b, .b, .b, .b]) [(0, .int .u8 l), (8, .slice none 0 0), (11, .int .u64 m0)] H := by
    clear hSg hm1 hsg
    refine JS_at rfl ?_
    repeat (first | (apply gJR; (refine sx ?_; try intro _)) | (apply gJO; (refine sx ?_; try intro _)) | apply JS_seq | apply JS_region)
    refine JS_block ?_
    refine JS_loop5 (fun (f : Nat) (m : Int) (X : List Int) (p : Option Addr) (c : Nat) => [(0, .int .u8 l), (8, .slice p X.length c), (11, .int .u64 m)]) (fun f m X p c => vec 5 1 (.slice p X.length c) X.length (ints .u8 X) :: H) (fun f m X _ _ => X ++ varB f m = varB F m0 ∧ X.length + f = F ∧ 0 ≤ m ∧ m < 18446744073709551616 ∧ (F = 9 → m < 2 * 128 ^ f) ∧ (F = 8 → m < 256 * 128 ^ f)) (fun f _ _ _ _ => f) F m0 [] none 0 ⟨rfl, by simp, hm0.1, hm0.2, ?_, ?_⟩ (by repeat (first | exact trivial | refine ⟨rfl, ?_⟩ | refine ⟨lookI rfl (by omega), ?_⟩)) (fun w hw => St.nilvec hw) ?_
    · rintro rfl; exact Int.lt_of_lt_of_le hm0.2 (by decide)
    · rintro rfl; exact Int.lt_of_lt_of_le hm0.2 (by decide)
    intro f m X p c ⟨he, hl, hm0, hm1, hm2, hm3⟩ again
    have hcase : (m ≤ 127 ∧ ¬ 127 < m) ∨ (127 < m ∧ l = 110 ∧ X.length = 8 ∧ f = 0) ∨ (127 < m ∧ l = 110 ∧ ¬ X.length = 8 ∧ f ≠ 0) ∨ (127 < m ∧ ¬ l = 110 ∧ f ≠ 0) := by
      rcases Int.lt_or_le 127 m with h | h
      · right
        rcases hF with ⟨h1, rfl⟩ | ⟨h1, rfl⟩
        · by_cases h2 : X.length = 8
          · exact .inl ⟨h, h1, h2, by omega⟩
          · exact .inr (.inl ⟨h, h1, h2, by omega⟩)
        · refine .inr (.inr ⟨h, h1, fun h2 => ?_⟩)
          subst h2
          have := hm2 rfl
          simp at this
          omega
      · exact .inl ⟨h, by omega⟩
    have hgo : 127 < m → f ≠ 0 → ∃ f', f = f' + 1 ∧ X ++ [m % 128 + 128] ++ varB f' (m / 128) = varB F m0 ∧ (F = 9 → m / 128 < 2 * 128 ^ f') ∧ (F = 8 → m / 128 < 256 * 128 ^ f') := by
      intro h1 h2
      obtain ⟨f', rfl⟩ : ∃ f', f = f' + 1 := ⟨f - 1, by omega⟩
      refine ⟨f', rfl, ?_, fun h => ?_, fun h => ?_⟩
      · rw [← he, varB_step (by omega), List.append_assoc]; rfl
      · have := hm2 h
        rw [Int.pow_succ] at this
        generalize (128 : Int) ^ f' = z at *
        omega
      · have := hm3 h
        rw [Int.pow_succ] at this
        generalize (128 : Int) ^ f' = z at *
        omega
    have hend : (m ≤ 127 ∨ f = 0) → X ++ [m] = varB F m0 ∧ m < 256 := by
      intro h
      refine ⟨by rw [← he, varB_last' h], ?_⟩
      rcases h with h | rfl
      · omega
      · rcases hF with ⟨_, h⟩ | ⟨_, h⟩
        · have := hm3 h; simp at this; omega
        · have := hm2 h; simp at this; omega
    clear hm2 hm3
    have e1 := fun z => show ints .u8 X ++ [Value.int .u8 z] = ints .u8 (X ++ [z]) by rw [← ints_app]; rfl
    rcases hcase with ⟨h1, h2⟩ | ⟨h1, h2, h3, h4⟩ | ⟨h1, h2, h3, h4⟩ | ⟨h1, h2, h4⟩
    · obtain ⟨hX, hm⟩ := hend (.inl h1)
      have c8 : IntKind.u8.wrap m = m := wu8 (by omega)
      rw [← hX]
      repeat (first | (apply gJO; first | refine JO_v (V_conv (tb := tb) rfl rfl rfl c8 rfl) ?_ | (refine JO_app (tb := tb) rfl rfl rfl rfl rfl rfl (by repeat (first | exact Sel.here _ _ | apply Sel.there)) (by first | exact vec_rd (by repeat (first | apply List.Mem.head | apply List.Mem.tail)) | assumption | exact ArgRd.rd (by assumption) _ | (apply Rd_weak; assumption; intro _ hx; exact dS hx)) (by simp only [ints_len, List.length_cons, List.length_nil]; first | omega | rfl) (by first | exact ints_one | (repeat (first | exact trivial | refine ⟨rfl, ?_⟩))) (by omega) rfl ?_; intro _ _)) | (refine sx ?_; try intro _))
      exact JS_ret Tryz.func81 rfl rfl fun w hw => ⟨_, _, by rw [List.length_append]; rfl, by rw [List.length_append, ← e1]; exact dS hw⟩
    · obtain ⟨hX, hm⟩ := hend (.inr h4)
      have c8 : IntKind.u8.wrap m = m := wu8 (by omega)
      rw [← hX]
      repeat (first | (apply gJO; first | refine JO_v (V_conv (tb := tb) rfl rfl rfl c8 rfl) ?_ | (refine JO_app (tb := tb) rfl rfl rfl rfl rfl rfl (by repeat (first | exact Sel.here _ _ | apply Sel.there)) (by first | exact vec_rd (by repeat (first | apply List.Mem.head | apply List.Mem.tail)) | assumption | exact ArgRd.rd (by assumption) _ | (apply Rd_weak; assumption; intro _ hx; exact dS hx)) (by simp only [ints_len, List.length_cons, List.length_nil]; first | omega | rfl) (by first | exact ints_one | (repeat (first | exact trivial | refine ⟨rfl, ?_⟩))) (by omega) rfl ?_; intro _ _)) | (refine sx ?_; try intro _))
      exact JS_ret Tryz.func81 rfl rfl fun w hw => ⟨_, _, by rw [List.length_append]; rfl, by rw [List.length_append, ← e1]; exact dS hw⟩
    all_goals (
      obtain ⟨f', hf', hX, hy, hz⟩ := hgo h1 h4
      subst hf'
      have c8 : IntKind.u8.wrap (128 + m % 128) = m % 128 + 128 := (wu8 (by omega)).trans (by omega)
      clear hgo hend he
      repeat (first | (apply gJO; first | refine JO_v (V_conv (tb := tb) rfl rfl rfl c8 rfl) ?_ | (refine JO_app (tb := tb) rfl rfl rfl rfl rfl rfl (by repeat (first | exact Sel.here _ _ | apply Sel.there)) (by first | exact vec_rd (by repeat (first | apply List.Mem.head | apply List.Mem.tail)) | assumption | exact ArgRd.rd (by assumption) _ | (apply Rd_weak; assumption; intro _ hx; exact dS hx)) (by simp only [ints_len, List.length_cons, List.length_nil]; first | omega | rfl) (by first | exact ints_one | (repeat (first | exact trivial | refine ⟨rfl, ?_⟩))) (by omega) rfl ?_; intro _ _)) | (refine sx ?_; try intro _))
      exact JS_again5 again f' (m / 128) (X ++ [m % 128 + 128]) _ _ ⟨hX, by rw [List.length_append, List.length_singleton]; omega, by omega, by omega, hy, hz⟩ (by omega) (by rw [List.length_append]; exact ⟨rfl, rfl, rfl, trivial⟩) (fun w hw => by rw [List.length_append, ← e1]; exact dS hw))
  rcases hm1 with ⟨h1, rfl⟩ | ⟨h1, rfl⟩
  · clear hlet hSg
    repeat (first | exact JS_of_at (JS_weak hK (by repeat (first | exact trivial | refine ⟨rfl, ?_⟩ | refine ⟨lookI rfl (by omega), ?_⟩)) (fun w hw => hw)) rfl | (refine sx ?_; try intro _))
  · clear hlet
    generalize sgn n = m0 at *
    repeat (refine sx ?_; try intro _)
    refine JO_call Tryz.call123 rfl rfl fun w hw => (hSg w hw).mono ?_
    rintro e w' ⟨rfl, hw'⟩
    (refine ⟨_, rfl, _, hw', ?_⟩; clear hw' hw w w')
    repeat (first | exact JS_of_at (JS_weak hK (by repeat (first | exact trivial | refine ⟨rfl, ?_⟩ | refine ⟨lookI rfl (by omega), ?_⟩)) (fun w hw => hw)) rfl | (refine sx ?_; try intro _))
end
end Go.Proofs.YteelffkghidpfaaGreat
