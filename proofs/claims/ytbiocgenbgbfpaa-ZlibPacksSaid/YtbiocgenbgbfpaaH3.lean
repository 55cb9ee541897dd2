import Derived.Test.YtbiocgenbgbfpaaH2
set_option linter.unusedVariables false
namespace Sx
open Go
/-! a region that draws its order: the quiet operations are shown in a wider class of worlds (Hi) than the loud ones (H) -/
section
variable (P : Program) (E : List PanicEntry → List Deferred → World → Prop) (ops : Array Oper) (sy : List Nat) (K : (World → Prop) → Act → Prop)
def goN2 (next : (World → Prop) → (World → Prop) → Act → Prop) (m : Nat) (o : Oper) (I C : World → Prop) (a : Act) : Prop :=
  (loud o.op = false ∧ ∃ v, (∀ w, I w → (execOp a.eval o).run P w = .ok (.value v) w) ∧ next I C (a.put o.dst v)) ∨
  (loud o.op = true ∧ ∀ w, C w → Oper.wpN P E o a w fun a' w' => ∃ I' C' : World → Prop, C' w' ∧ (∀ w, C' w → I' w) ∧ ((∀ w, I' w → I w) ∨ sy.contains m = true) ∧ next I' C' a')
def walkN2 : List Oper → (World → Prop) → (World → Prop) → Act → Prop
  | [], I, C, a => K C a
  | o :: rest, I, C, a => if Region.wanted o (yielded ops a.tmps) then goN2 P E sy (walkN2 rest) rest.length o I C a else walkN2 rest I C (a.put o.dst undef)
end
section
variable {P : Program} {E : List PanicEntry → List Deferred → World → Prop} {ops : Array Oper}
theorem wpS_walk2 {sy : List Nat} {K : (World → Prop) → Act → Prop} (hsel : Region.noSelect ops = true) : ∀ (st done : List Nat) (l : List Oper) (listed : Array Bool) (I C : World → Prop) (a : Act), (∀ w, C w → I w) →
    l.map some = st.map (fun i => ops[i]?) → ordB ops sy done st listed = true → (∀ s ∈ done, s < ops.size) → (∀ j, listed.getD j false = true ↔ j ∈ done) → (∀ S, (∀ s ∈ done, calmAt ops s = false → s ∈ S) → Sofar ops S listed) → walkN2 P E ops sy K l I C a →
    ∀ w, C w → wpS P E ops I (till ops sy done st) (fun a w => ∃ C' : World → Prop, C' w ∧ K C' a) st.length listed a w
  | [], done, l, listed, I, C, a, hIC, hl, hB, hs, hd, hG, h, w, hw => by
    have : l = [] := by simpa using hl
    subst this
    simp only [ordB, Bool.and_eq_true, List.isEmpty_iff] at hB
    exact ⟨hB.1, C, hw, h⟩
  | i :: st, done, [], listed, I, C, a, hIC, hl, hB, hs, hd, hG, h, w, hw => by simp at hl
  | i :: st, done, o :: l, listed, I, C, a, hIC, hl, hB, hs, hd, hG, h, w, hw => by
    obtain ⟨hgate, hsz⟩ := ordB_gate (i :: st) done listed hB hs
    simp only [List.map_cons, List.cons.injEq] at hl
    have ho : ops[i]? = some o := hl.1.symm
    have hlen : l.length = st.length := by simpa using congrArg List.length hl.2
    have hi : i < ops.size := (Array.getElem?_eq_some_iff.1 ho).1
    have hB0 := hB
    simp only [ordB, ho, Bool.and_eq_true] at hB
    obtain ⟨⟨hB1, hB2⟩, hB3⟩ := hB
    have hrdy : i ∈ Region.ready .any ops listed := by
      split at hB2
      · rw [beq_iff_eq] at hB2; rw [hB2]; simp
      · rw [Bool.and_eq_true] at hB2; simpa using hB2.1
    have hs' : ∀ s ∈ i :: done, s < ops.size := fun s hs' => (List.mem_cons.1 hs').elim (fun e => e ▸ hi) (hs s)
    have hiun : listed.getD i true = false := (mem_ready.1 hrdy).1
    have hlt : i < listed.size := by
      rcases Nat.lt_or_ge i listed.size with h' | h'
      · exact h'
      · simp [Array.getElem?_eq_none h'] at hiun
    have hd' : ∀ j, (listed.setIfInBounds i true).getD j false = true ↔ j ∈ i :: done := fun j => by
      by_cases hij : i = j
      · subst hij
        simp [hlt]
      · rw [getD_set_ne false hij, hd j]
        simp [Ne.symm hij]
    have hG' : ∀ S, (∀ s ∈ i :: done, calmAt ops s = false → s ∈ S) → Sofar ops S (listed.setIfInBounds i true) := fun S hS => by
      refine ⟨fun j oj hj hl e he hb => ?_, fun k hk hkc hl => absurd (hS k ((hd' k).1 hl) hkc) hk⟩
      by_cases hij : i = j
      · subst hij
        rw [ho] at hj; cases hj
        obtain ⟨_, o', ho', hall⟩ := mem_ready.1 hrdy
        rw [ho] at ho'; cases ho'
        exact getD_set_true (hall e he hb)
      · rw [getD_set_ne false hij] at hl
        exact getD_set_true ((hG S fun s hs => hS s (List.mem_cons_of_mem _ hs)).down j oj hj hl e he hb)
    have IH := fun (I C : World → Prop) (a : Act) (hIC : ∀ w, C w → I w) (h : walkN2 P E ops sy K l I C a) => wpS_walk2 hsel st (i :: done) l (listed.setIfInBounds i true) I C a hIC hl.2 hB3 hs' hd' hG' h
    have hunl : ∀ j, (listed.setIfInBounds i true).getD j true = false → j ∉ i :: done := fun j h hj => getD_conf h ((hd' j).2 hj)
    simp only [walkN2] at h
    have hpure : ∀ v, loud o.op = false → Stays P ops I o v a → walkN2 P E ops sy K l I C (a.put o.dst v) → wpS P E ops I (till ops sy done (i :: st)) (fun a w => ∃ C' : World → Prop, C' w ∧ K C' a) (st.length + 1) listed a w := by
      intro v hlo hst hn
      have hnsy : sy.contains st.length = false := by
        cases hc : sy.contains st.length with
        | false => rfl
        | true => rw [hc] at hB1; simp [hlo] at hB1
      have htl : till ops sy done (i :: st) = till ops sy (i :: done) st := by simp only [till]; rw [hnsy]; simp
      simp only [hlo, Bool.false_eq_true, if_false, Bool.and_eq_true] at hB2
      cases hcal : calm o.op with
      | false =>
        refine wpS_first ho (Region.noSelect_spec hsel) hgate hsz (by rw [htl]; exact till_sub _ _ _ (List.mem_cons_self ..) (by unfold calmAt; simp only [ho]; exact hcal)) st.length listed a w (hG _ fun s hs hc => till_sub _ _ _ hs hc) (Region.free_spec ho hB2.2) hrdy hst (hIC w hw) ?_
        rw [htl]
        exact IH I C _ hIC hn w hw
      | true =>
        refine wpS_calm ho (Region.noSelect_spec hsel) (fun h => by have h' := till_calm _ _ _ h; unfold calmAt at h'; simp only [ho, hcal] at h'; cases h') st.length listed a w (Region.free_spec ho hB2.2) hrdy (hst.calm hcal (hIC w hw)) ?_
        rw [htl]
        exact IH I C _ hIC hn w hw
    have hloud : loud o.op = true → ∀ (a' : Act) (w' : World) (I' C' : World → Prop), C' w' → (∀ w, C' w → I' w) → ((∀ w, I' w → I w) ∨ sy.contains st.length = true) → walkN2 P E ops sy K l I' C' a' →
        ((i ∈ till ops sy done (i :: st) → I w') ∧ wpS P E ops I (till ops sy done (i :: st)) (fun a w => ∃ C' : World → Prop, C' w ∧ K C' a) st.length (listed.setIfInBounds i true) a' w') := by
      intro hlo a' w' I' C' hw' hIC' hor hn
      have h1 := IH I' C' a' hIC' hn w' hw'
      cases hc : sy.contains st.length with
      | true =>
        have htl : till ops sy done (i :: st) = done.filter fun k => !calmAt ops k := by simp only [till]; rw [hc]; simp
        rw [htl]
        refine ⟨fun hid => ?_, wpS_weak _ _ _ _ (fun j hj hu => absurd (List.mem_cons_of_mem _ (mem_noncalm.1 hj).1) (hunl j hu)) h1⟩
        exact (getD_conf hiun ((hd i).2 (mem_noncalm.1 hid).1)).elim
      | false =>
        have hsub := hor.resolve_right (by rw [hc]; simp)
        have htl : till ops sy done (i :: st) = till ops sy (i :: done) st := by simp only [till]; rw [hc]; simp
        rw [htl]
        exact ⟨fun _ => hsub _ (hIC' _ hw'), wpS_weak _ _ _ _ (fun j hj _ => ⟨hj, hsub⟩) h1⟩
    by_cases hwt : Region.wanted o (yielded ops a.tmps) = true
    · rw [if_pos hwt] at h
      rcases h with ⟨hlo, v, hv, hn⟩ | ⟨hlo, hn⟩
      · exact hpure v hlo (.inl ⟨hwt, hv⟩) hn
      · rw [if_pos hlo, beq_iff_eq] at hB2
        refine ⟨fun h0 => (by rw [h0] at hrdy; cases hrdy), fun j hj => ?_⟩
        have : j = i := by rw [hB2] at hj; simpa using hj
        subst this
        unfold stepN
        simp only [ho, hwt, if_true]
        exact Oper.wpN_mono (fun a' w' ⟨I', C', hw', hIC', hor, hn'⟩ => hloud hlo a' w' I' C' hw' hIC' (by rwa [hlen] at hor) hn') (hn w hw)
    · have hwt' : Region.wanted o (yielded ops a.tmps) = false := by simpa using hwt
      rw [if_neg hwt] at h
      cases hlo : loud o.op with
      | false => exact hpure undef hlo (.inr ⟨hwt', rfl⟩) h
      | true =>
        rw [if_pos hlo, beq_iff_eq] at hB2
        refine ⟨fun h0 => (by rw [h0] at hrdy; cases hrdy), fun j hj => ?_⟩
        have : j = i := by rw [hB2] at hj; simpa using hj
        subst this
        unfold stepN
        simp only [ho, hwt', Bool.false_eq_true, if_false]
        exact hloud hlo _ _ I C hw hIC (.inl fun _ h => h) h
end
section
variable (P : Program) (n : Nat) (D : List Deferred) (w0 : World)
def QR2 (Z : Array Oper × List Nat) (l : List Oper) (ov : Ov) (Hi H : List Asn) (K : KC) : Prop :=
  ∀ a, Rep n D ov a → walkN2 P K.e Z.1 Z.2 K.k l (St w0 Hi) (St w0 H) a
def QO2 (Z : Array Oper × List Nat) (o : Oper) (l : List Oper) (ov : Ov) (Hi H : List Asn) (K : KC) : Prop :=
  ∀ a, Rep n D ov a → goN2 P K.e Z.2 (walkN2 P K.e Z.1 Z.2 K.k l) l.length o (St w0 Hi) (St w0 H) a
end
section
variable {P : Program} {f n : Nat} {R : Ending → World → Prop} {D : List Deferred} {w0 : World} {k : List Item} {ov : Ov} {Hi H H' : List Asn} {K : KC}
  {Z : Array Oper × List Nat} {l : List Oper} {d : Option Nat} {T : Nat} {pos : String} {af : Array Edge} {g : Option (Nat × Bool)} {v : Value} {op : Op} {o : Oper}
theorem gQR2 (h : QR2 P n D w0 Z l ov Hi H K) : QR2 P n D w0 Z l ov Hi H K := h
theorem gQO2 (h : QO2 P n D w0 Z o l ov Hi H K) : QO2 P n D w0 Z o l ov Hi H K := h
theorem QR2_nil (h : JS P f n R D w0 k ov H) : QR2 P n D w0 Z [] ov Hi H (QK P f R k) := by
  unfold QK JS at *
  exact fun a ha w hw => h a w ha hw
theorem QR2_un (h : QO2 P n D w0 Z ⟨d, op, T, pos, af, none⟩ l ov Hi H K) : QR2 P n D w0 Z (⟨d, op, T, pos, af, none⟩ :: l) ov Hi H K := by
  intro a ha
  simp only [walkN2]
  rw [if_pos (by simp [Region.wanted])]
  exact h a ha
theorem QO2_v (hlo : loud op = false) (h : OpV P n D w0 ov Hi ⟨d, op, T, pos, af, g⟩ v) (hn : QR2 P n D w0 Z l (put d v ov) Hi H K) : QO2 P n D w0 Z ⟨d, op, T, pos, af, g⟩ l ov Hi H K := by
  unfold OpV at h
  exact fun a ha => .inl ⟨hlo, v, fun w hw => h.2 a w ha hw, hn _ (ha.put h.1 v)⟩
theorem QO2_callE {q : Nat} {xs : List Operand} {vs : List Value} {ts : Array Nat} (hc : ∀ args w, (callFunc q args).run P w = .ok (.enter q args) w) (hx : evs ov xs = some vs) (hd : dOk d n = true)
    (h : ∀ w, St w0 H w → Calls P q vs.toArray w fun e w' => (∃ v, e = .returned v ∧ ∃ Hi' H', St w0 H' w' ∧ (∀ w, St w0 H' w → St w0 Hi' w) ∧ ((∀ w, St w0 Hi' w → St w0 Hi w) ∨ Z.2.contains l.length = true) ∧ QR2 P n D w0 Z l (put d v ov) Hi' H' K) ∨ (∃ ch, e = .panicked ch ∧ K.e ch D w')) :
    QO2 P n D w0 Z ⟨d, .call ⟨.value (.func q), xs.toArray, ts⟩, T, pos, af, g⟩ l ov Hi H K := by
  intro a ha
  refine .inr ⟨rfl, fun w hw => ?_⟩
  have hrun : (execOp a.eval ⟨d, .call ⟨.value (.func q), xs.toArray, ts⟩, T, pos, af, g⟩).run P w = .ok (.enter q vs.toArray) w := by
    simp only [execOp, resolve, Deferred.ofValue, Act.eval, Sem.run_bind, Sem.run_pure, Result.andThen_ok, invoke]
    rw [List.map_toArray, ha.evs hx]
    simpa using hc vs.toArray w
  simp only [Oper.wpN, hrun, Oper.upN]
  exact (h w hw).mono fun e w' h' => h'.imp (fun ⟨v, he, Hi', H', hw', hI, hor, hn⟩ => ⟨v, he, St w0 Hi', St w0 H', hw', hI, hor, hn _ (ha.put hd v)⟩) (fun ⟨ch, he, hk⟩ => ⟨ch, he, by rw [ha.defers]; exact hk⟩)
theorem QO2_k (hlo : loud op = true) (h : OpK P n D w0 ov H ⟨d, op, T, pos, af, g⟩ H') (hI : ∀ w, St w0 H' w → St w0 Hi w) (hn : QR2 P n D w0 Z l (put d undef ov) Hi H' K) : QO2 P n D w0 Z ⟨d, op, T, pos, af, g⟩ l ov Hi H K := by
  intro a ha
  unfold OpK at h
  refine .inr ⟨hlo, fun w hw => ?_⟩
  obtain ⟨w', hrun, hw'⟩ := h.2 a w ha hw
  simp only [Oper.wpN, hrun, Oper.upN]
  exact ⟨St w0 Hi, St w0 H', hw', hI, .inl fun _ h => h, hn _ (ha.put h.1 undef)⟩
theorem JS_order2 {id : Nat} {l : List Oper} (Hi : List Asn) (st sy : List Nat) {l' : List Oper} (hI : ∀ w, St w0 H w → St w0 Hi w) (hp : Picks l st l') (hm : P.follows .mixedOrders = true) (hs : Region.noSelect l.toArray = true) (hlen : st.length = l.length)
    (hB : ordB l.toArray sy [] st (Array.replicate l.length false) = true) (h : QR2 P n D w0 (l.toArray, sy) l' ov Hi H (QK P f R k)) :
    JS P f n R D w0 (.code (.region id l.toArray true) :: k) ov H := by
  unfold JS
  intro a w ha hw
  refine J_of_wpE (Q := QQ P f R k) (wp_region_any hm ?_) fun e a' w' h => h
  have h0 : ∀ j, (Array.replicate l.length false).getD j false = false := fun j => by
    rcases Nat.lt_or_ge j l.length with h | h
    · simp [h]
    · simp [h]
  have hws := wpS_walk2 (P := P) (E := (QK P f R k).e) (K := (QK P f R k).k) (sy := sy) hs st [] l' (Array.replicate l.length false) (St w0 Hi) (St w0 H) a hI hp.map hB (by simp) (fun j => by rw [h0 j]; simp)
    (fun S _ => ⟨fun j oj _ hj => (by rw [h0 j] at hj; cases hj), fun k _ _ hk => (by rw [h0 k] at hk; cases hk)⟩) (h a ha) w.drew hw.drew
  have := wpAny_of_S (Q' := QQ P f R k) (fun ch a w h => by unfold QK at h; exact h) (fun a w ⟨C, hC, hk⟩ => by unfold QK at hk; exact hk w hC) _ _ _ _ hws
  rw [hlen] at this
  simpa using this
attribute [irreducible] QR2 QO2
end
end Sx
namespace Go.Proofs.Ytbiocgenbgbfpaa
open Sx Go
section
variable {n : Nat} {D : List Deferred} {w0 : World} {ov : Ov} {Hi H : List Asn} {K : KC} {Z : Array Oper × List Nat} {l : List Oper} {d : Option Nat} {T : Nat} {pos : String} {af : Array Edge} {g : Option (Nat × Bool)} {v : Value} {op : Op}
theorem aQ2 (hn : QR2 Try.prog n D w0 Z l (put d v ov) Hi H K) (h : OpV Try.prog n D w0 ov Hi ⟨d, op, T, pos, af, g⟩ v := by first | (apply oMv; exact V_move rfl rfl) | (apply oAs; exact V_assign rfl rfl) | (apply oL; first | exact V_load (tb := tb) rfl (by repeat (first | apply List.Mem.head | apply List.Mem.tail)) rfl rfl rfl rfl | exact V_loadC (tb := tb) rfl (by first | exact vec_rd (by repeat (first | apply List.Mem.head | apply List.Mem.tail)) | assumption | exact ArgRd.rd (by assumption) _ | (apply Rd_weak; assumption; intro _ hx; exact St.sub (by repeat (first | exact List.Sublist.refl _ | apply List.Sublist.cons_cons | apply List.Sublist.cons)) hx)) rfl rfl (by first | exact ints_get (by omega) | exact rfl) rfl | exact V_loadA (tb := tb) rfl (by repeat (first | apply List.Mem.head | apply List.Mem.tail)) rfl rfl rfl rfl) | (apply oB; first | (apply ob_add; first | exact V_add rfl rfl (by first | exact wi64 (by omega) | exact wu64 (by omega) | exact wu32 (by omega) | exact wu8 (by omega) | exact mu64 _ | exact mu32 _ | exact mu8 _ | exact mi64 _ | exact rfl) rfl) | (apply ob_sub; first | exact V_sub rfl rfl (by first | exact wi64 (by omega) | exact wu64 (by omega) | exact wu32 (by omega) | exact wu8 (by omega) | exact mu64 _ | exact mu32 _ | exact mu8 _ | exact mi64 _ | exact rfl) rfl) | (apply ob_mul; first | exact V_mul rfl rfl (by first | exact wi64 (by omega) | exact wu64 (by omega) | exact wu32 (by omega) | exact wu8 (by omega) | exact mu64 _ | exact mu32 _ | exact mu8 _ | exact mi64 _ | exact rfl) rfl) | (apply ob_eql; first | exact V_eqlT rfl rfl (by omega) rfl | exact V_eqlF rfl rfl (by omega) rfl | exact V_eql rfl rfl rfl) | (apply ob_neq; first | exact V_neqT rfl rfl (by omega) rfl | exact V_neqF rfl rfl (by omega) rfl | exact V_neq rfl rfl rfl) | (apply ob_lss; first | exact V_lssT rfl rfl (by omega) rfl | exact V_lssF rfl rfl (by omega) rfl | exact V_lss rfl rfl rfl) | (apply ob_leq; first | exact V_leqT rfl rfl (by omega) rfl | exact V_leqF rfl rfl (by omega) rfl | exact V_leq rfl rfl rfl) | (apply ob_gtr; first | exact V_gtrT rfl rfl (by omega) rfl | exact V_gtrF rfl rfl (by omega) rfl | exact V_gtr rfl rfl rfl) | (apply ob_geq; first | exact V_geqT rfl rfl (by omega) rfl | exact V_geqF rfl rfl (by omega) rfl | exact V_geq rfl rfl rfl) | (apply ob_quo; first | exact V_quo rfl rfl (by omega) (by first | exact IntWalk.i64_quo _ _ (by omega) | exact IntWalk.u64_quo _ _ (by omega) | exact IntWalk.u32_quo _ _ (by omega) | exact IntWalk.u8_quo _ _ (by omega)) rfl) | (apply ob_rem; first | exact V_rem rfl rfl (by omega) (Int.tmod_eq_emod_of_nonneg (by omega)) rfl) | (apply ob_and; first | exact V_and rfl rfl (by first | exact mask32_u64 (by omega) | exact mask_u64 8 (by decide) (by omega) rfl | exact mask_u64 16 (by decide) (by omega) rfl) rfl) | (apply ob_eql; first | exact V_eqP (tb := tb) rfl rfl rfl rfl | exact V_eqBB (tb := tb) rfl rfl rfl rfl | exact V_eqB (tb := tb) rfl rfl rfl rfl | exact V_eqNil (tb := tb) rfl rfl rfl rfl | exact V_eqStr rfl rfl (by assumption) (by assumption) rfl) | (apply ob_neq; first | exact V_neP (tb := tb) rfl rfl rfl rfl | exact V_neBB (tb := tb) rfl rfl rfl rfl | exact V_neB (tb := tb) rfl rfl rfl rfl | exact V_neStr rfl rfl (by assumption) (by assumption) rfl) | (apply oK; first | (apply ob_shr; exact V_shr (m := _) rfl rfl (by omega) (by simp only [IntKind.bits, Int.reduceToNat, Nat.reduceLeDiff, Nat.min_eq_left]; exact rfl) (by first | (simp only [Int.reducePow]; exact rfl) | exact rfl) rfl) | (apply ob_shl; exact V_shl (m := _) rfl rfl (by omega) (by simp only [IntKind.bits, Int.reduceToNat, Nat.reduceLeDiff, Nat.min_eq_left]; exact rfl) (by (try simp only [Int.reducePow]); first | exact wi64 (by omega) | exact wu64 (by omega) | exact wu32 (by omega) | exact wu8 (by omega) | exact mu64 _ | exact mu32 _ | exact mu8 _ | exact mi64 _ | exact rfl) rfl))) | (apply oE; first | exact V_extract rfl rfl rfl) | (apply oc_len; exact V_len (tb := tb) rfl rfl rfl) | (apply oc_len; exact V_lenS (tb := tb) rfl rfl rfl) | (apply oc_min; exact V_min rfl rfl rfl rfl) | (apply oc_max; exact V_max rfl rfl rfl rfl) | (apply oCv; first | exact V_conv (tb := tb) rfl rfl rfl (by first | exact wi64 (by omega) | exact wu64 (by omega) | exact wu32 (by omega) | exact wu8 (by omega) | exact mu64 _ | exact mu32 _ | exact mu8 _ | exact mi64 _ | exact rfl) rfl | exact V_str (tb := tb) rfl (by first | exact vec_rd (by repeat (first | apply List.Mem.head | apply List.Mem.tail)) | assumption | exact ArgRd.rd (by assumption) _ | (apply Rd_weak; assumption; intro _ hx; exact St.sub (by repeat (first | exact List.Sublist.refl _ | apply List.Sublist.cons_cons | apply List.Sublist.cons)) hx)) (by first | assumption | rfl | omega) rfl rfl rfl rfl) | (apply oP; first | exact V_pickT rfl rfl rfl | exact V_pickF rfl rfl rfl | exact V_pickB rfl rfl rfl rfl) | (apply oU; first | exact V_notD rfl rfl | exact V_not rfl rfl | exact V_neg rfl (by first | exact wi64 (by omega) | exact wu64 (by omega) | exact wu32 (by omega) | exact wu8 (by omega) | exact mu64 _ | exact mu32 _ | exact mu8 _ | exact mi64 _ | exact rfl) rfl) | (apply oN; first | exact V_nilCheck rfl rfl) | (apply oFA; first | exact V_field (tb := tb) rfl rfl rfl rfl rfl rfl | exact V_fieldC (tb := tb) rfl (by first | exact Rd.sl (vec_rd (by repeat (first | apply List.Mem.head | apply List.Mem.tail))) | exact Rd.sl (by assumption) | exact Rd.sl (ArgRd.rd (by assumption) _) | (apply Rd.sl; (apply Rd_weak; assumption; intro _ hx; exact St.sub (by repeat (first | exact List.Sublist.refl _ | apply List.Sublist.cons_cons | apply List.Sublist.cons)) hx))) (by omega) rfl rfl rfl rfl rfl) | (apply oIA; first | exact V_index (tb := tb) rfl rfl rfl rfl (by first | exact Rd.sl (vec_rd (by repeat (first | apply List.Mem.head | apply List.Mem.tail))) | exact Rd.sl (by assumption) | exact Rd.sl (ArgRd.rd (by assumption) _) | (apply Rd.sl; (apply Rd_weak; assumption; intro _ hx; exact St.sub (by repeat (first | exact List.Sublist.refl _ | apply List.Sublist.cons_cons | apply List.Sublist.cons)) hx))) (by omega) (by (try simp only [tn, tna, tn1, tn2, tn3, tn4, tnd16, tnd8, Int.reduceToNat]); first | exact Nat.mul_one _ | exact rfl) rfl | exact V_indexA (tb := tb) rfl rfl rfl rfl (by omega) rfl) | (apply oBd; first | exact V_build (tb := tb) rfl rfl rfl rfl rfl) | (apply oF; first | exact V_makeFunc rfl rfl rfl)) (hlo : loud op = false := by rfl) : QO2 Try.prog n D w0 Z ⟨d, op, T, pos, af, g⟩ l ov Hi H K := QO2_v hlo h hn
theorem aK2 {H' : List Asn} (hI : ∀ w, St w0 H' w → St w0 Hi w) (hn : QR2 Try.prog n D w0 Z l (put d undef ov) Hi H' K) (h : OpK Try.prog n D w0 ov H ⟨d, op, T, pos, af, g⟩ H' := by first | exact K_store (tb := tb) rfl rfl (by repeat (first | apply Upd.here | apply Upd.there)) rfl rfl rfl (by repeat (first | exact trivial | refine ⟨rfl, ?_⟩)) rfl rfl | exact K_storeC1 (tb := tb) rfl rfl ints_set (by repeat (first | apply Upd.here | apply Upd.there)) rfl rfl (by rw [ints_len]; omega) rfl) (hlo : loud op = true := by rfl) : QO2 Try.prog n D w0 Z ⟨d, op, T, pos, af, g⟩ l ov Hi H K := QO2_k hlo h hI hn
end
end Go.Proofs.Ytbiocgenbgbfpaa

namespace Go.Proofs.Ytbiocgenbgbfpaa
open Sx Go
set_option linter.unusedVariables false
set_option linter.unusedSimpArgs false
attribute [local irreducible] syA fc tk cds
theorem lbase_ok {i : Int} (h : (lbase i).1 ≠ 0) : 257 ≤ i ∧ i ≤ 285 ∧ 3 ≤ (lbase i).1 ∧ (lbase i).1 ≤ 258 ∧ 0 ≤ (lbase i).2 ∧ (lbase i).2 ≤ 5 := by
  by_cases h1 : i < 257 ∨ 285 < i
  · exact absurd (by unfold lbase; rw [if_pos h1]) h
  by_cases h2 : i = 285
  · subst h2; decide
  · obtain ⟨k, rfl⟩ : ∃ k : Nat, i = 257 + k := ⟨(i - 257).toNat, by omega⟩
    have := lbase_bd k (by omega)
    omega
theorem lfar_ok {i : Int} (h : (lfar i).1 ≠ 0) : 0 ≤ i ∧ i ≤ 29 ∧ 1 ≤ (lfar i).1 ∧ (lfar i).1 ≤ 24577 ∧ 0 ≤ (lfar i).2 ∧ (lfar i).2 ≤ 13 := by
  by_cases h1 : i < 0 ∨ 29 < i
  · exact absurd (by unfold lfar; rw [if_pos h1]) h
  · obtain ⟨k, rfl⟩ : ∃ k : Nat, i = k := ⟨i.toNat, by omega⟩
    have := lfar_bd k (by omega)
    omega
section
variable {w0 : World} {H : List Asn} {bf br : Nat} {q : Option Addr} {d m : Nat} {B : List Int} {lim : Nat} {po : Option Addr} {co : Nat} {o : List Int}
set_option maxRecDepth 10000 in
set_option maxHeartbeats 4000000 in
/-- a block of symbols -/
theorem Blk_c (hK : InfK m B lim) (a : Nat) (ha : a ≤ 8 * m) (ho : o.length ≤ lim) (b1 b2 : Nat) (L D : List Int) (hs1 : IsSet w0 H b1 L) (hs2 : IsSet w0 H b2 D) (w : World) (hw : St w0 (infL bf br q d m B lim a po co o H) w) :
    Calls Try.prog 132 #[.pointer (some ⟨bf, 0, none⟩), .pointer (some ⟨b1, 0, none⟩), .pointer (some ⟨b2, 0, none⟩)] w fun e w' => ∃ r, It (blkF (bitB B 0) (8 * m) lim L D) a o r ∧ resP r (fun r => e = .panicked (FLT r) ∧ St w0 H w')
      (fun a' o' => a' ≤ 8 * m ∧ o'.length ≤ lim ∧ e = .returned (.tuple #[]) ∧ ∃ po co, St w0 (infL bf br q d m B lim a' po co o' H) w') := by
  have hl := hK.hl
  have hm1 := hK.hm1
  have hL320 := hs1.hl.1
  have hD320 := hs2.hl.1
  refine enter (vs := [.pointer (some ⟨bf, 0, none⟩), .pointer (some ⟨b1, 0, none⟩), .pointer (some ⟨b2, 0, none⟩)]) Try.func132 rfl rfl rfl hw ?_
  refine JS_block ?_
  refine JS_loop4 (fun (a1 : Nat) (o1 : List Int) (p : Option Addr) (c : Nat) => [(0, .pointer (some ⟨bf, 0, none⟩)), (1, .pointer (some ⟨b1, 0, none⟩)), (2, .pointer (some ⟨b2, 0, none⟩))]) (fun a1 o1 p c => infL bf br q d m B lim a1 p c o1 H)
    (fun a1 o1 _ _ => a1 ≤ 8 * m ∧ o1.length ≤ lim ∧ ∀ r, It (blkF (bitB B 0) (8 * m) lim L D) a1 o1 r → It (blkF (bitB B 0) (8 * m) lim L D) a o r) (fun a1 _ _ _ => 8 * m - a1) a o po co ⟨ha, ho, fun _ h => h⟩ (by repeat (first | exact trivial | refine ⟨rfl, ?_⟩ | refine ⟨lookI rfl (by omega), ?_⟩)) (fun _ h => h) ?_
  intro a1 o1 p c ⟨ha1, ho1, hinv⟩ again
  repeat (first | (refine sx ?_; try intro _))
  refine JO_callE Try.func132 Try.call142 rfl rfl fun A hA w hw => (Sym_c hK a1 ha1 b1 L hs1 w hw).mono ?_
  intro e w' h
  unfold symP at h
  cases hsy : symS (bitB B 0) (8 * m) L a1 with
  | err r =>
    rw [hsy] at h
    obtain ⟨rfl, hw'⟩ := h
    exact .inr ⟨_, rfl, .err r, hinv _ (.err (by unfold blkF; rw [hsy])), rfl, hw'⟩
  | ok i a2 =>
  rw [hsy] at h
  obtain ⟨hi0, hiL, ha12, ha2, rfl, hw'⟩ := h
  refine .inl ⟨_, rfl, _, hw', ?_⟩
  clear hw' hw w w' hA A
  have hF : blkF (bitB B 0) (8 * m) lim L D a1 o1 = if i = 256 then .stop a2 o1
    else if i < 256 then (if (lim : Int) - o1.length < 1 then .err 64 else .go a2 (o1 ++ [i]))
    else if (lbase i).1 = 0 then .err 62
    else if 8 * m < a2 + (lbase i).2.toNat then .err 20
    else blk2 (bitB B 0) (8 * m) lim D o1 ((lbase i).1 + nbt (bitB B 0) a2 (lbase i).2.toNat) (a2 + (lbase i).2.toNat) := by unfold blkF; rw [hsy]
  by_cases h256 : i = 256
  · rw [if_pos h256] at hF
    clear again
    repeat (first | (refine sx ?_; try intro _))
    refine JS_ret Try.func132 rfl rfl ?_
    intro w hw
    exact ⟨.ok a2 o1, hinv _ (.stop hF), ha2, ho1, rfl, p, c, hw⟩
  rw [if_neg h256] at hF
  by_cases hlt : i < 256
  · rw [if_pos hlt] at hF
    repeat (first | (refine sx ?_; try intro _))
    rename_i p1
    refine JO_callE Try.func132 Try.call131 rfl rfl fun A hA w hw => (Tell_c hK a2 (some p1) 1 1 [i] (vec_rd (List.Mem.head _)) rfl ho1 (by omega) w (infL_in hw)).mono ?_
    rintro e w' (⟨h, rfl, hw'⟩ | ⟨h, rfl, p', c', hw'⟩)
    · exact .inr ⟨_, rfl, .err 64, hinv _ (.err (by rw [hF, if_pos (by omega)])), rfl, hw'.drop⟩
    refine .inl ⟨_, rfl, _, hw', ?_⟩
    clear hw' hw w w' hA A
    rw [if_neg (by omega)] at hF
    repeat (first | (refine sx ?_; try intro _))
    exact JS_again4 again a2 (o1 ++ [i]) p' c' ⟨ha2, by simp; omega, fun r hr => hinv r (.go hF hr)⟩ (by omega) (by exact ⟨rfl, rfl, rfl, trivial⟩) (fun w hw => infL_out hw)
  rw [if_neg hlt] at hF
  repeat (first | (refine sx ?_; try intro _))
  refine JO_call Try.call119 rfl rfl fun w hw => (Base_c i (by omega) w hw).mono ?_
  rintro e w' ⟨rfl, hw'⟩
  refine ⟨_, rfl, _, hw', ?_⟩
  clear hw' hw w w'
  by_cases hb0 : (lbase i).1 = 0
  · rw [if_pos hb0] at hF
    generalize lbase i = lb at *
    repeat (first | (refine sx ?_; try intro _))
    refine JO_callE Try.func132 Try.call106 rfl rfl fun A hA w hw => (Give_c 62 w hw).mono ?_
    rintro e w' (⟨h, rfl, hw'⟩ | ⟨_, rfl, hw'⟩)
    · exact absurd h (by decide)
    · exact .inr ⟨_, rfl, .err 62, hinv _ (.err hF), rfl, infL_drop hw'⟩
  rw [if_neg hb0] at hF
  obtain ⟨_, _, c1, c2, c3, c4⟩ := lbase_ok hb0
  obtain ⟨⟨lb1, lb2⟩, hlb⟩ : ∃ x, lbase i = x := ⟨_, rfl⟩
  rw [hlb] at hF hb0 c1 c2 c3 c4 ⊢
  simp only at hF hb0 c1 c2 c3 c4 ⊢
  obtain ⟨k1, rfl⟩ : ∃ k : Nat, lb2 = k := ⟨lb2.toNat, by omega⟩
  simp only [Int.toNat_natCast] at hF
  obtain ⟨hn0, hn1⟩ := nbt_bd (bitB B 0) (bitB_01 B 0) a2 k1
  have hp1 := (pw16 5 (by omega)).2
  have hp1 : (2 : Int) ^ k1 ≤ 32 := by
    have : ∀ k : Fin 6, (2 : Int) ^ k.val ≤ 32 := by decide
    exact this ⟨k1, by omega⟩
  obtain ⟨n1, hn1e⟩ := Int.eq_ofNat_of_zero_le hn0
  rw [hn1e] at hF hn1
  repeat (first | (refine sx ?_; try intro _))
  refine JO_callE Try.func132 Try.call105 rfl rfl fun A hA w hw => (Grp_c hK a2 k1 (by omega) ha2 w hw).mono ?_
  rintro e w' (⟨h, rfl, hw'⟩ | ⟨h1, he, hw'⟩)
  · exact .inr ⟨_, rfl, .err 20, hinv _ (.err (by rw [hF, if_pos h])), rfl, hw'⟩
  rw [hn1e] at he; subst he
  refine .inl ⟨_, rfl, _, hw', ?_⟩
  clear hw' hw w w' hA A
  rw [if_neg (by omega)] at hF
  obtain ⟨ln, hln⟩ : ∃ ln : Nat, lb1 + (n1 : Int) = ln := ⟨(lb1 + (n1 : Int)).toNat, by omega⟩
  rw [hln] at hF
  repeat (first | (refine sx ?_; try intro _))
  refine JO_callE Try.func132 Try.call142 rfl rfl fun A hA w hw => (Sym_c hK (a2 + k1) h1 b2 D hs2 w hw).mono ?_
  intro e w' h
  unfold symP at h
  cases hsy2 : symS (bitB B 0) (8 * m) D (a2 + k1) with
  | err r =>
    rw [hsy2] at h
    obtain ⟨rfl, hw'⟩ := h
    exact .inr ⟨_, rfl, .err r, hinv _ (.err (by rw [hF]; unfold blk2; rw [hsy2])), rfl, hw'⟩
  | ok dd a3 =>
  rw [hsy2] at h
  obtain ⟨hd0, hdD, ha23, ha3, rfl, hw'⟩ := h
  refine .inl ⟨_, rfl, _, hw', ?_⟩
  clear hw' hw w w' hA A
  have hF2 : blk2 (bitB B 0) (8 * m) lim D o1 ln (a2 + k1) = if (lfar dd).1 = 0 then .err 62
    else if 8 * m < a3 + (lfar dd).2.toNat then .err 20
    else if (o1.length : Int) < (lfar dd).1 + nbt (bitB B 0) a3 (lfar dd).2.toNat then .err 63
    else if (lim : Int) - o1.length < ln then .err 64
    else .go (a3 + (lfar dd).2.toNat) (cpy o1 ((lfar dd).1 + nbt (bitB B 0) a3 (lfar dd).2.toNat).toNat (ln : Int).toNat) := by unfold blk2; rw [hsy2]
  rw [hF2] at hF
  clear hF2
  repeat (first | (refine sx ?_; try intro _))
  refine JO_call Try.call120 rfl rfl fun w hw => (Far_c dd (by omega) w hw).mono ?_
  rintro e w' ⟨rfl, hw'⟩
  refine ⟨_, rfl, _, hw', ?_⟩
  clear hw' hw w w'
  by_cases hf0 : (lfar dd).1 = 0
  · rw [if_pos hf0] at hF
    generalize lfar dd = lf at *
    repeat (first | (refine sx ?_; try intro _))
    refine JO_callE Try.func132 Try.call106 rfl rfl fun A hA w hw => (Give_c 62 w hw).mono ?_
    rintro e w' (⟨h, rfl, hw'⟩ | ⟨_, rfl, hw'⟩)
    · exact absurd h (by decide)
    · exact .inr ⟨_, rfl, .err 62, hinv _ (.err hF), rfl, infL_drop hw'⟩
  rw [if_neg hf0] at hF
  obtain ⟨_, _, d1, d2, d3, d4⟩ := lfar_ok hf0
  obtain ⟨⟨lf1, lf2⟩, hlf⟩ : ∃ x, lfar dd = x := ⟨_, rfl⟩
  rw [hlf] at hF hf0 d1 d2 d3 d4 ⊢
  simp only at hF hf0 d1 d2 d3 d4 ⊢
  obtain ⟨k2, rfl⟩ : ∃ k : Nat, lf2 = k := ⟨lf2.toNat, by omega⟩
  simp only [Int.toNat_natCast] at hF
  obtain ⟨hm0, hm1'⟩ := nbt_bd (bitB B 0) (bitB_01 B 0) a3 k2
  have hp2 : (2 : Int) ^ k2 ≤ 8192 := by
    have : ∀ k : Fin 14, (2 : Int) ^ k.val ≤ 8192 := by decide
    exact this ⟨k2, by omega⟩
  obtain ⟨n2, hn2e⟩ := Int.eq_ofNat_of_zero_le hm0
  rw [hn2e] at hF hm1'
  repeat (first | (refine sx ?_; try intro _))
  refine JO_callE Try.func132 Try.call105 rfl rfl fun A hA w hw => (Grp_c hK a3 k2 (by omega) ha3 w hw).mono ?_
  rintro e w' (⟨h, rfl, hw'⟩ | ⟨h2, he, hw'⟩)
  · exact .inr ⟨_, rfl, .err 20, hinv _ (.err (by rw [hF, if_pos h])), rfl, hw'⟩
  rw [hn2e] at he; subst he
  refine .inl ⟨_, rfl, _, hw', ?_⟩
  clear hw' hw w w' hA A
  rw [if_neg (by omega)] at hF
  obtain ⟨bk, hbk⟩ : ∃ bk : Nat, lf1 + (n2 : Int) = bk := ⟨(lf1 + (n2 : Int)).toNat, by omega⟩
  rw [hbk, Int.toNat_natCast] at hF
  repeat (first | (refine sx ?_; try intro _))
  simp only [hln, hbk]
  refine JO_callE Try.func132 Try.call143 rfl rfl fun A hA w hw => (Again_c hK (a3 + k2) ln bk (by omega) ho1 (by omega) (by omega) w hw).mono ?_
  rintro e w' (⟨h, rfl, hw'⟩ | ⟨h, h', rfl, hw'⟩ | ⟨h, h', rfl, p', c', hw'⟩)
  · exact .inr ⟨_, rfl, .err 63, hinv _ (.err (by rw [hF, if_pos (by omega)])), rfl, hw'⟩
  · exact .inr ⟨_, rfl, .err 64, hinv _ (.err (by rw [hF, if_neg (by omega), if_pos h'])), rfl, hw'⟩
  refine .inl ⟨_, rfl, _, hw', ?_⟩
  clear hw' hw w w' hA A
  rw [if_neg (by omega), if_neg h'] at hF
  repeat (first | (refine sx ?_; try intro _))
  exact JS_again4 again (a3 + k2) (cpy o1 bk ln) p' c' ⟨h2, by rw [cpy_len]; omega, fun r hr => hinv r (.go hF hr)⟩ (by omega) (by exact ⟨rfl, rfl, rfl, trivial⟩) (fun w hw => hw)
end
end Go.Proofs.Ytbiocgenbgbfpaa

namespace Go.Proofs.Ytbiocgenbgbfpaa
open Sx Go
set_option linter.unusedVariables false
set_option linter.unusedSimpArgs false
attribute [local irreducible] syA fc tk cds
theorem OKB_app {A C : List Int} (hA : OKB A) (hC : OKB C) : OKB (A ++ C) := by
  intro j
  rw [List.getD_eq_getElem?_getD]
  rcases Nat.lt_or_ge j A.length with h | h
  · rw [List.getElem?_append_left h]
    have := hA j
    rwa [List.getD_eq_getElem?_getD] at this
  · rw [List.getElem?_append_right h]
    have := hC (j - A.length)
    rwa [List.getD_eq_getElem?_getD] at this
theorem OKB_rep {x : Int} (hx : 0 ≤ x ∧ x < 256) (n : Nat) : OKB (List.replicate n x) := by
  intro j
  rw [List.getD_eq_getElem?_getD, List.getElem?_replicate]
  split
  · exact hx
  · exact ⟨by decide, by decide⟩
theorem last1 {l : List Int} (h : ¬ l.length = 0) : (l.drop (l.length - 1)).take 1 = [l.getD (l.length - 1) 0] := by
  rcases List.eq_nil_or_concat l with rfl | ⟨l', x, rfl⟩
  · exact absurd rfl h
  · simp
theorem OKB_nil : OKB [] := fun j => by simp
theorem pw8 (i : Nat) (h : i ≤ 8) : (1 : Int) ≤ 2 ^ i ∧ (2 : Int) ^ i ≤ 256 := by
  have : ∀ k : Fin 9, (1 : Int) ≤ 2 ^ k.val ∧ (2 : Int) ^ k.val ≤ 256 := by decide
  exact this ⟨i, by omega⟩
section
variable {w0 : World} {H : List Asn} {bf br : Nat} {q : Option Addr} {d m : Nat} {B : List Int} {lim : Nat} {po : Option Addr} {co : Nat} {o : List Int}
set_option maxRecDepth 10000 in
set_option maxHeartbeats 4000000 in
/-- lengths that are described -/
theorem Lens_c (hK : InfK m B lim) (a : Nat) (ha : a ≤ 8 * m) (many : Nat) (hmn : many ≤ 1000) (b : Nat) (C : List Int) (hs : IsSet w0 H b C) (hC : C.length = 19) (w : World) (hw : St w0 (infL bf br q d m B lim a po co o H) w) :
    Calls Try.prog 135 #[.pointer (some ⟨bf, 0, none⟩), .pointer (some ⟨b, 0, none⟩), .int .i64 many] w fun e w' => ∃ r, It (lenF (bitB B 0) (8 * m) C many) a [] r ∧ resP r (fun r => e = .panicked (FLT r) ∧ St w0 H w')
      (fun a' l => a' ≤ 8 * m ∧ l.length = many ∧ OKB l ∧ ∃ p c, e = .returned (.slice p many c) ∧ St w0 (infL bf br q d m B lim a' po co o (vec 5 1 (.slice p many c) many (ints .u8 l) :: H)) w') := by
  have hl := hK.hl
  have hm1 := hK.hm1
  refine enter (vs := [.pointer (some ⟨bf, 0, none⟩), .pointer (some ⟨b, 0, none⟩), .int .i64 many]) Try.func135 rfl rfl rfl hw ?_
  repeat (first | (apply gJR; first | (refine sx ?_; try intro _)) | (apply gJO; first | (refine sx ?_; try intro _)) | apply JS_seq | apply JS_region)
  refine JS_block ?_
  refine JS_loop4 (fun (a1 : Nat) (l : List Int) (p : Option Addr) (c : Nat) => [(0, .pointer (some ⟨bf, 0, none⟩)), (1, .pointer (some ⟨b, 0, none⟩)), (2, .int .i64 many), (7, .slice p l.length c)]) (fun a1 l p c => infL bf br q d m B lim a1 po co o (vec 5 1 (.slice p l.length c) l.length (ints .u8 l) :: H))
    (fun a1 l _ _ => a1 ≤ 8 * m ∧ l.length ≤ many ∧ OKB l ∧ ∀ r, It (lenF (bitB B 0) (8 * m) C many) a1 l r → It (lenF (bitB B 0) (8 * m) C many) a [] r) (fun a1 _ _ _ => 8 * m - a1) a [] none 0 ⟨ha, Nat.zero_le _, OKB_nil, fun _ h => h⟩ (by repeat (first | exact trivial | refine ⟨rfl, ?_⟩ | refine ⟨lookI rfl (by omega), ?_⟩)) (fun _ h => infL_in (St.nilvec h)) ?_
  intro a1 l p c ⟨ha1, hll, hOl, hinv⟩ again
  by_cases hmany : many ≤ l.length
  · obtain rfl : many = l.length := by omega
    clear again
    repeat (first | (refine sx ?_; try intro _))
    refine JS_ret Try.func135 rfl rfl ?_
    intro w hw
    exact ⟨.ok a1 l, hinv _ (.stop (by unfold lenF; rw [if_pos (Nat.le_refl _)])), ha1, rfl, hOl, p, c, rfl, hw⟩
  repeat (first | (refine sx ?_; try intro _))
  refine JO_callE Try.func135 Try.call142 rfl rfl fun A hA w hw => (Sym_c hK a1 ha1 b C (hs.sub (by repeat (first | exact List.Sublist.refl _ | apply List.Sublist.cons))) w hw).mono ?_
  intro e w' h
  unfold symP at h
  cases hsy : symS (bitB B 0) (8 * m) C a1 with
  | err r =>
    rw [hsy] at h
    obtain ⟨rfl, hw'⟩ := h
    exact .inr ⟨_, rfl, .err r, hinv _ (.err (by unfold lenF; rw [if_neg hmany, hsy])), rfl, hw'.drop⟩
  | ok i a2 =>
  rw [hsy] at h
  obtain ⟨hi0, hiC, ha12, ha2, rfl, hw'⟩ := h
  refine .inl ⟨_, rfl, _, hw', ?_⟩
  clear hw' hw w w' hA A
  have hF : lenF (bitB B 0) (8 * m) C many a1 l = if i = 16 then (if l.length = 0 then .err 62 else if 8 * m < a2 + 2 then .err 20 else lenP many l (l.getD (l.length - 1) 0) (3 + nbt (bitB B 0) a2 2) (a2 + 2))
    else if i = 17 then (if 8 * m < a2 + 3 then .err 20 else lenP many l 0 (3 + nbt (bitB B 0) a2 3) (a2 + 3))
    else if i = 18 then (if 8 * m < a2 + 7 then .err 20 else lenP many l 0 (11 + nbt (bitB B 0) a2 7) (a2 + 7))
    else lenP many l i 1 a2 := by unfold lenF; rw [if_neg hmany, hsy]
  repeat (first | (apply gJR; first | (refine sx ?_; try intro _)) | (apply gJO; first | (refine sx ?_; try intro _)) | apply JS_seq | apply JS_region)
  rename_i p1
  refine JS_join5 (fun (t : Nat) (x : Int) (pa : Option Addr) (ca : Nat) (a3 : Nat) => [(0, .pointer (some ⟨bf, 0, none⟩)), (1, .pointer (some ⟨b, 0, none⟩)), (2, .int .i64 many), (7, .slice p l.length c), (9, .slice pa t ca)])
    (fun t x pa ca a3 => vec 5 1 (.slice pa t ca) t (ints .u8 (List.replicate t x)) :: infL bf br q d m B lim a3 po co o (vec 5 1 (.slice p l.length c) l.length (ints .u8 l) :: H))
    (fun t x pa ca a3 => t ≤ 1000 ∧ 0 ≤ x ∧ x < 256 ∧ a3 ≤ 8 * m ∧ a1 < a3 ∧ lenF (bitB B 0) (8 * m) C many a1 l = lenP many l x t a3) ?_ ?_
  · clear hF hsy hi0 hiC ha12 ha2 a2 i
    intro t x pa ca a3 ⟨ht, hx0, hx1, ha3, ha13, hF⟩
    unfold lenP at hF
    by_cases h : (many : Int) < l.length + t
    · rw [if_pos h] at hF
      repeat (first | (refine sx ?_; try intro _))
      refine JO_callE Try.func135 Try.call106 rfl rfl fun A hA w hw => (Give_c 62 w hw).mono ?_
      rintro e w' (⟨h, rfl, hw'⟩ | ⟨_, rfl, hw'⟩)
      · exact absurd h (by decide)
      · exact .inr ⟨_, rfl, .err 62, hinv _ (.err hF), rfl, (infL_drop hw'.drop).drop⟩
    · rw [if_neg h, Int.toNat_natCast] at hF
      repeat (first | (refine sx ?_; try intro _))
      refine JO_app (tb := tb) rfl rfl rfl rfl rfl rfl (by repeat (first | exact Sel.here _ _ | apply Sel.there)) (vec_rd (List.Mem.head _)) (by rw [ints_len, List.length_replicate]; omega) (by first | exact ints_one | (repeat (first | exact trivial | refine ⟨rfl, ?_⟩))) (by omega) rfl ?_
      intro p2 c2
      repeat (first | (refine sx ?_; try intro _))
      exact JS_again4 again a3 (l ++ List.replicate t x) p2 c2 ⟨ha3, by rw [List.length_append, List.length_replicate]; omega, OKB_app hOl (OKB_rep ⟨hx0, hx1⟩ t), fun r hr => hinv r (.go hF hr)⟩ (by omega)
        (by rw [List.length_append, List.length_replicate]; exact ⟨rfl, rfl, rfl, rfl, trivial⟩) (fun w hw => by unfold infL; rw [List.length_append, List.length_replicate, ← ints_app]; exact St.sub (by repeat (first | exact List.Sublist.refl _ | apply List.Sublist.cons_cons | apply List.Sublist.cons)) hw)
  · clear again
    intro K
    by_cases h16 : i = 16
    · rw [if_pos h16] at hF
      by_cases hl0 : l.length = 0
      · rw [if_pos hl0] at hF
        repeat (first | (refine sx ?_; try intro _))
        refine JO_callE Try.func135 Try.call106 rfl rfl fun A hA w hw => (Give_c 62 w hw).mono ?_
        rintro e w' (⟨h, rfl, hw'⟩ | ⟨_, rfl, hw'⟩)
        · exact absurd h (by decide)
        · exact .inr ⟨_, rfl, .err 62, hinv _ (.err hF), rfl, (infL_drop hw'.drop).drop⟩
      rw [if_neg hl0] at hF
      refine JS_fact (fun w hw => (Rd.lcap (vec_rd (e := 5) (size := 1) (v := .slice p l.length c) (n := l.length) (cs := ints .u8 l) (H := vec 5 1 (.slice (some p1) 1 1) 1 (ints .u8 [i]) :: infL bf br q d m B lim a2 po co o (vec 5 1 (.slice p l.length c) l.length (ints .u8 l) :: H)) (by repeat (first | apply List.Mem.head | apply List.Mem.tail))) hw).1) fun hcap => ?_
      repeat (first | (apply gJR; first | (refine sx ?_; try intro _)) | (apply gJO; first | (refine sx ?_; try intro _)) | apply JS_seq | apply JS_region | apply JS_block | refine JS_condT rfl ?_ | refine JS_condF rfl ?_ | apply JS_skip)
      refine JS_order2 (vec 5 1 (.slice p l.length c) l.length (ints .u8 l) :: H) [0, 1, 2, 3, 4, 5, 6, 7, 8, 9] [] (fun w hw => St.sub (by repeat (first | exact List.Sublist.refl _ | apply List.Sublist.cons_cons | apply List.Sublist.cons)) hw) (Picks.cons rfl (Picks.cons rfl (Picks.cons rfl (Picks.cons rfl (Picks.cons rfl (Picks.cons rfl (Picks.cons rfl (Picks.cons rfl (Picks.cons rfl (Picks.cons rfl (Picks.nil))))))))))) (by kernel_rfl) (by kernel_rfl) rfl (by decide +kernel) ?_
      repeat (first | (apply gQR2; apply QR2_un) | (apply gQO2; first | refine QO2_v rfl (V_slice (tb := tb) (lo := l.length - 1) (hi := l.length) rfl rfl rfl rfl rfl (by omega) (by omega) (fun w hw => ⟨by omega, hcap⟩) rfl) ?_ | refine aQ2 ?_))
      have e1 : l.length - (l.length - 1) = 1 := by omega
      simp only [e1]
      refine QO2_callE Try.call105 rfl rfl fun w hw => (Grp_c hK a2 2 (by omega) ha2 w (infL_in hw)).mono ?_
      rintro e w' (⟨h, rfl, hw'⟩ | ⟨h1, he, hw'⟩)
      · exact .inr ⟨_, rfl, QK_e Try.func135 ⟨.err 20, hinv _ (.err (by rw [hF, if_pos h])), rfl, hw'.drop.drop⟩⟩
      rw [if_neg (by omega)] at hF
      obtain ⟨n, hn⟩ := Int.eq_ofNat_of_zero_le (nbt_bd (bitB B 0) (bitB_01 B 0) a2 2).1
      have hn1 := (nbt_bd (bitB B 0) (bitB_01 B 0) a2 2).2
      rw [hn] at he hn1 hF
      subst he
      have hn2 : (n : Int) < 4 := hn1
      refine .inl ⟨_, rfl, vec 5 1 (.slice p l.length c) l.length (ints .u8 l) :: H, _, hw', fun w hw => St.sub (by repeat (first | exact List.Sublist.refl _ | apply List.Sublist.cons_cons | apply List.Sublist.cons)) hw, .inl fun w hw => hw, ?_⟩
      clear hw' hw w w'
      repeat (first | (apply gQR2; apply QR2_un) | (apply gQO2; refine aQ2 ?_))
      have hlst := hOl (l.length - 1)
      have hsub := Rd_sub (lo := l.length - 1) (hi := l.length) (sz := 1) (vec_rd (w0 := w0) (e := 5) (size := 1) (v := .slice p l.length c) (n := l.length) (cs := ints .u8 l) (H := infL bf br q d m B lim (a2 + 2) po co o (vec 5 1 (.slice (some p1) 1 1) 1 (ints .u8 [i]) :: vec 5 1 (.slice p l.length c) l.length (ints .u8 l) :: H)) (by repeat (first | apply List.Mem.head | apply List.Mem.tail))) (by omega) (by omega)
      rw [e1, show ((ints .u8 l).drop ((l.length - 1) * 1)).take (1 * 1) = ints .u8 [l.getD (l.length - 1) 0] by
        rw [Nat.mul_one, Nat.mul_one, ints_drop, ints_take]
        rw [last1 hl0]] at hsub
      refine QO2_callE Try.call124 rfl rfl fun w hw => (Repeat1_c _ _ (3 + n) hsub ⟨_, _, rfl⟩ (by omega) w hw).mono ?_
      rintro e w' ⟨p2, c2, rfl, hw'⟩
      refine .inl ⟨_, rfl, vec 5 1 (.slice p l.length c) l.length (ints .u8 l) :: H, _, hw', fun w hw => St.sub (by repeat (first | exact List.Sublist.refl _ | apply List.Sublist.cons_cons | apply List.Sublist.cons)) hw, .inl fun w hw => hw, ?_⟩
      clear hw' hw w w'
      repeat (first | (apply gQR2; first | apply QR2_un | apply QR2_nil) | (apply gQO2; refine aQ2 ?_))
      apply JS_inBlock
      exact JS_to5 K (3 + n) (l.getD (l.length - 1) 0) p2 c2 (a2 + 2) ⟨by omega, hlst.1, hlst.2, h1, by omega, hF⟩ (by repeat (first | exact trivial | refine ⟨rfl, ?_⟩ | refine ⟨lookI rfl (by omega), ?_⟩)) (fun w hw => St.sub (by repeat (first | exact List.Sublist.refl _ | apply List.Sublist.cons_cons | apply List.Sublist.cons)) hw)
    rw [if_neg h16] at hF
    by_cases h17 : i = 17
    · rw [if_pos h17] at hF
      repeat (first | (refine sx ?_; try intro _))
      refine JO_callE Try.func135 Try.call105 rfl rfl fun A hA w hw => (Grp_c hK a2 3 (by omega) ha2 w (infL_in hw)).mono ?_
      rintro e w' (⟨h, rfl, hw'⟩ | ⟨h1, he, hw'⟩)
      · exact .inr ⟨_, rfl, .err 20, hinv _ (.err (by rw [hF, if_pos h])), rfl, hw'.drop.drop⟩
      rw [if_neg (by omega)] at hF
      obtain ⟨n, hn⟩ := Int.eq_ofNat_of_zero_le (nbt_bd (bitB B 0) (bitB_01 B 0) a2 3).1
      have hn1 := (nbt_bd (bitB B 0) (bitB_01 B 0) a2 3).2
      rw [hn] at he hn1 hF
      subst he
      have hn2 : (n : Int) < 8 := hn1
      refine .inl ⟨_, rfl, _, hw', ?_⟩
      clear hw' hw w w' hA A
      repeat (first | (apply gJR; first | (refine sx ?_; try intro _)) | (apply gJO; first | (refine sx ?_; try intro _)))
      rename_i p2
      apply JS_inBlock
      exact JS_to5 K (3 + n) 0 (some p2) (3 + n) (a2 + 3) ⟨by omega, by omega, by omega, h1, by omega, hF⟩ (by repeat (first | exact trivial | refine ⟨rfl, ?_⟩ | refine ⟨lookI rfl (by omega), ?_⟩)) (fun w hw => by rw [← ints_rep]; exact St.sub (by repeat (first | exact List.Sublist.refl _ | apply List.Sublist.cons_cons | apply List.Sublist.cons)) hw)
    rw [if_neg h17] at hF
    by_cases h18 : i = 18
    · rw [if_pos h18] at hF
      repeat (first | (refine sx ?_; try intro _))
      refine JO_callE Try.func135 Try.call105 rfl rfl fun A hA w hw => (Grp_c hK a2 7 (by omega) ha2 w (infL_in hw)).mono ?_
      rintro e w' (⟨h, rfl, hw'⟩ | ⟨h1, he, hw'⟩)
      · exact .inr ⟨_, rfl, .err 20, hinv _ (.err (by rw [hF, if_pos h])), rfl, hw'.drop.drop⟩
      rw [if_neg (by omega)] at hF
      obtain ⟨n, hn⟩ := Int.eq_ofNat_of_zero_le (nbt_bd (bitB B 0) (bitB_01 B 0) a2 7).1
      have hn1 := (nbt_bd (bitB B 0) (bitB_01 B 0) a2 7).2
      rw [hn] at he hn1 hF
      subst he
      have hn2 : (n : Int) < 128 := hn1
      refine .inl ⟨_, rfl, _, hw', ?_⟩
      clear hw' hw w w' hA A
      repeat (first | (apply gJR; first | (refine sx ?_; try intro _)) | (apply gJO; first | (refine sx ?_; try intro _)))
      rename_i p2
      apply JS_inBlock
      exact JS_to5 K (11 + n) 0 (some p2) (11 + n) (a2 + 7) ⟨by omega, by omega, by omega, h1, by omega, hF⟩ (by repeat (first | exact trivial | refine ⟨rfl, ?_⟩ | refine ⟨lookI rfl (by omega), ?_⟩)) (fun w hw => by rw [← ints_rep]; exact St.sub (by repeat (first | exact List.Sublist.refl _ | apply List.Sublist.cons_cons | apply List.Sublist.cons)) hw)
    rw [if_neg h18] at hF
    repeat (first | (apply gJR; first | (refine sx ?_; try intro _)) | (apply gJO; first | (refine sx ?_; try intro _)) | apply JS_seq | apply JS_region | apply JS_block | refine JS_condF rfl ?_ | apply JS_skip)
    apply JS_inBlock
    exact JS_to5 K 1 i (some p1) 1 a2 ⟨by omega, hi0, by omega, ha2, ha12, hF⟩ (by repeat (first | exact trivial | refine ⟨rfl, ?_⟩ | refine ⟨lookI rfl (by omega), ?_⟩)) (fun w hw => hw)
end
end Go.Proofs.Ytbiocgenbgbfpaa

namespace Go.Proofs.Ytbiocgenbgbfpaa
open Sx Go
set_option linter.unusedVariables false
set_option linter.unusedSimpArgs false
attribute [local irreducible] syA fc tk cds
theorem IsSet.perm {w0 H H' b B} (h : IsSet w0 H b B) (p : H'.Perm H) : IsSet w0 H' b B := by
  obtain ⟨⟨q, d, s, e, h1, h2, h3⟩, hB, hl⟩ := h
  exact ⟨⟨q, d, s, e, p.mem_iff.2 h1, Rd_weak h2 fun w hw => hw.perm p, Rd_weak h3 fun w hw => hw.perm p⟩, hB, hl⟩
theorem ordL_get (i : Nat) (h : i < 19) : ordL.getD i 0 < 19 := by
  have : ∀ k : Fin 19, ordL.getD k.val 0 < 19 := by decide
  exact this ⟨i, h⟩
def ordI : List Int := [16, 17, 18, 0, 8, 7, 9, 6, 10, 5, 11, 4, 12, 3, 13, 2, 14, 1, 15]
theorem ordI_get (i : Nat) (h : i < 19) : ordI.getD i 0 = (ordL.getD i 0 : Nat) := by
  have : ∀ k : Fin 19, ordI.getD k.val 0 = (ordL.getD k.val 0 : Nat) := by decide
  exact this ⟨i, h⟩
theorem ccl_okb (bt : Nat → Int) (hb : ∀ j, bt j = 0 ∨ bt j = 1) (a : Nat) : ∀ n, OKB (ccl bt a n)
  | 0 => OKB_rep ⟨by decide, by decide⟩ 19
  | n + 1 => by
    intro j
    have h0 := ccl_okb bt hb a n
    have h1 := nbt_bd bt hb (a + 3 * n) 3
    have h2 : (2 : Int) ^ 3 = 8 := by decide
    simp only [ccl]
    rw [List.getD_eq_getElem?_getD, List.getElem?_set]
    split
    · split
      · simp only [Option.getD_some]; omega
      · exact ⟨by decide, by decide⟩
    · have := h0 j; rwa [List.getD_eq_getElem?_getD] at this
section
variable {w0 : World} {H : List Asn} {bf br : Nat} {q : Option Addr} {d m : Nat} {B : List Int} {lim : Nat} {po : Option Addr} {co : Nat} {o : List Int}
theorem infL_ins {w : World} {a : Nat} (X : List Asn) (h : St w0 (X ++ infL bf br q d m B lim a po co o H) w) : St w0 (infL bf br q d m B lim a po co o (X ++ H)) w :=
  h.perm (List.perm_append_comm_assoc X [_, _, _, _] H)
/-- a block by the fixed sets -/
theorem Fix_c (hK : InfK m B lim) (a : Nat) (ha : a ≤ 8 * m) (ho : o.length ≤ lim) (w : World) (hw : St w0 (infL bf br q d m B lim a po co o H) w) :
    Calls Try.prog 103 #[.pointer (some ⟨bf, 0, none⟩)] w fun e w' => ∃ r, It (blkF (bitB B 0) (8 * m) lim (tab 288 fixF) (List.replicate 32 5)) a o r ∧ resP r (fun r => e = .panicked (FLT r) ∧ St w0 H w')
      (fun a' o' => a' ≤ 8 * m ∧ o'.length ≤ lim ∧ e = .returned (.tuple #[]) ∧ ∃ po co, St w0 (infL bf br q d m B lim a' po co o' H) w') := by
  refine enter (vs := [.pointer (some ⟨bf, 0, none⟩)]) Try.func103 rfl rfl rfl hw ?_
  repeat (first | (refine sx ?_; try intro _))
  refine JO_call Try.call80 rfl rfl fun w hw => (Fixed_c w hw).mono ?_
  rintro e w' ⟨p1, c1, rfl, hw'⟩
  refine ⟨_, rfl, _, hw', ?_⟩
  clear hw' hw w w'
  repeat (first | (refine sx ?_; try intro _))
  refine JO_callE Try.func103 Try.call133 rfl rfl fun A hA w hw => (Made_c p1 c1 288 _ (vec_rd (List.Mem.head _)) (tab_len _ _) fix_okb (by omega) w hw).mono ?_
  rintro e w' (⟨h, _⟩ | ⟨_, b1, a1, a2, a3, rfl, hs1, hw'⟩)
  · exact absurd fix_okl h
  refine .inl ⟨_, rfl, _, hw', ?_⟩
  clear hw' hw w w' hA A
  repeat (first | (refine sx ?_; try intro _))
  refine JO_call Try.call81 rfl rfl fun w hw => (Spans_c w hw).mono ?_
  rintro e w' ⟨p2, c2, rfl, hw'⟩
  refine ⟨_, rfl, _, hw', ?_⟩
  clear hw' hw w w'
  repeat (first | (refine sx ?_; try intro _))
  refine JO_callE Try.func103 Try.call133 rfl rfl fun A hA w hw => (Made_c p2 c2 32 _ (vec_rd (List.Mem.head _)) (List.length_replicate ..) spans_okb (by omega) w hw).mono ?_
  rintro e w' (⟨h, _⟩ | ⟨_, b2, a4, a5, a6, rfl, hs2, hw'⟩)
  · exact absurd spans_okl h
  refine .inl ⟨_, rfl, _, hw', ?_⟩
  clear hw' hw w w' hA A
  repeat (first | (refine sx ?_; try intro _))
  refine JO_callE Try.func103 Try.call132 rfl rfl fun A hA w hw => (Blk_c hK a ha ho b1 b2 _ _ (hs1.sub (by repeat (first | exact List.nil_sublist _ | apply List.Sublist.cons_cons | apply List.Sublist.cons))) (hs2.sub (by repeat (first | exact List.nil_sublist _ | apply List.Sublist.cons_cons | apply List.Sublist.cons))) w (infL_ins [a4, a5, a6, vec 5 1 (.slice p2 32 c2) 32 (ints .u8 (List.replicate 32 5)), a1, a2, a3, vec 5 1 (.slice p1 288 c1) 288 (ints .u8 (tab 288 fixF))] hw)).mono ?_
  rintro e w' ⟨r, hr, h⟩
  cases r with
  | err r =>
    obtain ⟨rfl, hw'⟩ := h
    exact .inr ⟨_, rfl, .err r, hr, rfl, St.sub (by repeat (first | exact List.Sublist.refl _ | apply List.Sublist.cons_cons | apply List.Sublist.cons)) hw'⟩
  | ok a' o' =>
    obtain ⟨h1, h2, rfl, p', c', hw'⟩ := h
    refine .inl ⟨_, rfl, _, hw', ?_⟩
    clear hw' hw w w' hA A
    repeat (first | (refine sx ?_; try intro _))
    refine JS_fin Try.func103 rfl rfl ?_
    intro w hw
    exact ⟨.ok a' o', hr, h1, h2, rfl, p', c', St.sub (by repeat (first | exact List.Sublist.refl _ | apply List.Sublist.cons_cons | apply List.Sublist.cons)) hw⟩
end
end Go.Proofs.Ytbiocgenbgbfpaa

namespace Go.Proofs.Ytbiocgenbgbfpaa
open Sx Go
set_option linter.unusedVariables false
set_option linter.unusedSimpArgs false
attribute [local irreducible] syA fc tk cds
section
variable {w0 : World} {H : List Asn} {bf br : Nat} {q : Option Addr} {d m : Nat} {B : List Int} {lim : Nat} {po : Option Addr} {co : Nat} {o : List Int}
set_option maxRecDepth 10000 in
set_option maxHeartbeats 4000000 in
/-- a described block -/
theorem Des_c (hK : InfK m B lim) (a : Nat) (ha : a ≤ 8 * m) (ho : o.length ≤ lim) (w : World) (hw : St w0 (infL bf br q d m B lim a po co o H) w) :
    Calls Try.prog 104 #[.pointer (some ⟨bf, 0, none⟩)] w fun e w' => resP (desF (bitB B 0) (8 * m) lim a o) (fun r => e = .panicked (FLT r) ∧ St w0 H w')
      (fun a' o' => a' ≤ 8 * m ∧ o'.length ≤ lim ∧ e = .returned (.tuple #[]) ∧ ∃ po co, St w0 (infL bf br q d m B lim a' po co o' H) w') := by
  have hl := hK.hl
  have hm1 := hK.hm1
  refine enter (vs := [.pointer (some ⟨bf, 0, none⟩)]) Try.func104 rfl rfl rfl hw ?_
  unfold desF
  obtain ⟨n1, hn1⟩ := Int.eq_ofNat_of_zero_le (nbt_bd (bitB B 0) (bitB_01 B 0) a 5).1
  have hb1 := (nbt_bd (bitB B 0) (bitB_01 B 0) a 5).2
  obtain ⟨n2, hn2⟩ := Int.eq_ofNat_of_zero_le (nbt_bd (bitB B 0) (bitB_01 B 0) (a + 5) 5).1
  have hb2 := (nbt_bd (bitB B 0) (bitB_01 B 0) (a + 5) 5).2
  obtain ⟨n3, hn3⟩ := Int.eq_ofNat_of_zero_le (nbt_bd (bitB B 0) (bitB_01 B 0) (a + 10) 4).1
  have hb3 := (nbt_bd (bitB B 0) (bitB_01 B 0) (a + 10) 4).2
  rw [hn1] at hb1
  rw [hn2] at hb2
  rw [hn3] at hb3
  have hb1 : (n1 : Int) < 32 := hb1
  have hb2 : (n2 : Int) < 32 := hb2
  have hb3 : (n3 : Int) < 16 := hb3
  rw [hn1, hn2, hn3, show ((n1 : Int) + 257).toNat = n1 + 257 by omega, show ((n2 : Int) + 1).toNat = n2 + 1 by omega, show ((n3 : Int) + 4).toNat = n3 + 4 by omega]
  repeat (first | (refine sx ?_; try intro _))
  refine JO_callE Try.func104 Try.call105 rfl rfl fun A hA w hw => (Grp_c hK a 5 (by omega) (by omega) w hw).mono ?_
  rintro e w' (⟨h, rfl, hw'⟩ | ⟨h1, he, hw'⟩)
  · refine .inr ⟨_, rfl, ?_⟩
    show resP _ _ _
    rw [if_pos h]; exact ⟨rfl, hw'⟩
  rw [hn1] at he; subst he
  refine .inl ⟨_, rfl, _, hw', ?_⟩
  clear hw' hw w w' hA A
  rw [if_neg (by omega)]
  repeat (first | (refine sx ?_; try intro _))
  refine JO_callE Try.func104 Try.call105 rfl rfl fun A hA w hw => (Grp_c hK (a + 5) 5 (by omega) (by omega) w hw).mono ?_
  rintro e w' (⟨h, rfl, hw'⟩ | ⟨h2, he, hw'⟩)
  · refine .inr ⟨_, rfl, ?_⟩
    show resP _ _ _
    rw [if_pos h]; exact ⟨rfl, hw'⟩
  rw [hn2] at he; subst he
  refine .inl ⟨_, rfl, _, hw', ?_⟩
  clear hw' hw w w' hA A
  rw [if_neg (by omega)]
  repeat (first | (refine sx ?_; try intro _))
  refine JO_callE Try.func104 Try.call105 rfl rfl fun A hA w hw => (Grp_c hK (a + 10) 4 (by omega) (by omega) w hw).mono ?_
  rintro e w' (⟨h, rfl, hw'⟩ | ⟨h3, he, hw'⟩)
  · refine .inr ⟨_, rfl, ?_⟩
    show resP _ _ _
    rw [if_pos h]; exact ⟨rfl, hw'⟩
  rw [hn3] at he; subst he
  refine .inl ⟨_, rfl, _, hw', ?_⟩
  clear hw' hw w w' hA A
  rw [if_neg (by omega)]
  unfold des1
  obtain ⟨lit, hlit⟩ : ∃ x, n1 + 257 = x := ⟨_, rfl⟩
  obtain ⟨sp, hsp⟩ : ∃ x, n2 + 1 = x := ⟨_, rfl⟩
  obtain ⟨ln, hln⟩ : ∃ x, n3 + 4 = x := ⟨_, rfl⟩
  rw [hlit, hsp, hln]
  have hlit' : (n1 : Int) + 257 = (lit : Int) := by omega
  have hsp' : (n2 : Int) + 1 = (sp : Int) := by omega
  have hln' : (n3 : Int) + 4 = (ln : Int) := by omega
  repeat (first | (apply gJR; first | (refine sx ?_; try intro _)) | (apply gJO; first | (refine sx ?_; try intro _)))
  simp only [hlit', hsp', hln']
  clear hlit' hsp' hln' hn1 hn2 hn3
  by_cases hbig : 286 < lit ∨ 30 < sp
  · have : (286 < lit) ∨ (¬ 286 < lit ∧ 30 < sp) := by omega
    rcases this with h | ⟨h, h'⟩
    · repeat (first | (refine sx ?_; try intro _))
      refine JO_callE Try.func104 Try.call106 rfl rfl fun A hA w hw => (Give_c 62 w hw).mono ?_
      rintro e w' (⟨h, rfl, hw'⟩ | ⟨_, rfl, hw'⟩)
      · exact absurd h (by decide)
      · refine .inr ⟨_, rfl, ?_⟩
        show resP _ _ _
        rw [if_pos hbig]; exact ⟨rfl, infL_drop hw'⟩
    · repeat (first | (refine sx ?_; try intro _))
      refine JO_callE Try.func104 Try.call106 rfl rfl fun A hA w hw => (Give_c 62 w hw).mono ?_
      rintro e w' (⟨h, rfl, hw'⟩ | ⟨_, rfl, hw'⟩)
      · exact absurd h (by decide)
      · refine .inr ⟨_, rfl, ?_⟩
        show resP _ _ _
        rw [if_pos hbig]; exact ⟨rfl, infL_drop hw'⟩
  rw [if_neg hbig]
  repeat (first | (apply gJR; first | (refine sx ?_; try intro _)) | (apply gJO; first | (refine JO_v (V_buildA (tb := tb) rfl rfl rfl rfl rfl) ?_) | (refine JO_v (V_sliceP (tb := tb) (lo := 0) (hi := ln) rfl rfl rfl rfl rfl (by rfl) (by rfl) (by omega) rfl) ?_) | first | (refine sx ?_; try intro _)) | apply JS_seq | apply JS_region | refine JS_condF rfl ?_ | refine JS_cond_F rfl (by omega) ?_ | apply JS_skip)
  rename_i b5 b6
  simp only [subB_0, Nat.sub_zero]
  refine JS_block ?_
  refine JS_loop1 (fun (i : Nat) => [(0, .pointer (some ⟨bf, 0, none⟩)), (2, .int .i64 lit), (3, .int .i64 sp), (6, .pointer (some ⟨b6, 0, none⟩)), (29, .slice (some ⟨b5, 0, none⟩) ln 19), (30, .int .i64 ln), (31, .int .i64 i)])
    (fun i => infL bf br q d m B lim (a + 14 + 3 * i) po co o (blk b6 (ints .u8 (ccl (bitB B 0) (a + 14) i)) :: blk b5 (ints .i64 ordI) :: H)) (fun i => i ≤ ln ∧ a + 14 + 3 * i ≤ 8 * m) (fun i => ln - i) 0 ⟨Nat.zero_le _, by omega⟩ (by repeat (first | exact trivial | refine ⟨rfl, ?_⟩ | refine ⟨lookI rfl (by omega), ?_⟩))
    (fun w h => infL_ins [blk b6 (ints .u8 (ccl (bitB B 0) (a + 14) 0)), blk b5 (ints .i64 ordI)] h) ?_
  intro i ⟨hi, hai⟩ again
  by_cases hil : i < ln
  · have gi : (ints .i64 ordI)[i]? = some (.int .i64 (ordI.getD i 0)) := ints_get (by show i < 19; omega)
    have ho19 := ordL_get i (by omega)
    have hcc := ccl_len (bitB B 0) (a + 14) i
    have hcs : ccl (bitB B 0) (a + 14) (i + 1) = (ccl (bitB B 0) (a + 14) i).set (ordL.getD i 0) (nbt (bitB B 0) (a + 14 + 3 * i) 3) := rfl
    rw [ordI_get i (by omega)] at gi
    generalize ordL.getD i 0 = k at *
    generalize ccl (bitB B 0) (a + 14) i = C at *
    repeat (first | (apply gJO; first | refine JO_v (V_index (tb := tb) (j := i) rfl rfl rfl rfl (Rd.sl (blk_rd (cs := ints .i64 ordI) (by repeat (first | apply List.Mem.head | apply List.Mem.tail)) (by omega))) (by omega) (by (try simp only [tn, tna, tn1, tn2, tn3, tn4, tnd16, tnd8, Int.reduceToNat]); first | exact Nat.mul_one _ | exact rfl) rfl) ?_ | refine JO_v (V_loadC (tb := tb) rfl (blk_rd (cs := ints .i64 ordI) (by repeat (first | apply List.Mem.head | apply List.Mem.tail)) (show ln ≤ 19 by omega)) rfl rfl gi rfl) ?_) | (first | (refine sx ?_; try intro _)))
    refine JO_callE Try.func104 Try.call105 rfl rfl fun A hA w hw => (Grp_c hK (a + 14 + 3 * i) 3 (by omega) (by omega) w hw).mono ?_
    rintro e w' (⟨h, rfl, hw'⟩ | ⟨h1, he, hw'⟩)
    · refine .inr ⟨_, rfl, ?_⟩
      show resP _ _ _
      rw [if_pos (by omega)]; exact ⟨rfl, hw'.drop.drop⟩
    obtain ⟨x, hx⟩ := Int.eq_ofNat_of_zero_le (nbt_bd (bitB B 0) (bitB_01 B 0) (a + 14 + 3 * i) 3).1
    have hx1 := (nbt_bd (bitB B 0) (bitB_01 B 0) (a + 14 + 3 * i) 3).2
    rw [hx] at he hx1 hcs
    subst he
    have hx2 : (x : Int) < 8 := hx1
    refine .inl ⟨_, rfl, _, hw', ?_⟩
    clear hw' hw w w' hA A
    repeat (first | (apply kS; refine JO_k (K_store (tb := tb) rfl rfl (by repeat (first | apply Upd.here | apply Upd.there)) rfl rfl rfl (by repeat (first | exact trivial | refine ⟨rfl, ?_⟩)) (by rw [show 0 + ((k : Nat) : Int).toNat * 1 = k by omega]; exact setSeg_ints (by omega)) rfl) ?_) | (first | (refine sx ?_; try intro _)))
    exact JS_again1 again (i + 1) ⟨by omega, by omega⟩ (by omega) (by repeat (first | exact trivial | refine ⟨rfl, ?_⟩ | refine ⟨lookI rfl (by omega), ?_⟩)) (fun w hw => by rw [hcs]; exact hw)
  obtain rfl : i = ln := by omega
  clear again
  rw [if_neg (by omega)]
  have hcc := ccl_len (bitB B 0) (a + 14) i
  have hco := ccl_okb (bitB B 0) (bitB_01 B 0) (a + 14) i
  generalize ccl (bitB B 0) (a + 14) i = C at *
  repeat (first | (apply gJO; refine JO_v (V_sliceP (tb := tb) (lo := 0) (hi := 19) rfl rfl rfl rfl rfl (by rfl) (by rfl) (by omega) rfl) ?_) | first | (refine sx ?_; try intro _))
  simp only [subB_0, Nat.sub_zero]
  refine JO_callE Try.func104 Try.call133 rfl rfl fun A hA w hw => (Made_c (some ⟨b6, 0, none⟩) 19 19 C (blk_rd (by repeat (first | apply List.Mem.head | apply List.Mem.tail)) (by omega)) hcc hco (by omega) w hw).mono ?_
  rintro e w' (⟨hno, rfl, hw'⟩ | ⟨hyes, b7, x1, x2, x3, rfl, hs7, hw'⟩)
  · refine .inr ⟨_, rfl, ?_⟩
    show resP _ _ _
    rw [if_pos (.inl hno)]; exact ⟨rfl, (infL_drop hw').drop.drop⟩
  refine .inl ⟨_, rfl, _, hw', ?_⟩
  clear hw' hw w w' hA A
  repeat (first | (refine sx ?_; try intro _))
  refine JO_call Try.call134 rfl rfl fun w hw => (Full2_c b7 C (hs7.sub (by repeat (first | exact List.nil_sublist _ | apply List.Sublist.cons_cons | apply List.Sublist.cons))) w hw).mono ?_
  rintro e w' ⟨rfl, hw'⟩
  refine ⟨_, rfl, _, hw', ?_⟩
  clear hw' hw w w'
  by_cases hfull : tk C = 32768
  rotate_left
  · repeat (first | (refine sx ?_; try intro _))
    refine JO_callE Try.func104 Try.call106 rfl rfl fun A hA w hw => (Give_c 62 w hw).mono ?_
    rintro e w' (⟨h, rfl, hw'⟩ | ⟨_, rfl, hw'⟩)
    · exact absurd h (by decide)
    · refine .inr ⟨_, rfl, ?_⟩
      show resP _ _ _
      rw [if_pos (.inr hfull)]; exact ⟨rfl, (infL_drop hw'.drop.drop.drop).drop.drop⟩
  rw [if_neg (by rintro (h | h); exact h hyes; exact h hfull)]
  have hls : (lit : Int) + sp = ((lit + sp : Nat) : Int) := by omega
  repeat (first | (refine sx ?_; try intro _))
  simp only [hls]
  refine JO_callE Try.func104 Try.call135 rfl rfl fun A hA w hw => (Lens_c hK (a + 14 + 3 * i) (by omega) (lit + sp) (by omega) b7 C (hs7.sub (by repeat (first | exact List.nil_sublist _ | apply List.Sublist.cons_cons | apply List.Sublist.cons))) hcc w (infL_ins [x1, x2, x3] hw)).mono ?_
  rintro e w' ⟨r, hr, h⟩
  rw [itF_of hr]
  clear hr
  cases r with
  | err r =>
    obtain ⟨rfl, hw'⟩ := h
    exact .inr ⟨_, rfl, rfl, hw'.drop.drop.drop.drop.drop⟩
  | ok a' l =>
  obtain ⟨ha', hll, hol, p, c, rfl, hw'⟩ := h
  have hcap : lit + sp ≤ c := (Rd.lcap (vec_rd (e := 5) (size := 1) (v := .slice p (lit + sp) c) (n := lit + sp) (cs := ints .u8 l) (by repeat (first | apply List.Mem.head | apply List.Mem.tail))) hw').1
  refine .inl ⟨_, rfl, _, hw', ?_⟩
  clear hw' hw w w' hA A
  simp only
  unfold des2
  have g256 : (ints .u8 l)[256]? = some (.int .u8 (l.getD 256 0)) := ints_get (by omega)
  have h256 := hol 256
  by_cases hz : l.getD 256 0 = 0
  · repeat (first | (apply gJO; refine JO_v (V_loadC (tb := tb) rfl (vec_rd (e := 5) (size := 1) (v := .slice p (lit + sp) c) (n := lit + sp) (cs := ints .u8 l) (by repeat (first | apply List.Mem.head | apply List.Mem.tail))) rfl rfl g256 rfl) ?_) | first | (refine sx ?_; try intro _))
    refine JO_callE Try.func104 Try.call106 rfl rfl fun A hA w hw => (Give_c 62 w hw).mono ?_
    rintro e w' (⟨h, rfl, hw'⟩ | ⟨_, rfl, hw'⟩)
    · exact absurd h (by decide)
    · refine .inr ⟨_, rfl, ?_⟩
      show resP _ _ _
      rw [if_pos hz]; exact ⟨rfl, (infL_drop hw').drop.drop.drop.drop.drop.drop⟩
  rw [if_neg hz]
  repeat (first | (apply gJO; refine JO_v (V_loadC (tb := tb) rfl (vec_rd (e := 5) (size := 1) (v := .slice p (lit + sp) c) (n := lit + sp) (cs := ints .u8 l) (by repeat (first | apply List.Mem.head | apply List.Mem.tail))) rfl rfl g256 rfl) ?_) | (apply gJR; first | (refine sx ?_; try intro _)) | (apply gJO; first | (refine sx ?_; try intro _)) | apply JS_seq | apply JS_region | refine JS_condF rfl ?_ | refine JS_cond_F rfl (by omega) ?_ | apply JS_skip)
  refine JS_order2 [] [0, 1, 2, 3, 5, 6, 7, 4, 8, 9] [] (fun w hw => St.sub (List.nil_sublist _) hw) (Picks.cons rfl (Picks.cons rfl (Picks.cons rfl (Picks.cons rfl (Picks.cons rfl (Picks.cons rfl (Picks.cons rfl (Picks.cons rfl (Picks.cons rfl (Picks.cons rfl (Picks.nil))))))))))) (by kernel_rfl) (by kernel_rfl) rfl (by decide +kernel) ?_
  repeat (first | (apply gQR2; apply QR2_un) | (apply gQO2; first | refine QO2_v rfl (V_slice (tb := tb) (lo := 0) (hi := lit) rfl rfl rfl rfl rfl (by rfl) (by rfl) (fun w hw => ⟨by omega, by omega⟩) rfl) ?_ | refine QO2_v rfl (V_slice (tb := tb) (lo := lit) (hi := lit + sp) rfl rfl rfl rfl rfl (by rfl) (by rfl) (fun w hw => ⟨by omega, by omega⟩) rfl) ?_ | refine aQ2 ?_))
  have e2 : lit + sp - lit = sp := by omega
  simp only [subB_0, Nat.sub_zero, e2]
  have hl1 : (l.take lit).length = lit := by rw [List.length_take]; omega
  have hl2 : (l.drop lit).length = sp := by rw [List.length_drop]; omega
  have ho1 : OKB (l.take lit) := Byt_take hol _
  have ho2 : OKB (l.drop lit) := Byt_drop hol _
  refine QO2_callE Try.call133 rfl rfl fun w hw => (Made_c p c lit (l.take lit) (by
    have := Rd_sub (lo := 0) (hi := lit) (sz := 1) (vec_rd (w0 := w0) (H := infL bf br q d m B lim a' po co o (vec 5 1 (.slice p (lit + sp) c) (lit + sp) (ints .u8 l) :: ([x1, x2, x3] ++ blk b6 (ints .u8 C) :: blk b5 (ints .i64 ordI) :: H))) (e := 5) (size := 1) (v := .slice p (lit + sp) c) (n := lit + sp) (cs := ints .u8 l) (by repeat (first | apply List.Mem.head | apply List.Mem.tail))) (by omega) (by omega)
    simp only [subB_0, Nat.sub_zero, Nat.zero_mul, Nat.mul_one, List.drop_zero, ints_take] at this
    exact this) hl1 ho1 (by omega) w hw).mono ?_
  rintro e w' (⟨hno, rfl, hw'⟩ | ⟨hyes1, b8, y1, y2, y3, rfl, hs8, hw'⟩)
  · refine .inr ⟨_, rfl, QK_e Try.func104 ?_⟩
    show resP _ _ _
    rw [if_pos hno]; exact ⟨rfl, (infL_drop hw').drop.drop.drop.drop.drop.drop⟩
  refine .inl ⟨_, rfl, [], _, hw', fun w hw => St.sub (List.nil_sublist _) hw, .inl fun w hw => hw, ?_⟩
  clear hw' hw w w'
  rw [if_neg (fun h => h hyes1)]
  repeat (first | (apply gQR2; apply QR2_un) | (apply gQO2; refine aQ2 ?_))
  refine QO2_callE Try.call133 rfl rfl fun w hw => (Made_c (subB p lit c 1) (c - lit) sp (l.drop lit) (by
    have := Rd_sub (lo := lit) (hi := lit + sp) (sz := 1) (vec_rd (w0 := w0) (H := y1 :: y2 :: y3 :: infL bf br q d m B lim a' po co o (vec 5 1 (.slice p (lit + sp) c) (lit + sp) (ints .u8 l) :: ([x1, x2, x3] ++ blk b6 (ints .u8 C) :: blk b5 (ints .i64 ordI) :: H))) (e := 5) (size := 1) (v := .slice p (lit + sp) c) (n := lit + sp) (cs := ints .u8 l) (by repeat (first | apply List.Mem.head | apply List.Mem.tail))) (by omega) (by omega)
    simp only [e2, Nat.mul_one, ints_drop, ints_take] at this
    rw [List.take_of_length_le (by omega)] at this
    exact this) hl2 ho2 (by omega) w hw).mono ?_
  rintro e w' (⟨hno, rfl, hw'⟩ | ⟨hyes2, b9, y4, y5, y6, rfl, hs9, hw'⟩)
  · refine .inr ⟨_, rfl, QK_e Try.func104 ?_⟩
    show resP _ _ _
    rw [if_pos hno]; exact ⟨rfl, (infL_drop hw'.drop.drop.drop).drop.drop.drop.drop.drop.drop⟩
  refine .inl ⟨_, rfl, [], _, hw', fun w hw => St.sub (List.nil_sublist _) hw, .inl fun w hw => hw, ?_⟩
  clear hw' hw w w'
  rw [if_neg (fun h => h hyes2)]
  repeat (first | (apply gQR2; apply QR2_un) | (apply gQO2; refine aQ2 ?_))
  refine QO2_callE Try.call132 rfl rfl fun w hw => (Blk_c hK a' ha' ho b8 b9 _ _ (hs8.sub (by repeat (first | exact List.nil_sublist _ | apply List.Sublist.cons_cons | apply List.Sublist.cons))) (hs9.sub (by repeat (first | exact List.nil_sublist _ | apply List.Sublist.cons_cons | apply List.Sublist.cons))) w (infL_ins [y4, y5, y6, y1, y2, y3] hw)).mono ?_
  rintro e w' ⟨r, hr, h⟩
  rw [itF_of hr]
  clear hr
  cases r with
  | err r =>
    obtain ⟨rfl, hw'⟩ := h
    exact .inr ⟨_, rfl, QK_e Try.func104 ⟨rfl, St.sub (by repeat (first | exact List.Sublist.refl _ | apply List.Sublist.cons_cons | apply List.Sublist.cons)) hw'⟩⟩
  | ok a2 o2 =>
  obtain ⟨h1, h2, rfl, p', c', hw'⟩ := h
  refine .inl ⟨_, rfl, [], _, hw', fun w hw => St.sub (List.nil_sublist _) hw, .inl fun w hw => hw, ?_⟩
  clear hw' hw w w'
  repeat (first | (apply gQR2; first | apply QR2_un | apply QR2_nil) | (apply gQO2; refine aQ2 ?_))
  refine JS_fin Try.func104 rfl rfl ?_
  intro w hw
  exact ⟨h1, h2, rfl, p', c', St.sub (by repeat (first | exact List.Sublist.refl _ | apply List.Sublist.cons_cons | apply List.Sublist.cons)) hw⟩
end
end Go.Proofs.Ytbiocgenbgbfpaa

namespace Go.Proofs.Ytbiocgenbgbfpaa
open Sx Go
set_option linter.unusedVariables false
set_option maxRecDepth 10000
set_option linter.unusedSimpArgs false
attribute [local irreducible] syA fc tk cds
section
variable {w0 : World} {H : List Asn}
theorem inv_fn {q : Nat} {cap args : Array Value} {w : World} (hc : ∀ args w, (callFunc q args).run Try.prog w = .ok (.enter q args) w) : (invoke (.fn (.func q) cap) args).run Try.prog w = .ok (.enter q (args ++ cap)) w := by
  simp only [invoke]
  simpa using hc (args ++ cap) w
/-- nothing is to be caught -/
theorem Catch_idle (be : Nat) (w : World) (hw : St w0 H w) :
    CallsD Try.prog 100 #[.pointer (some ⟨be, 0, none⟩)] .returning w fun e u' w' => u' = .returning ∧ e = .returned (.tuple #[]) ∧ St w0 H w' := by
  refine enterR (vs := [.pointer (some ⟨be, 0, none⟩)]) Try.func100 rfl rfl rfl rfl hw (.inl ⟨rfl, rfl, rfl⟩) ?_
  repeat (first | (apply gJO; refine JO_v (V_eqIN (tb := tb) rfl rfl rfl) ?_) | first | (refine sx ?_; try intro _))
  exact JS_fin Try.func100 rfl rfl fun w hw => ⟨rfl, hw⟩
/-- a fault is caught -/
theorem Catch_got (be : Nat) (r x : Int) (w : World) (hw : St w0 (blk be [.int .i64 x] :: H) w) :
    CallsD Try.prog 100 #[.pointer (some ⟨be, 0, none⟩)] (.panicking (FLT r)) w fun e u' w' => u' = .panicking [{ v := .iface 162 (.int .i64 r), recovered := true }] ∧ e = .returned (.tuple #[]) ∧ St w0 (blk be [.int .i64 r] :: H) w' := by
  refine enterR (vs := [.pointer (some ⟨be, 0, none⟩)]) Try.func100 rfl rfl rfl rfl hw (.inr ⟨[], rfl, rfl⟩) ?_
  repeat (first | (apply gJO; first | refine JO_v (V_eqIV (tb := tb) rfl rfl rfl) ?_ | refine JO_v (V_assertT (tb := tb) rfl rfl (by simp) rfl) ?_) | first | (refine sx ?_; try intro _))
  exact JS_fin Try.func100 rfl rfl fun w hw => ⟨rfl, hw⟩
/-- the last deferred call: an error leaves nothing -/
theorem Clos_ok (be bo bu : Nat) (u : FrameMode) (w : World) (hb : blk be [.int .i64 0] ∈ H) (hw : St w0 H w) :
    CallsD Try.prog 99 #[.pointer (some ⟨be, 0, none⟩), .pointer (some ⟨bo, 0, none⟩), .pointer (some ⟨bu, 0, none⟩)] u w fun e u' w' => u' = u ∧ e = .returned (.tuple #[]) ∧ St w0 H w' := by
  refine enterD (vs := [.pointer (some ⟨be, 0, none⟩), .pointer (some ⟨bo, 0, none⟩), .pointer (some ⟨bu, 0, none⟩)]) Try.func99 rfl rfl rfl hw ?_
  repeat (first | (apply gJO; refine JO_v (V_load (tb := tb) rfl hb rfl rfl rfl rfl) ?_) | first | (refine sx ?_; try intro _))
  exact JS_fin Try.func99 rfl rfl fun w hw => ⟨rfl, hw⟩
theorem Clos_err (be bo bu : Nat) (r x2 : Int) (v1 : Value) (hr : r ≠ 0) (hv : one v1) (u : FrameMode) (w : World) (hw : St w0 (blk be [.int .i64 r] :: blk bu [.int .i64 x2] :: blk bo [v1] :: H) w) :
    CallsD Try.prog 99 #[.pointer (some ⟨be, 0, none⟩), .pointer (some ⟨bo, 0, none⟩), .pointer (some ⟨bu, 0, none⟩)] u w fun e u' w' => u' = u ∧ e = .returned (.tuple #[]) ∧ St w0 (blk be [.int .i64 r] :: blk bu [.int .i64 0] :: blk bo [.slice none 0 0] :: H) w' := by
  refine enterD (vs := [.pointer (some ⟨be, 0, none⟩), .pointer (some ⟨bo, 0, none⟩), .pointer (some ⟨bu, 0, none⟩)]) Try.func99 rfl rfl rfl hw ?_
  repeat (first | (refine sx ?_; try intro _))
  exact JS_fin Try.func99 rfl rfl fun w hw => ⟨rfl, hw⟩
/-- the cells of the results -/
abbrev resC (be bu bo : Nat) (H : List Asn) : List Asn := blk be [.int .i64 0] :: blk bu [.int .i64 0] :: blk bo [.slice none 0 0] :: H
abbrev defs (be bu bo : Nat) : List Deferred := [⟨.fn (.func 100) #[], #[.pointer (some ⟨be, 0, none⟩)]⟩, ⟨.fn (.func 99) #[.pointer (some ⟨be, 0, none⟩), .pointer (some ⟨bo, 0, none⟩), .pointer (some ⟨bu, 0, none⟩)], #[]⟩]
/-- the way out when a reading was given up -/
theorem Lv_err {R : Ending → World → Prop} {n : Nat} {be bu bo : Nat} {r : Int} {a : Act} {D : List Deferred} (ha : Rep n D [(4, .pointer (some ⟨bo, 0, none⟩)), (5, .pointer (some ⟨bu, 0, none⟩)), (6, .pointer (some ⟨be, 0, none⟩))] a) {w : World} (hw : St w0 (resC be bu bo H) w)
    (hR : ∀ w, St w0 H w → R (.returned (.tuple #[.slice none 0 0, .int .i64 0, .int .i64 r])) w) : Leaves Try.prog Try.f62 a.tmps R (defs be bu bo) (.panicking (FLT r)) w := by
  refine leaves_cons (f := 100) (args := #[.pointer (some ⟨be, 0, none⟩)]) (by simp) (inv_fn Try.call100) ?_
  refine (Catch_got be r 0 w hw).mono ?_
  rintro e u' w' ⟨rfl, rfl, hw'⟩
  show Leaves _ _ _ _ _ (settle _) _
  rw [show settle (.panicking [{ v := .iface 162 (.int .i64 r), recovered := true }]) = .returning from rfl]
  refine leaves_cons (f := 99) (args := #[.pointer (some ⟨be, 0, none⟩), .pointer (some ⟨bo, 0, none⟩), .pointer (some ⟨bu, 0, none⟩)]) (by simp) (inv_fn Try.call99) ?_
  have fin : ∀ w, St w0 (blk be [.int .i64 r] :: blk bu [.int .i64 0] :: blk bo [.slice none 0 0] :: H) w → Leaves Try.prog Try.f62 a.tmps R [] .returning w := by
    intro w hw
    exact ⟨_, results_cells (tb := tb) (vs := [.slice none 0 0, .int .i64 0, .int .i64 r]) (ResV.one (tb := tb) rfl (by repeat (first | apply List.Mem.head | apply List.Mem.tail)) rfl rfl rfl (ResV.one (tb := tb) rfl (by repeat (first | apply List.Mem.head | apply List.Mem.tail)) rfl rfl rfl (ResV.one (tb := tb) rfl (by repeat (first | apply List.Mem.head | apply List.Mem.tail)) rfl rfl rfl ResV.nil))) ha hw, hR w hw.drop.drop.drop⟩
  by_cases hr : r = 0
  · subst hr
    refine (Clos_ok be bo bu .returning w' (List.Mem.head _) hw').mono ?_
    rintro e u' w'' ⟨rfl, rfl, hw''⟩
    exact fin w'' hw''
  · refine (Clos_err be bo bu r 0 (.slice none 0 0) hr rfl .returning w' hw').mono ?_
    rintro e u' w'' ⟨rfl, rfl, hw''⟩
    exact fin w'' hw''
/-- the way out when all went well -/
theorem Lv_ok {R : Ending → World → Prop} {n : Nat} {be bu bo : Nat} {x : Int} {v1 : Value} {a : Act} {D : List Deferred} (ha : Rep n D [(4, .pointer (some ⟨bo, 0, none⟩)), (5, .pointer (some ⟨bu, 0, none⟩)), (6, .pointer (some ⟨be, 0, none⟩))] a) {w : World} (hw : St w0 (blk be [.int .i64 0] :: blk bu [.int .i64 x] :: blk bo [v1] :: H) w)
    (hR : ∀ w, St w0 H w → R (.returned (.tuple #[v1, .int .i64 x, .int .i64 0])) w) : Leaves Try.prog Try.f62 a.tmps R (defs be bu bo) .returning w := by
  refine leaves_cons (f := 100) (args := #[.pointer (some ⟨be, 0, none⟩)]) (by simp) (inv_fn Try.call100) ?_
  refine (Catch_idle be w hw).mono ?_
  rintro e u' w' ⟨rfl, rfl, hw'⟩
  show Leaves _ _ _ _ _ (settle _) _
  rw [show settle .returning = .returning from rfl]
  refine leaves_cons (f := 99) (args := #[.pointer (some ⟨be, 0, none⟩), .pointer (some ⟨bo, 0, none⟩), .pointer (some ⟨bu, 0, none⟩)]) (by simp) (inv_fn Try.call99) ?_
  refine (Clos_ok be bo bu .returning w' (List.Mem.head _) hw').mono ?_
  rintro e u' w'' ⟨rfl, rfl, hw''⟩
  exact ⟨_, results_cells (tb := tb) (vs := [v1, .int .i64 x, .int .i64 0]) (ResV.one (tb := tb) rfl (by repeat (first | apply List.Mem.head | apply List.Mem.tail)) rfl rfl rfl (ResV.one (tb := tb) rfl (by repeat (first | apply List.Mem.head | apply List.Mem.tail)) rfl rfl rfl (ResV.one (tb := tb) rfl (by repeat (first | apply List.Mem.head | apply List.Mem.tail)) rfl rfl rfl ResV.nil))) ha hw'', hR w'' hw''.drop.drop.drop⟩
end
end Go.Proofs.Ytbiocgenbgbfpaa

namespace Go.Proofs.Ytbiocgenbgbfpaa
open Sx Go
set_option linter.unusedVariables false
set_option linter.unusedSimpArgs false
attribute [local irreducible] syA fc tk cds
theorem itF_ok {f : Nat → List Int → Stp} {a a' : Nat} {o o' : List Int} (h : itF f a o = .ok a' o') : It f a o (.ok a' o') := by
  unfold itF at h
  split at h
  · rename_i hex; rw [← h]; exact hex.choose_spec
  · cases h
theorem symS_ge {bt : Nat → Int} {N a a1 : Nat} {L : List Int} {i : Int} (h : symS bt N L a = .ok i a1) : a ≤ a1 := by
  unfold symS at h
  split at h
  · split at h
    · simp only [Sy.ok.injEq] at h; omega
    · cases h
  · cases h
theorem blk2_ge {bt : Nat → Int} {N lim a a' : Nat} {D o o' : List Int} {len : Int} (h : blk2 bt N lim D o len a = .go a' o') : a ≤ a' := by
  unfold blk2 at h
  split at h
  · cases h
  · rename_i d a2 hs
    have := symS_ge hs
    split at h
    · cases h
    · split at h
      · cases h
      · split at h
        · cases h
        · split at h
          · cases h
          · simp only [Stp.go.injEq] at h; omega
theorem blk2_stop {bt : Nat → Int} {N lim a a' : Nat} {D o o' : List Int} {len : Int} (h : blk2 bt N lim D o len a = .stop a' o') : False := by
  unfold blk2 at h
  split at h
  · cases h
  · split at h
    · cases h
    · split at h
      · cases h
      · split at h
        · cases h
        · split at h <;> cases h
theorem blkF_ge {bt : Nat → Int} {N lim a a' : Nat} {L D o o' : List Int} (h : blkF bt N lim L D a o = .go a' o' ∨ blkF bt N lim L D a o = .stop a' o') : a ≤ a' := by
  unfold blkF at h
  split at h
  · rcases h with h | h <;> cases h
  · rename_i i a1 hs
    have := symS_ge hs
    split at h
    · rcases h with h | h
      · cases h
      · simp only [Stp.stop.injEq] at h; omega
    · split at h
      · split at h
        · rcases h with h | h <;> cases h
        · rcases h with h | h
          · simp only [Stp.go.injEq] at h; omega
          · cases h
      · split at h
        · rcases h with h | h <;> cases h
        · split at h
          · rcases h with h | h <;> cases h
          · rcases h with h | h
            · have := blk2_ge h; omega
            · exact (blk2_stop h).elim
theorem It_ge {f : Nat → List Int → Stp} (hf : ∀ a o a' o', f a o = .go a' o' ∨ f a o = .stop a' o' → a ≤ a') {a : Nat} {o : List Int} {r : Res} (h : It f a o r) : ∀ a' o', r = .ok a' o' → a ≤ a' := by
  induction h with
  | err _ => intro a' o' h; cases h
  | stop h => intro a' o' h'; cases h'; exact hf _ _ _ _ (.inr h)
  | go h _ ih => intro a' o' h'; exact Nat.le_trans (hf _ _ _ _ (.inl h)) (ih a' o' h')
theorem lenP_ge {many : Nat} {l l' : List Int} {x t : Int} {a a' : Nat} (h : lenP many l x t a = .go a' l' ∨ lenP many l x t a = .stop a' l') : a = a' := by
  unfold lenP at h
  split at h
  · rcases h with h | h <;> cases h
  · rcases h with h | h
    · simp only [Stp.go.injEq] at h; exact h.1
    · cases h
theorem lenF_ge {bt : Nat → Int} {N a a' many : Nat} {C l l' : List Int} (h : lenF bt N C many a l = .go a' l' ∨ lenF bt N C many a l = .stop a' l') : a ≤ a' := by
  unfold lenF at h
  split at h
  · rcases h with h | h
    · cases h
    · simp only [Stp.stop.injEq] at h; omega
  · split at h
    · rcases h with h | h <;> cases h
    · rename_i i a1 hs
      have := symS_ge hs
      split at h
      · split at h
        · rcases h with h | h <;> cases h
        · split at h
          · rcases h with h | h <;> cases h
          · have := lenP_ge h; omega
      · split at h
        · split at h
          · rcases h with h | h <;> cases h
          · have := lenP_ge h; omega
        · split at h
          · split at h
            · rcases h with h | h <;> cases h
            · have := lenP_ge h; omega
          · have := lenP_ge h; omega
theorem kndF_ge {bt : Nat → Int} {N lim a a' : Nat} {o o' : List Int} {k : Int} (h : kndF bt N lim k a o = .ok a' o') : a ≤ a' := by
  unfold kndF at h
  split at h
  · unfold stoF at h
    split at h
    · cases h
    · split at h
      · cases h
      · split at h
        · cases h
        · split at h
          · cases h
          · split at h
            · cases h
            · simp only [Res.ok.injEq] at h
              have : a ≤ upto8 a := by unfold upto8; omega
              omega
  · split at h
    · exact It_ge (fun a o a' o' => blkF_ge) (itF_ok h) _ _ rfl
    · split at h
      · unfold desF at h
        split at h
        · cases h
        · split at h
          · cases h
          · split at h
            · cases h
            · unfold des1 at h
              split at h
              · cases h
              · split at h
                · cases h
                · split at h
                  · cases h
                  · split at h
                    · cases h
                    · rename_i a1 l1 hl1
                      have h1 := It_ge (fun a o a' o' => lenF_ge) (itF_ok hl1) _ _ rfl
                      unfold des2 at h
                      split at h
                      · cases h
                      · split at h
                        · cases h
                        · split at h
                          · cases h
                          · have := It_ge (fun a o a' o' => blkF_ge) (itF_ok h) _ _ rfl
                            omega
      · cases h
theorem perm5 (a b c d e : Asn) (L : List Asn) : (a :: b :: c :: d :: e :: L).Perm (d :: c :: a :: e :: b :: L) :=
  List.Perm.trans (List.perm_append_comm_assoc [a, b, c] [d] (e :: L)) (List.Perm.cons _ (List.Perm.trans (List.perm_append_comm_assoc [a, b] [c] (e :: L)) (List.Perm.cons _ (List.Perm.cons _ (List.Perm.swap _ _ _)))))
section
variable {w0 : World} {H : List Asn}
def kindC : List Value := [.func (.func 102) #[] #[], .func (.func 103) #[] #[], .func (.func 104) #[] #[]]
set_option maxRecDepth 10000 in
set_option maxHeartbeats 4000000 in
/-- a compressed stream is read -/
theorem IRead_c (p : Option Addr) (c m : Nat) (B : List Int) (hr : Rd w0 H (.slice p m c) m (ints .u8 B)) (hm : B.length = m) (hB : OKB B) (hm1 : m ≤ 140737488355328) (L : Int) (hL : -9223372036854775808 ≤ L ∧ L < 9223372036854775808) (w : World) (hw : St w0 H w) :
    Calls Try.prog 62 #[.slice p m c, .int .i64 L] w fun e w' => ((L < 0 ∨ 1048576 < L) ∧ e = .returned (.tuple #[.slice none 0 0, .int .i64 0, .int .i64 1]) ∧ St w0 H w') ∨
      (0 ≤ L ∧ L ≤ 1048576 ∧ ∃ r, ALLR B L.toNat r ∧ resP r (fun x => e = .returned (.tuple #[.slice none 0 0, .int .i64 0, .int .i64 x]) ∧ St w0 H w')
        (fun a o => a ≤ 8 * m ∧ o.length ≤ L.toNat ∧ ∃ p c, e = .returned (.tuple #[.slice p o.length c, .int .i64 ((a + 7) / 8 : Nat), .int .i64 0]) ∧ St w0 (vec 5 1 (.slice p o.length c) o.length (ints .u8 o) :: H) w')) := by
  refine enter (vs := [.slice p m c, .int .i64 L]) Try.func62 rfl rfl rfl hw ?_
  subst hm
  obtain ⟨m, hm⟩ : ∃ m, B.length = m := ⟨_, rfl⟩
  unfold ALLR
  rw [hm] at hr hm1 ⊢
  by_cases hbad : L < 0 ∨ 1048576 < L
  · have : (L < 0) ∨ (¬ L < 0 ∧ 1048576 < L) := by omega
    rcases this with h | ⟨h, h'⟩
    · repeat (first | (refine sx ?_; try intro _))
      exact JS_retC (tb := tb) (vs := [.slice none 0 0, .int .i64 0, .int .i64 1]) Try.func62 rfl (ResV.one (tb := tb) rfl (by repeat (first | apply List.Mem.head | apply List.Mem.tail)) rfl rfl rfl (ResV.one (tb := tb) rfl (by repeat (first | apply List.Mem.head | apply List.Mem.tail)) rfl rfl rfl (ResV.one (tb := tb) rfl (by repeat (first | apply List.Mem.head | apply List.Mem.tail)) rfl rfl rfl ResV.nil))) fun w hw => .inl ⟨hbad, rfl, hw.drop.drop.drop⟩
    · repeat (first | (refine sx ?_; try intro _))
      exact JS_retC (tb := tb) (vs := [.slice none 0 0, .int .i64 0, .int .i64 1]) Try.func62 rfl (ResV.one (tb := tb) rfl (by repeat (first | apply List.Mem.head | apply List.Mem.tail)) rfl rfl rfl (ResV.one (tb := tb) rfl (by repeat (first | apply List.Mem.head | apply List.Mem.tail)) rfl rfl rfl (ResV.one (tb := tb) rfl (by repeat (first | apply List.Mem.head | apply List.Mem.tail)) rfl rfl rfl ResV.nil))) fun w hw => .inl ⟨hbad, rfl, hw.drop.drop.drop⟩
  obtain ⟨lim, rfl⟩ : ∃ lim : Nat, L = lim := ⟨L.toNat, by omega⟩
  have hK : InfK m B lim := ⟨hm, hB, hm1, by omega⟩
  rw [Int.toNat_natCast]
  repeat (first | (apply gJR; first | (refine sx ?_; try intro _)) | (apply gJO; first | (refine JO_deferv rfl rfl rfl ?_) | (refine JO_defer rfl rfl ?_) | (refine JO_v (V_buildA (tb := tb) rfl rfl rfl rfl rfl) ?_) | first | (refine sx ?_; try intro _)) | apply JS_seq | apply JS_region | refine JS_condF rfl ?_ | refine JS_cond_F rfl (by omega) ?_ | apply JS_skip)
  rename_i bo bu be
  refine JO_call Try.call101 rfl rfl fun w hw => (New_c p c m B (Rd_weak hr fun w hw => St.sub (by repeat (first | exact List.Sublist.refl _ | apply List.Sublist.cons_cons | apply List.Sublist.cons)) hw) hm hB hm1 (hr.nil hw.drop.drop.drop) w hw).mono ?_
  rintro e w' ⟨br, q, d, rfl, hw'⟩
  refine ⟨_, rfl, _, hw', ?_⟩
  clear hw' hw w w'
  repeat (first | (apply gJR; first | (refine sx ?_; try intro _)) | (apply gJO; first | (refine JO_v (V_buildA (tb := tb) rfl rfl rfl rfl rfl) ?_) | first | (refine sx ?_; try intro _)) | apply JS_seq | apply JS_region)
  rename_i bf bk
  refine JS_block ?_
  refine JS_loop5 (fun (a : Nat) (o : List Int) (po : Option Addr) (co : Nat) (last : Int) => [(4, .pointer (some ⟨bo, 0, none⟩)), (5, .pointer (some ⟨bu, 0, none⟩)), (6, .pointer (some ⟨be, 0, none⟩)), (7, .pointer (some ⟨bf, 0, none⟩)), (8, .pointer (some ⟨bk, 0, none⟩)), (9, .int .i64 last)])
    (fun a o po co _ => infL bf br q d m B lim a po co o (blk bk kindC :: resC be bu bo H))
    (fun a o _ _ last => a ≤ 8 * m ∧ o.length ≤ lim ∧ ((last = 0 ∧ ∀ r, It (rdF (bitB B 0) (8 * m) lim) a o r → It (rdF (bitB B 0) (8 * m) lim) 0 [] r) ∨ (last ≠ 0 ∧ It (rdF (bitB B 0) (8 * m) lim) 0 [] (.ok a o))))
    (fun a _ _ _ _ => 8 * m - a) 0 [] none 0 0 ⟨Nat.zero_le _, Nat.zero_le _, .inl ⟨rfl, fun _ h => h⟩⟩ (by repeat (first | exact trivial | refine ⟨rfl, ?_⟩ | refine ⟨lookI rfl (by omega), ?_⟩)) ?_ ?_
  · intro w h
    exact (St.nilvec (e := 5) (sz := 1) (base := none) h).perm (perm5 _ _ _ _ _ _)
  intro a o po co last ⟨ha, ho, hinv⟩ again
  rcases hinv with ⟨rfl, hinv⟩ | ⟨hl0, hfin⟩
  · have hF : rdF (bitB B 0) (8 * m) lim a o = if 8 * m < a + 1 then .err 20
      else if 8 * m < a + 3 then .err 20
      else match kndF (bitB B 0) (8 * m) lim (nbt (bitB B 0) (a + 1) 2) (a + 3) o with
        | .err e => .err e
        | .ok a' o' => if nbt (bitB B 0) a 1 = 0 then .go a' o' else .stop a' o' := rfl
    obtain ⟨x1, hx1⟩ := Int.eq_ofNat_of_zero_le (nbt_bd (bitB B 0) (bitB_01 B 0) a 1).1
    have hb1 := (nbt_bd (bitB B 0) (bitB_01 B 0) a 1).2
    obtain ⟨k, hk⟩ := Int.eq_ofNat_of_zero_le (nbt_bd (bitB B 0) (bitB_01 B 0) (a + 1) 2).1
    have hb2 := (nbt_bd (bitB B 0) (bitB_01 B 0) (a + 1) 2).2
    rw [hx1] at hb1 hF
    rw [hk] at hb2 hF
    have hb1 : (x1 : Int) < 2 := hb1
    have hb2 : (k : Int) < 4 := hb2
    have err : ∀ {A : Act} {ov : Ov} {r : Int} {w' : World} {D : List Deferred}, It (rdF (bitB B 0) (8 * m) lim) 0 [] (.err r) → Rep Try.f62.ntmps D ov A → Sx.sub [(4, .pointer (some ⟨bo, 0, none⟩)), (5, .pointer (some ⟨bu, 0, none⟩)), (6, .pointer (some ⟨be, 0, none⟩))] ov → St w0 (blk bk kindC :: resC be bu bo H) w' →
        Leaves Try.prog Try.f62 A.tmps (fun e w' => (((lim : Int) < 0 ∨ 1048576 < (lim : Int)) ∧ e = .returned (.tuple #[.slice none 0 0, .int .i64 0, .int .i64 1]) ∧ St w0 H w') ∨
      (0 ≤ (lim : Int) ∧ (lim : Int) ≤ 1048576 ∧ ∃ r, It (rdF (bitB B 0) (8 * m) lim) 0 [] r ∧ resP r (fun x => e = .returned (.tuple #[.slice none 0 0, .int .i64 0, .int .i64 x]) ∧ St w0 H w')
        (fun a o => a ≤ 8 * m ∧ o.length ≤ lim ∧ ∃ p c, e = .returned (.tuple #[.slice p o.length c, .int .i64 ((a + 7) / 8 : Nat), .int .i64 0]) ∧ St w0 (vec 5 1 (.slice p o.length c) o.length (ints .u8 o) :: H) w'))) (defs be bu bo) (.panicking (FLT r)) w' := by
      intro A ov r w' D hi hA hs hw
      exact Lv_err (hA.sub hs) hw.drop fun w hw => .inr ⟨by omega, by omega, .err r, hi, rfl, hw⟩
    repeat (first | (refine sx ?_; try intro _))
    refine JO_callE Try.func62 Try.call105 rfl rfl fun A hA w hw => (Grp_c hK a 1 (by omega) ha w hw).mono ?_
    rintro e w' (⟨h, rfl, hw'⟩ | ⟨h1, he, hw'⟩)
    · exact .inr ⟨_, rfl, err (hinv _ (.err (by rw [hF, if_pos h]))) hA (by repeat (first | exact trivial | refine ⟨rfl, ?_⟩ | refine ⟨lookI rfl (by omega), ?_⟩)) hw'⟩
    rw [hx1] at he; subst he
    refine .inl ⟨_, rfl, _, hw', ?_⟩
    clear hw' hw w w' hA A
    rw [if_neg (by omega)] at hF
    repeat (first | (refine sx ?_; try intro _))
    refine JO_callE Try.func62 Try.call105 rfl rfl fun A hA w hw => (Grp_c hK (a + 1) 2 (by omega) h1 w hw).mono ?_
    rintro e w' (⟨h, rfl, hw'⟩ | ⟨h2, he, hw'⟩)
    · exact .inr ⟨_, rfl, err (hinv _ (.err (by rw [hF, if_pos (by omega)]))) hA (by repeat (first | exact trivial | refine ⟨rfl, ?_⟩ | refine ⟨lookI rfl (by omega), ?_⟩)) hw'⟩
    rw [hk] at he; subst he
    refine .inl ⟨_, rfl, _, hw', ?_⟩
    clear hw' hw w w' hA A
    rw [if_neg (by omega)] at hF
    have hgo : ∀ a' o', kndF (bitB B 0) (8 * m) lim k (a + 3) o = .ok a' o' → a' ≤ 8 * m → o'.length ≤ lim → (a' ≤ 8 * m ∧ o'.length ≤ lim ∧ (((x1 : Int) = 0 ∧ ∀ r, It (rdF (bitB B 0) (8 * m) lim) a' o' r → It (rdF (bitB B 0) (8 * m) lim) 0 [] r) ∨ ((x1 : Int) ≠ 0 ∧ It (rdF (bitB B 0) (8 * m) lim) 0 [] (.ok a' o')))) ∧ 8 * m - a' < 8 * m - a := by
      intro a' o' hkn h3 h4
      have hge := kndF_ge hkn
      rw [hkn] at hF
      simp only at hF
      refine ⟨⟨h3, h4, ?_⟩, by omega⟩
      by_cases h0 : (x1 : Int) = 0
      · rw [if_pos h0] at hF
        exact .inl ⟨h0, fun r hr => hinv r (.go hF hr)⟩
      · rw [if_neg h0] at hF
        exact .inr ⟨h0, hinv _ (.stop hF)⟩
    have herr : ∀ r, kndF (bitB B 0) (8 * m) lim k (a + 3) o = .err r → It (rdF (bitB B 0) (8 * m) lim) 0 [] (.err r) := by
      intro r hkn
      rw [hkn] at hF
      exact hinv _ (.err hF)
    clear hF hinv
    rcases (show k = 0 ∨ k = 1 ∨ k = 2 ∨ k = 3 by omega) with rfl | rfl | rfl | rfl
    · repeat (first | (refine sx ?_; try intro _))
      refine JO_callvE (us := []) (cs := []) Try.func62 rfl Try.call102 rfl rfl fun A hA w hw => (Sto_c hK (a + 3) (by omega) ho w hw).mono ?_
      intro e w' h
      obtain ⟨r, hr⟩ : ∃ r, stoF (bitB B 0) (8 * m) lim (a + 3) o = r := ⟨_, rfl⟩
      rw [hr] at h
      cases r with
      | err r =>
        obtain ⟨rfl, hw'⟩ := h
        exact .inr ⟨_, rfl, err (herr r hr) hA (by repeat (first | exact trivial | refine ⟨rfl, ?_⟩ | refine ⟨lookI rfl (by omega), ?_⟩)) hw'⟩
      | ok a' o' =>
      obtain ⟨h3, h4, rfl, p', c', hw'⟩ := h
      obtain ⟨g1, g2⟩ := hgo a' o' hr h3 h4
      refine .inl ⟨_, rfl, _, hw', ?_⟩
      clear hw' hw w w' hA A
      repeat (first | (refine sx ?_; try intro _))
      exact JS_again5 again a' o' p' c' x1 g1 g2 (by repeat (first | exact trivial | refine ⟨rfl, ?_⟩ | refine ⟨lookI rfl (by omega), ?_⟩)) (fun w hw => hw)
    · repeat (first | (refine sx ?_; try intro _))
      refine JO_callvE (us := []) (cs := []) Try.func62 rfl Try.call103 rfl rfl fun A hA w hw => (Fix_c hK (a + 3) (by omega) ho w hw).mono ?_
      rintro e w' ⟨r, hr, h⟩
      cases r with
      | err r =>
        obtain ⟨rfl, hw'⟩ := h
        exact .inr ⟨_, rfl, err (herr r (itF_of hr)) hA (by repeat (first | exact trivial | refine ⟨rfl, ?_⟩ | refine ⟨lookI rfl (by omega), ?_⟩)) hw'⟩
      | ok a' o' =>
      obtain ⟨h3, h4, rfl, p', c', hw'⟩ := h
      obtain ⟨g1, g2⟩ := hgo a' o' (itF_of hr) h3 h4
      refine .inl ⟨_, rfl, _, hw', ?_⟩
      clear hw' hw w w' hA A
      repeat (first | (refine sx ?_; try intro _))
      exact JS_again5 again a' o' p' c' x1 g1 g2 (by repeat (first | exact trivial | refine ⟨rfl, ?_⟩ | refine ⟨lookI rfl (by omega), ?_⟩)) (fun w hw => hw)
    · repeat (first | (refine sx ?_; try intro _))
      refine JO_callvE (us := []) (cs := []) Try.func62 rfl Try.call104 rfl rfl fun A hA w hw => (Des_c hK (a + 3) (by omega) ho w hw).mono ?_
      intro e w' h
      obtain ⟨r, hr⟩ : ∃ r, desF (bitB B 0) (8 * m) lim (a + 3) o = r := ⟨_, rfl⟩
      rw [hr] at h
      cases r with
      | err r =>
        obtain ⟨rfl, hw'⟩ := h
        exact .inr ⟨_, rfl, err (herr r hr) hA (by repeat (first | exact trivial | refine ⟨rfl, ?_⟩ | refine ⟨lookI rfl (by omega), ?_⟩)) hw'⟩
      | ok a' o' =>
      obtain ⟨h3, h4, rfl, p', c', hw'⟩ := h
      obtain ⟨g1, g2⟩ := hgo a' o' hr h3 h4
      refine .inl ⟨_, rfl, _, hw', ?_⟩
      clear hw' hw w w' hA A
      repeat (first | (refine sx ?_; try intro _))
      exact JS_again5 again a' o' p' c' x1 g1 g2 (by repeat (first | exact trivial | refine ⟨rfl, ?_⟩ | refine ⟨lookI rfl (by omega), ?_⟩)) (fun w hw => hw)
    · repeat (first | (refine sx ?_; try intro _))
      refine JO_callE Try.func62 Try.call106 rfl rfl fun A hA w hw => (Give_c 60 w hw).mono ?_
      rintro e w' (⟨h, rfl, hw'⟩ | ⟨_, rfl, hw'⟩)
      · exact absurd h (by decide)
      · exact .inr ⟨_, rfl, err (herr 60 rfl) hA (by repeat (first | exact trivial | refine ⟨rfl, ?_⟩ | refine ⟨lookI rfl (by omega), ?_⟩)) (infL_drop hw')⟩
  · clear again
    repeat (first | (apply gJR; first | (refine sx ?_; try intro _)) | (apply gJO; first | (refine sx ?_; try intro _)) | apply JS_seq | apply JS_region | apply JS_skip | apply JS_block | apply JS_inBlock | refine JS_exit rfl ?_ | refine JS_condF rfl ?_)
    refine JS_order2 (infL bf br q d m B lim a po co o []) [0, 1, 2, 3, 4, 5, 6, 7, 8, 9, 10, 11, 12, 13] [] (fun w hw => St.sub (by repeat (first | exact List.nil_sublist _ | apply List.Sublist.cons_cons | apply List.Sublist.cons)) hw) (Picks.cons rfl (Picks.cons rfl (Picks.cons rfl (Picks.cons rfl (Picks.cons rfl (Picks.cons rfl (Picks.cons rfl (Picks.cons rfl (Picks.cons rfl (Picks.cons rfl (Picks.cons rfl (Picks.cons rfl (Picks.cons rfl (Picks.cons rfl (Picks.nil))))))))))))))) (by kernel_rfl) (by kernel_rfl) rfl (by decide +kernel) ?_
    repeat (first | (apply gQR2; apply QR2_un) | (apply gQO2; refine aQ2 ?_))
    refine QO2_callE Try.call107 rfl rfl fun w hw => (ReaderAt_c br _ a (by repeat (first | apply List.Mem.head | apply List.Mem.tail)) w hw).mono ?_
    rintro e w' ⟨rfl, hw'⟩
    refine .inl ⟨_, rfl, _, _, hw', fun w hw => St.sub (by repeat (first | exact List.nil_sublist _ | apply List.Sublist.cons_cons | apply List.Sublist.cons)) hw, .inl fun w hw => hw, ?_⟩
    clear hw' hw w w'
    repeat (first | (apply gQR2; first | apply QR2_un | apply QR2_nil) | (apply gQO2; first | refine aQ2 ?_ | (refine aK2 ?_ ?_; exact fun w hw => St.sub (by repeat (first | exact List.nil_sublist _ | apply List.Sublist.cons_cons | apply List.Sublist.cons)) hw)))
    have hx : ((a : Int) + 7) / 8 = (((a + 7) / 8 : Nat) : Int) := by omega
    simp only [hx]
    refine JS_retD Try.func62 fun A w hA hw => Lv_ok (H := vec 5 1 (.slice po o.length co) o.length (ints .u8 o) :: H) (hA.sub (by repeat (first | exact trivial | refine ⟨rfl, ?_⟩ | refine ⟨lookI rfl (by omega), ?_⟩))) (St.perm (H := vec 5 1 (.slice po o.length co) o.length (ints .u8 o) :: blk be [.int .i64 0] :: blk bu [.int .i64 ((a + 7) / 8 : Nat)] :: blk bo [.slice po o.length co] :: H) (St.sub (by repeat (first | exact List.Sublist.refl _ | apply List.Sublist.cons_cons | apply List.Sublist.cons)) hw) (List.perm_append_comm_assoc [_] [_, _, _] H)) fun w hw => ?_
    exact .inr ⟨by omega, by omega, .ok a o, hfin, ha, ho, po, co, rfl, hw⟩
end
end Go.Proofs.Ytbiocgenbgbfpaa

namespace Go.Proofs.Ytbiocgenbgbfpaa
open Sx Go
set_option linter.unusedVariables false
set_option linter.unusedSimpArgs false
attribute [local irreducible] syA fc tk cds
/-! ## the reference -/
section
variable {w0 : World} {H : List Asn}
theorem RUp_c (a : Nat) (ha : a ≤ 4611686018427387904) (w : World) (hw : St w0 H w) :
    Calls Try.prog 109 #[.int .i64 a] w fun e w' => e = .returned (.int .i64 (upto8 a : Nat)) ∧ St w0 H w' := by
  refine enter (vs := [.int .i64 a]) Try.func109 rfl rfl rfl hw ?_
  repeat (first | (apply gJR; first | (refine sx ?_; try intro _)) | (apply gJO; first | (refine sx ?_; try intro _)) | apply JS_seq | apply JS_region)
  refine JS_block ?_
  refine JS_loop1 (fun (x : Nat) => [(0, .int .i64 x)]) (fun _ => H) (fun x => x ≤ upto8 a ∧ upto8 x = upto8 a) (fun x => upto8 a - x) a ⟨by unfold upto8; omega, rfl⟩ (by repeat (first | exact trivial | refine ⟨rfl, ?_⟩ | refine ⟨lookI rfl (by omega), ?_⟩)) (fun _ h => h) ?_
  intro x ⟨hx, hxu⟩ again
  have hu : upto8 a ≤ a + 7 := by unfold upto8; omega
  by_cases h : x % 8 = 0
  · clear again
    have hxe : upto8 x = x := by unfold upto8; omega
    repeat (first | (refine sx ?_; try intro _))
    refine JS_ret Try.func109 rfl rfl fun w hw => ⟨?_, hw⟩
    rw [← hxu, hxe]; rfl
  · have hxe : upto8 (x + 1) = upto8 x ∧ x + 1 ≤ upto8 x := by unfold upto8; omega
    repeat (first | (refine sx ?_; try intro _))
    exact JS_again1 again (x + 1) ⟨by omega, by omega⟩ (by omega) (by repeat (first | exact trivial | refine ⟨rfl, ?_⟩ | refine ⟨lookI rfl (by omega), ?_⟩)) (fun w hw => hw)
theorem nbt_low (bt : Nat → Int) (a : Nat) : ∀ c, nbt bt a (c + 1) = bt a + 2 * nbt bt (a + 1) c
  | 0 => by simp [nbt]
  | c + 1 => by
    have ih := nbt_low bt a c
    rw [nbt, ih, nbt, show a + 1 + c = a + (c + 1) by omega, Int.pow_succ, ← Int.mul_assoc, Int.mul_add]
    omega
theorem pw31 (i : Nat) (h : i ≤ 31) : (1 : Int) ≤ 2 ^ i ∧ (2 : Int) ^ i ≤ 2147483648 := by
  have : ∀ k : Fin 32, (1 : Int) ≤ 2 ^ k.val ∧ (2 : Int) ^ k.val ≤ 2147483648 := by decide
  exact this ⟨i, by omega⟩
set_option maxHeartbeats 1000000 in
theorem RNum_c (p : Option Addr) (c k : Nat) (X : List Int) (hr : Rd w0 H (.slice p k c) k (ints .u8 X)) (hX : X.length = k) (h01 : ∀ j, X.getD j 0 = 0 ∨ X.getD j 0 = 1) (hk : k ≤ 31) (w : World) (hw : St w0 H w) :
    Calls Try.prog 108 #[.slice p k c] w fun e w' => e = .returned (.int .u32 (nbt (fun j => X.getD j 0) 0 k)) ∧ St w0 H w' := by
  refine enter (vs := [.slice p k c]) Try.func108 rfl rfl rfl hw ?_
  repeat (first | (apply gJR; first | (refine sx ?_; try intro _)) | (apply gJO; first | (refine sx ?_; try intro _)) | apply JS_seq | apply JS_region)
  refine JS_block ?_
  refine JS_loop1 (fun (r : Nat) => [(0, .slice p k c), (3, .int .u32 (nbt (fun j => X.getD j 0) r (k - r))), (4, .int .i64 ((r : Int) - 1))]) (fun _ => H) (fun r => r ≤ k) (fun r => r) k (Nat.le_refl _) (by rw [Nat.sub_self]; exact ⟨rfl, rfl, rfl, trivial⟩) (fun _ h => h) ?_
  intro r hrk again
  by_cases h0 : r = 0
  · subst h0
    clear again
    repeat (first | (refine sx ?_; try intro _))
    exact JS_ret Try.func108 rfl rfl fun w hw => ⟨rfl, hw⟩
  · obtain ⟨s, rfl⟩ : ∃ s, r = s + 1 := ⟨r - 1, by omega⟩
    have hlo := nbt_low (fun j => X.getD j 0) s (k - (s + 1))
    rw [show k - (s + 1) + 1 = k - s by omega] at hlo
    obtain ⟨b0, b1⟩ := nbt_bd (fun j => X.getD j 0) h01 (s + 1) (k - (s + 1))
    obtain ⟨q0, q1⟩ := pw31 (k - (s + 1)) (by omega)
    have hpw : (2 : Int) ^ (k - (s + 1)) ≤ 1073741824 := by
      have : ∀ k : Fin 31, (2 : Int) ^ k.val ≤ 1073741824 := by decide
      exact this ⟨k - (s + 1), by omega⟩
    have gi : (ints .u8 X)[s]? = some (.int .u8 (X.getD s 0)) := ints_get (by omega)
    have hs01 := h01 s
    try simp only at hlo
    have es : (((s + 1 : Nat) : Int) - 1) = s := by omega
    simp only [es]
    generalize nbt (fun j => X.getD j 0) (s + 1) (k - (s + 1)) = v at *
    generalize X.getD s 0 = y at *
    repeat (first | (apply gJO; refine JO_v (V_loadC (tb := tb) rfl hr rfl rfl gi rfl) ?_) | (first | (refine sx ?_; try intro _)))
    refine JS_again1 again s (by omega) (by omega) ?_ (fun w hw => hw)
    refine ⟨rfl, ?_, rfl, trivial⟩
    exact lookI rfl (by rw [hlo]; omega)
/-- the reference's memory -/
abbrev strL (bs : Nat) (q : Option Addr) (d m : Nat) (B : List Int) (lim : Int) (a : Nat) (po : Option Addr) (co : Nat) (o : List Int) (E : Int) (H : List Asn) : List Asn :=
  blk bs [.slice q (8 * m) d, .int .i64 a, .slice po o.length co, .int .i64 lim, .int .i64 E] :: vec 5 1 (.slice po o.length co) o.length (ints .u8 o) :: vec 5 1 (.slice q (8 * m) d) (8 * m) (ints .u8 (bitsL B m)) :: H
variable {bs : Nat} {q : Option Addr} {d m : Nat} {B : List Int} {lim : Nat} {po : Option Addr} {co : Nat} {o : List Int}
/-- an error is told, if none was yet -/
theorem RFail_c (x : Int) (a : Nat) (E : Int) (w : World) (hw : St w0 (strL bs q d m B lim a po co o E H) w) :
    Calls Try.prog 113 #[.pointer (some ⟨bs, 0, none⟩), .int .i64 x] w fun e w' => e = .returned (.tuple #[]) ∧ St w0 (strL bs q d m B lim a po co o (if E = 0 then x else E) H) w' := by
  refine enter (vs := [.pointer (some ⟨bs, 0, none⟩), .int .i64 x]) Try.func113 rfl rfl rfl hw ?_
  by_cases h : E = 0
  · rw [if_pos h]
    repeat (first | (refine sx ?_; try intro _))
    exact JS_fin Try.func113 rfl rfl fun w hw => ⟨rfl, hw⟩
  · rw [if_neg h]
    repeat (first | (refine sx ?_; try intro _))
    exact JS_fin Try.func113 rfl rfl fun w hw => ⟨rfl, hw⟩
/-- a group behind an error -/
theorem RGrpE_c (c : Int) (a : Nat) (E : Int) (hE : E ≠ 0) (w : World) (hw : St w0 (strL bs q d m B lim a po co o E H) w) :
    Calls Try.prog 64 #[.pointer (some ⟨bs, 0, none⟩), .int .i64 c] w fun e w' => e = .returned (.int .i64 0) ∧ St w0 (strL bs q d m B lim a po co o E H) w' := by
  refine enter (vs := [.pointer (some ⟨bs, 0, none⟩), .int .i64 c]) Try.func64 rfl rfl rfl hw ?_
  repeat (first | (refine sx ?_; try intro _))
  exact JS_ret Try.func64 rfl rfl fun w hw => ⟨rfl, hw⟩
set_option maxHeartbeats 1000000 in
/-- a group -/
theorem RGrp4_c (hK : InfK m B lim) (a c : Nat) (hc : c ≤ 16) (ha : a ≤ 8 * m) (hm2 : m ≤ 17592186044410) (w : World) (hw : St w0 (strL bs q d m B lim a po co o 0 H) w) :
    Calls Try.prog 64 #[.pointer (some ⟨bs, 0, none⟩), .int .i64 c] w fun e w' => (8 * m < a + c ∧ e = .returned (.int .i64 0) ∧ St w0 (strL bs q d m B lim a po co o 20 H) w') ∨
      (a + c ≤ 8 * m ∧ e = .returned (.int .i64 (nbt (bitB B 0) a c)) ∧ St w0 (strL bs q d m B lim (a + c) po co o 0 H) w') := by
  refine enter (vs := [.pointer (some ⟨bs, 0, none⟩), .int .i64 c]) Try.func64 rfl rfl rfl hw ?_
  have hbl := bitsL_len B m
  by_cases h : 8 * m < a + c
  · repeat (first | (refine sx ?_; try intro _))
    exact JS_ret Try.func64 rfl rfl fun w hw => .inl ⟨h, rfl, hw⟩
  have hcap : ∀ w, St w0 (strL bs q d m B lim a po co o 0 H) w → a + c ≤ d := fun w hw => by
    have := (Rd.lcap (vec_rd (e := 5) (size := 1) (v := .slice q (8 * m) d) (n := 8 * m) (cs := ints .u8 (bitsL B m)) (by repeat (first | apply List.Mem.head | apply List.Mem.tail))) hw).1; omega
  repeat (first | (apply gJR; first | (refine sx ?_; try intro _)) | (apply gJO; first | (refine sx ?_; try intro _)) | (apply gQR; first | (refine sx ?_; try intro _)) | (apply gQO; first | refine QO_v rfl (V_slice (tb := tb) (lo := a) (hi := a + c) rfl rfl rfl rfl rfl (by rfl) (by rfl) (fun w hw => ⟨by omega, hcap w hw⟩) rfl) ?_ | first | (refine sx ?_; try intro _)) | (apply gJS; first | (refine sx ?_; try intro _)))
  have e1 : a + c - a = c := by omega
  simp only [e1]
  have hrs := Rd_sub (lo := a) (hi := a + c) (sz := 1) (vec_rd (w0 := w0) (H := strL bs q d m B lim a po co o 0 H) (e := 5) (size := 1) (v := .slice q (8 * m) d) (n := 8 * m) (cs := ints .u8 (bitsL B m)) (by repeat (first | apply List.Mem.head | apply List.Mem.tail))) (by omega) (by omega)
  simp only [e1, Nat.mul_one, ints_drop, ints_take] at hrs
  have hget : ∀ j, j < c → (((bitsL B m).drop a).take c).getD j 0 = bitB B 0 (a + j) := fun j hj => by
    rw [List.getD_eq_getElem?_getD, List.getElem?_take, if_pos hj, List.getElem?_drop, ← List.getD_eq_getElem?_getD]
    exact bitsL_get B m (a + j) (by omega)
  have h01 : ∀ j, (((bitsL B m).drop a).take c).getD j 0 = 0 ∨ (((bitsL B m).drop a).take c).getD j 0 = 1 := fun j => by
    by_cases hj : j < c
    · rw [hget j hj]; exact bitB_01 _ _ _
    · left; rw [List.getD_eq_getElem?_getD, List.getElem?_eq_none (by rw [List.length_take, List.length_drop]; omega)]; rfl
  have hnum : nbt (fun j => (((bitsL B m).drop a).take c).getD j 0) 0 c = nbt (bitB B 0) a c := nbt_congr (fun j hj => by rw [Nat.zero_add]; exact hget j hj)
  refine QO_call Try.call108 rfl rfl fun w hw => (RNum_c _ _ c _ hrs (by rw [List.length_take, List.length_drop]; omega) h01 (by omega) w hw).mono ?_
  rintro e w' ⟨rfl, hw'⟩
  rw [hnum]
  refine ⟨_, rfl, _, hw', .inl fun w hw => hw, ?_⟩
  clear hw' hw w w' hrs
  obtain ⟨b0, b1⟩ := nbt_bd (bitB B 0) (bitB_01 B 0) a c
  have hp := (pw16 c hc).2
  generalize nbt (bitB B 0) a c = v at *
  repeat (first | (refine sx ?_; try intro _))
  exact JS_ret Try.func64 rfl rfl fun w hw => .inr ⟨by omega, rfl, hw⟩
end
end Go.Proofs.Ytbiocgenbgbfpaa

set_option linter.unusedVariables false
set_option linter.unusedSimpArgs false
namespace Go.Proofs.Ytbiocgenbgbfpaa
open Sx Go
theorem bnum_cut (f : Nat → Int) : ∀ (k d : Nat), (∀ t, k ≤ t → f t = 0) → bnum f (k + d) = bnum f k
  | k, 0, _ => rfl
  | k, d + 1, h => by
    rw [← Nat.add_assoc, bnum, bnum_cut f k d h, h (k + d) (by omega)]; simp
theorem byteAt_cut (L : List Int) (j k : Nat) (hk : k = min L.length (8 * j + 8) - 8 * j) (hj : 8 * j ≤ L.length) : nbt (fun t => ((L.drop (8 * j)).take k).getD t 0) 0 k = byteAt L j := by
  have e : ∀ t, t < k → ((L.drop (8 * j)).take k).getD (0 + t) 0 = L.getD (8 * j + t) 0 := fun t ht => by
    rw [Nat.zero_add, List.getD_eq_getElem?_getD, List.getElem?_take, if_pos ht, List.getElem?_drop, ← List.getD_eq_getElem?_getD]
  rw [← bnum_nbt, num_congr k e]
  unfold byteAt
  have h8 : k ≤ 8 := by omega
  rcases Nat.lt_or_ge k 8 with h | h
  · have hz : ∀ t, k ≤ t → L.getD (8 * j + t) 0 = 0 := fun t ht => by
      rw [List.getD_eq_getElem?_getD, List.getElem?_eq_none (by omega)]; rfl
    rw [← bnum_cut (fun t => L.getD (8 * j + t) 0) k (8 - k) hz, show k + (8 - k) = 8 by omega]
  · rw [show k = 8 by omega]
section
attribute [local irreducible] byteAt
variable {w0 : World} {H : List Asn}
set_option maxRecDepth 10000 in
set_option maxHeartbeats 2000000 in
theorem RBytes_c (p : Option Addr) (c m : Nat) (L : List Int) (hr : Rd w0 H (.slice p m c) m (ints .u8 L)) (hm : L.length = m) (hL : ∀ j, L.getD j 0 = 0 ∨ L.getD j 0 = 1) (h4 : m ≤ 100000000) (w : World) (hw : St w0 H w) :
    Calls Try.prog 97 #[.slice p m c] w fun e w' => ∃ q d, e = .returned (.slice q (pack L).length d) ∧ St w0 (vec 5 1 (.slice q (pack L).length d) (pack L).length (ints .u8 (pack L)) :: H) w' := by
  have hmc : m ≤ c := (hr.lcap hw).1
  refine enter (vs := [.slice p m c]) Try.func97 rfl rfl rfl hw ?_
  clear hw w
  repeat (first | (refine sx ?_; try intro _))
  refine JS_loop3 (fun (j : Nat) (q : Option Addr) (d : Nat) => [(0, .slice p m c), (3, .slice q j d), (4, .int .i64 ((8 * j : Nat) : Int))]) (fun j q d => vec 5 1 (.slice q j d) j (ints .u8 (tab j (byteAt L))) :: H) (fun j q d => j ≤ (m + 7) / 8) (fun j _ _ => (m + 7) / 8 - j) 0 none 0 (by omega) (by repeat (first | exact trivial | refine ⟨rfl, ?_⟩ | refine ⟨lookI rfl (by omega), ?_⟩)) (fun w h => St.nilvec h) ?_
  intro j q d hj again
  by_cases hjm : 8 * j < m
  · obtain ⟨k, hk⟩ : ∃ k, min m (8 * j + 8) = 8 * j + k := ⟨min m (8 * j + 8) - 8 * j, by omega⟩
    have hmin : min (m : Int) (((8 * j : Nat) : Int) + 8) = ((8 * j + k : Nat) : Int) := by omega
    have hrow : Rd w0 H (.slice (subB p (8 * j) c 1) (8 * j + k - 8 * j) (c - 8 * j)) (8 * j + k - 8 * j) (ints .u8 ((L.drop (8 * j)).take k)) := by
      have := Rd_sub (lo := 8 * j) (hi := 8 * j + k) (sz := 1) hr (by omega) (by omega)
      rw [Nat.mul_one, Nat.mul_one] at this
      unfold ints at this ⊢
      rw [List.map_take, List.map_drop]
      rwa [Nat.add_sub_cancel_left] at this ⊢
    rw [Nat.add_sub_cancel_left] at hrow
    have hby := byteAt_cut L j k (by omega) (by omega)
    have hbd := byteAt_bd L hL j
    have hX01 : ∀ t, ((L.drop (8 * j)).take k).getD t 0 = 0 ∨ ((L.drop (8 * j)).take k).getD t 0 = 1 := fun t => by
      rw [List.getD_eq_getElem?_getD, List.getElem?_take]
      split
      · rw [List.getElem?_drop, ← List.getD_eq_getElem?_getD]; exact hL _
      · exact .inl rfl
    have hXl : ((L.drop (8 * j)).take k).length = k := by rw [List.length_take, List.length_drop]; omega
    repeat (first | (apply gJO; refine JO_v (oc_min (V_min rfl rfl hmin rfl)) ?_) | (apply gJO; refine JO_v (V_slice (tb := tb) (lo := 8 * j) (hi := 8 * j + k) rfl rfl rfl rfl rfl rfl rfl (fun w hw => ⟨by omega, by omega⟩) rfl) ?_) | first | (refine sx ?_; try intro _))
    rw [Nat.add_sub_cancel_left]
    have htl : (tab j (byteAt L)).length = j := tab_len _ _
    refine JO_call Try.call108 rfl rfl fun w hw => (RNum_c (subB p (8 * j) c 1) (c - 8 * j) k ((L.drop (8 * j)).take k) (Rd_weak hrow fun w hw => St.sub (by repeat (first | exact List.Sublist.refl _ | apply List.Sublist.cons_cons | apply List.Sublist.cons)) hw) hXl hX01 (by omega) w hw).mono ?_
    rw [hby]
    rintro e w' ⟨rfl, hw'⟩
    refine ⟨_, rfl, _, hw', ?_⟩
    clear hw' hw w w'
    repeat (first | (apply gJO; (refine JO_app (tb := tb) rfl rfl rfl rfl rfl rfl (by repeat (first | exact Sel.here _ _ | apply Sel.there)) (by first | exact vec_rd (by repeat (first | apply List.Mem.head | apply List.Mem.tail)) | assumption | exact ArgRd.rd (by assumption) _ | (apply Rd_weak; assumption; intro _ hx; exact St.sub (by repeat (first | exact List.Sublist.refl _ | apply List.Sublist.cons_cons | apply List.Sublist.cons)) hx)) (by simp only [ints_len, List.length_cons, List.length_nil]; first | omega | rfl) (by first | exact ints_one | (repeat (first | exact trivial | refine ⟨rfl, ?_⟩))) (by omega) rfl ?_; intro _ _)) | (first | (refine sx ?_; try intro _)))
    rename_i ps q2 d2
    rw [show ((8 * j : Nat) : Int) + 8 = ((8 * (j + 1) : Nat) : Int) by omega]
    exact JS_again3 again (j + 1) q2 d2 (by omega) (by omega) (by repeat (first | exact trivial | refine ⟨rfl, ?_⟩ | refine ⟨lookI rfl (by omega), ?_⟩)) (fun w hw => by rw [tab_succ, ← ints_app]; exact St.sub (by repeat (first | exact List.Sublist.refl _ | apply List.Sublist.cons_cons | apply List.Sublist.cons)) hw)
  · clear again
    have hjf : j = (m + 7) / 8 := by omega
    have hpk : tab j (byteAt L) = pack L := by unfold pack; rw [hm, hjf]
    have hpl : (pack L).length = j := by rw [pack_len, hm, hjf]
    rw [hpk, hpl]
    repeat (first | (refine sx ?_; try intro _))
    refine JS_ret Try.func97 rfl rfl fun w hw => ⟨q, d, rfl, hw⟩
end
end Go.Proofs.Ytbiocgenbgbfpaa

namespace Go.Proofs.Ytbiocgenbgbfpaa
open Sx Go
set_option linter.unusedVariables false
set_option linter.unusedSimpArgs false
attribute [local irreducible] syA
theorem V_eqStr1 {n : Nat} {D : List Deferred} {w0 : World} {ov : Ov} {H : List Asn} {d : Option Nat} {T T1 T2 : Nat} {pos : String} {af : Array Edge} {g : Option (Nat × Bool)} {x y : Operand} {s : ByteArray}
    (hx : ev ov x = some (.string s)) (hy : ev ov y = some (.string s)) (hd : dOk d n = true) : OpV Try.prog n D w0 ov H ⟨d, .binOp .eql T1 x y T2, T, pos, af, g⟩ (.bool true) := by
  unfold OpV
  exact ⟨hd, fun a w ha _ => by simp [execOp, ha.ev hx, ha.ev hy, eqGuard, binOp, Op.stringOp]⟩
theorem nil_rd {w0 : World} {H : List Asn} : Rd w0 H (.slice none 0 0) 0 (ints .u8 []) := by
  unfold Rd
  exact fun w hw => ⟨⟨none, 0, rfl, fun _ => rfl, Nat.le_refl _⟩, fun j v hv => by simp [ints] at hv⟩
theorem ALLR.one {B : List Int} {lim : Nat} {r r' : Res} (h : ALLR B lim r) (h' : ALLR B lim r') : r = r' := It.one h h'
/-! the document's examples -/
theorem exa1 : ALLR [3, 0] 9 (.ok 10 []) := by
  have hsy : symS (bitB [3, 0] 0) 16 (tab 288 fixF) 3 = .ok 256 10 := by
    have h := symS_of (bt := bitB [3, 0] 0) (N := 16) (a := 3) fix_okb fix_okl (bitB_01 _ _) (i := 256) (u := 7) (r := 0)
      (.inl ⟨256, rfl, rfl, ⟨7, by decide +kernel, by decide, by decide +kernel, by decide, by decide +kernel⟩, by decide +kernel⟩)
    rw [if_pos rfl] at h
    exact h
  have hb : blkF (bitB [3, 0] 0) 16 9 (tab 288 fixF) (List.replicate 32 5) 3 [] = .stop 10 [] := by
    unfold blkF; rw [hsy]; rfl
  have hk : kndF (bitB [3, 0] 0) 16 9 1 3 [] = .ok 10 [] := itF_of (.stop hb)
  refine .stop ?_
  show rdF (bitB [3, 0] 0) 16 9 0 [] = _
  unfold rdF
  rw [if_neg (by decide), if_neg (by decide), show nbt (bitB [3, 0] 0) (0 + 1) 2 = 1 by decide +kernel, show (0 + 3) = 3 from rfl, hk]
  simp only
  rw [if_neg (by decide +kernel)]
theorem exa2 : ALLR [1, 1, 0, 254, 255, 97] 9 (.ok 48 [97]) := by
  have hk : kndF (bitB [1, 1, 0, 254, 255, 97] 0) 48 9 0 3 [] = .ok 48 [97] := by
    unfold kndF
    rw [if_pos rfl]
    unfold stoF
    rw [show nbt (bitB [1, 1, 0, 254, 255, 97] 0) (upto8 3) 16 = 1 by decide +kernel, show nbt (bitB [1, 1, 0, 254, 255, 97] 0) (upto8 3 + 16) 16 = 65534 by decide +kernel,
      if_neg (by decide), if_neg (by decide), if_neg (by decide), if_neg (by decide), if_neg (by decide)]
    have : byts (bitB [1, 1, 0, 254, 255, 97] 0) (upto8 3 + 32) (1 : Int).toNat = [97] := by decide +kernel
    rw [this]; rfl
  refine .stop ?_
  show rdF (bitB [1, 1, 0, 254, 255, 97] 0) 48 9 0 [] = _
  unfold rdF
  rw [if_neg (by decide), if_neg (by decide), show nbt (bitB [1, 1, 0, 254, 255, 97] 0) (0 + 1) 2 = 0 by decide +kernel, show (0 + 3) = 3 from rfl, hk]
  simp only
  rw [if_neg (by decide +kernel)]
theorem exa3 : ALLR [7] 9 (.err 60) := by
  refine .err ?_
  show rdF (bitB [7] 0) 8 9 0 [] = _
  unfold rdF
  rw [if_neg (by decide), if_neg (by decide), show nbt (bitB [7] 0) (0 + 1) 2 = 3 by decide +kernel]
  rfl
theorem okb_small {B : List Int} (h : B.all (fun x => decide (0 ≤ x ∧ x < 256)) = true) : OKB B := OKB_of h
section
variable {w0 : World} {H : List Asn}
/-- inflate.Read where its answer is known -/
theorem IRead_ok (p : Option Addr) (c m : Nat) (B : List Int) (hr : Rd w0 H (.slice p m c) m (ints .u8 B)) (hm : B.length = m) (hB : OKB B) (hm1 : m ≤ 140737488355328) (lim : Nat) (hlim : lim ≤ 1048576) {a : Nat} {o : List Int} (hA : ALLR B lim (.ok a o)) (w : World) (hw : St w0 H w) :
    Calls Try.prog 62 #[.slice p m c, .int .i64 lim] w fun e w' => ∃ p c, e = .returned (.tuple #[.slice p o.length c, .int .i64 ((a + 7) / 8 : Nat), .int .i64 0]) ∧ St w0 (vec 5 1 (.slice p o.length c) o.length (ints .u8 o) :: H) w' := by
  refine (IRead_c p c m B hr hm hB hm1 lim (by omega) w hw).mono ?_
  rintro e w' (⟨h, _⟩ | ⟨_, _, r, h, hp⟩)
  · omega
  · rw [Int.toNat_natCast] at h
    rw [h.one hA] at hp
    obtain ⟨_, _, p, c, h1, h2⟩ := hp
    exact ⟨p, c, h1, h2⟩
theorem IRead_err (p : Option Addr) (c m : Nat) (B : List Int) (hr : Rd w0 H (.slice p m c) m (ints .u8 B)) (hm : B.length = m) (hB : OKB B) (hm1 : m ≤ 140737488355328) (lim : Nat) (hlim : lim ≤ 1048576) {x : Int} (hA : ALLR B lim (.err x)) (w : World) (hw : St w0 H w) :
    Calls Try.prog 62 #[.slice p m c, .int .i64 lim] w fun e w' => e = .returned (.tuple #[.slice none 0 0, .int .i64 0, .int .i64 x]) ∧ St w0 H w' := by
  refine (IRead_c p c m B hr hm hB hm1 lim (by omega) w hw).mono ?_
  rintro e w' (⟨h, _⟩ | ⟨_, _, r, h, hp⟩)
  · omega
  · rw [Int.toNat_natCast] at h
    rw [h.one hA] at hp
    exact hp
end
end Go.Proofs.Ytbiocgenbgbfpaa

set_option linter.unusedVariables false
set_option linter.unusedSimpArgs false
namespace Go.Proofs.Ytbiocgenbgbfpaa
open Sx Go
/-- the shorter one of both -/
def bestB (B : List Int) : List Int := if (sbs B).length < (pack (fixL B)).length then sbs B else pack (fixL B)
theorem ex_fix : pack (fixL [97]) = [75, 4, 0] := by decide +kernel
theorem ex_sto : sbs [97] = [1, 1, 0, 254, 255, 97] := by decide +kernel
theorem ex_best : bestB [] = [3, 0] := by decide +kernel
theorem ex_len : lenS 11 = (265, 1, 0) := by decide +kernel
theorem ex_span : spanS 7 = (5, 1, 0) := by decide +kernel
section
attribute [local irreducible] sbs pack fixL
variable {w0 : World} {H : List Asn}
set_option maxRecDepth 10000 in
theorem DBest_c (p : Option Addr) (c m : Nat) (B : List Int) (hr : Rd w0 H (.slice p m c) m (ints .u8 B)) (hm : B.length = m) (hB : OKB B) (h4 : m ≤ 100000) (w : World) (hw : St w0 H w) :
    Calls Try.prog 28 #[.slice p m c] w fun e w' => ∃ q d, e = .returned (.slice q (bestB B).length d) ∧ St w0 (vec 5 1 (.slice q (bestB B).length d) (bestB B).length (ints .u8 (bestB B)) :: H) w' := by
  refine enter (vs := [.slice p m c]) Try.func28 rfl rfl rfl hw ?_
  clear hw w
  repeat (first | (refine sx ?_; try intro _))
  refine JO_call Try.call51 rfl rfl fun w hw => (DFixed_c p c m B hr hm hB h4 w hw).mono ?_
  rintro e w' ⟨q1, d1, rfl, hw'⟩
  refine ⟨_, rfl, _, hw', ?_⟩
  clear hw' hw w w'
  repeat (first | (refine sx ?_; try intro _))
  refine JO_call Try.call52 rfl rfl fun w hw => (DStored_c p c m B (Rd_weak hr fun w hw => St.sub (by repeat (first | exact List.Sublist.refl _ | apply List.Sublist.cons_cons | apply List.Sublist.cons)) hw) hm hB h4 w hw).mono ?_
  rintro e w' ⟨q2, d2, rfl, hw'⟩
  refine ⟨_, rfl, _, hw', ?_⟩
  clear hw' hw w w'
  unfold bestB
  by_cases hlt : (sbs B).length < (pack (fixL B)).length
  · rw [if_pos hlt]
    repeat (first | (refine sx ?_; try intro _))
    exact JS_ret Try.func28 rfl rfl fun w hw => ⟨q2, d2, rfl, St.sub (by repeat (first | exact List.Sublist.refl _ | apply List.Sublist.cons_cons | apply List.Sublist.cons)) hw⟩
  · rw [if_neg hlt]
    repeat (first | (refine sx ?_; try intro _))
    exact JS_ret Try.func28 rfl rfl fun w hw => ⟨q1, d1, rfl, St.sub (by repeat (first | exact List.Sublist.refl _ | apply List.Sublist.cons_cons | apply List.Sublist.cons)) hw⟩
end
end Go.Proofs.Ytbiocgenbgbfpaa

set_option linter.unusedVariables false
set_option linter.unusedSimpArgs false
namespace Go.Proofs.Ytbiocgenbgbfpaa
open Sx Go
theorem fx_bits (k : Nat) (hk : k < 288) : ∃ x : Nat, fxB.getD k 0 = x ∧ 7 ≤ x ∧ x ≤ 9 ∧ 0 ≤ fxC.getD k 0 ∧ fxC.getD k 0 < 2 ^ x ∧ fxC.getD k 0 < 4294967296 ∧ fxS k = bms (fxC.getD k 0) x := by
  obtain ⟨x, h1, h2, h3, h4, h5⟩ := fx_at k hk
  have : ∀ k : Fin 10, (2 : Int) ^ k.val ≤ 512 := by decide
  have := this ⟨x, by omega⟩
  simp only [] at this
  exact ⟨x, h1, h2, h3, h4, h5, by omega, by unfold fxS; rw [h1, Int.toNat_natCast]⟩
theorem spC_id : ∀ k : Fin 32, spC.getD k.val 0 = k.val := by decide +kernel
theorem sp_bits (k : Nat) (hk : k < 32) : spS k = bms k 5 := by
  unfold spS; rw [spC_id ⟨k, hk⟩]
theorem grp_3 : grp 1 1 ++ grp 1 2 = [1, 1, 0] := by decide +kernel
theorem tkv_get {l : List (Int × Nat × Nat)} {i : Nat} (h : i < l.length) : (tkv l)[i * 3 + 0]? = some (.int .u8 (l[i]'h).1) ∧ (tkv l)[i * 3 + 1]? = some (.int .i64 (l[i]'h).2.1) ∧ (tkv l)[i * 3 + 2]? = some (.int .i64 (l[i]'h).2.2) := by
  have ha := tkv_at h
  have hg : ∀ j, j < 3 → (tkv l)[i * 3 + j]? = ([.int .u8 (l[i]'h).1, .int .i64 (l[i]'h).2.1, .int .i64 (l[i]'h).2.2] : List Value)[j]? := fun j hj => by
    rw [← ha, List.getElem?_take, if_pos hj, List.getElem?_drop]
  exact ⟨hg 0 (by omega), hg 1 (by omega), hg 2 (by omega)⟩
section
attribute [local irreducible] grp bms fxS spS lenS spanS toks tkv tkb cds pack
variable {w0 : World} {H : List Asn}
set_option maxRecDepth 10000 in
set_option maxHeartbeats 4000000 in
/-- the reference's fixed block -/
theorem RFixed8_c (p : Option Addr) (c m : Nat) (B : List Int) (hr : Rd w0 H (.slice p m c) m (ints .u8 B)) (hm : B.length = m) (hB : OKB B) (h4 : m ≤ 100000) (w : World) (hw : St w0 H w) :
    Calls Try.prog 58 #[.slice p m c] w fun e w' => ∃ q d, e = .returned (.slice q (pack (fixL B)).length d) ∧ St w0 (vec 5 1 (.slice q (pack (fixL B)).length d) (pack (fixL B)).length (ints .u8 (pack (fixL B))) :: H) w' := by
  refine enter (vs := [.slice p m c]) Try.func58 rfl rfl rfl hw ?_
  clear hw w
  repeat (first | (refine sx ?_; try intro _))
  refine JO_call Try.call67 rfl rfl fun w hw => (RFixed_c w hw).mono ?_
  rintro e w' ⟨pl, cl, rfl, hw'⟩
  rw [fxB_eq] at hw'
  refine ⟨_, rfl, _, hw', ?_⟩
  clear hw' hw w w'
  repeat (first | (refine sx ?_; try intro _))
  refine JO_call Try.call91 rfl rfl fun w hw => (RCodes_c pl cl 288 fxB (vec_rd (e := 5) (size := 1) (by repeat (first | apply List.Mem.head | apply List.Mem.tail))) fxB_len fxB_okb (by omega) w hw).mono ?_
  rw [fxC_eq]
  rintro e w' ⟨pa, ca, rfl, hw'⟩
  refine ⟨_, rfl, _, hw', ?_⟩
  clear hw' hw w w'
  repeat (first | (refine sx ?_; try intro _))
  refine JO_call Try.call92 rfl rfl fun w hw => (RFind_c p c m B (Rd_weak hr fun w hw => St.sub (by repeat (first | exact List.Sublist.refl _ | apply List.Sublist.cons_cons | apply List.Sublist.cons)) hw) hm hB h4 w hw).mono ?_
  rintro e w' ⟨qt, dt, rfl, hw'⟩
  have hT := toks_TOK hB m 0
  have hTl := toks_len (B := B) m 0
  have hfix : fixL B = grp 1 1 ++ grp 1 2 ++ (toks B m 0).flatMap tkb ++ fxS 256 := by unfold fixL; rw [hm]
  obtain ⟨l, hl⟩ : ∃ l, toks B m 0 = l := ⟨_, rfl⟩
  rw [hl] at hT hTl hfix hw' ⊢
  refine ⟨_, rfl, _, hw', ?_⟩
  clear hw' hw w w'
  repeat (first | (refine sx ?_; try intro _))
  rename_i p3
  have h0 : grp 1 1 ++ grp 1 2 ++ (l.take 0).flatMap tkb = [1, 1, 0] := by rw [List.take_zero, List.flatMap_nil, List.append_nil, grp_3]
  refine JS_loop4 (fun (i : Nat) (O : List Int) (q : Option Addr) (d : Nat) => [(0, .slice p m c), (3, .slice pl 288 cl), (4, .slice pa 288 ca), (5, .slice q O.length d), (6, .slice qt l.length dt), (7, .int .i64 i)])
    (fun i O q d => vec 5 1 (.slice q O.length d) O.length (ints .u8 O) :: vec 79 3 (.slice qt l.length dt) l.length (tkv l) :: vec 91 1 (.slice pa 288 ca) 288 (ints .u32 fxC) :: vec 5 1 (.slice pl 288 cl) 288 (ints .u8 fxB) :: H)
    (fun i O q d => i ≤ l.length ∧ O = grp 1 1 ++ grp 1 2 ++ (l.take i).flatMap tkb ∧ O.length ≤ 32 * i + 3) (fun i _ _ _ => l.length - i) 0 [1, 1, 0] (some p3) 3 ⟨Nat.zero_le _, h0.symm, by simp⟩ (by repeat (first | exact trivial | refine ⟨rfl, ?_⟩ | refine ⟨lookI rfl (by omega), ?_⟩)) (fun w hw => hw.perm (by (repeat (first | exact List.Perm.refl _ | refine List.Perm.cons _ ?_ | refine (List.perm_middle (l₁ := [_])).trans (List.Perm.cons _ ?_) | refine (List.perm_middle (l₁ := [_, _])).trans (List.Perm.cons _ ?_) | refine (List.perm_middle (l₁ := [_, _, _])).trans (List.Perm.cons _ ?_) | refine (List.perm_middle (l₁ := [_, _, _, _])).trans (List.Perm.cons _ ?_) | refine (List.perm_middle (l₁ := [_, _, _, _, _])).trans (List.Perm.cons _ ?_) | refine (List.perm_middle (l₁ := [_, _, _, _, _, _])).trans (List.Perm.cons _ ?_) | refine (List.perm_middle (l₁ := [_, _, _, _, _, _, _])).trans (List.Perm.cons _ ?_) | refine (List.perm_middle (l₁ := [_, _, _, _, _, _, _, _])).trans (List.Perm.cons _ ?_))))) ?_
  intro i O q d ⟨hi, hO, hOl⟩ again
  by_cases hil : i < l.length
  · obtain ⟨g0, g1, g2⟩ := tkv_get hil
    have htk := tkbs_take hil
    have hTi := hT _ (List.getElem_mem hil)
    obtain ⟨t, ht⟩ : ∃ t, l[i] = t := ⟨_, rfl⟩
    rw [ht] at g0 g1 g2 htk hTi
    have hO2 : O ++ tkb t = grp 1 1 ++ grp 1 2 ++ (l.take (i + 1)).flatMap tkb := by rw [htk, hO, List.append_assoc]
    have htl := tkb_len hTi
    have hO3 : (O ++ tkb t).length ≤ 32 * (i + 1) + 3 := by rw [List.length_append]; omega
    obtain ⟨x, n, k⟩ := t
    obtain ⟨o, ho⟩ : ∃ o, O.length = o := ⟨_, rfl⟩
    rw [ho] at hOl ⊢
    simp only [] at g0 g1 g2
    rcases hTi with ⟨h1, h2, h3, h5⟩ | ⟨h1, h2, h3, h5, h6⟩
    · simp only [] at h1 h2 h3 h5
      subst h3; subst h5
      obtain ⟨x', rfl⟩ : ∃ x' : Nat, x = x' := ⟨x.toNat, by omega⟩
      obtain ⟨xl, f1, f2, f3, f4, f5, f6, f7⟩ := fx_bits x' (by omega)
      have gC : (ints .u32 fxC)[x']? = some (.int .u32 (fxC.getD x' 0)) := ints_get (by rw [fxC_len]; omega)
      have gL : (ints .u8 fxB)[x']? = some (.int .u8 xl) := by rw [← f1]; exact ints_get (by rw [fxB_len]; omega)
      have htb : tkb ((x' : Int), 0, 0) = bms (fxC.getD x' 0) xl := by unfold tkb; rw [if_pos rfl, ← f7]; rfl
      rw [htb] at hO2 hO3
      have hbl := bms_ln (fxC.getD x' 0) xl
      repeat (first | (apply gJO; refine JO_v (oL (V_loadC (tb := tb) rfl (vec_rd (e := 79) (size := 3) (by repeat (first | apply List.Mem.head | apply List.Mem.tail))) rfl rfl g2 rfl)) ?_) | (apply gQO; refine QO_v rfl (oL (V_loadC (tb := tb) rfl (vec_rd (e := 79) (size := 3) (by repeat (first | apply List.Mem.head | apply List.Mem.tail))) rfl rfl g0 rfl)) ?_) | (apply gQO; refine QO_v rfl (oL (V_loadC (tb := tb) rfl (vec_rd (e := 91) (size := 1) (by repeat (first | apply List.Mem.head | apply List.Mem.tail))) rfl rfl gC rfl)) ?_) | (apply gQO; refine QO_v rfl (oL (V_loadC (tb := tb) rfl (vec_rd (e := 5) (size := 1) (n := 288) (by repeat (first | apply List.Mem.head | apply List.Mem.tail))) rfl rfl gL rfl)) ?_) | (first | (refine sx ?_; try intro _)))
      refine QO_call Try.call93 rfl rfl fun w hw => (Bits5_c (fxC.getD x' 0) xl ⟨f4, f6⟩ (by omega) w hw).mono ?_
      rintro e w' ⟨qb, db, rfl, hw'⟩
      refine ⟨_, rfl, _, hw', .inl fun w hw => St.sub (by repeat (first | exact List.Sublist.refl _ | apply List.Sublist.cons_cons | apply List.Sublist.cons)) hw, ?_⟩
      clear hw' hw w w'
      repeat (first | (apply gQO; (refine QO_e (E_appendB (tb := tb) rfl rfl rfl rfl rfl rfl (by repeat (first | exact Sel.here _ _ | apply Sel.there)) (by first | exact vec_rd (by repeat (first | apply List.Mem.head | apply List.Mem.tail)) | assumption | exact ArgRd.rd (by assumption) _ | (apply Rd_weak; assumption; intro _ hx; exact St.sub (by repeat (first | exact List.Sublist.refl _ | apply List.Sublist.cons_cons | apply List.Sublist.cons)) hx)) (by simp only [ints_len, List.length_cons, List.length_nil]; first | omega | rfl) (by first | exact ints_one | (repeat (first | exact trivial | refine ⟨rfl, ?_⟩))) (by omega) (by omega) rfl) rfl (.inr fun _ _ hw => vecB_back (by repeat (first | exact Sel.here _ _ | apply Sel.there)) hw) ?_; intro _)) | (first | (refine sx ?_; try intro _)))
      rename_i pc
      have hlq : (O ++ bms (fxC.getD x' 0) xl).length = o + xl := by rw [List.length_append, ho, hbl]
      exact JS_again4 again (i + 1) (O ++ bms (fxC.getD x' 0) xl) pc.1 pc.2 ⟨by omega, hO2, hO3⟩ (by omega) (by rw [hlq]; exact (by repeat (first | exact trivial | refine ⟨rfl, ?_⟩ | refine ⟨lookI rfl (by omega), ?_⟩))) (fun w hw => by rw [hlq, ← ints_app]; exact St.sub (by repeat (first | exact List.Sublist.refl _ | apply List.Sublist.cons_cons | apply List.Sublist.cons)) (vecB_fwd (Sel.there _ _ _ _ (Sel.here _ _)) hw))
    · simp only [] at h1 h2 h3 h5 h6
      obtain ⟨s, nb, r, e1, a1, a2, a3, a4, a5, _⟩ := lenS_bd n (by omega) (by omega)
      obtain ⟨s', nb', r', e2, c1, c3, c4, c5, _⟩ := spanS_bd k (by omega) (by omega)
      have htb : tkb (x, n, k) = fxS s ++ grp r nb ++ spS s' ++ grp r' nb' := by
        unfold tkb
        simp only []
        rw [if_neg (by omega), e1, e2]
        simp only [Int.toNat_natCast]
      obtain ⟨xl, f1, f2, f3, f4, f5, f6, f7⟩ := fx_bits s (by omega)
      have hs5 := sp_bits s' (by omega)
      rw [htb, f7, hs5] at hO2 hO3
      have gC : (ints .u32 fxC)[s]? = some (.int .u32 (fxC.getD s 0)) := ints_get (by rw [fxC_len]; omega)
      have gL : (ints .u8 fxB)[s]? = some (.int .u8 xl) := by rw [← f1]; exact ints_get (by rw [fxB_len]; omega)
      have p5 : ∀ k : Fin 14, (2 : Int) ^ k.val ≤ 8192 := by decide
      have q1 := p5 ⟨nb, by omega⟩
      have q2 := p5 ⟨nb', by omega⟩
      simp only [] at q1 q2
      have hbl := bms_ln (fxC.getD s 0) xl
      have hgl := grp_len r nb
      have hbl2 := bms_ln s' 5
      have hgl2 := grp_len r' nb'
      have r1 : r < 4294967296 := by omega
      have r2 : r' < 4294967296 := by omega
      repeat (first | (apply gJO; refine JO_v (oL (V_loadC (tb := tb) rfl (vec_rd (e := 79) (size := 3) (by repeat (first | apply List.Mem.head | apply List.Mem.tail))) rfl rfl g2 rfl)) ?_) | (apply gJO; refine JO_v (oL (V_loadC (tb := tb) rfl (vec_rd (e := 79) (size := 3) (by repeat (first | apply List.Mem.head | apply List.Mem.tail))) rfl rfl g1 rfl)) ?_) | (first | (refine sx ?_; try intro _)))
      refine JO_call Try.call94 rfl rfl fun w hw => (RLength_c n (by omega) w hw).mono ?_
      rw [e1]
      dsimp only
      rintro e w' ⟨rfl, hw'⟩
      refine ⟨_, rfl, _, hw', ?_⟩
      clear hw' hw w w'
      repeat (first | (apply gQO; refine QO_v rfl (oL (V_loadC (tb := tb) rfl (vec_rd (e := 91) (size := 1) (by repeat (first | apply List.Mem.head | apply List.Mem.tail))) rfl rfl gC rfl)) ?_) | (apply gQO; refine QO_v rfl (oL (V_loadC (tb := tb) rfl (vec_rd (e := 5) (size := 1) (n := 288) (by repeat (first | apply List.Mem.head | apply List.Mem.tail))) rfl rfl gL rfl)) ?_) | (first | (refine sx ?_; try intro _)))
      refine QO_call Try.call93 rfl rfl fun w hw => (Bits5_c (fxC.getD s 0) xl ⟨f4, f6⟩ (by omega) w hw).mono ?_
      rintro e w' ⟨qb, db, rfl, hw'⟩
      refine ⟨_, rfl, _, hw', .inl fun w hw => St.sub (by repeat (first | exact List.Sublist.refl _ | apply List.Sublist.cons_cons | apply List.Sublist.cons)) hw, ?_⟩
      clear hw' hw w w'
      repeat (first | apply hIx 12 | (apply gQO; (refine QO_e (E_appendB (tb := tb) rfl rfl rfl rfl rfl rfl (by repeat (first | exact Sel.here _ _ | apply Sel.there)) (by first | exact vec_rd (by repeat (first | apply List.Mem.head | apply List.Mem.tail)) | assumption | exact ArgRd.rd (by assumption) _ | (apply Rd_weak; assumption; intro _ hx; exact St.sub (by repeat (first | exact List.Sublist.refl _ | apply List.Sublist.cons_cons | apply List.Sublist.cons)) hx)) (by simp only [ints_len, List.length_cons, List.length_nil]; first | omega | rfl) (by first | exact ints_one | (repeat (first | exact trivial | refine ⟨rfl, ?_⟩))) (by omega) (by omega) rfl) rfl (.inr fun _ _ hw => vecB_back (by repeat (first | exact Sel.here _ _ | apply Sel.there)) hw) ?_; intro _)) | (first | (refine sx ?_; try intro _)))
      refine Hold.go ?_
      rename_i pc
      refine JS_H (fun w hw => vecB_fwd (Sel.there _ _ _ _ (Sel.here _ _)) hw) ?_
      rw [ints_app]
      have l1 : (O ++ bms (fxC.getD s 0) xl).length = o + xl := by rw [List.length_append, ho, hbl]
      repeat (first | (refine sx ?_; try intro _))
      refine JO_call Try.call95 rfl rfl fun w hw => (Group4_c r nb ⟨a4, r1⟩ (by omega) (by omega) w hw).mono ?_
      rintro e w' ⟨qg, dg, rfl, hw'⟩
      refine ⟨_, rfl, _, hw', ?_⟩
      clear hw' hw w w'
      repeat (first | (apply gJO; (refine JO_app (tb := tb) rfl rfl rfl rfl rfl rfl (by repeat (first | exact Sel.here _ _ | apply Sel.there)) (by first | exact vec_rd (by repeat (first | apply List.Mem.head | apply List.Mem.tail)) | assumption | exact ArgRd.rd (by assumption) _ | (apply Rd_weak; assumption; intro _ hx; exact St.sub (by repeat (first | exact List.Sublist.refl _ | apply List.Sublist.cons_cons | apply List.Sublist.cons)) hx)) (by simp only [ints_len, List.length_cons, List.length_nil]; first | omega | rfl) (by first | exact ints_one | (repeat (first | exact trivial | refine ⟨rfl, ?_⟩))) (by omega) rfl ?_; intro _ _)) | (apply gJO; refine JO_v (oL (V_loadC (tb := tb) rfl (vec_rd (e := 79) (size := 3) (by repeat (first | apply List.Mem.head | apply List.Mem.tail))) rfl rfl g2 rfl)) ?_) | (first | (refine sx ?_; try intro _)))
      rename_i qh dh
      rw [ints_app]
      have l2 : (O ++ bms (fxC.getD s 0) xl ++ grp r nb).length = o + xl + nb := by rw [List.length_append, l1, hgl]
      refine JO_call Try.call96 rfl rfl fun w hw => (RSpan_c k (by omega) w hw).mono ?_
      rw [e2]
      dsimp only
      rintro e w' ⟨rfl, hw'⟩
      refine ⟨_, rfl, _, hw', ?_⟩
      clear hw' hw w w'
      repeat (first | (refine sx ?_; try intro _))
      refine JO_call Try.call93 rfl rfl fun w hw => (Bits5_c s' 5 (by omega) (by omega) w hw).mono ?_
      rintro e w' ⟨qi, di, rfl, hw'⟩
      refine ⟨_, rfl, _, hw', ?_⟩
      clear hw' hw w w'
      repeat (first | (apply gJO; (refine JO_app (tb := tb) rfl rfl rfl rfl rfl rfl (by repeat (first | exact Sel.here _ _ | apply Sel.there)) (by first | exact vec_rd (by repeat (first | apply List.Mem.head | apply List.Mem.tail)) | assumption | exact ArgRd.rd (by assumption) _ | (apply Rd_weak; assumption; intro _ hx; exact St.sub (by repeat (first | exact List.Sublist.refl _ | apply List.Sublist.cons_cons | apply List.Sublist.cons)) hx)) (by simp only [ints_len, List.length_cons, List.length_nil]; first | omega | rfl) (by first | exact ints_one | (repeat (first | exact trivial | refine ⟨rfl, ?_⟩))) (by omega) rfl ?_; intro _ _)) | (first | (refine sx ?_; try intro _)))
      rename_i qj dj
      rw [ints_app]
      have l3 : (O ++ bms (fxC.getD s 0) xl ++ grp r nb ++ bms s' 5).length = o + xl + nb + 5 := by rw [List.length_append, l2, hbl2]
      refine JO_call Try.call95 rfl rfl fun w hw => (Group4_c r' nb' ⟨c4, r2⟩ (by omega) (by omega) w hw).mono ?_
      rintro e w' ⟨qk, dk, rfl, hw'⟩
      refine ⟨_, rfl, _, hw', ?_⟩
      clear hw' hw w w'
      repeat (first | (apply gJO; (refine JO_app (tb := tb) rfl rfl rfl rfl rfl rfl (by repeat (first | exact Sel.here _ _ | apply Sel.there)) (by first | exact vec_rd (by repeat (first | apply List.Mem.head | apply List.Mem.tail)) | assumption | exact ArgRd.rd (by assumption) _ | (apply Rd_weak; assumption; intro _ hx; exact St.sub (by repeat (first | exact List.Sublist.refl _ | apply List.Sublist.cons_cons | apply List.Sublist.cons)) hx)) (by simp only [ints_len, List.length_cons, List.length_nil]; first | omega | rfl) (by first | exact ints_one | (repeat (first | exact trivial | refine ⟨rfl, ?_⟩))) (by omega) rfl ?_; intro _ _)) | (first | (refine sx ?_; try intro _)))
      rename_i qm dm
      rw [ints_app]
      have l4 : (O ++ bms (fxC.getD s 0) xl ++ grp r nb ++ bms s' 5 ++ grp r' nb').length = o + xl + nb + 5 + nb' := by rw [List.length_append, l3, hgl2]
      have ea : O ++ (bms (fxC.getD s 0) xl ++ grp r nb ++ bms s' 5 ++ grp r' nb') = O ++ bms (fxC.getD s 0) xl ++ grp r nb ++ bms s' 5 ++ grp r' nb' := by simp only [List.append_assoc]
      rw [ea] at hO2 hO3
      exact JS_again4 again (i + 1) (O ++ bms (fxC.getD s 0) xl ++ grp r nb ++ bms s' 5 ++ grp r' nb') qm dm ⟨by omega, hO2, hO3⟩ (by omega) (by rw [l4]; exact (by repeat (first | exact trivial | refine ⟨rfl, ?_⟩ | refine ⟨lookI rfl (by omega), ?_⟩))) (fun w hw => by rw [l4]; exact St.sub (by repeat (first | exact List.Sublist.refl _ | apply List.Sublist.cons_cons | apply List.Sublist.cons)) hw)
  · obtain rfl : i = l.length := by omega
    clear again
    rw [List.take_length] at hO
    obtain ⟨xl, f1, f2, f3, f4, f5, f6, f7⟩ := fx_bits 256 (by omega)
    have gC : (ints .u32 fxC)[256]? = some (.int .u32 (fxC.getD 256 0)) := ints_get (by rw [fxC_len]; omega)
    have gL : (ints .u8 fxB)[256]? = some (.int .u8 xl) := by rw [← f1]; exact ints_get (by rw [fxB_len]; omega)
    have hbl := bms_ln (fxC.getD 256 0) xl
    have hO2 : O ++ bms (fxC.getD 256 0) xl = fixL B := by rw [← f7, hO, hfix]
    obtain ⟨o, ho⟩ : ∃ o, O.length = o := ⟨_, rfl⟩
    rw [ho] at hOl ⊢
    have hln : (fixL B).length = o + xl := by rw [← hO2, List.length_append, ho, hbl]
    repeat (first | (apply gQO; refine QO_v rfl (oL (V_loadC (tb := tb) rfl (vec_rd (e := 91) (size := 1) (by repeat (first | apply List.Mem.head | apply List.Mem.tail))) rfl rfl gC rfl)) ?_) | (apply gQO; refine QO_v rfl (oL (V_loadC (tb := tb) rfl (vec_rd (e := 5) (size := 1) (n := 288) (by repeat (first | apply List.Mem.head | apply List.Mem.tail))) rfl rfl gL rfl)) ?_) | (first | (refine sx ?_; try intro _)))
    refine QO_call Try.call93 rfl rfl fun w hw => (Bits5_c (fxC.getD 256 0) xl ⟨f4, f6⟩ (by omega) w hw).mono ?_
    rintro e w' ⟨qb, db, rfl, hw'⟩
    refine ⟨_, rfl, _, hw', .inl fun w hw => St.sub (by repeat (first | exact List.Sublist.refl _ | apply List.Sublist.cons_cons | apply List.Sublist.cons)) hw, ?_⟩
    clear hw' hw w w'
    repeat (first | apply hIx 17 | (apply gQO; (refine QO_e (E_appendB (tb := tb) rfl rfl rfl rfl rfl rfl (by repeat (first | exact Sel.here _ _ | apply Sel.there)) (by first | exact vec_rd (by repeat (first | apply List.Mem.head | apply List.Mem.tail)) | assumption | exact ArgRd.rd (by assumption) _ | (apply Rd_weak; assumption; intro _ hx; exact St.sub (by repeat (first | exact List.Sublist.refl _ | apply List.Sublist.cons_cons | apply List.Sublist.cons)) hx)) (by simp only [ints_len, List.length_cons, List.length_nil]; first | omega | rfl) (by first | exact ints_one | (repeat (first | exact trivial | refine ⟨rfl, ?_⟩))) (by omega) (by omega) rfl) rfl (.inr fun _ _ hw => vecB_back (by repeat (first | exact Sel.here _ _ | apply Sel.there)) hw) ?_; intro _)) | (first | (refine sx ?_; try intro _)))
    refine Hold.go ?_
    rename_i pc
    refine JS_H (fun w hw => vecB_fwd (Sel.there _ _ _ _ (Sel.here _ _)) hw) ?_
    rw [ints_app, hO2]
    repeat (first | (refine sx ?_; try intro _))
    refine JO_call Try.call97 rfl rfl fun w hw => (RBytes_c pc.1 pc.2 (o + xl) (fixL B) (vec_rd (by repeat (first | apply List.Mem.head | apply List.Mem.tail))) hln (fixL_01 B) (by omega) w hw).mono ?_
    rintro e w' ⟨q4, d4, rfl, hw'⟩
    refine ⟨_, rfl, _, hw', ?_⟩
    clear hw' hw w w'
    repeat (first | (refine sx ?_; try intro _))
    refine JS_ret Try.func58 rfl rfl fun w hw => ⟨q4, d4, rfl, St.sub (by repeat (first | exact List.Sublist.refl _ | apply List.Sublist.cons_cons | apply List.Sublist.cons)) hw⟩
end
end Go.Proofs.Ytbiocgenbgbfpaa

namespace Go.Proofs.Ytbiocgenbgbfpaa
open Sx Go
set_option linter.unusedVariables false
set_option linter.unusedSimpArgs false
attribute [local irreducible] syA
/-! ## bytes in stored blocks -/
theorem nbt_app (bt : Nat → Int) (a c : Nat) : ∀ d, nbt bt a (c + d) = nbt bt a c + nbt bt (a + c) d * 2 ^ c
  | 0 => by simp [nbt]
  | d + 1 => by
    rw [← Nat.add_assoc, nbt, nbt_app bt a c d, nbt, show a + (c + d) = a + c + d by omega, Int.pow_add, Int.add_mul, Int.add_assoc, Int.mul_assoc, Int.mul_comm (2 ^ d) (2 ^ c)]
theorem nbt_16 (B : List Int) (hB : OKB B) (j : Nat) : nbt (bitB B 0) (8 * j) 16 = B.getD j 0 + 256 * B.getD (j + 1) 0 := by
  rw [show (16 : Nat) = 8 + 8 from rfl, nbt_app, nbt_byte B hB j, show 8 * j + 8 = 8 * (j + 1) by omega, nbt_byte B hB (j + 1)]
  have : (2 : Int) ^ 8 = 256 := by decide
  rw [this]; omega
theorem nbt_hd (B : List Int) (hB : OKB B) (j : Nat) : nbt (bitB B 0) (8 * j) 1 = B.getD j 0 % 2 ∧ nbt (bitB B 0) (8 * j + 1) 2 = B.getD j 0 / 2 % 4 := by
  have h := hB j
  simp only [nbt, bitB, Nat.zero_add]
  have e : ∀ t, t < 8 → (8 * j + t) / 8 = j ∧ (8 * j + t) % 8 = t := fun t ht => by omega
  rw [(e 0 (by omega)).1, (e 0 (by omega)).2, show 8 * j + 1 + 0 = 8 * j + 1 from rfl, show 8 * j + 1 + 1 = 8 * j + 2 from rfl, (e 1 (by omega)).1, (e 1 (by omega)).2, (e 2 (by omega)).1, (e 2 (by omega)).2]
  simp only [Int.reducePow]
  omega
/-- a stored block that is not the last one -/
def stb (X : List Int) : List Int := [0, (X.length : Int) % 256, (X.length : Int) / 256, 255 - (X.length : Int) % 256, 255 - (X.length : Int) / 256] ++ X
def stbs : List (List Int) → List Int
  | [] => []
  | X :: r => stb X ++ stbs r
def alls : List (List Int) → List Int
  | [] => []
  | X :: r => X ++ alls r
theorem getD_app_r {A C : List Int} {k : Nat} : (A ++ C).getD (A.length + k) 0 = C.getD k 0 := by
  rw [List.getD_eq_getElem?_getD, List.getElem?_append_right (by omega), ← List.getD_eq_getElem?_getD]
  congr 1; omega
theorem stb_len (X : List Int) : (stb X).length = 5 + X.length := by simp [stb]; omega
theorem sto_step {P X S : List Int} {lim : Nat} {o : List Int} (hB : OKB (P ++ (stb X ++ S))) (hX : X.length ≤ 2000) (hl : o.length + X.length ≤ lim) :
    rdF (bitB (P ++ (stb X ++ S)) 0) (8 * (P ++ (stb X ++ S)).length) lim (8 * P.length) o = .go (8 * (P.length + (5 + X.length))) (o ++ X) := by
  obtain ⟨B, hBe⟩ : ∃ B, P ++ (stb X ++ S) = B := ⟨_, rfl⟩
  have hlen : B.length = P.length + (5 + X.length) + S.length := by rw [← hBe]; simp only [List.length_append, stb_len]; omega
  have g : ∀ k, k < 5 → B.getD (P.length + k) 0 = (stb X).getD k 0 := by
    intro k hk
    rw [← hBe, getD_app_r, List.getD_eq_getElem?_getD, List.getElem?_append_left (by rw [stb_len]; omega), ← List.getD_eq_getElem?_getD]
  have g0 : B.getD P.length 0 = 0 := by have := g 0 (by omega); simpa [stb] using this
  have g1 : B.getD (P.length + 1) 0 = (X.length : Int) % 256 := by rw [g 1 (by omega)]; simp [stb]
  have g2 : B.getD (P.length + 2) 0 = (X.length : Int) / 256 := by rw [g 2 (by omega)]; simp [stb]
  have g3 : B.getD (P.length + 3) 0 = 255 - (X.length : Int) % 256 := by rw [g 3 (by omega)]; simp [stb]
  have g4 : B.getD (P.length + 4) 0 = 255 - (X.length : Int) / 256 := by rw [g 4 (by omega)]; simp [stb]
  rw [hBe] at hB ⊢
  have hrow : (B.drop (P.length + 5)).take X.length = X := by
    rw [← hBe, ← List.drop_drop, List.drop_left]
    unfold stb
    rw [List.append_assoc, List.drop_append_of_le_length (by simp)]
    simp
  obtain ⟨h1, h2⟩ := nbt_hd B hB P.length
  have hu : upto8 (8 * P.length + 3) = 8 * (P.length + 1) := by unfold upto8; omega
  have n1 : nbt (bitB B 0) (8 * (P.length + 1)) 16 = X.length := by rw [nbt_16 B hB, g1, show P.length + 1 + 1 = P.length + 2 from rfl, g2]; omega
  have n2 : nbt (bitB B 0) (8 * (P.length + 1) + 16) 16 = 65535 - X.length := by rw [show 8 * (P.length + 1) + 16 = 8 * (P.length + 3) by omega, nbt_16 B hB, g3, show P.length + 3 + 1 = P.length + 4 from rfl, g4]; omega
  have hby : byts (bitB B 0) (8 * (P.length + 1) + 32) X.length = X := by
    rw [show 8 * (P.length + 1) + 32 = 8 * (P.length + 5) by omega, byts_eq B hB _ _ (by omega), hrow]
  have hk : kndF (bitB B 0) (8 * B.length) lim 0 (8 * P.length + 3) o = .ok (8 * (P.length + (5 + X.length))) (o ++ X) := by
    unfold kndF
    rw [if_pos rfl]
    unfold stoF
    rw [hu, n1, n2, if_neg (by omega), if_neg (by omega), if_neg (by omega), if_neg (by omega), if_neg (by omega), Int.toNat_natCast, hby]
    congr 1; omega
  unfold rdF
  rw [if_neg (by omega), if_neg (by omega), h1, h2, g0, show (0 : Int) / 2 % 4 = 0 by decide, hk]
  simp only
  rw [if_pos (by decide)]
theorem fix_end {P S : List Int} {lim : Nat} {o : List Int} (hB : OKB (P ++ (3 :: 0 :: S))) :
    rdF (bitB (P ++ (3 :: 0 :: S)) 0) (8 * (P ++ (3 :: 0 :: S)).length) lim (8 * P.length) o = .stop (8 * P.length + 10) o := by
  obtain ⟨B, hBe⟩ : ∃ B, P ++ (3 :: 0 :: S) = B := ⟨_, rfl⟩
  have hlen : B.length = P.length + 2 + S.length := by rw [← hBe]; simp; omega
  have g0 : B.getD P.length 0 = 3 := by have := getD_app_r (A := P) (C := 3 :: 0 :: S) (k := 0); rw [hBe] at this; simpa using this
  have g1 : B.getD (P.length + 1) 0 = 0 := by have := getD_app_r (A := P) (C := 3 :: 0 :: S) (k := 1); rw [hBe] at this; simpa using this
  rw [hBe] at hB ⊢
  obtain ⟨h1, h2⟩ := nbt_hd B hB P.length
  have hbits : ∀ j, j < 7 → bitB B 0 (8 * P.length + 3 + j) = 0 := by
    intro j hj
    unfold bitB
    rw [Nat.zero_add]
    rcases Nat.lt_or_ge j 5 with h | h
    · rw [show (8 * P.length + 3 + j) / 8 = P.length by omega, show (8 * P.length + 3 + j) % 8 = 3 + j by omega, g0]
      have : ∀ j : Fin 5, (3 : Int) / 2 ^ (3 + j.val) % 2 = 0 := by decide
      exact this ⟨j, h⟩
    · rw [show (8 * P.length + 3 + j) / 8 = P.length + 1 by omega, g1]; simp
  have hbv : bval (fun j => bitB B 0 (8 * P.length + 3 + j)) 7 = 0 := by
    simp only [bval]
    rw [hbits 0 (by omega), hbits 1 (by omega), hbits 2 (by omega), hbits 3 (by omega), hbits 4 (by omega), hbits 5 (by omega), hbits 6 (by omega)]
    decide
  have hsy : symS (bitB B 0) (8 * B.length) (tab 288 fixF) (8 * P.length + 3) = .ok 256 (8 * P.length + 10) := by
    have h := symS_of (bt := bitB B 0) (N := 8 * B.length) (a := 8 * P.length + 3) fix_okb fix_okl (bitB_01 _ _) (i := 256) (u := 7) (r := 0)
      (.inl ⟨256, rfl, rfl, ⟨7, by decide +kernel, by decide, by decide +kernel, by omega, by rw [hbv]; decide +kernel⟩, by decide +kernel⟩)
    rw [if_pos rfl] at h
    exact h
  have hb : blkF (bitB B 0) (8 * B.length) lim (tab 288 fixF) (List.replicate 32 5) (8 * P.length + 3) o = .stop (8 * P.length + 10) o := by
    unfold blkF; rw [hsy]; rfl
  have hk : kndF (bitB B 0) (8 * B.length) lim 1 (8 * P.length + 3) o = .ok (8 * P.length + 10) o := itF_of (.stop hb)
  unfold rdF
  rw [if_neg (by omega), if_neg (by omega), h1, h2, g0, show (3 : Int) / 2 % 4 = 1 by decide, hk]
  simp only
  rw [if_neg (by decide)]
theorem stored_It {lim : Nat} {S : List Int} : ∀ (R : List (List Int)) (P o : List Int), OKB (P ++ (stbs R ++ (3 :: 0 :: S))) → (∀ X ∈ R, X.length ≤ 2000) → o.length + (alls R).length ≤ lim →
    It (rdF (bitB (P ++ (stbs R ++ (3 :: 0 :: S))) 0) (8 * (P ++ (stbs R ++ (3 :: 0 :: S))).length) lim) (8 * P.length) o (.ok (8 * (P.length + (stbs R).length) + 10) (o ++ alls R))
  | [], P, o, hB, _, _ => by
    simp only [stbs, alls, List.nil_append, List.append_nil, List.length_nil, Nat.add_zero] at hB ⊢
    exact .stop (fix_end hB)
  | X :: R, P, o, hB, hR, hl => by
    simp only [stbs, alls, List.append_assoc] at hB hl ⊢
    have hX := hR X (by simp)
    rw [List.length_append] at hl
    have h1 := sto_step (P := P) (X := X) (S := stbs R ++ (3 :: 0 :: S)) (o := o) (lim := lim) hB hX (by omega)
    have h2 := stored_It (S := S) (lim := lim) R (P ++ stb X) (o ++ X) (by rw [List.append_assoc]; exact hB) (fun Y hY => hR Y (by simp [hY])) (by rw [List.length_append]; omega)
    have e0 : (P ++ stb X).length = P.length + (5 + X.length) := by rw [List.length_append, stb_len]
    have e1 : P ++ stb X ++ (stbs R ++ 3 :: 0 :: S) = P ++ (stb X ++ (stbs R ++ 3 :: 0 :: S)) := List.append_assoc ..
    have e2 : o ++ X ++ alls R = o ++ (X ++ alls R) := List.append_assoc ..
    rw [e0, e1, e2] at h2
    refine .go h1 ?_
    have e : P.length + (stb X ++ stbs R).length = P.length + (5 + X.length) + (stbs R).length := by rw [List.length_append, stb_len]; omega
    rw [e]
    exact h2
theorem ALLR_stored {R : List (List Int)} {lim : Nat} (hB : OKB (stbs R ++ [3, 0])) (hR : ∀ X ∈ R, X.length ≤ 2000) (hl : (alls R).length ≤ lim) : ALLR (stbs R ++ [3, 0]) lim (.ok (8 * (stbs R).length + 10) (alls R)) := by
  have := stored_It (lim := lim) (S := []) R [] [] (by simpa using hB) hR (by simpa using hl)
  have e : 8 * (([] : List Int).length + (stbs R).length) + 10 = 8 * (stbs R).length + 10 := by simp
  rw [e] at this
  unfold ALLR
  exact this
/-- a stored block of nothing, with any check -/
theorem ALLR_spoil (s : Nat) (hs : s < 65536) : ALLR [1, 0, 0, ((s % 256 : Nat) : Int), ((s / 256 : Nat) : Int)] 9 (if s = 65535 then .ok 40 [] else .err 61) := by
  obtain ⟨B, hBe⟩ : ∃ B : List Int, [1, 0, 0, ((s % 256 : Nat) : Int), ((s / 256 : Nat) : Int)] = B := ⟨_, rfl⟩
  have hB : OKB B := by
    intro j
    rw [← hBe]
    rcases (show j = 0 ∨ j = 1 ∨ j = 2 ∨ j = 3 ∨ j = 4 ∨ 5 ≤ j by omega) with rfl | rfl | rfl | rfl | rfl | h
    · simp
    · simp
    · simp
    · simp; omega
    · simp; omega
    · rw [List.getD_eq_getElem?_getD, List.getElem?_eq_none (by simp; omega)]; simp
  have g0 : B.getD 0 0 = 1 := by rw [← hBe]; rfl
  have g1 : B.getD 1 0 = 0 := by rw [← hBe]; rfl
  have g2 : B.getD 2 0 = 0 := by rw [← hBe]; rfl
  have g3 : B.getD 3 0 = ((s % 256 : Nat) : Int) := by rw [← hBe]; rfl
  have g4 : B.getD 4 0 = ((s / 256 : Nat) : Int) := by rw [← hBe]; rfl
  have hlen : B.length = 5 := by rw [← hBe]; rfl
  rw [hBe]
  obtain ⟨h1, h2⟩ := nbt_hd B hB 0
  have n1 : nbt (bitB B 0) 8 16 = 0 := by have := nbt_16 B hB 1; rw [g1, g2] at this; exact this
  have n2 : nbt (bitB B 0) 24 16 = s := by have := nbt_16 B hB 3; rw [g3, g4] at this; rw [show (24 : Nat) = 8 * 3 from rfl, this]; omega
  have hk : kndF (bitB B 0) 40 9 0 3 [] = if s = 65535 then .ok 40 [] else .err 61 := by
    unfold kndF
    rw [if_pos rfl]
    unfold stoF
    rw [show upto8 3 = 8 from rfl, show (8 : Nat) + 16 = 24 from rfl, n1, n2, if_neg (by omega), if_neg (by omega)]
    by_cases h : s = 65535
    · rw [if_neg (by omega), if_neg (by simp), if_neg (by omega), if_pos h]; rfl
    · rw [if_pos (by omega), if_neg h]
  have hr : rdF (bitB B 0) 40 9 0 [] = if s = 65535 then .stop 40 [] else .err 61 := by
    unfold rdF
    rw [if_neg (by omega), if_neg (by omega), show (0 : Nat) = 8 * 0 from rfl, h1, h2, g0, show (1 : Int) / 2 % 4 = 0 by decide, show 8 * 0 + 3 = 3 from rfl, hk]
    by_cases h : s = 65535
    · rw [if_pos h, if_pos h]; simp
    · rw [if_neg h, if_neg h]
  unfold ALLR
  rw [hlen]
  by_cases h : s = 65535
  · rw [if_pos h] at hr ⊢; exact .stop hr
  · rw [if_neg h] at hr ⊢; exact .err hr
end Go.Proofs.Ytbiocgenbgbfpaa

set_option linter.unusedVariables false
set_option linter.unusedSimpArgs false
namespace Go.Proofs.Ytbiocgenbgbfpaa
open Sx Go
attribute [local irreducible] syA
/-! ## stored blocks are read as they are -/
theorem hd5_len (la n : Int) : (hd5 la n).length = 5 := rfl
theorem sto_stepL {P X S : List Int} {lim : Nat} {o : List Int} {la : Int} (hla : la = 0 ∨ la = 1) (hB : OKB (P ++ (hd5 la X.length ++ X ++ S))) (hX : X.length ≤ 65535) (hl : o.length + X.length ≤ lim) :
    rdF (bitB (P ++ (hd5 la X.length ++ X ++ S)) 0) (8 * (P ++ (hd5 la X.length ++ X ++ S)).length) lim (8 * P.length) o = if la = 0 then .go (8 * (P.length + (5 + X.length))) (o ++ X) else .stop (8 * (P.length + (5 + X.length))) (o ++ X) := by
  obtain ⟨B, hBe⟩ : ∃ B, P ++ (hd5 la X.length ++ X ++ S) = B := ⟨_, rfl⟩
  have hlen : B.length = P.length + (5 + X.length) + S.length := by rw [← hBe]; simp only [List.length_append, hd5_len]; omega
  have g : ∀ k, k < 5 → B.getD (P.length + k) 0 = (hd5 la X.length).getD k 0 := by
    intro k hk
    rw [← hBe, getD_app_r, List.append_assoc, List.getD_eq_getElem?_getD, List.getElem?_append_left (by rw [hd5_len]; omega), ← List.getD_eq_getElem?_getD]
  have g0 : B.getD P.length 0 = la := by have := g 0 (by omega); simpa [hd5] using this
  have g1 : B.getD (P.length + 1) 0 = (X.length : Int) % 256 := by rw [g 1 (by omega)]; simp [hd5]
  have g2 : B.getD (P.length + 2) 0 = (X.length : Int) / 256 := by rw [g 2 (by omega)]; simp [hd5]
  have g3 : B.getD (P.length + 3) 0 = 255 - (X.length : Int) % 256 := by rw [g 3 (by omega)]; simp [hd5]
  have g4 : B.getD (P.length + 4) 0 = 255 - (X.length : Int) / 256 := by rw [g 4 (by omega)]; simp [hd5]
  rw [hBe] at hB ⊢
  have hrow : (B.drop (P.length + 5)).take X.length = X := by
    rw [← hBe, ← List.drop_drop, List.drop_left, List.append_assoc, show (5 : Nat) = (hd5 la X.length).length from rfl, List.drop_left, List.take_left]
  obtain ⟨h1, h2⟩ := nbt_hd B hB P.length
  have hu : upto8 (8 * P.length + 3) = 8 * (P.length + 1) := by unfold upto8; omega
  have n1 : nbt (bitB B 0) (8 * (P.length + 1)) 16 = X.length := by rw [nbt_16 B hB, g1, show P.length + 1 + 1 = P.length + 2 from rfl, g2]; omega
  have n2 : nbt (bitB B 0) (8 * (P.length + 1) + 16) 16 = 65535 - X.length := by rw [show 8 * (P.length + 1) + 16 = 8 * (P.length + 3) by omega, nbt_16 B hB, g3, show P.length + 3 + 1 = P.length + 4 from rfl, g4]; omega
  have hby : byts (bitB B 0) (8 * (P.length + 1) + 32) X.length = X := by
    rw [show 8 * (P.length + 1) + 32 = 8 * (P.length + 5) by omega, byts_eq B hB _ _ (by omega), hrow]
  have hk : kndF (bitB B 0) (8 * B.length) lim 0 (8 * P.length + 3) o = .ok (8 * (P.length + (5 + X.length))) (o ++ X) := by
    unfold kndF
    rw [if_pos rfl]
    unfold stoF
    rw [hu, n1, n2, if_neg (by omega), if_neg (by omega), if_neg (by omega), if_neg (by omega), if_neg (by omega), Int.toNat_natCast, hby]
    congr 1; omega
  unfold rdF
  have hla2 : la / 2 % 4 = 0 := by omega
  rw [if_neg (by omega), if_neg (by omega), h1, h2, g0, hla2, hk]
  simp only
  rcases hla with rfl | rfl
  · rw [if_pos (by decide), if_pos rfl]
  · rw [if_neg (by decide), if_neg (by decide)]
theorem sb_len : ∀ f X, X.length < f → (sb f X).length = X.length + 5 * (if X.length ≤ 65535 then 1 else 1 + (X.length - 1) / 65535) := by
  intro f
  induction f with
  | zero => intro X h; omega
  | succ f ih =>
    intro X h
    rw [sb]
    split
    · rw [List.length_append, hd5_len]; omega
    · have := ih (X.drop 65535) (by rw [List.length_drop]; omega)
      rw [List.length_append, List.length_append, hd5_len, List.length_take, this, List.length_drop]
      split <;> omega
theorem stored_ItL {lim : Nat} {S : List Int} : ∀ (f : Nat) (X P o : List Int), X.length < f → OKB (P ++ (sb f X ++ S)) → o.length + X.length ≤ lim →
    It (rdF (bitB (P ++ (sb f X ++ S)) 0) (8 * (P ++ (sb f X ++ S)).length) lim) (8 * P.length) o (.ok (8 * (P.length + (sb f X).length)) (o ++ X))
  | 0, X, P, o, h, _, _ => absurd h (by omega)
  | f + 1, X, P, o, h, hB, hl => by
    rw [sb] at hB ⊢
    by_cases hX : X.length ≤ 65535
    · rw [if_pos hX] at hB ⊢
      have h1 := sto_stepL (P := P) (X := X) (S := S) (o := o) (lim := lim) (.inr rfl) hB hX hl
      rw [if_neg (by decide)] at h1
      have e : P.length + (hd5 1 X.length ++ X).length = P.length + (5 + X.length) := by rw [List.length_append, hd5_len]
      rw [e]
      exact .stop h1
    · rw [if_neg hX] at hB ⊢
      have ht : (X.take 65535).length = 65535 := by rw [List.length_take]; omega
      have hd : (X.drop 65535).length = X.length - 65535 := List.length_drop ..
      have e0 : P ++ (hd5 0 65535 ++ X.take 65535 ++ sb f (X.drop 65535) ++ S) = P ++ (hd5 0 (X.take 65535).length ++ X.take 65535 ++ (sb f (X.drop 65535) ++ S)) := by
        rw [ht]; simp only [List.append_assoc]; rfl
      have e1 : P ++ (hd5 0 (X.take 65535).length ++ X.take 65535 ++ (sb f (X.drop 65535) ++ S)) = (P ++ (hd5 0 65535 ++ X.take 65535)) ++ (sb f (X.drop 65535) ++ S) := by
        rw [ht]; simp only [List.append_assoc]; rfl
      rw [e0] at hB ⊢
      have h1 := sto_stepL (P := P) (X := X.take 65535) (S := sb f (X.drop 65535) ++ S) (o := o) (lim := lim) (.inl rfl) hB (by omega) (by omega)
      rw [if_pos rfl] at h1
      have h2 := stored_ItL (S := S) (lim := lim) f (X.drop 65535) (P ++ (hd5 0 65535 ++ X.take 65535)) (o ++ X.take 65535) (by omega) (by rw [← e1]; exact hB) (by rw [List.length_append]; omega)
      rw [← e1] at h2
      have e2 : (P ++ (hd5 0 65535 ++ X.take 65535)).length = P.length + (5 + (X.take 65535).length) := by rw [List.length_append, List.length_append, hd5_len]
      have e3 : o ++ X.take 65535 ++ X.drop 65535 = o ++ X := by rw [List.append_assoc, List.take_append_drop]
      rw [e2, e3] at h2
      refine .go h1 ?_
      have e4 : P.length + (hd5 0 65535 ++ X.take 65535 ++ sb f (X.drop 65535)).length = P.length + (5 + (X.take 65535).length) + (sb f (X.drop 65535)).length := by
        rw [List.length_append, List.length_append, hd5_len]; omega
      rw [e4]
      exact h2
/-- what was written in stored blocks, whatever stands behind -/
theorem ALLR_sbs {X S : List Int} {lim : Nat} (hB : OKB (sbs X ++ S)) (hl : X.length ≤ lim) : ALLR (sbs X ++ S) lim (.ok (8 * (sbs X).length) X) := by
  have := stored_ItL (S := S) (lim := lim) (X.length + 1) X [] [] (by omega) (by rw [List.nil_append]; exact hB) (by simpa using hl)
  unfold ALLR
  have e : 8 * (([] : List Int).length + (sb (X.length + 1) X).length) = 8 * (sbs X).length := by simp [sbs]
  rw [e] at this
  exact this
theorem sbs_okb {X : List Int} (hX : OKB X) : OKB (sbs X) := by
  have key : ∀ f X, OKB X → ∀ x ∈ sb f X, 0 ≤ x ∧ x < 256 := by
    intro f
    induction f with
    | zero => intro X _ x hx; rw [sb] at hx; simp at hx
    | succ f ih =>
      intro X hX x hx
      have hmem : ∀ Y : List Int, OKB Y → ∀ y ∈ Y, 0 ≤ y ∧ y < 256 := fun Y hY y hy => by
        obtain ⟨i, hi, rfl⟩ := List.mem_iff_getElem.1 hy
        have := hY i
        rwa [List.getD_eq_getElem?_getD, List.getElem?_eq_getElem hi] at this
      rw [sb] at hx
      split at hx
      · rcases List.mem_append.1 hx with h | h
        · exact hd5_okb (.inr rfl) ⟨by omega, by omega⟩ x h
        · exact hmem X hX x h
      · rcases List.mem_append.1 hx with h | h
        · rcases List.mem_append.1 h with h | h
          · exact hd5_okb (.inl rfl) ⟨by omega, by omega⟩ x h
          · exact hmem X hX x (List.mem_of_mem_take h)
        · exact ih (X.drop 65535) (fun j => by rw [List.getD_eq_getElem?_getD, List.getElem?_drop, ← List.getD_eq_getElem?_getD]; exact hX _) x h
  intro j
  rcases Nat.lt_or_ge j (sbs X).length with h | h
  · rw [List.getD_eq_getElem?_getD, List.getElem?_eq_getElem h]
    exact key _ X hX _ (List.getElem_mem h)
  · rw [List.getD_eq_getElem?_getD, List.getElem?_eq_none h]; decide
end Go.Proofs.Ytbiocgenbgbfpaa

set_option linter.unusedVariables false
set_option linter.unusedSimpArgs false
namespace Go.Proofs.Ytbiocgenbgbfpaa
open Sx Go
/-- a text of at most 300 bytes -/
def txt (B : List Int) (wide : Bool) : List Int := (B.take 300).map fun x => if wide then x else x % 3
theorem txt_okb {B : List Int} (hB : OKB B) (wide : Bool) : OKB (txt B wide) := fun j => by
  unfold txt
  rw [List.getD_eq_getElem?_getD, List.getElem?_map]
  cases h : (B.take 300)[j]? with
  | none => simp
  | some x =>
    have hx : B[j]? = some x := by
      rw [List.getElem?_take] at h
      split at h
      · exact h
      · cases h
    have := hB j
    rw [List.getD_eq_getElem?_getD, hx, Option.getD_some] at this
    rw [Option.map_some, Option.getD_some]
    split <;> omega
theorem txt_len (B : List Int) (wide : Bool) : (txt B wide).length ≤ 300 := by
  unfold txt; rw [List.length_map, List.length_take]; omega
theorem pack_okb' (L : List Int) (hL : ∀ j, L.getD j 0 = 0 ∨ L.getD j 0 = 1) : OKB (pack L) := fun j => by
  unfold pack tab
  rw [List.getD_eq_getElem?_getD, List.getElem?_map]
  rcases Nat.lt_or_ge j ((L.length + 7) / 8) with h | h
  · rw [List.getElem?_range h]; exact byteAt_bd L hL j
  · rw [List.getElem?_eq_none (by simpa using h)]; simp
section
variable {w0 : World} {H : List Asn}
set_option maxRecDepth 10000 in
theorem RBest_c (p : Option Addr) (c m : Nat) (B : List Int) (hr : Rd w0 H (.slice p m c) m (ints .u8 B)) (hm : B.length = m) (hB : OKB B) (h4 : m ≤ 100000) (w : World) (hw : St w0 H w) :
    Calls Try.prog 38 #[.slice p m c] w fun e w' => ∃ q d, e = .returned (.slice q (bestB B).length d) ∧ St w0 (vec 5 1 (.slice q (bestB B).length d) (bestB B).length (ints .u8 (bestB B)) :: H) w' := by
  refine enter (vs := [.slice p m c]) Try.func38 rfl rfl rfl hw ?_
  clear hw w
  repeat (first | (refine sx ?_; try intro _))
  refine JO_call Try.call58 rfl rfl fun w hw => (RFixed8_c p c m B hr hm hB h4 w hw).mono ?_
  rintro e w' ⟨q1, d1, rfl, hw'⟩
  refine ⟨_, rfl, _, hw', ?_⟩
  clear hw' hw w w'
  repeat (first | (refine sx ?_; try intro _))
  refine JO_call Try.call59 rfl rfl fun w hw => (RStored_c p c m B (Rd_weak hr fun w hw => St.sub (by repeat (first | exact List.Sublist.refl _ | apply List.Sublist.cons_cons | apply List.Sublist.cons)) hw) hm hB h4 w hw).mono ?_
  rintro e w' ⟨q2, d2, rfl, hw'⟩
  refine ⟨_, rfl, _, hw', ?_⟩
  clear hw' hw w w'
  unfold bestB
  by_cases hlt : (sbs B).length < (pack (fixL B)).length
  · rw [if_pos hlt]
    repeat (first | (refine sx ?_; try intro _))
    exact JS_ret Try.func38 rfl rfl fun w hw => ⟨q2, d2, rfl, St.sub (by repeat (first | exact List.Sublist.refl _ | apply List.Sublist.cons_cons | apply List.Sublist.cons)) hw⟩
  · rw [if_neg hlt]
    repeat (first | (refine sx ?_; try intro _))
    exact JS_ret Try.func38 rfl rfl fun w hw => ⟨q1, d1, rfl, St.sub (by repeat (first | exact List.Sublist.refl _ | apply List.Sublist.cons_cons | apply List.Sublist.cons)) hw⟩
end
end Go.Proofs.Ytbiocgenbgbfpaa

set_option linter.unusedVariables false
set_option linter.unusedSimpArgs false
namespace Go.Proofs.Ytbiocgenbgbfpaa
open Sx Go
theorem sel_again {H : List Asn} {a : Asn} {F : Asn → List Asn} (h : Sel H a F) (a' : Asn) : Sel (F a') a' F := by
  induction h with
  | here a r => exact Sel.here _ _
  | there y a r F _ ih => exact Sel.there _ _ _ _ ih
theorem OpE.pre {ι : Type} {P : Program} {n : Nat} {D : List Deferred} {w0 : World} {ov : Ov} {H H1 : List Asn} {o : Oper} {v : ι → Value} {H' : ι → List Asn} (hp : ∀ w, St w0 H w → St w0 H1 w) (h : OpE P n D w0 ov H1 o v H') : OpE P n D w0 ov H o v H' :=
  ⟨h.1, fun a w ha hw => h.2 a w ha (hp w hw)⟩
theorem OpE.post {ι : Type} {P : Program} {n : Nat} {D : List Deferred} {w0 : World} {ov : Ov} {H : List Asn} {o : Oper} {v : ι → Value} {H' H2 : ι → List Asn} (h : OpE P n D w0 ov H o v H') (hp : ∀ c w, St w0 (H' c) w → St w0 (H2 c) w) : OpE P n D w0 ov H o v H2 :=
  ⟨h.1, fun a w ha hw => let ⟨c, w', h1, h2⟩ := h.2 a w ha hw; ⟨c, w', h1, hp c w' h2⟩⟩
section
variable {w0 : World} {H : List Asn}
theorem bestB_len {B : List Int} (hB : OKB B) : (bestB B).length ≤ (32 * B.length + 19) / 8 := by
  have h1 := fixL_len hB
  have h2 := pack_len (fixL B)
  unfold bestB; split <;> omega
theorem bestB_pos (B : List Int) : 0 < (bestB B).length := by
  have h1 := sb_len (B.length + 1) B (by omega)
  have h2 := pack_len (fixL B)
  have h3 : 0 < (fixL B).length := by unfold fixL; simp only [List.length_append, grp_len]; omega
  unfold bestB; split
  · show 0 < (sb (B.length + 1) B).length; split at h1 <;> omega
  · omega
/-- the packed bytes -/
def pkB (B : List Int) : List Int := [120, 1] ++ bestB B ++ sb4 (adl B)
set_option maxRecDepth 10000 in
/-- zlib.Pack -/
theorem ZPack_c (p : Option Addr) (c m : Nat) (B : List Int) (hr : Rd w0 H (.slice p m c) m (ints .u8 B)) (hm : B.length = m) (hB : OKB B) (h4 : m ≤ 100000) (w : World) (hw : St w0 H w) :
    Calls Try.prog 20 #[.slice p m c] w fun e w' => ∃ q d, e = .returned (.slice q (pkB B).length d) ∧ St w0 (vec 5 1 (.slice q (pkB B).length d) (pkB B).length (ints .u8 (pkB B)) :: H) w' := by
  refine enter (vs := [.slice p m c]) Try.func20 rfl rfl rfl hw ?_
  clear hw w
  repeat (first | (refine sx ?_; try intro _))
  refine JO_call Try.call36 rfl rfl fun w hw => (ZSum_c p c m B hr hm hB (by omega) w hw).mono ?_
  rintro e w' ⟨rfl, hw'⟩
  refine ⟨_, rfl, _, hw', ?_⟩
  clear hw' hw w w'
  obtain ⟨s, hs⟩ : ∃ s, adl B = s := ⟨_, rfl⟩
  rw [hs]
  repeat (first | apply hIx 2 | first | (refine sx ?_; try intro _))
  refine Hold.go ?_
  refine JS_seq ?_
  refine JS_tree (.node [1, 4] 0 (.leaf [2, 3, 5, 6]) 2 (.leaf [0, 3, 5, 6])) [1] (.node (Picks.cons rfl (Picks.cons rfl (Picks.nil))) rfl (.leaf (Picks.cons rfl (Picks.cons rfl (Picks.cons rfl (Picks.cons rfl (Picks.nil)))))) rfl (.leaf (Picks.cons rfl (Picks.cons rfl (Picks.cons rfl (Picks.cons rfl (Picks.nil))))))) (by kernel_rfl) (by kernel_rfl) rfl (by decide +kernel) ?_
  rename_i b
  refine QR_node ?_
  repeat (first | (apply gQO; refine QO_v rfl (V_sliceP (tb := tb) (lo := 0) (hi := 4) rfl rfl rfl rfl rfl (by rfl) (by rfl) (by omega) rfl) ?_) | first | (refine sx ?_; try intro _))
  have o3 : OKB (bestB B) := by have o1 := pack_okb' (fixL B) (fixL_01 B); have o2 := sbs_okb hB; unfold bestB; split <;> assumption
  have o4 := bestB_pos B
  have o5 := bestB_len hB
  obtain ⟨E, hE⟩ : ∃ E, bestB B = E := ⟨_, rfl⟩
  have hD := fun {H} hr w hw => DBest_c (H := H) (w0 := w0) p c m B hr hm hB h4 w hw
  have hP : pkB B = [120, 1] ++ E ++ sb4 s := by unfold pkB; rw [hE, hs]
  rw [hE] at o3 o4 o5 hD
  have hl : ([120, 1] ++ E ++ sb4 s).length = 2 + E.length + 4 := by simp [sb4]; omega
  rw [hP, hl, ← ints_app]
  refine QR_both ?_ ?_
  · apply QR_un
    (refine QO_e (E_buildSlice (tb := tb) rfl rfl rfl rfl rfl rfl rfl rfl rfl) rfl (.inr fun _ _ hw => St.sub (by repeat (first | exact List.Sublist.refl _ | apply List.Sublist.cons_cons | apply List.Sublist.cons)) hw) ?_; intro _)
    refine QR_leaf ?_
    apply QR_un
    refine QO_call Try.call28 rfl rfl fun w hw => (hD (Rd_weak hr fun w hw => St.sub (by repeat (first | exact List.Sublist.refl _ | apply List.Sublist.cons_cons | apply List.Sublist.cons)) hw) w hw).mono ?_
    rintro e w' ⟨q1, d1, rfl, hw'⟩
    refine ⟨_, rfl, _, hw', .inl fun w hw => St.sub (by repeat (first | exact List.Sublist.refl _ | apply List.Sublist.cons_cons | apply List.Sublist.cons)) hw, ?_⟩
    clear hw' hw w w'
    apply QR_un
    (refine QO_e (E_appendB (tb := tb) rfl rfl rfl rfl rfl rfl (by repeat (first | exact Sel.here _ _ | apply Sel.there)) (by first | exact vec_rd (by repeat (first | apply List.Mem.head | apply List.Mem.tail)) | assumption | exact ArgRd.rd (by assumption) _ | (apply Rd_weak; assumption; intro _ hx; exact St.sub (by repeat (first | exact List.Sublist.refl _ | apply List.Sublist.cons_cons | apply List.Sublist.cons)) hx)) (by simp only [ints_len, List.length_cons, List.length_nil]; first | omega | rfl) (by first | exact ints_one | (repeat (first | exact trivial | refine ⟨rfl, ?_⟩))) (by omega) (by omega) rfl) rfl (.inr fun _ _ hw => vecB_back (by repeat (first | exact Sel.here _ _ | apply Sel.there)) hw) ?_; intro _)
    apply QR_un
    rename_i pc
    (refine QO_e (OpE.post (OpE.pre (H1 := vec 5 1 (.slice pc.1 (2 + E.length) pc.2) (2 + E.length) (ints .u8 ([120, 1] ++ E)) :: blk b [.int .u8 (s / 16777216), .int .u8 (s / 65536 % 256), .int .u8 (s / 256 % 256), .int .u8 (s % 256)] :: H) (fun w hw => by rw [← ints_app]; have g := vecB_fwd (by repeat (first | exact Sel.here _ _ | apply Sel.there)) hw; exact St.sub (by repeat (first | exact List.Sublist.refl _ | apply List.Sublist.cons_cons | apply List.Sublist.cons)) g) (E_appendB (tb := tb) (q := 4) (news := ints .u8 (sb4 s)) rfl rfl rfl rfl rfl rfl (Sel.here _ _) (blk_rd (by repeat (first | apply List.Mem.head | apply List.Mem.tail)) (by omega)) rfl (by first | exact ints_one | (repeat (first | exact trivial | refine ⟨rfl, ?_⟩))) (by omega) (by omega) rfl)) fun c w hw => vecB_fwd (Sel.here _ _) hw) rfl (.inl rfl) ?_; intro _)
    repeat (first | (refine sx ?_; try intro _))
    rename_i pd
    exact JS_ret Try.func20 rfl rfl fun w hw => ⟨pd.1, pd.2, rfl, St.sub (by repeat (first | exact List.Sublist.refl _ | apply List.Sublist.cons_cons | apply List.Sublist.cons)) hw⟩
  · apply QR_un
    refine QO_call Try.call28 rfl rfl fun w hw => (hD (Rd_weak hr fun w hw => St.sub (by repeat (first | exact List.Sublist.refl _ | apply List.Sublist.cons_cons | apply List.Sublist.cons)) hw) w hw).mono ?_
    rintro e w' ⟨q1, d1, rfl, hw'⟩
    refine ⟨_, rfl, _, hw', .inl fun w hw => St.sub (by repeat (first | exact List.Sublist.refl _ | apply List.Sublist.cons_cons | apply List.Sublist.cons)) hw, ?_⟩
    clear hw' hw w w'
    refine QR_leaf ?_
    apply QR_un
    (refine QO_e (E_buildSlice (tb := tb) rfl rfl rfl rfl rfl rfl rfl rfl rfl) rfl (.inr fun _ _ hw => St.sub (by repeat (first | exact List.Sublist.refl _ | apply List.Sublist.cons_cons | apply List.Sublist.cons)) hw) ?_; intro _)
    apply QR_un
    (refine QO_e (E_appendB (tb := tb) rfl rfl rfl rfl rfl rfl (by repeat (first | exact Sel.here _ _ | apply Sel.there)) (by first | exact vec_rd (by repeat (first | apply List.Mem.head | apply List.Mem.tail)) | assumption | exact ArgRd.rd (by assumption) _ | (apply Rd_weak; assumption; intro _ hx; exact St.sub (by repeat (first | exact List.Sublist.refl _ | apply List.Sublist.cons_cons | apply List.Sublist.cons)) hx)) (by simp only [ints_len, List.length_cons, List.length_nil]; first | omega | rfl) (by first | exact ints_one | (repeat (first | exact trivial | refine ⟨rfl, ?_⟩))) (by omega) (by omega) rfl) rfl (.inr fun _ _ hw => vecB_back (by repeat (first | exact Sel.here _ _ | apply Sel.there)) hw) ?_; intro _)
    apply QR_un
    rename_i pc
    (refine QO_e (OpE.post (OpE.pre (H1 := vec 5 1 (.slice pc.1 (2 + E.length) pc.2) (2 + E.length) (ints .u8 ([120, 1] ++ E)) :: blk b [.int .u8 (s / 16777216), .int .u8 (s / 65536 % 256), .int .u8 (s / 256 % 256), .int .u8 (s % 256)] :: H) (fun w hw => by rw [← ints_app]; have g := vecB_fwd (by repeat (first | exact Sel.here _ _ | apply Sel.there)) hw; exact St.sub (by repeat (first | exact List.Sublist.refl _ | apply List.Sublist.cons_cons | apply List.Sublist.cons)) g) (E_appendB (tb := tb) (q := 4) (news := ints .u8 (sb4 s)) rfl rfl rfl rfl rfl rfl (Sel.here _ _) (blk_rd (by repeat (first | apply List.Mem.head | apply List.Mem.tail)) (by omega)) rfl (by first | exact ints_one | (repeat (first | exact trivial | refine ⟨rfl, ?_⟩))) (by omega) (by omega) rfl)) fun c w hw => vecB_fwd (Sel.here _ _) hw) rfl (.inl rfl) ?_; intro _)
    repeat (first | (refine sx ?_; try intro _))
    rename_i pd
    exact JS_ret Try.func20 rfl rfl fun w hw => ⟨pd.1, pd.2, rfl, St.sub (by repeat (first | exact List.Sublist.refl _ | apply List.Sublist.cons_cons | apply List.Sublist.cons)) hw⟩
end
end Go.Proofs.Ytbiocgenbgbfpaa

set_option linter.unusedVariables false
set_option linter.unusedSimpArgs false
namespace Sx
open Go
section
variable {P : Program} {f n : Nat} {R : Ending → World → Prop} {D : List Deferred} {w0 : World} {k : List Item} {ov : Ov} {H H' : List Asn}
  {T : Nat} {pos : String} {af : Array Edge} {v : Value}
/-- recover, and one operation more in its region -/
theorem enterR2 {o2 : Oper} {fn : Func} {id : Nat} {dd : Nat} {rest : Code} {ts : Array Nat} {vs : List Value} {u u' : FrameMode} {w : World} (hf : P.funcs[f]? = some fn) (hb : fn.body = some (.seq (.region id #[⟨some dd, .call ⟨.builtin .recover, #[], ts⟩, T, pos, af, none⟩, o2] false) rest)) (hn : fn.ntmps = n) (hl : Nat.ble vs.length n = true) (hd : Nat.blt dd n = true)
    (hw : St w0 H w) (hu : (u = .returning ∧ v = .nilIface ∧ u' = .returning) ∨ (∃ older, u = .panicking ({ v, recovered := false } :: older) ∧ u' = .panicking ({ v, recovered := true } :: older)))
    (h : JR P f n R [] w0 #[⟨some dd, .call ⟨.builtin .recover, #[], ts⟩, T, pos, af, none⟩, o2] [o2] [.code rest] ((dd, v) :: argsOv 0 vs) H) : CallsD P f vs.toArray u w fun e u2 w' => u2 = u' ∧ R e w' := by
  intro c₀ cs hm
  let b : Frame := { (default : Frame) with fn := f, kind := .deferred }
  have hl' : vs.length ≤ n := Nat.le_of_ble_eq_true hl
  have hd' : dd < n := by rwa [Nat.blt_eq] at hd
  let o : Oper := ⟨some dd, .call ⟨.builtin .recover, #[], ts⟩, T, pos, af, none⟩
  let a0 : Act := { tmps := vs.toArray ++ Array.replicate (fn.ntmps - vs.toArray.size) undef, defers := [] }
  have henter : Frame.enter P f vs.toArray .deferred = b.at a0 [.code (.seq (.region id #[o, o2] false) rest)] := by
    simp [Frame.enter, Frame.at, hf, hb, b, a0, o]
  have hrep : Rep n [] (argsOv 0 vs) a0 := by
    refine ⟨by simp [a0, hn]; omega, rfl, ?_⟩
    intro t v ht
    obtain ⟨_, h2⟩ := look_args vs 0 t v ht
    simp only [Nat.sub_zero] at h2
    have hlt : t < vs.length := (List.getElem?_eq_some_iff.1 h2).1
    simp only [a0]
    rw [Array.getElem?_append_left (by simpa using hlt)]
    simpa using h2
  have hrep' : Rep n [] ((dd, v) :: argsOv 0 vs) (a0.put (some dd) v) := hrep.put (d := some dd) (by simp [dOk, Nat.blt_eq, hd']) v
  have hrec : recoverD (c₀ :: cs) = match u with
      | .returning => none
      | _ => some (v, { c₀ with mode := u' } :: cs) := by
    rcases hu with ⟨rfl, rfl, rfl⟩ | ⟨older, rfl, rfl⟩
    · simp [recoverD, hm]
    · simp [recoverD, hm]
  have hrun : (execOp a0.eval o).run P w = .ok .recover w := by simp [o, execOp, resolve, invoke, builtin]
  have htr : tryRecover (b.at a0 (.inRegion #[o, o2] [0, 1] :: [.code rest])) (c₀ :: cs) = recoverD (c₀ :: cs) := tryRecover_deferred rfl _
  have hfin : ∀ v, (b.at a0 (.inRegion #[o, o2] (0 :: [1]) :: [.code rest])).finish v = b.at (a0.put o.dst v) (.inRegion #[o, o2] [1] :: [.code rest]) := by
    intro v; rw [Frame.finish_at]; rfl
  have hg := stepG_op (P := P) (b := b) (a := a0) (k := [.code rest]) (cs := c₀ :: cs) (w := w) (ops := #[o, o2]) (i := 0) (rest := [1]) (o := o) rfl rfl
  have h1 : step P (lone (b.at a0 [.code (.seq (.region id #[o, o2] false) rest)]) (c₀ :: cs) w) = .next (lone (b.at a0 [.code (.region id #[o, o2] false), .code rest]) (c₀ :: cs) w) := step_seq
  have h2 : step P (lone (b.at a0 [.code (.region id #[o, o2] false), .code rest]) (c₀ :: cs) w) = .next (lone (b.at a0 [.inRegion #[o, o2] [0, 1], .code rest]) (c₀ :: cs) w) := step_region
  have h3 : step P (lone (b.at a0 [.inRegion #[o, o2] [0, 1], .code rest]) (c₀ :: cs) w) = .next (lone (b.at (a0.put (some dd) v) [.inRegion #[o, o2] [1], .code rest]) ({ c₀ with mode := u' } :: cs) w) := by
    refine step_lone_go ?_
    rw [hg]
    have hf' := hfin v
    rcases hu with ⟨rfl, rfl, rfl⟩ | ⟨older, rfl, rfl⟩
    · have hc : ({ c₀ with mode := .returning } : Frame) = c₀ := by rw [← hm]
      rw [hc, ← hf']
      simp only [Frame.at] at htr hrec ⊢
      simp [stepG.apply, hrun, htr, hrec]
    · rw [← hf']
      simp only [Frame.at] at htr hrec ⊢
      simp [stepG.apply, hrun, htr, hrec]
  unfold JR at h; have h := h [1] rfl
  unfold JS J at h
  obtain ⟨e, w', fr, hR, hcm, hfn, hk, hgo⟩ := h _ w hrep' hw b ({ c₀ with mode := u' } :: cs) rfl (.inr rfl)
  rw [henter]
  exact ⟨e, u', w', fr, ⟨rfl, hR⟩, Comes.of_steps (.head h1 (.head h2 (.one h3))) hcm, hk, hgo⟩
end
section
variable {P : Program} {tb : Tb P} {n : Nat} {D : List Deferred} {w0 : World} {ov : Ov} {H : List Asn} {d : Option Nat} {x y : Operand} {T t s1 b1 T2 : Nat} {z1 : Option (List Value)} {pos : String} {af : Array Edge} {g : Option (Nat × Bool)}
/-- nil is not unequal to nil -/
theorem V_neIN (hx : ev ov x = some .nilIface) (h : tlook tb.l t = some ⟨.iface, s1, b1, z1⟩) (hd : dOk d n = true) :
    OpV P n D w0 ov H ⟨d, .binOp .neq t x (.const .nilIface) T2, T, pos, af, g⟩ (.bool false) := by
  unfold OpV
  exact ⟨hd, fun a w ha _ => by
    obtain ⟨ms, e1⟩ := und_iface h
    have hg : (eqGuard .neq t x (.const .nilIface) .nilIface .nilIface).run P w = .ok () w := by simp [eqGuard]
    have e2 := run_eqIN (P := P) w 9999 e1
    have hb : (binOp .neq t .nilIface .nilIface).run P w = .ok (.bool false) w := by
      simp only [binOp, Op.equal, Op.maxDepth, Sem.run_bind, e2, Result.andThen_ok, Sem.run_pure]; rfl
    have hc : a.eval (.const .nilIface) = .nilIface := rfl
    simp [execOp, ha.ev hx, hc, hg, hb]⟩
/-- nil has no type -/
theorem V_assertN {tx t9 s2 b2 : Nat} {ty : Ty} {z : List Value} {zv : Value} (hx : ev ov x = some .nilIface) (h : tlook tb.l t9 = some ⟨ty, s2, b2, some z⟩) (hz : ∀ w : World, (zeroValue t9).run P w = .ok zv w) (hd : dOk d n = true) :
    OpV P n D w0 ov H ⟨d, .typeAssert x tx t9 true, T, pos, af, g⟩ (.tuple #[zv, .bool false]) := by
  unfold OpV
  exact ⟨hd, fun a w ha _ => by
    obtain ⟨dd, e1, e2⟩ := Tb.und h
    cases dd <;> simp [execOp, ha.ev hx, Instr.typeAssert, run_underlying e1, hz]⟩
/-- equality of arrays -/
theorem V_eqArr {us vs : List Value} {r : Bool} (hx : ev ov x = some (.agg us.toArray)) (hy : ev ov y = some (.agg vs.toArray)) (hm : P.eqGuardType P.depth t = false)
    (hr : ∀ w, (Op.equalIn 10000 t (.agg us.toArray) (.agg vs.toArray)).run P w = .ok r w) (hd : dOk d n = true) : OpV P n D w0 ov H ⟨d, .binOp .eql t x y T2, T, pos, af, g⟩ (.bool r) := by
  unfold OpV
  exact ⟨hd, fun a w ha _ => by
    have e1 := run_eqGuard_agg (P := P) (w := w) .eql t x y us.toArray vs.toArray hm
    have e3 := run_eql_struct (P := P) (w := w) t us.toArray vs.toArray
    simp only [execOp, ha.ev hx, ha.ev hy, Sem.run_bind, e1, Result.andThen_ok, e3, hr w, Sem.run_pure]⟩
end
end Sx

set_option linter.unusedVariables false
set_option linter.unusedSimpArgs false
namespace Go.Proofs.Ytbiocgenbgbfpaa
open Sx Go
section
variable {w0 : World} {H : List Asn}
/-- what zlib throws -/
def FZ (r : Int) : List PanicEntry := [{ v := .iface 70 (.agg #[.int .i64 r]), recovered := false }]
theorem Need_c (b : Bool) (r : Int) (w : World) (hw : St w0 H w) :
    Calls Try.prog 61 #[.bool b, .int .i64 r] w fun e w' => (b = true ∧ e = .returned (.tuple #[]) ∧ St w0 H w') ∨ (b = false ∧ e = .panicked (FZ r) ∧ St w0 H w') := by
  refine enter (vs := [.bool b, .int .i64 r]) Try.func61 rfl rfl rfl hw ?_
  cases b
  · repeat (first | (apply gJO; refine JO_v (V_mkI (tb := tb) rfl rfl (by simp) rfl) ?_) | first | (refine sx ?_; try intro _))
    refine JO_panic Try.func61 rfl ?_
    intro a w _ hw
    exact .inr ⟨rfl, rfl, hw⟩
  · repeat (first | (refine sx ?_; try intro _))
    refine JS_fin Try.func61 rfl rfl ?_
    intro w hw
    exact .inl ⟨rfl, rfl, hw⟩
theorem zz70 (w : World) : (zeroValue 70).run Try.prog w = .ok (.agg #[.int .i64 0]) w := by
  have h : (Try.prog.info? 70).bind (·.zero) = some (.agg #[.int .i64 0]) := by kernel_rfl
  obtain ⟨x, h1, h2⟩ := Option.bind_eq_some_iff.1 h
  simp [zeroValue, typeInfo, h1, h2]
/-- nothing is to be caught -/
theorem ZC_idle (bo be : Nat) (w : World) (hw : St w0 H w) :
    CallsD Try.prog 40 #[.pointer (some ⟨bo, 0, none⟩), .pointer (some ⟨be, 0, none⟩)] .returning w fun e u' w' => u' = .returning ∧ e = .returned (.tuple #[]) ∧ St w0 H w' := by
  refine enterR2 (vs := [.pointer (some ⟨bo, 0, none⟩), .pointer (some ⟨be, 0, none⟩)]) Try.func40 rfl rfl rfl rfl hw (.inl ⟨rfl, rfl, rfl⟩) ?_
  repeat (first | (apply gJO; first | refine JO_v (V_neIN (tb := tb) rfl rfl rfl) ?_ | refine JO_v (V_assertN (tb := tb) rfl rfl zz70 rfl) ?_) | first | (refine sx ?_; try intro _))
  exact JS_fin Try.func40 rfl rfl fun w hw => ⟨rfl, St.sub (by repeat (first | exact List.Sublist.refl _ | apply List.Sublist.cons_cons | apply List.Sublist.cons)) hw⟩
set_option maxRecDepth 10000 in
/-- a refusal is caught -/
theorem ZC_got (bo be : Nat) (r : Int) (w : World) (hw : St w0 (blk bo [.slice none 0 0] :: blk be [.int .i64 0] :: H) w) :
    CallsD Try.prog 40 #[.pointer (some ⟨bo, 0, none⟩), .pointer (some ⟨be, 0, none⟩)] (.panicking (FZ r)) w fun e u' w' => u' = .panicking [{ v := .iface 70 (.agg #[.int .i64 r]), recovered := true }] ∧ e = .returned (.tuple #[]) ∧ St w0 (blk bo [.slice none 0 0] :: blk be [.int .i64 r] :: H) w' := by
  refine enterR2 (vs := [.pointer (some ⟨bo, 0, none⟩), .pointer (some ⟨be, 0, none⟩)]) Try.func40 rfl rfl rfl rfl hw (.inr ⟨[], rfl, rfl⟩) ?_
  repeat (first | (apply gJO; first | refine JO_v (V_eqIV (tb := tb) rfl rfl rfl) ?_ | refine JO_v (V_assertT (tb := tb) rfl rfl (by simp) rfl) ?_) | apply hIx' 3 | first | (refine sx ?_; try intro _))
  refine Hold.go ?_
  rename_i b
  refine JS_order2 [blk b [.int .i64 r]] [0, 1, 2, 3] [] (fun w hw => St.sub (by repeat (first | exact List.nil_sublist _ | apply List.Sublist.cons_cons | apply List.Sublist.cons)) hw) (Picks.cons rfl (Picks.cons rfl (Picks.cons rfl (Picks.cons rfl (Picks.nil))))) (by kernel_rfl) (by kernel_rfl) rfl (by decide +kernel) ?_
  repeat (first | (apply gQR2; first | apply QR2_un | apply QR2_nil) | (apply gQO2; first | refine aQ2 ?_ | (refine aK2 ?_ ?_; exact fun w hw => St.sub (by repeat (first | exact List.nil_sublist _ | apply List.Sublist.cons_cons | apply List.Sublist.cons)) hw)))
  exact JS_fin Try.func40 rfl rfl fun w hw => ⟨rfl, St.sub (by repeat (first | exact List.Sublist.refl _ | apply List.Sublist.cons_cons | apply List.Sublist.cons)) hw⟩
/-- the cells of the results -/
abbrev resZ (bo be : Nat) (H : List Asn) : List Asn := blk bo [.slice none 0 0] :: blk be [.int .i64 0] :: H
abbrev defZ (bo be : Nat) : List Deferred := [⟨.fn (.func 40) #[.pointer (some ⟨bo, 0, none⟩), .pointer (some ⟨be, 0, none⟩)], #[]⟩]
/-- the way out when it was refused -/
theorem LvZ_err {R : Ending → World → Prop} {n : Nat} {bo be : Nat} {r : Int} {a : Act} {D : List Deferred} (ha : Rep n D [(4, .pointer (some ⟨bo, 0, none⟩)), (5, .pointer (some ⟨be, 0, none⟩))] a) {w : World} (hw : St w0 (resZ bo be H) w)
    (hR : ∀ w, St w0 H w → R (.returned (.tuple #[.slice none 0 0, .int .i64 r])) w) : Leaves Try.prog Try.f22 a.tmps R (defZ bo be) (.panicking (FZ r)) w := by
  refine leaves_cons (f := 40) (args := #[.pointer (some ⟨bo, 0, none⟩), .pointer (some ⟨be, 0, none⟩)]) (by simp) (inv_fn Try.call40) ?_
  refine (ZC_got bo be r w hw).mono ?_
  rintro e u' w' ⟨rfl, rfl, hw'⟩
  show Leaves _ _ _ _ _ (settle _) _
  rw [show settle (.panicking [{ v := .iface 70 (.agg #[.int .i64 r]), recovered := true }]) = .returning from rfl]
  exact ⟨_, results_cells (tb := tb) (vs := [.slice none 0 0, .int .i64 r]) (ResV.one (tb := tb) rfl (by repeat (first | apply List.Mem.head | apply List.Mem.tail)) rfl rfl rfl (ResV.one (tb := tb) rfl (by repeat (first | apply List.Mem.head | apply List.Mem.tail)) rfl rfl rfl ResV.nil)) ha hw', hR w' hw'.drop.drop⟩
/-- the way out when all went well -/
theorem LvZ_ok {R : Ending → World → Prop} {n : Nat} {bo be : Nat} {v1 : Value} {a : Act} {D : List Deferred} (ha : Rep n D [(4, .pointer (some ⟨bo, 0, none⟩)), (5, .pointer (some ⟨be, 0, none⟩))] a) {w : World} (hw : St w0 (blk bo [v1] :: blk be [.int .i64 0] :: H) w)
    (hR : ∀ w, St w0 H w → R (.returned (.tuple #[v1, .int .i64 0])) w) : Leaves Try.prog Try.f22 a.tmps R (defZ bo be) .returning w := by
  refine leaves_cons (f := 40) (args := #[.pointer (some ⟨bo, 0, none⟩), .pointer (some ⟨be, 0, none⟩)]) (by simp) (inv_fn Try.call40) ?_
  refine (ZC_idle bo be w hw).mono ?_
  rintro e u' w' ⟨rfl, rfl, hw'⟩
  show Leaves _ _ _ _ _ (settle _) _
  rw [show settle .returning = .returning from rfl]
  exact ⟨_, results_cells (tb := tb) (vs := [v1, .int .i64 0]) (ResV.one (tb := tb) rfl (by repeat (first | apply List.Mem.head | apply List.Mem.tail)) rfl rfl rfl (ResV.one (tb := tb) rfl (by repeat (first | apply List.Mem.head | apply List.Mem.tail)) rfl rfl rfl ResV.nil)) ha hw', hR w' hw'.drop.drop⟩
end
end Go.Proofs.Ytbiocgenbgbfpaa

set_option linter.unusedVariables false
namespace Sx
open Go
/-! an assertion with a value that is not told -/
def anyA {ι : Type} (f : ι → Asn) : Asn where
  holds w fp := ∃ i, (f i).holds w fp
  frame w w' fp h hk := h.elim fun i h => ⟨i, (f i).frame w w' fp h hk⟩
  live w fp h := h.elim fun i h => (f i).live w fp h
section
variable {P : Program} {n : Nat} {D : List Deferred} {w0 : World} {ov : Ov} {Hi H : List Asn} {K : KC}
  {Z : Array Oper × List Nat} {l : List Oper} {d : Option Nat} {T : Nat} {pos : String} {af : Array Edge} {g : Option (Nat × Bool)} {v : Value} {op : Op} {o : Oper} {ι : Type} {f : ι → Asn}
theorem St.any {w : World} (i : ι) (h : St w0 (f i :: H) w) : St w0 (anyA f :: H) w := by
  refine (St.conv (H := H) (bs := [anyA f]) (show St w0 ([f i] ++ H) w from h) ?_)
  rintro fp ⟨f1, f2, e, h1, h2⟩
  exact ⟨f1, f2, e, ⟨i, h1⟩, h2⟩
theorem St.any_out {w : World} (h : St w0 (anyA f :: H) w) : ∃ i, St w0 (f i :: H) w := by
  obtain ⟨fp, h1, h2, f1, f2, e, ⟨i, h3⟩, h4⟩ := h.own
  exact ⟨i, h.os, h.tape, h.output, h.size, h.old, fp, h1, h2, f1, f2, e, h3, h4⟩
theorem OpV_any (h : ∀ i, OpV P n D w0 ov (f i :: H) o v) (i0 : ι) : OpV P n D w0 ov (anyA f :: H) o v := by
  unfold OpV at *
  refine ⟨(h i0).1, fun a w ha hw => ?_⟩
  obtain ⟨i, hi⟩ := hw.any_out
  exact (h i).2 a w ha hi
theorem QO2_e {κ : Type} {v : κ → Value} {H' : κ → List Asn} (h : OpE P n D w0 ov H ⟨d, op, T, pos, af, g⟩ v H') (hlo : loud op = true) (hI : ∀ c w, St w0 (H' c) w → St w0 Hi w) (hn : ∀ c, QR2 P n D w0 Z l (put d (v c) ov) Hi (H' c) K) : QO2 P n D w0 Z ⟨d, op, T, pos, af, g⟩ l ov Hi H K := by
  unfold QO2
  intro a ha
  refine .inr ⟨hlo, fun w hw => ?_⟩
  obtain ⟨hd, h⟩ := h
  obtain ⟨c, w', hrun, hw'⟩ := h a w ha hw
  simp only [Oper.wpN, hrun, Oper.upN]
  refine ⟨St w0 Hi, St w0 (H' c), hw', hI c, .inl fun _ h => h, ?_⟩
  have := hn c
  unfold QR2 at this
  exact this _ (ha.put hd _)
theorem QO2_kS {H' : List Asn} (hlo : loud op = true) (h : OpK P n D w0 ov H ⟨d, op, T, pos, af, g⟩ H') (hs : Z.2.contains l.length = true) (hn : QR2 P n D w0 Z l (put d undef ov) H' H' K) : QO2 P n D w0 Z ⟨d, op, T, pos, af, g⟩ l ov Hi H K := by
  unfold QO2
  intro a ha
  unfold OpK at h
  refine .inr ⟨hlo, fun w hw => ?_⟩
  obtain ⟨w', hrun, hw'⟩ := h.2 a w ha hw
  simp only [Oper.wpN, hrun, Oper.upN]
  refine ⟨St w0 H', St w0 H', hw', fun _ h => h, .inr hs, ?_⟩
  unfold QR2 at hn
  exact hn _ (ha.put h.1 undef)
end
end Sx
namespace Go.Proofs.Ytbiocgenbgbfpaa
open Sx Go
theorem aK2S {n : Nat} {D : List Deferred} {w0 : World} {ov : Ov} {Hi H H' : List Asn} {K : KC} {Z : Array Oper × List Nat} {l : List Oper} {d : Option Nat} {T : Nat} {pos : String} {af : Array Edge} {g : Option (Nat × Bool)} {op : Op}
    (hs : Z.2.contains l.length = true) (hn : QR2 Try.prog n D w0 Z l (put d undef ov) H' H' K) (h : OpK Try.prog n D w0 ov H ⟨d, op, T, pos, af, g⟩ H' := by first | exact K_store (tb := tb) rfl rfl (by repeat (first | apply Upd.here | apply Upd.there)) rfl rfl rfl (by repeat (first | exact trivial | refine ⟨rfl, ?_⟩)) rfl rfl | exact K_storeC1 (tb := tb) rfl rfl ints_set (by repeat (first | apply Upd.here | apply Upd.there)) rfl rfl (by rw [ints_len]; omega) rfl) (hlo : loud op = true := by rfl) : QO2 Try.prog n D w0 Z ⟨d, op, T, pos, af, g⟩ l ov Hi H K := QO2_kS hlo h hs hn
end Go.Proofs.Ytbiocgenbgbfpaa

namespace Go.Proofs.Ytbiocgenbgbfpaa
open Sx Go
set_option linter.unusedVariables false
set_option linter.unusedSimpArgs false
attribute [local irreducible] syA fc tk cds
theorem bitB_drop (B : List Int) (m n : Nat) (hm : B.length = m) : (fun j => ((bitsL B m).drop n).getD j 0) = bitB B n := by
  funext j
  rw [List.getD_eq_getElem?_getD, List.getElem?_drop, ← List.getD_eq_getElem?_getD]
  rcases Nat.lt_or_ge (n + j) (8 * m) with h | h
  · rw [bitsL_get B m (n + j) h]; simp [bitB]
  · rw [List.getD_eq_getElem?_getD, List.getElem?_eq_none (by rw [bitsL_len]; exact h)]
    unfold bitB
    rw [List.getD_eq_getElem?_getD (l := B), List.getElem?_eq_none (by omega)]; simp
section
variable {w0 : World} {H : List Asn}
/-- lengths that can't be a set's -/
theorem RBad_c (p : Option Addr) (c n : Nat) (L : List Int) (hr : Rd w0 H (.slice p n c) n (ints .u8 L)) (hL : L.length = n) (hB : OKB L) (hn : n ≤ 140737488355328) (w : World) (hw : St w0 H w) :
    Calls Try.prog 116 #[.slice p n c] w fun e w' => ∃ b : Bool, e = .returned (.bool b) ∧ (b = true ↔ ¬ OKL L) ∧ St w0 H w' := by
  refine enter (vs := [.slice p n c]) Try.func116 rfl rfl rfl hw ?_
  repeat (first | (refine sx ?_; try intro _))
  refine JO_call Try.call114 rfl rfl fun w hw => (RCheck5_c p c n L hr hL hB hn w hw).mono ?_
  rintro e w' ⟨r, o, rfl, hw', h⟩
  refine ⟨_, rfl, _, hw', ?_⟩
  clear hw' hw w w'
  repeat (first | (refine sx ?_; try intro _))
  refine JS_ret Try.func116 rfl rfl fun w hw => ⟨_, rfl, ?_, hw⟩
  subst hL
  rcases h with ⟨h, rfl, _⟩ | ⟨h1, h2, h3, rfl, _⟩ | ⟨h1, h2, h3, rfl, _⟩
  · refine ⟨fun _ h' => ?_, fun _ => rfl⟩
    rcases h with h | ⟨j, h⟩
    · have := h'.1; omega
    · have := h'.2.1 j; omega
  · exact ⟨fun _ h' => h3 h'.2.2, fun _ => rfl⟩
  · exact ⟨fun h => absurd h (by decide), fun h => absurd ⟨h1, h2, h3⟩ h⟩
variable {bs : Nat} {q : Option Addr} {d m : Nat} {B : List Int} {lim : Nat} {po : Option Addr} {co : Nat} {o : List Int}
theorem RSymE_c (v : Value) (a : Nat) (E : Int) (hE : E ≠ 0) (w : World) (hw : St w0 (strL bs q d m B lim a po co o E H) w) :
    Calls Try.prog 110 #[.pointer (some ⟨bs, 0, none⟩), v] w fun e w' => e = .returned (.int .i64 0) ∧ St w0 (strL bs q d m B lim a po co o E H) w' := by
  refine enter (vs := [.pointer (some ⟨bs, 0, none⟩), v]) Try.func110 rfl rfl rfl hw ?_
  repeat (first | (refine sx ?_; try intro _))
  exact JS_ret Try.func110 rfl rfl fun w hw => ⟨rfl, hw⟩
set_option maxHeartbeats 1000000 in
theorem RSym_c (hK : InfK m B lim) (a : Nat) (ha : a ≤ 8 * m) (hm2 : m ≤ 17592186044410) (p : Option Addr) (c n : Nat) (L : List Int) (hr : Rd w0 H (.slice p n c) n (ints .u8 L)) (hL : L.length = n) (hB : OKB L) (hk : OKL L) (w : World) (hw : St w0 (strL bs q d m B lim a po co o 0 H) w) :
    Calls Try.prog 110 #[.pointer (some ⟨bs, 0, none⟩), .slice p n c] w fun e w' =>
      symP (bitB B 0) m L a (fun r => r ≠ 0 ∧ e = .returned (.int .i64 0) ∧ ∃ a', St w0 (strL bs q d m B lim a' po co o r H) w') (fun i a1 => e = .returned (.int .i64 i) ∧ St w0 (strL bs q d m B lim a1 po co o 0 H) w') := by
  refine enter (vs := [.pointer (some ⟨bs, 0, none⟩), .slice p n c]) Try.func110 rfl rfl rfl hw ?_
  have hbl := bitsL_len B m
  have hcap : ∀ w, St w0 (strL bs q d m B lim a po co o 0 H) w → 8 * m ≤ d := fun w hw => by
    have := (Rd.lcap (vec_rd (e := 5) (size := 1) (v := .slice q (8 * m) d) (n := 8 * m) (cs := ints .u8 (bitsL B m)) (by repeat (first | apply List.Mem.head | apply List.Mem.tail))) hw).1; omega
  repeat (first | (apply gJR; first | (refine sx ?_; try intro _)) | (apply gJO; first | (refine sx ?_; try intro _)) | (apply gQR; first | (refine sx ?_; try intro _)) | (apply gQO; first | refine QO_v rfl (V_slice (tb := tb) (lo := a) (hi := 8 * m) rfl rfl rfl rfl rfl (by rfl) (by omega) (fun w hw => ⟨by omega, hcap w hw⟩) rfl) ?_ | first | (refine sx ?_; try intro _)) | (apply gJS; first | (refine sx ?_; try intro _)))
  have hrs := Rd_sub (lo := a) (hi := 8 * m) (sz := 1) (vec_rd (w0 := w0) (H := strL bs q d m B lim a po co o 0 H) (e := 5) (size := 1) (v := .slice q (8 * m) d) (n := 8 * m) (cs := ints .u8 (bitsL B m)) (by repeat (first | apply List.Mem.head | apply List.Mem.tail))) (by omega) (by omega)
  simp only [Nat.mul_one, ints_drop, ints_take] at hrs
  rw [List.take_of_length_le (by rw [List.length_drop]; omega)] at hrs
  have hbd := bitB_drop B m a hK.hm
  have hr' : Rd w0 (strL bs q d m B lim a po co o 0 H) (.slice p n c) n (ints .u8 L) := Rd_weak hr fun w hw => St.sub (by repeat (first | exact List.Sublist.refl _ | apply List.Sublist.cons_cons | apply List.Sublist.cons)) hw
  refine QO_call Try.call137 rfl rfl fun w hw => (RRead_c p _ c _ n (8 * m - a) L _ hr' hL hB hk hrs (by rw [List.length_drop]; omega) (fun j => by rw [show ((bitsL B m).drop a).getD j 0 = bitB B a j from congrFun hbd j]; exact bitB_01 _ _ _) (by omega) w hw).mono ?_
  rintro e w' ⟨i, u, r, rfl, hw', hrd⟩
  refine ⟨_, rfl, _, hw', .inl fun w hw => hw, ?_⟩
  clear hw' hw w w' hrs
  rw [hbd, ← bitB_fun] at hrd
  have hsy := symS_of hB hk (bitB_01 B 0) hrd
  have hu : u ≤ 8 * m - a := by
    rcases hrd with ⟨j, rfl, _, ⟨n', hj, h0, hn, hle, _⟩, hu⟩ | ⟨_, _, ⟨_, h, _⟩ | ⟨_, _, h, _⟩ | ⟨_, _, ⟨_, h, _⟩ | ⟨h0, h, _⟩⟩⟩
    · rw [hu] at hn; omega
    · omega
    · omega
    · omega
    · omega
  have hi : r = 0 → 0 ≤ i ∧ i < L.length ∧ 0 < u := by
    intro hr0
    rcases hrd with ⟨j, rfl, _, ⟨n', hj, h0, hn, _⟩, hu⟩ | ⟨_, _, h | h | ⟨_, _, h | h⟩⟩
    · rw [hu] at hn; omega
    · omega
    · omega
    · omega
    · omega
  have hi0 : r ≠ 0 → i = 0 := by
    intro hr0
    rcases hrd with ⟨j, rfl, h, _⟩ | ⟨_, h, _⟩
    · exact absurd h hr0
    · exact h
  repeat (first | (refine sx ?_; try intro _))
  refine JS_ret Try.func110 rfl rfl fun w hw => ?_
  unfold symP
  rw [hsy]
  by_cases h0 : r = 0
  · subst h0
    rw [if_pos rfl]
    obtain ⟨g1, g2, g3⟩ := hi rfl
    exact ⟨g1, g2, by omega, by omega, rfl, hw⟩
  · rw [if_neg h0, hi0 h0]
    exact ⟨h0, rfl, a + u, hw⟩
/-- what a piece of the reference does to its memory -/
def RP (w0 : World) (bs : Nat) (q : Option Addr) (d m : Nat) (B : List Int) (lim : Nat) (H : List Asn) (r : Res) (w' : World) : Prop :=
  resP r (fun r => r ≠ 0 ∧ ∃ a po co o, St w0 (strL bs q d m B lim a po co o r H) w') (fun a' o' => a' ≤ 8 * m ∧ o'.length ≤ lim ∧ ∃ po co, St w0 (strL bs q d m B lim a' po co o' 0 H) w')
end
end Go.Proofs.Ytbiocgenbgbfpaa

namespace Go.Proofs.Ytbiocgenbgbfpaa
open Sx Go
set_option linter.unusedVariables false
set_option linter.unusedSimpArgs false
attribute [local irreducible] syA fc tk cds
theorem byts_succ (bt : Nat → Int) (a n : Nat) : byts bt a (n + 1) = byts bt a n ++ [nbt bt (a + 8 * n) 8] := by simp [byts, List.range_succ]
section
variable {w0 : World} {H : List Asn} {bs : Nat} {q : Option Addr} {d m : Nat} {B : List Int} {lim : Nat} {po : Option Addr} {co : Nat} {o : List Int}
set_option maxRecDepth 10000 in
set_option maxHeartbeats 2000000 in
theorem RSto_c (hK : InfK m B lim) (a : Nat) (ha : a ≤ 8 * m) (hm2 : m ≤ 17592186044410) (ho : o.length ≤ lim) (w : World) (hw : St w0 (strL bs q d m B lim a po co o 0 H) w) :
    Calls Try.prog 65 #[.pointer (some ⟨bs, 0, none⟩)] w fun e w' => e = .returned (.tuple #[]) ∧ RP w0 bs q d m B lim H (stoF (bitB B 0) (8 * m) lim a o) w' := by
  have hl := hK.hl
  have hbl := bitsL_len B m
  have hu := upto8_le ha
  have hu8 := upto8_8 a
  refine enter (vs := [.pointer (some ⟨bs, 0, none⟩)]) Try.func65 rfl rfl rfl hw ?_
  unfold stoF RP
  repeat (first | (refine sx ?_; try intro _))
  refine JO_call Try.call109 rfl rfl fun w hw => (RUp_c a (by omega) w hw).mono ?_
  rintro e w' ⟨rfl, hw'⟩
  refine ⟨_, rfl, _, hw', ?_⟩
  clear hw' hw w w'
  generalize upto8 a = u at *
  obtain ⟨n, hn⟩ := Int.eq_ofNat_of_zero_le (nbt_bd (bitB B 0) (bitB_01 B 0) u 16).1
  have hn1 := (nbt_bd (bitB B 0) (bitB_01 B 0) u 16).2
  obtain ⟨x, hx⟩ := Int.eq_ofNat_of_zero_le (nbt_bd (bitB B 0) (bitB_01 B 0) (u + 16) 16).1
  have hx1 := (nbt_bd (bitB B 0) (bitB_01 B 0) (u + 16) 16).2
  have hp16 : (2 : Int) ^ 16 = 65536 := by decide
  rw [hn, hp16] at hn1
  rw [hx, hp16] at hx1
  rw [hn, hx]
  repeat (first | (refine sx ?_; try intro _))
  refine JO_call Try.call64 rfl rfl fun w hw => (RGrp4_c hK u 16 (by omega) (by omega) hm2 w hw).mono ?_
  rintro e w' (⟨h, rfl, hw'⟩ | ⟨h1, he, hw'⟩)
  · refine ⟨_, rfl, _, hw', ?_⟩
    clear hw' hw w w'
    repeat (first | (refine sx ?_; try intro _))
    refine JO_call Try.call64 rfl rfl fun w hw => (RGrpE_c 16 u 20 (by decide) w hw).mono ?_
    rintro e w' ⟨rfl, hw'⟩
    refine ⟨_, rfl, _, hw', ?_⟩
    clear hw' hw w w'
    repeat (first | (apply gJS; apply JS_loop') | first | (refine sx ?_; try intro _))
    refine JS_fin Try.func65 rfl rfl fun w hw => ⟨rfl, ?_⟩
    rw [if_pos h]
    exact ⟨by decide, _, _, _, _, hw⟩
  rw [hn] at he; subst he
  refine ⟨_, rfl, _, hw', ?_⟩
  clear hw' hw w w'
  rw [if_neg (by omega)]
  repeat (first | (refine sx ?_; try intro _))
  refine JO_call Try.call64 rfl rfl fun w hw => (RGrp4_c hK (u + 16) 16 (by omega) (by omega) hm2 w hw).mono ?_
  rintro e w' (⟨h, rfl, hw'⟩ | ⟨h2, he, hw'⟩)
  · refine ⟨_, rfl, _, hw', ?_⟩
    clear hw' hw w w'
    rcases Nat.eq_zero_or_pos n with hn0 | hn0
    all_goals (repeat (first | (apply gJS; apply JS_loop') | first | (refine sx ?_; try intro _)))
    all_goals (refine JS_fin Try.func65 rfl rfl fun w hw => ⟨rfl, ?_⟩)
    all_goals (rw [if_pos (by omega)]; exact ⟨by decide, _, _, _, _, hw⟩)
  rw [hx] at he; subst he
  refine ⟨_, rfl, _, hw', ?_⟩
  clear hw' hw w w'
  rw [if_neg (by omega)]
  by_cases h3 : (n : Int) + x ≠ 65535
  · rcases Nat.eq_zero_or_pos n with hn0 | hn0
    all_goals (repeat (first | (apply gJS; apply JS_loop') | first | (refine sx ?_; try intro _)))
    all_goals (refine JS_fin Try.func65 rfl rfl fun w hw => ⟨rfl, ?_⟩)
    all_goals (rw [if_pos h3]; exact ⟨by decide, _, _, _, _, hw⟩)
  rw [if_neg h3]
  have h3' : (n : Int) + x = 65535 := by omega
  by_cases h4 : (lim : Int) - o.length < n
  · have hn0 : 0 < n := by omega
    repeat (first | (apply gJS; apply JS_loop') | first | (refine sx ?_; try intro _))
    refine JS_fin Try.func65 rfl rfl fun w hw => ⟨rfl, ?_⟩
    rw [if_pos h4]; exact ⟨by decide, _, _, _, _, hw⟩
  rw [if_neg h4]
  by_cases h5 : ((8 * m : Nat) : Int) < u + 32 + 8 * n
  · have hn0 : 0 < n := by omega
    repeat (first | (apply gJS; apply JS_loop') | first | (refine sx ?_; try intro _))
    refine JS_fin Try.func65 rfl rfl fun w hw => ⟨rfl, ?_⟩
    rw [if_pos h5]; exact ⟨by decide, _, _, _, _, hw⟩
  rw [if_neg h5, Int.toNat_natCast]
  repeat (first | (apply gJR; first | (refine sx ?_; try intro _)) | (apply gJO; first | (refine sx ?_; try intro _)) | (apply gQR; first | (refine sx ?_; try intro _)) | (apply gQO; first | (refine sx ?_; try intro _)) | apply JS_seq | apply JS_region | refine JS_draw [] (by kernel_rfl) (by kernel_rfl) (by decide +kernel) ?_ | refine JS_condF rfl ?_ | refine JS_cond_F rfl (by omega) ?_ | apply JS_skip)
  refine JS_block ?_
  refine JS_loop3 (fun (i : Nat) (p : Option Addr) (c : Nat) => [(0, .pointer (some ⟨bs, 0, none⟩)), (2, .int .i64 n), (4, .int .i64 i)]) (fun i p c => strL bs q d m B lim (u + 32 + 8 * i) p c (o ++ byts (bitB B 0) (u + 32) i) 0 H)
    (fun i _ _ => i ≤ n) (fun i _ _ => n - i) 0 po co (Nat.zero_le _) (by repeat (first | exact trivial | refine ⟨rfl, ?_⟩ | refine ⟨lookI rfl (by omega), ?_⟩)) (fun _ h => by rw [show byts (bitB B 0) (u + 32) 0 = [] from rfl, List.append_nil]; exact h) ?_
  intro i p c hi again
  by_cases hin : i < n
  · have hcs : o ++ byts (bitB B 0) (u + 32) (i + 1) = (o ++ byts (bitB B 0) (u + 32) i) ++ [nbt (bitB B 0) (u + 32 + 8 * i) 8] := by rw [byts_succ, List.append_assoc]
    have hlen : (o ++ byts (bitB B 0) (u + 32) i).length ≤ lim := by rw [List.length_append, byts_len]; omega
    generalize o ++ byts (bitB B 0) (u + 32) i = L at *
    repeat (first | (apply gJR; first | (refine sx ?_; try intro _)) | (apply gJO; first | (refine sx ?_; try intro _)) | apply JS_seq | apply JS_region | apply JS_block | refine JS_condT rfl ?_ | refine JS_cond_T rfl (by omega) ?_ | apply JS_skip)
    refine JS_order2 [anyA fun (x : Int) => blk bs [.slice q (8 * m) d, .int .i64 x, .slice p L.length c, .int .i64 lim, .int .i64 0]] [0, 1, 2, 3, 4, 5, 6, 7, 8, 9, 10, 11, 12] [0]
      (fun w hw => St.any (f := fun (x : Int) => blk bs [.slice q (8 * m) d, .int .i64 x, .slice p L.length c, .int .i64 lim, .int .i64 0]) ((u + 32 + 8 * i : Nat) : Int) (St.sub (by repeat (first | exact List.nil_sublist _ | apply List.Sublist.cons_cons | apply List.Sublist.cons)) hw)) (Picks.cons rfl (Picks.cons rfl (Picks.cons rfl (Picks.cons rfl (Picks.cons rfl (Picks.cons rfl (Picks.cons rfl (Picks.cons rfl (Picks.cons rfl (Picks.cons rfl (Picks.cons rfl (Picks.cons rfl (Picks.cons rfl (Picks.nil)))))))))))))) (by kernel_rfl) (by kernel_rfl) rfl (by decide +kernel) ?_
    repeat (first | (apply gQR2; apply QR2_un) | (apply gQO2; first | refine QO2_v rfl (OpV_any (fun x => V_load (tb := tb) rfl (by repeat (first | apply List.Mem.head | apply List.Mem.tail)) rfl rfl rfl rfl) 0) ?_ | refine aQ2 ?_))
    have hby := nbt_bd (bitB B 0) (bitB_01 B 0) (u + 32 + 8 * i) 8
    refine QO2_callE Try.call64 rfl rfl fun w hw => (RGrp4_c hK (u + 32 + 8 * i) 8 (by omega) (by omega) hm2 w hw).mono ?_
    rintro e w' (⟨h, _⟩ | ⟨h6, rfl, hw'⟩)
    · exact absurd h (by omega)
    generalize nbt (bitB B 0) (u + 32 + 8 * i) 8 = y at *
    have hy0 : 0 ≤ y ∧ y < 256 := hby
    refine .inl ⟨_, rfl, [anyA fun (x : Int) => blk bs [.slice q (8 * m) d, .int .i64 x, .slice p L.length c, .int .i64 lim, .int .i64 0]], _, hw', fun w hw => St.any (f := fun (x : Int) => blk bs [.slice q (8 * m) d, .int .i64 x, .slice p L.length c, .int .i64 lim, .int .i64 0]) ((u + 32 + 8 * i + 8 : Nat) : Int) (St.sub (by repeat (first | exact List.nil_sublist _ | apply List.Sublist.cons_cons | apply List.Sublist.cons)) hw), .inl fun w hw => hw, ?_⟩
    clear hw' hw w w'
    repeat (first | (apply gQR2; apply QR2_un) | (apply gQO2; refine aQ2 ?_))
    refine QO2_e (E_buildSlice (tb := tb) rfl rfl rfl rfl rfl rfl rfl rfl rfl) rfl (fun _ w hw => St.any (f := fun (x : Int) => blk bs [.slice q (8 * m) d, .int .i64 x, .slice p L.length c, .int .i64 lim, .int .i64 0]) ((u + 32 + 8 * i + 8 : Nat) : Int) (St.sub (by repeat (first | exact List.nil_sublist _ | apply List.Sublist.cons_cons | apply List.Sublist.cons)) hw)) ?_
    intro p1
    repeat (first | (apply gQR2; apply QR2_un) | (apply gQO2; refine aQ2 ?_))
    refine QO2_e (E_appendB (tb := tb) rfl rfl rfl rfl rfl rfl (by repeat (first | exact Sel.here _ _ | apply Sel.there)) (by first | exact vec_rd (by repeat (first | apply List.Mem.head | apply List.Mem.tail)) | assumption | exact ArgRd.rd (by assumption) _ | (apply Rd_weak; assumption; intro _ hx; exact St.sub (by repeat (first | exact List.Sublist.refl _ | apply List.Sublist.cons_cons | apply List.Sublist.cons)) hx)) (by simp only [ints_len, List.length_cons, List.length_nil]; first | omega | rfl) (by repeat (first | exact trivial | refine ⟨rfl, ?_⟩)) (by omega) (by omega) rfl) rfl (fun _ w hw => St.any (f := fun (x : Int) => blk bs [.slice q (8 * m) d, .int .i64 x, .slice p L.length c, .int .i64 lim, .int .i64 0]) ((u + 32 + 8 * i + 8 : Nat) : Int) (St.sub (by repeat (first | exact List.nil_sublist _ | apply List.Sublist.cons_cons | apply List.Sublist.cons)) hw)) ?_
    intro c1
    repeat (first | (apply gQR2; first | apply QR2_un | apply QR2_nil) | (apply gQO2; first | refine aQ2 ?_ | refine aK2S rfl ?_))
    repeat (first | (refine sx ?_; try intro _))
    exact JS_again3 again (i + 1) c1.1 c1.2 (by omega) (by omega) (by exact ⟨rfl, rfl, rfl, trivial⟩) (fun w hw => by rw [hcs, show u + 32 + 8 * (i + 1) = u + 32 + 8 * i + 8 by omega]; unfold strL; rw [show (L ++ [y]).length = L.length + 1 by simp, ← ints_app1]; have g := vecB_fwd (by repeat (first | exact Sel.here _ _ | apply Sel.there)) hw; exact St.sub (by repeat (first | exact List.Sublist.refl _ | apply List.Sublist.cons_cons | apply List.Sublist.cons)) g)
  · obtain rfl : i = n := by omega
    clear again
    repeat (first | (refine sx ?_; try intro _))
    refine JS_fin Try.func65 rfl rfl fun w hw => ⟨rfl, by omega, ?_, p, c, hw⟩
    rw [List.length_append, byts_len]; omega
end
end Go.Proofs.Ytbiocgenbgbfpaa

namespace Sx
open Go
theorem JS_joinQ4 {P : Program} {f n : Nat} {R : Ending → World → Prop} {D : List Deferred} {w0 : World} {k : List Item} {ov : Ov} {H : List Asn} {α β γ δ : Type} {c1 c2 c3 c4 c5 rest : Code} (o : α → β → γ → δ → Ov) (H' : α → β → γ → δ → List Asn) (I : α → β → γ → δ → Prop)
    (cont : ∀ (x1 : α) (x2 : β) (x3 : γ) (x4 : δ), I x1 x2 x3 x4 → JS P f n R D w0 (.code rest :: k) (o x1 x2 x3 x4) (H' x1 x2 x3 x4))
    (h : (∀ (x1 : α) (x2 : β) (x3 : γ) (x4 : δ), I x1 x2 x3 x4 → JS P f n R D w0 (.code rest :: k) (o x1 x2 x3 x4) (H' x1 x2 x3 x4)) → JS P f n R D w0 (.code (.seq c1 (.seq c2 (.seq c3 (.seq c4 (.seq c5 rest))))) :: k) ov H) :
    JS P f n R D w0 (.code (.seq c1 (.seq c2 (.seq c3 (.seq c4 (.seq c5 rest))))) :: k) ov H := h cont
theorem JS_joinQ1 {P : Program} {f n : Nat} {R : Ending → World → Prop} {D : List Deferred} {w0 : World} {k : List Item} {ov : Ov} {H : List Asn} {α : Type} {c1 rest : Code} (o : α → Ov) (H' : α → List Asn) (I : α → Prop)
    (cont : ∀ (x1 : α), I x1 → JS P f n R D w0 (.code rest :: k) (o x1) (H' x1))
    (h : (∀ (x1 : α), I x1 → JS P f n R D w0 (.code rest :: k) (o x1) (H' x1)) → JS P f n R D w0 (.code (.seq c1 rest) :: k) ov H) :
    JS P f n R D w0 (.code (.seq c1 rest) :: k) ov H := h cont
end Sx
namespace Go.Proofs.Ytbiocgenbgbfpaa
open Sx Go
set_option linter.unusedVariables false
set_option linter.unusedSimpArgs false
attribute [local irreducible] syA fc tk cds
section
variable {w0 : World} {H : List Asn} {bs : Nat} {q : Option Addr} {d m : Nat} {B : List Int} {lim : Nat} {po : Option Addr} {co : Nat} {o : List Int}
set_option maxRecDepth 10000 in
set_option maxHeartbeats 4000000 in
theorem RBlk_c (hK : InfK m B lim) (a : Nat) (ha : a ≤ 8 * m) (hm2 : m ≤ 17592186044410) (ho : o.length ≤ lim) (p1 p2 : Option Addr) (c1 c2 n1 n2 : Nat) (L D : List Int) (hr1 : Rd w0 H (.slice p1 n1 c1) n1 (ints .u8 L)) (hL : L.length = n1) (hB1 : OKB L) (hk1 : OKL L)
    (hr2 : Rd w0 H (.slice p2 n2 c2) n2 (ints .u8 D)) (hD : D.length = n2) (hB2 : OKB D) (hk2 : OKL D) (w : World) (hw : St w0 (strL bs q d m B lim a po co o 0 H) w) :
    Calls Try.prog 66 #[.pointer (some ⟨bs, 0, none⟩), .slice p1 n1 c1, .slice p2 n2 c2] w fun e w' => e = .returned (.tuple #[]) ∧ ∃ r, It (blkF (bitB B 0) (8 * m) lim L D) a o r ∧ RP w0 bs q d m B lim H r w' := by
  have hl := hK.hl
  have hm1 := hK.hm1
  have hL320 := hk1.1
  have hD320 := hk2.1
  refine enter (vs := [.pointer (some ⟨bs, 0, none⟩), .slice p1 n1 c1, .slice p2 n2 c2]) Try.func66 rfl rfl rfl hw ?_
  refine JS_block ?_
  refine JS_loop4 (fun (a1 : Nat) (o1 : List Int) (p : Option Addr) (c : Nat) => [(0, .pointer (some ⟨bs, 0, none⟩)), (1, .slice p1 n1 c1), (2, .slice p2 n2 c2)]) (fun a1 o1 p c => strL bs q d m B lim a1 p c o1 0 H)
    (fun a1 o1 _ _ => a1 ≤ 8 * m ∧ o1.length ≤ lim ∧ ∀ r, It (blkF (bitB B 0) (8 * m) lim L D) a1 o1 r → It (blkF (bitB B 0) (8 * m) lim L D) a o r) (fun a1 _ _ _ => 8 * m - a1) a o po co ⟨ha, ho, fun _ h => h⟩ (by repeat (first | exact trivial | refine ⟨rfl, ?_⟩ | refine ⟨lookI rfl (by omega), ?_⟩)) (fun _ h => h) ?_
  intro a1 o1 p c ⟨ha1, ho1, hinv⟩ again
  repeat (first | (refine sx ?_; try intro _))
  refine JO_call Try.call110 rfl rfl fun w hw => (RSym_c hK a1 ha1 hm2 p1 c1 n1 L hr1 hL hB1 hk1 w hw).mono ?_
  intro e w' h
  unfold symP at h
  cases hsy : symS (bitB B 0) (8 * m) L a1 with
  | err r =>
    rw [hsy] at h
    obtain ⟨hr0, rfl, a', hw'⟩ := h
    refine ⟨_, rfl, _, hw', ?_⟩
    clear hw' hw w w' again
    repeat (first | (refine sx ?_; try intro _))
    refine JS_ret Try.func66 rfl rfl fun w hw => ⟨rfl, .err r, hinv _ (.err (by unfold blkF; rw [hsy])), hr0, _, _, _, _, hw⟩
  | ok i a2 =>
  rw [hsy] at h
  obtain ⟨hi0, hiL, ha12, ha2, rfl, hw'⟩ := h
  refine ⟨_, rfl, _, hw', ?_⟩
  clear hw' hw w w'
  have hF : blkF (bitB B 0) (8 * m) lim L D a1 o1 = if i = 256 then .stop a2 o1
    else if i < 256 then (if (lim : Int) - o1.length < 1 then .err 64 else .go a2 (o1 ++ [i]))
    else if (lbase i).1 = 0 then .err 62
    else if 8 * m < a2 + (lbase i).2.toNat then .err 20
    else blk2 (bitB B 0) (8 * m) lim D o1 ((lbase i).1 + nbt (bitB B 0) a2 (lbase i).2.toNat) (a2 + (lbase i).2.toNat) := by unfold blkF; rw [hsy]
  by_cases h256 : i = 256
  · rw [if_pos h256] at hF
    clear again
    repeat (first | (refine sx ?_; try intro _))
    exact JS_ret Try.func66 rfl rfl fun w hw => ⟨rfl, .ok a2 o1, hinv _ (.stop hF), ha2, ho1, p, c, hw⟩
  rw [if_neg h256] at hF
  by_cases hlt : i < 256
  · rw [if_pos hlt] at hF
    by_cases h : (lim : Int) - o1.length < 1
    · rw [if_pos h] at hF
      clear again
      repeat (first | (refine sx ?_; try intro _))
      exact JS_ret Try.func66 rfl rfl fun w hw => ⟨rfl, .err 64, hinv _ (.err hF), by decide, _, _, _, _, hw⟩
    · rw [if_neg h] at hF
      repeat (first | (refine sx ?_; try intro _))
      refine JO_app (tb := tb) rfl rfl rfl rfl rfl rfl (by repeat (first | exact Sel.here _ _ | apply Sel.there)) (vec_rd (List.Mem.head _)) rfl (by repeat (first | exact trivial | refine ⟨rfl, ?_⟩)) (by omega) rfl ?_
      intro p3 c3
      repeat (first | (refine sx ?_; try intro _))
      exact JS_again4 again a2 (o1 ++ [i]) p3 c3 ⟨ha2, by simp; omega, fun r hr => hinv r (.go hF hr)⟩ (by omega) (by exact ⟨rfl, rfl, rfl, trivial⟩) (fun w hw => by unfold strL; rw [show (o1 ++ [i]).length = o1.length + 1 by simp, ← ints_app1]; exact St.sub (by repeat (first | exact List.Sublist.refl _ | apply List.Sublist.cons_cons | apply List.Sublist.cons)) hw)
  rw [if_neg hlt] at hF
  repeat (first | (refine sx ?_; try intro _))
  refine JO_call Try.call111 rfl rfl fun w hw => (RBase_c i (by omega) w hw).mono ?_
  rintro e w' ⟨rfl, hw'⟩
  refine ⟨_, rfl, _, hw', ?_⟩
  clear hw' hw w w'
  by_cases hb0 : (lbase i).1 = 0
  · rw [if_pos hb0] at hF
    clear again
    generalize lbase i = lb at *
    repeat (first | (refine sx ?_; try intro _))
    exact JS_ret Try.func66 rfl rfl fun w hw => ⟨rfl, .err 62, hinv _ (.err hF), by decide, _, _, _, _, hw⟩
  rw [if_neg hb0] at hF
  obtain ⟨_, _, g1, g2, g3, g4⟩ := lbase_ok hb0
  obtain ⟨⟨lb1, lb2⟩, hlb⟩ : ∃ x, lbase i = x := ⟨_, rfl⟩
  rw [hlb] at hF hb0 g1 g2 g3 g4 ⊢
  simp only at hF hb0 g1 g2 g3 g4 ⊢
  obtain ⟨k1, rfl⟩ : ∃ k : Nat, lb2 = k := ⟨lb2.toNat, by omega⟩
  simp only [Int.toNat_natCast] at hF
  obtain ⟨hn0, hn1⟩ := nbt_bd (bitB B 0) (bitB_01 B 0) a2 k1
  have hp1 : (2 : Int) ^ k1 ≤ 32 := by
    have : ∀ k : Fin 6, (2 : Int) ^ k.val ≤ 32 := by decide
    exact this ⟨k1, by omega⟩
  obtain ⟨x1, hn1e⟩ := Int.eq_ofNat_of_zero_le hn0
  rw [hn1e] at hF hn1
  repeat (first | (apply gJR; first | (refine sx ?_; try intro _)) | (apply gJO; first | (refine sx ?_; try intro _)))
  apply JS_seq
  apply JS_seq
  apply JS_region
  repeat (first | (apply gJR; first | (refine sx ?_; try intro _)) | (apply gJO; first | (refine sx ?_; try intro _)))
  refine JS_condF rfl ?_
  apply JS_skip
  refine JS_joinQ4 (fun (a4 : Nat) (E : Int) (ln bk : Nat) => [(0, .pointer (some ⟨bs, 0, none⟩)), (1, .slice p1 n1 c1), (2, .slice p2 n2 c2), (9, .int .i64 ln), (13, .int .i64 bk)]) (fun a4 E ln bk => strL bs q d m B lim a4 p c o1 E H)
    (fun a4 E ln bk => 3 ≤ ln ∧ ln ≤ 1000 ∧ bk ≤ 100000 ∧ ((E = 0 ∧ 0 < bk ∧ a4 ≤ 8 * m ∧ a1 < a4 ∧ blkF (bitB B 0) (8 * m) lim L D a1 o1 = if o1.length < bk then .err 63 else if (lim : Int) - o1.length < ln then .err 64 else .go a4 (cpy o1 bk ln)) ∨ (E ≠ 0 ∧ It (blkF (bitB B 0) (8 * m) lim L D) a o (.err E)))) ?_ ?_
  · clear hF hsy
    intro a4 E ln bk ⟨hln1, hln2, hbk2, hmode⟩
    refine JS_joinQ1 (fun (E' : Int) => [(0, .pointer (some ⟨bs, 0, none⟩)), (1, .slice p1 n1 c1), (2, .slice p2 n2 c2), (9, .int .i64 ln), (13, .int .i64 bk)]) (fun E' => strL bs q d m B lim a4 p c o1 E' H)
      (fun E' => (E' = 0 ∧ 0 < bk ∧ a4 ≤ 8 * m ∧ a1 < a4 ∧ bk ≤ o1.length ∧ blkF (bitB B 0) (8 * m) lim L D a1 o1 = if (lim : Int) - o1.length < ln then .err 64 else .go a4 (cpy o1 bk ln)) ∨ (E' ≠ 0 ∧ It (blkF (bitB B 0) (8 * m) lim L D) a o (.err E'))) ?_ ?_
    · clear hmode E
      intro E hmode
      rcases hmode with ⟨rfl, hbk1, ha4, ha14, hbl, hF⟩ | ⟨hE, hIt⟩
      · by_cases h2 : (lim : Int) - o1.length < ln
        · rw [if_pos h2] at hF
          clear again
          repeat (first | (refine sx ?_; try intro _))
          refine JO_call Try.call113 rfl rfl fun w hw => (RFail_c 64 a4 0 w hw).mono ?_
          rintro e w' ⟨rfl, hw'⟩
          rw [if_pos rfl] at hw'
          refine ⟨_, rfl, _, hw', ?_⟩
          clear hw' hw w w'
          (repeat (first | (apply gJS; first | apply JS_loop' | apply JS_inLoop) | first | (refine sx ?_; try intro _)))
          exact JS_fin Try.func66 rfl rfl fun w hw => ⟨rfl, .err 64, hinv _ (.err hF), by decide, _, _, _, _, hw⟩
        · rw [if_neg h2] at hF
          repeat (first | (apply gJR; first | (refine sx ?_; try intro _)) | (apply gJO; first | (refine sx ?_; try intro _)) | (apply gQR; first | (refine sx ?_; try intro _)) | (apply gQO; first | (refine sx ?_; try intro _)) | apply JS_seq | apply JS_region | refine JS_draw [] (by kernel_rfl) (by kernel_rfl) (by decide +kernel) ?_ | refine JS_condF rfl ?_ | refine JS_cond_F rfl (by omega) ?_ | apply JS_skip)
          refine JS_block ?_
          refine JS_loop3 (fun (i : Nat) (p : Option Addr) (c : Nat) => [(0, .pointer (some ⟨bs, 0, none⟩)), (1, .slice p1 n1 c1), (2, .slice p2 n2 c2), (9, .int .i64 ln), (13, .int .i64 bk), (14, .int .i64 i)]) (fun i p c => strL bs q d m B lim a4 p c (cpy o1 bk i) 0 H)
            (fun i _ _ => i ≤ ln) (fun i _ _ => ln - i) 0 p c (Nat.zero_le _) (by repeat (first | exact trivial | refine ⟨rfl, ?_⟩ | refine ⟨lookI rfl (by omega), ?_⟩)) (fun _ h => h) ?_
          intro j p' c' hj again2
          have hcl := cpy_len o1 bk j
          by_cases hil : j < ln
          · clear again
            have hcs : cpy o1 bk (j + 1) = cpy o1 bk j ++ [(cpy o1 bk j).getD ((cpy o1 bk j).length - bk) 0] := rfl
            generalize cpy o1 bk j = L1 at *
            have gi : (ints .u8 L1)[L1.length - bk]? = some (.int .u8 (L1.getD (L1.length - bk) 0)) := ints_get (by omega)
            generalize L1.getD (L1.length - bk) 0 = x at *
            repeat (first | (apply gQO; first | refine QO_v rfl (V_index (tb := tb) (j := L1.length - bk) rfl rfl rfl rfl (Rd.sl (vec_rd (by repeat (first | apply List.Mem.head | apply List.Mem.tail)))) (by omega) (by omega) rfl) ?_ | refine QO_v rfl (V_loadC (tb := tb) rfl (vec_rd (by repeat (first | apply List.Mem.head | apply List.Mem.tail))) rfl rfl gi rfl) ?_ | (refine QO_e (E_buildSlice (tb := tb) rfl rfl rfl rfl rfl rfl rfl rfl rfl) rfl (.inr fun _ _ hw => St.sub (by repeat (first | exact List.Sublist.refl _ | apply List.Sublist.cons_cons | apply List.Sublist.cons)) hw) ?_; intro _) | (refine QO_e (E_appendB (tb := tb) rfl rfl rfl rfl rfl rfl (by repeat (first | exact Sel.here _ _ | apply Sel.there)) (by first | exact vec_rd (by repeat (first | apply List.Mem.head | apply List.Mem.tail)) | assumption | exact ArgRd.rd (by assumption) _ | (apply Rd_weak; assumption; intro _ hx; exact St.sub (by repeat (first | exact List.Sublist.refl _ | apply List.Sublist.cons_cons | apply List.Sublist.cons)) hx)) (by simp only [ints_len, List.length_cons, List.length_nil]; first | omega | rfl) (by first | exact ints_one | (repeat (first | exact trivial | refine ⟨rfl, ?_⟩))) (by omega) (by omega) rfl) rfl (.inr fun _ _ hw => vecB_back (by repeat (first | exact Sel.here _ _ | apply Sel.there)) hw) ?_; intro _)) | (first | (refine sx ?_; try intro _)))
            rename_i p5 c5
            exact JS_again3 again2 (j + 1) c5.1 c5.2 (by omega) (by omega) (by exact ⟨rfl, rfl, rfl, rfl, rfl, rfl, trivial⟩) (fun w hw => by rw [hcs]; unfold strL; rw [show (L1 ++ [x]).length = L1.length + 1 by simp, ← ints_app1]; have g := vecB_fwd (by repeat (first | exact Sel.here _ _ | apply Sel.there)) hw; exact St.sub (by repeat (first | exact List.Sublist.refl _ | apply List.Sublist.cons_cons | apply List.Sublist.cons)) g)
          · obtain rfl : j = ln := by omega
            clear again2
            repeat (first | (refine sx ?_; try intro _))
            exact JS_again4 again a4 (cpy o1 bk j) p' c' ⟨ha4, by omega, fun r hr => hinv r (.go hF hr)⟩ (by omega) (by exact ⟨rfl, rfl, rfl, trivial⟩) (fun w hw => hw)
      · clear again
        by_cases h2 : (lim : Int) - o1.length < ln
        · repeat (first | (refine sx ?_; try intro _))
          refine JO_call Try.call113 rfl rfl fun w hw => (RFail_c 64 a4 E w hw).mono ?_
          rintro e w' ⟨rfl, hw'⟩
          rw [if_neg hE] at hw'
          refine ⟨_, rfl, _, hw', ?_⟩
          clear hw' hw w w'
          (repeat (first | (apply gJS; first | apply JS_loop' | apply JS_inLoop) | first | (refine sx ?_; try intro _)))
          exact JS_fin Try.func66 rfl rfl fun w hw => ⟨rfl, .err E, hIt, hE, _, _, _, _, hw⟩
        · (repeat (first | (apply gJS; first | apply JS_loop' | apply JS_inLoop) | first | (refine sx ?_; try intro _)))
          exact JS_fin Try.func66 rfl rfl fun w hw => ⟨rfl, .err E, hIt, hE, _, _, _, _, hw⟩
    · clear again
      intro K
      by_cases h1 : o1.length < bk
      · repeat (first | (refine sx ?_; try intro _))
        refine JO_call Try.call113 rfl rfl fun w hw => (RFail_c 63 a4 E w hw).mono ?_
        rintro e w' ⟨rfl, hw'⟩
        refine ⟨_, rfl, _, hw', ?_⟩
        clear hw' hw w w'
        repeat (first | (apply gJR; first | (refine sx ?_; try intro _)) | (apply gJO; first | (refine sx ?_; try intro _)))
        rcases hmode with ⟨rfl, hbk1, ha4, ha14, hF⟩ | ⟨hE, hIt⟩
        · rw [if_pos rfl]
          exact JS_to1 K 63 (.inr ⟨by decide, hinv _ (.err (by rw [hF, if_pos h1]))⟩) (by repeat (first | exact trivial | refine ⟨rfl, ?_⟩ | refine ⟨lookI rfl (by omega), ?_⟩)) (fun w hw => hw)
        · rw [if_neg hE]
          exact JS_to1 K E (.inr ⟨hE, hIt⟩) (by repeat (first | exact trivial | refine ⟨rfl, ?_⟩ | refine ⟨lookI rfl (by omega), ?_⟩)) (fun w hw => hw)
      · apply JS_seq
        apply JS_seq
        apply JS_region
        repeat (first | (apply gJR; first | (refine sx ?_; try intro _)) | (apply gJO; first | (refine sx ?_; try intro _)))
        refine JS_condF rfl ?_
        apply JS_skip
        rcases hmode with ⟨rfl, hbk1, ha4, ha14, hF⟩ | ⟨hE, hIt⟩
        · rw [if_neg h1] at hF
          exact JS_to1 K 0 (.inl ⟨rfl, hbk1, ha4, ha14, by omega, hF⟩) (by repeat (first | exact trivial | refine ⟨rfl, ?_⟩ | refine ⟨lookI rfl (by omega), ?_⟩)) (fun w hw => hw)
        · exact JS_to1 K E (.inr ⟨hE, hIt⟩) (by repeat (first | exact trivial | refine ⟨rfl, ?_⟩ | refine ⟨lookI rfl (by omega), ?_⟩)) (fun w hw => hw)
  · clear again
    intro K
    have hf0 : lfar 0 = (1, 0) := by decide
    repeat (first | (refine sx ?_; try intro _))
    refine JO_call Try.call64 rfl rfl fun w hw => (RGrp4_c hK a2 k1 (by omega) ha2 hm2 w hw).mono ?_
    rintro e w' (⟨h, rfl, hw'⟩ | ⟨h1, he, hw'⟩)
    · refine ⟨_, rfl, _, hw', ?_⟩
      clear hw' hw w w'
      rw [if_pos h] at hF
      repeat (first | (refine sx ?_; try intro _))
      refine JO_call Try.call110 rfl rfl fun w hw => (RSymE_c _ a2 20 (by decide) w hw).mono ?_
      rintro e w' ⟨rfl, hw'⟩
      refine ⟨_, rfl, _, hw', ?_⟩
      clear hw' hw w w'
      repeat (first | (refine sx ?_; try intro _))
      refine JO_call Try.call112 rfl rfl fun w hw => (RFar_c 0 (by omega) w hw).mono ?_
      rw [hf0]
      rintro e w' ⟨rfl, hw'⟩
      refine ⟨_, rfl, _, hw', ?_⟩
      clear hw' hw w w'
      repeat (first | (refine sx ?_; try intro _))
      refine JO_call Try.call64 rfl rfl fun w hw => (RGrpE_c 0 a2 20 (by decide) w hw).mono ?_
      rintro e w' ⟨rfl, hw'⟩
      refine ⟨_, rfl, _, hw', ?_⟩
      clear hw' hw w w'
      repeat (first | (apply gJR; first | (refine sx ?_; try intro _)) | (apply gJO; first | (refine sx ?_; try intro _)))
      exact JS_to4 K a2 20 lb1.toNat 1 ⟨by omega, by omega, by omega, .inr ⟨by decide, hinv _ (.err hF)⟩⟩ (by repeat (first | exact trivial | refine ⟨rfl, ?_⟩ | refine ⟨lookI rfl (by omega), ?_⟩)) (fun w hw => hw)
    rw [hn1e] at he; subst he
    refine ⟨_, rfl, _, hw', ?_⟩
    clear hw' hw w w'
    rw [if_neg (by omega)] at hF
    obtain ⟨ln, hln⟩ : ∃ ln : Nat, lb1 + (x1 : Int) = ln := ⟨(lb1 + (x1 : Int)).toNat, by omega⟩
    rw [hln] at hF
    repeat (first | (refine sx ?_; try intro _))
    simp only [hln]
    refine JO_call Try.call110 rfl rfl fun w hw => (RSym_c hK (a2 + k1) h1 hm2 p2 c2 n2 D hr2 hD hB2 hk2 w hw).mono ?_
    intro e w' h
    unfold symP at h
    cases hsy2 : symS (bitB B 0) (8 * m) D (a2 + k1) with
    | err r =>
      rw [hsy2] at h
      obtain ⟨hr0, rfl, a', hw'⟩ := h
      refine ⟨_, rfl, _, hw', ?_⟩
      clear hw' hw w w'
      have hIt := hinv _ (.err (show blkF (bitB B 0) (8 * m) lim L D a1 o1 = .err r by rw [hF]; unfold blk2; rw [hsy2]))
      repeat (first | (refine sx ?_; try intro _))
      refine JO_call Try.call112 rfl rfl fun w hw => (RFar_c 0 (by omega) w hw).mono ?_
      rw [hf0]
      rintro e w' ⟨rfl, hw'⟩
      refine ⟨_, rfl, _, hw', ?_⟩
      clear hw' hw w w'
      repeat (first | (refine sx ?_; try intro _))
      refine JO_call Try.call64 rfl rfl fun w hw => (RGrpE_c 0 a' r hr0 w hw).mono ?_
      rintro e w' ⟨rfl, hw'⟩
      refine ⟨_, rfl, _, hw', ?_⟩
      clear hw' hw w w'
      repeat (first | (apply gJR; first | (refine sx ?_; try intro _)) | (apply gJO; first | (refine sx ?_; try intro _)))
      exact JS_to4 K a' r ln 1 ⟨by omega, by omega, by omega, .inr ⟨hr0, hIt⟩⟩ (by repeat (first | exact trivial | refine ⟨rfl, ?_⟩ | refine ⟨lookI rfl (by omega), ?_⟩)) (fun w hw => hw)
    | ok dd a3 =>
    rw [hsy2] at h
    obtain ⟨hd0, hdD, ha23, ha3, rfl, hw'⟩ := h
    refine ⟨_, rfl, _, hw', ?_⟩
    clear hw' hw w w'
    have hF2 : blk2 (bitB B 0) (8 * m) lim D o1 ln (a2 + k1) = if (lfar dd).1 = 0 then .err 62
      else if 8 * m < a3 + (lfar dd).2.toNat then .err 20
      else if (o1.length : Int) < (lfar dd).1 + nbt (bitB B 0) a3 (lfar dd).2.toNat then .err 63
      else if (lim : Int) - o1.length < ln then .err 64
      else .go (a3 + (lfar dd).2.toNat) (cpy o1 ((lfar dd).1 + nbt (bitB B 0) a3 (lfar dd).2.toNat).toNat (ln : Int).toNat) := by unfold blk2; rw [hsy2]
    rw [hF2] at hF
    clear hF2
    repeat (first | (refine sx ?_; try intro _))
    refine JO_call Try.call112 rfl rfl fun w hw => (RFar_c dd (by omega) w hw).mono ?_
    rintro e w' ⟨rfl, hw'⟩
    refine ⟨_, rfl, _, hw', ?_⟩
    clear hw' hw w w'
    by_cases hz : (lfar dd).1 = 0
    · rw [if_pos hz] at hF
      have hz2 : (lfar dd) = (0, 0) := by
        by_cases h : dd < 0 ∨ 29 < dd
        · unfold lfar; rw [if_pos h]
        · obtain ⟨k, rfl⟩ : ∃ k : Nat, dd = k := ⟨dd.toNat, by omega⟩
          have := lfar_bd k (by omega)
          omega
      rw [hz2]
      clear hz hz2
      repeat (first | (refine sx ?_; try intro _))
      refine JO_call Try.call113 rfl rfl fun w hw => (RFail_c 62 a3 0 w hw).mono ?_
      rw [if_pos rfl]
      rintro e w' ⟨rfl, hw'⟩
      refine ⟨_, rfl, _, hw', ?_⟩
      clear hw' hw w w'
      repeat (first | (refine sx ?_; try intro _))
      refine JO_call Try.call64 rfl rfl fun w hw => (RGrpE_c 0 a3 62 (by decide) w hw).mono ?_
      rintro e w' ⟨rfl, hw'⟩
      refine ⟨_, rfl, _, hw', ?_⟩
      clear hw' hw w w'
      repeat (first | (apply gJR; first | (refine sx ?_; try intro _)) | (apply gJO; first | (refine sx ?_; try intro _)))
      exact JS_to4 K a3 62 ln 0 ⟨by omega, by omega, by omega, .inr ⟨by decide, hinv _ (.err hF)⟩⟩ (by repeat (first | exact trivial | refine ⟨rfl, ?_⟩ | refine ⟨lookI rfl (by omega), ?_⟩)) (fun w hw => hw)
    rw [if_neg hz] at hF
    obtain ⟨_, _, d1, d2, d3, d4⟩ := lfar_ok hz
    obtain ⟨⟨lf1, lf2⟩, hlf⟩ : ∃ x, lfar dd = x := ⟨_, rfl⟩
    rw [hlf] at hF hz d1 d2 d3 d4 ⊢
    simp only at hF hz d1 d2 d3 d4 ⊢
    obtain ⟨k2, rfl⟩ : ∃ k : Nat, lf2 = k := ⟨lf2.toNat, by omega⟩
    simp only [Int.toNat_natCast] at hF
    obtain ⟨hm0, hm1'⟩ := nbt_bd (bitB B 0) (bitB_01 B 0) a3 k2
    have hp2 : (2 : Int) ^ k2 ≤ 8192 := by
      have : ∀ k : Fin 14, (2 : Int) ^ k.val ≤ 8192 := by decide
      exact this ⟨k2, by omega⟩
    obtain ⟨x2, hn2e⟩ := Int.eq_ofNat_of_zero_le hm0
    rw [hn2e] at hF hm1'
    repeat (first | (refine sx ?_; try intro _))
    refine JO_call Try.call64 rfl rfl fun w hw => (RGrp4_c hK a3 k2 (by omega) ha3 hm2 w hw).mono ?_
    rintro e w' (⟨h, rfl, hw'⟩ | ⟨h2, he, hw'⟩)
    · refine ⟨_, rfl, _, hw', ?_⟩
      clear hw' hw w w'
      rw [if_pos h] at hF
      repeat (first | (apply gJR; first | (refine sx ?_; try intro _)) | (apply gJO; first | (refine sx ?_; try intro _)))
      exact JS_to4 K a3 20 ln lf1.toNat ⟨by omega, by omega, by omega, .inr ⟨by decide, hinv _ (.err hF)⟩⟩ (by repeat (first | exact trivial | refine ⟨rfl, ?_⟩ | refine ⟨lookI rfl (by omega), ?_⟩)) (fun w hw => hw)
    rw [hn2e] at he; subst he
    refine ⟨_, rfl, _, hw', ?_⟩
    clear hw' hw w w'
    rw [if_neg (by omega)] at hF
    obtain ⟨bk, hbk⟩ : ∃ bk : Nat, lf1 + (x2 : Int) = bk := ⟨(lf1 + (x2 : Int)).toNat, by omega⟩
    rw [hbk, Int.toNat_natCast] at hF
    repeat (first | (apply gJR; first | (refine sx ?_; try intro _)) | (apply gJO; first | (refine sx ?_; try intro _)))
    refine JS_to4 K (a3 + k2) 0 ln bk ⟨by omega, by omega, by omega, .inl ⟨rfl, by omega, h2, by omega, ?_⟩⟩ (by repeat (first | exact trivial | refine ⟨rfl, ?_⟩ | refine ⟨lookI rfl (by omega), ?_⟩)) (fun w hw => hw)
    rw [hF]
    by_cases h : o1.length < bk
    · rw [if_pos (by omega), if_pos h]
    · rw [if_neg (by omega), if_neg h]
end
end Go.Proofs.Ytbiocgenbgbfpaa

namespace Sx
open Go
theorem JS_joinQ46 {P : Program} {f n : Nat} {R : Ending → World → Prop} {D : List Deferred} {w0 : World} {k : List Item} {ov : Ov} {H : List Asn} {α β γ δ : Type} {c1 c2 c3 c4 c5 c6 rest : Code} (o : α → β → γ → δ → Ov) (H' : α → β → γ → δ → List Asn) (I : α → β → γ → δ → Prop)
    (cont : ∀ (x1 : α) (x2 : β) (x3 : γ) (x4 : δ), I x1 x2 x3 x4 → JS P f n R D w0 (.code rest :: k) (o x1 x2 x3 x4) (H' x1 x2 x3 x4))
    (h : (∀ (x1 : α) (x2 : β) (x3 : γ) (x4 : δ), I x1 x2 x3 x4 → JS P f n R D w0 (.code rest :: k) (o x1 x2 x3 x4) (H' x1 x2 x3 x4)) → JS P f n R D w0 (.code (.seq c1 (.seq c2 (.seq c3 (.seq c4 (.seq c5 (.seq c6 rest)))))) :: k) ov H) :
    JS P f n R D w0 (.code (.seq c1 (.seq c2 (.seq c3 (.seq c4 (.seq c5 (.seq c6 rest)))))) :: k) ov H := h cont
end Sx
namespace Go.Proofs.Ytbiocgenbgbfpaa
open Sx Go
set_option linter.unusedVariables false
set_option linter.unusedSimpArgs false
attribute [local irreducible] syA fc tk cds
section
variable {w0 : World} {H : List Asn} {bs : Nat} {q : Option Addr} {d m : Nat} {B : List Int} {lim : Nat} {po : Option Addr} {co : Nat} {o : List Int}
theorem strL_in {w : World} {a : Nat} {E : Int} {x : Asn} (h : St w0 (x :: strL bs q d m B lim a po co o E H) w) : St w0 (strL bs q d m B lim a po co o E (x :: H)) w :=
  h.perm (List.perm_append_comm_assoc [x] [_, _, _] H)
set_option maxRecDepth 10000 in
set_option maxHeartbeats 4000000 in
theorem RLens_c (hK : InfK m B lim) (a : Nat) (ha : a ≤ 8 * m) (hm2 : m ≤ 17592186044410) (many : Nat) (hmn : many ≤ 1000) (pC : Option Addr) (cC : Nat) (C : List Int) (hrC : Rd w0 H (.slice pC 19 cC) 19 (ints .u8 C)) (hC : C.length = 19) (hBC : OKB C) (hkC : OKL C) (w : World) (hw : St w0 (strL bs q d m B lim a po co o 0 H) w) :
    Calls Try.prog 115 #[.pointer (some ⟨bs, 0, none⟩), .slice pC 19 cC, .int .i64 many] w fun e w' => ∃ r, It (lenF (bitB B 0) (8 * m) C many) a [] r ∧ resP r (fun r => r ≠ 0 ∧ (∃ v, e = .returned v) ∧ ∃ a', St w0 (strL bs q d m B lim a' po co o r H) w')
      (fun a' l => a' ≤ 8 * m ∧ l.length = many ∧ OKB l ∧ ∃ p c, e = .returned (.slice p many c) ∧ St w0 (strL bs q d m B lim a' po co o 0 (vec 5 1 (.slice p many c) many (ints .u8 l) :: H)) w') := by
  have hl := hK.hl
  have hm1 := hK.hm1
  refine enter (vs := [.pointer (some ⟨bs, 0, none⟩), .slice pC 19 cC, .int .i64 many]) Try.func115 rfl rfl rfl hw ?_
  repeat (first | (apply gJR; first | (refine sx ?_; try intro _)) | (apply gJO; first | (refine sx ?_; try intro _)) | apply JS_seq | apply JS_region)
  refine JS_block ?_
  refine JS_loop4 (fun (a1 : Nat) (l : List Int) (p : Option Addr) (c : Nat) => [(0, .pointer (some ⟨bs, 0, none⟩)), (1, .slice pC 19 cC), (2, .int .i64 many), (7, .slice p l.length c)]) (fun a1 l p c => strL bs q d m B lim a1 po co o 0 (vec 5 1 (.slice p l.length c) l.length (ints .u8 l) :: H))
    (fun a1 l _ _ => a1 ≤ 8 * m ∧ l.length ≤ many ∧ OKB l ∧ ∀ r, It (lenF (bitB B 0) (8 * m) C many) a1 l r → It (lenF (bitB B 0) (8 * m) C many) a [] r) (fun a1 _ _ _ => 8 * m - a1) a [] none 0 ⟨ha, Nat.zero_le _, OKB_nil, fun _ h => h⟩ (by repeat (first | exact trivial | refine ⟨rfl, ?_⟩ | refine ⟨lookI rfl (by omega), ?_⟩)) (fun _ h => strL_in (St.nilvec h)) ?_
  intro a1 l p c ⟨ha1, hll, hOl, hinv⟩ again
  by_cases hmany : many ≤ l.length
  · obtain rfl : many = l.length := by omega
    clear again
    repeat (first | (refine sx ?_; try intro _))
    refine JS_ret Try.func115 rfl rfl ?_
    intro w hw
    exact ⟨.ok a1 l, hinv _ (.stop (by unfold lenF; rw [if_pos (Nat.le_refl _)])), ha1, rfl, hOl, p, c, rfl, hw⟩
  have hrC' : Rd w0 (vec 5 1 (.slice p l.length c) l.length (ints .u8 l) :: H) (.slice pC 19 cC) 19 (ints .u8 C) := Rd_weak hrC fun w hw => St.sub (by repeat (first | exact List.Sublist.refl _ | apply List.Sublist.cons_cons | apply List.Sublist.cons)) hw
  repeat (first | (apply gJR; first | (refine sx ?_; try intro _)) | (apply gJO; first | (refine sx ?_; try intro _)) | apply JS_region | refine JS_condT rfl ?_ | refine JS_cond_T rfl (by omega) ?_)
  apply JS_seq
  apply JS_seq
  apply JS_region
  repeat (first | (apply gJR; first | (refine sx ?_; try intro _)) | (apply gJO; first | (refine sx ?_; try intro _)))
  refine JS_condT rfl ?_
  apply JS_skip
  refine JS_block ?_
  refine JS_joinQ46 (fun (E : Int) (t : Nat) (x : Int) (a3 : Nat) => [(0, .pointer (some ⟨bs, 0, none⟩)), (1, .slice pC 19 cC), (2, .int .i64 many), (7, .slice p l.length c), (9, .int .i64 t), (10, .int .u8 x)])
    (fun E t x a3 => strL bs q d m B lim a3 po co o E (vec 5 1 (.slice p l.length c) l.length (ints .u8 l) :: H))
    (fun E t x a3 => 1 ≤ t ∧ t ≤ 1000 ∧ 0 ≤ x ∧ x < 256 ∧ ((E = 0 ∧ a3 ≤ 8 * m ∧ a1 < a3 ∧ lenF (bitB B 0) (8 * m) C many a1 l = lenP many l x t a3) ∨ (E ≠ 0 ∧ It (lenF (bitB B 0) (8 * m) C many) a [] (.err E)))) ?_ ?_
  · intro E t x a3 ⟨ht0, ht, hx0, hx1, hmode⟩
    by_cases h : (many : Int) < l.length + t
    · clear again
      repeat (first | (refine sx ?_; try intro _))
      refine JO_call Try.call113 rfl rfl fun w hw => (RFail_c 62 a3 E w hw).mono ?_
      rintro e w' ⟨rfl, hw'⟩
      refine ⟨_, rfl, _, hw', ?_⟩
      clear hw' hw w w'
      obtain ⟨E2, hE2, hIt, heq⟩ : ∃ E2 : Int, E2 ≠ 0 ∧ It (lenF (bitB B 0) (8 * m) C many) a [] (.err E2) ∧ (if E = 0 then 62 else E) = E2 := by
        rcases hmode with ⟨rfl, ha4, ha14, hF⟩ | ⟨hE, hIt⟩
        · exact ⟨62, by decide, hinv _ (.err (by rw [hF]; unfold lenP; rw [if_pos h])), rfl⟩
        · exact ⟨E, hE, hIt, if_neg hE⟩
      rw [heq]
      (repeat (first | (apply gJS; first | apply JS_loop' | apply JS_inLoop) | first | (refine sx ?_; try intro _)))
      exact JS_ret Try.func115 rfl rfl fun w hw => ⟨.err E2, hIt, hE2, ⟨_, rfl⟩, a3, St.sub (by repeat (first | exact List.Sublist.refl _ | apply List.Sublist.cons_cons | apply List.Sublist.cons)) hw⟩
    · rcases hmode with ⟨rfl, ha4, ha14, hF⟩ | ⟨hE, hIt⟩
      · have hF : lenF (bitB B 0) (8 * m) C many a1 l = .go a3 (l ++ List.replicate t x) := by rw [hF]; unfold lenP; rw [if_neg h, Int.toNat_natCast]
        repeat (first | (apply gJR; first | (refine sx ?_; try intro _)) | (apply gJO; first | (refine sx ?_; try intro _)) | apply JS_seq | apply JS_region | refine JS_condF rfl ?_ | refine JS_cond_F rfl (by omega) ?_ | apply JS_skip)
        refine JS_block ?_
        refine JS_loop3 (fun (j : Nat) (p : Option Addr) (c : Nat) => [(0, .pointer (some ⟨bs, 0, none⟩)), (1, .slice pC 19 cC), (2, .int .i64 many), (7, .slice p (l.length + j) c), (9, .int .i64 t), (10, .int .u8 x), (11, .int .i64 j)]) (fun j p c => strL bs q d m B lim a3 po co o 0 (vec 5 1 (.slice p (l.length + j) c) (l.length + j) (ints .u8 (l ++ List.replicate j x)) :: H))
          (fun j _ _ => j ≤ t) (fun j _ _ => t - j) 0 p c (Nat.zero_le _) (by repeat (first | exact trivial | refine ⟨rfl, ?_⟩ | refine ⟨lookI rfl (by omega), ?_⟩)) (fun _ h => by rw [show List.replicate 0 x = [] from rfl, List.append_nil]; exact h) ?_
        intro j p' c' hj again2
        by_cases hjt : j < t
        · clear again
          have hcs : l ++ List.replicate (j + 1) x = (l ++ List.replicate j x) ++ [x] := by rw [List.replicate_succ', List.append_assoc]
          have hlen : (l ++ List.replicate j x).length = l.length + j := by simp
          generalize l ++ List.replicate j x = L1 at *
          repeat (first | (refine sx ?_; try intro _))
          refine JO_app (tb := tb) rfl rfl rfl rfl rfl rfl (by repeat (first | exact Sel.here _ _ | apply Sel.there)) (vec_rd (List.Mem.head _)) rfl (by repeat (first | exact trivial | refine ⟨rfl, ?_⟩)) (by omega) rfl ?_
          intro p5 c5
          repeat (first | (refine sx ?_; try intro _))
          exact JS_again3 again2 (j + 1) p5 c5 (by omega) (by omega) (by repeat (first | exact trivial | refine ⟨rfl, ?_⟩ | refine ⟨lookI rfl (by omega), ?_⟩)) (fun w hw => by rw [hcs, ← ints_app1]; exact St.sub (by repeat (first | exact List.Sublist.refl _ | apply List.Sublist.cons_cons | apply List.Sublist.cons)) hw)
        · obtain rfl : j = t := by omega
          clear again2
          repeat (first | (refine sx ?_; try intro _))
          exact JS_again4 again a3 (l ++ List.replicate j x) p' c' ⟨ha4, by simp; omega, OKB_app hOl (OKB_rep ⟨hx0, hx1⟩ j), fun r hr => hinv r (.go hF hr)⟩ (by omega)
            (by rw [List.length_append, List.length_replicate]; exact ⟨rfl, rfl, rfl, rfl, trivial⟩) (fun w hw => by rw [List.length_append, List.length_replicate]; exact hw)
      · clear again
        (repeat (first | (apply gJS; first | apply JS_loop' | apply JS_inLoop) | first | (refine sx ?_; try intro _)))
        exact JS_ret Try.func115 rfl rfl fun w hw => ⟨.err E, hIt, hE, ⟨_, rfl⟩, a3, St.sub (by repeat (first | exact List.Sublist.refl _ | apply List.Sublist.cons_cons | apply List.Sublist.cons)) hw⟩
  · clear again
    intro K
    repeat (first | (refine sx ?_; try intro _))
    refine JO_call Try.call110 rfl rfl fun w hw => (RSym_c hK a1 ha1 hm2 pC cC 19 C hrC' hC hBC hkC w hw).mono ?_
    intro e w' h
    unfold symP at h
    cases hsy : symS (bitB B 0) (8 * m) C a1 with
    | err r =>
      rw [hsy] at h
      obtain ⟨hr0, rfl, a', hw'⟩ := h
      refine ⟨_, rfl, _, hw', ?_⟩
      clear hw' hw w w'
      have hIt := hinv _ (.err (show lenF (bitB B 0) (8 * m) C many a1 l = .err r by unfold lenF; rw [if_neg hmany, hsy]))
      (repeat (first | (apply gJR; first | (refine sx ?_; try intro _)) | (apply gJO; first | (refine sx ?_; try intro _))))
      (apply JS_seq; apply JS_region; repeat (first | (apply gJR; first | (refine sx ?_; try intro _)) | (apply gJO; first | (refine sx ?_; try intro _))))
      (apply JS_seq; apply JS_region; repeat (first | (apply gJR; first | (refine sx ?_; try intro _)) | (apply gJO; first | (refine sx ?_; try intro _))))
      (apply JS_seq; apply JS_seq; apply JS_region; (repeat (first | (apply gJR; first | (refine sx ?_; try intro _)) | (apply gJO; first | (refine sx ?_; try intro _)))); refine JS_condF rfl ?_; apply JS_skip)
      (apply JS_seq; apply JS_seq; apply JS_region; (repeat (first | (apply gJR; first | (refine sx ?_; try intro _)) | (apply gJO; first | (refine sx ?_; try intro _)))); refine JS_condF rfl ?_; apply JS_skip)
      (apply JS_seq; apply JS_seq; apply JS_region; (repeat (first | (apply gJR; first | (refine sx ?_; try intro _)) | (apply gJO; first | (refine sx ?_; try intro _)))); refine JS_condF rfl ?_; apply JS_skip)
      exact JS_to4 K r 1 0 a' ⟨by omega, by omega, by omega, by omega, .inr ⟨hr0, hIt⟩⟩ (by repeat (first | exact trivial | refine ⟨rfl, ?_⟩ | refine ⟨lookI rfl (by omega), ?_⟩)) (fun w hw => hw)
    | ok i a2 =>
    rw [hsy] at h
    obtain ⟨hi0, hiC, ha12, ha2, rfl, hw'⟩ := h
    refine ⟨_, rfl, _, hw', ?_⟩
    clear hw' hw w w'
    have hF : lenF (bitB B 0) (8 * m) C many a1 l = if i = 16 then (if l.length = 0 then .err 62 else if 8 * m < a2 + 2 then .err 20 else lenP many l (l.getD (l.length - 1) 0) (3 + nbt (bitB B 0) a2 2) (a2 + 2))
      else if i = 17 then (if 8 * m < a2 + 3 then .err 20 else lenP many l 0 (3 + nbt (bitB B 0) a2 3) (a2 + 3))
      else if i = 18 then (if 8 * m < a2 + 7 then .err 20 else lenP many l 0 (11 + nbt (bitB B 0) a2 7) (a2 + 7))
      else lenP many l i 1 a2 := by unfold lenF; rw [if_neg hmany, hsy]
    by_cases h16 : i = 16
    · rw [if_pos h16] at hF
      by_cases hl0 : l.length = 0
      · rw [if_pos hl0] at hF
        repeat (first | (refine sx ?_; try intro _))
        refine JO_call Try.call113 rfl rfl fun w hw => (RFail_c 62 a2 0 w hw).mono ?_
        rw [if_pos rfl]
        rintro e w' ⟨rfl, hw'⟩
        refine ⟨_, rfl, _, hw', ?_⟩
        clear hw' hw w w'
        repeat (first | (refine sx ?_; try intro _))
        exact JS_ret Try.func115 rfl rfl fun w hw => ⟨.err 62, hinv _ (.err hF), by decide, ⟨_, rfl⟩, a2, St.sub (by repeat (first | exact List.Sublist.refl _ | apply List.Sublist.cons_cons | apply List.Sublist.cons)) hw⟩
      rw [if_neg hl0] at hF
      have hlst := hOl (l.length - 1)
      have gl : (ints .u8 l)[l.length - 1]? = some (.int .u8 (l.getD (l.length - 1) 0)) := ints_get (by omega)
      generalize l.getD (l.length - 1) 0 = x at *
      repeat (first | (apply gJO; first | refine JO_v (V_index (tb := tb) (j := l.length - 1) rfl rfl rfl rfl (Rd.sl (vec_rd (by repeat (first | apply List.Mem.head | apply List.Mem.tail)))) (by omega) (by omega) rfl) ?_ | refine JO_v (V_loadC (tb := tb) rfl (vec_rd (by repeat (first | apply List.Mem.head | apply List.Mem.tail))) rfl rfl gl rfl) ?_) | first | (refine sx ?_; try intro _))
      refine JO_call Try.call64 rfl rfl fun w hw => (RGrp4_c hK a2 2 (by omega) ha2 hm2 w hw).mono ?_
      rintro e w' (⟨h, rfl, hw'⟩ | ⟨h1, he, hw'⟩)
      · refine ⟨_, rfl, _, hw', ?_⟩
        clear hw' hw w w'
        rw [if_pos h] at hF
        (repeat (first | (apply gJR; first | (refine sx ?_; try intro _)) | (apply gJO; first | (refine sx ?_; try intro _))))
        (apply JS_seq; apply JS_seq; apply JS_region; (repeat (first | (apply gJR; first | (refine sx ?_; try intro _)) | (apply gJO; first | (refine sx ?_; try intro _)))); refine JS_condF rfl ?_; apply JS_skip)
        (apply JS_seq; apply JS_seq; apply JS_region; (repeat (first | (apply gJR; first | (refine sx ?_; try intro _)) | (apply gJO; first | (refine sx ?_; try intro _)))); refine JS_condF rfl ?_; apply JS_skip)
        exact JS_to4 K 20 3 x a2 ⟨by omega, by omega, hlst.1, hlst.2, .inr ⟨by decide, hinv _ (.err hF)⟩⟩ (by repeat (first | exact trivial | refine ⟨rfl, ?_⟩ | refine ⟨lookI rfl (by omega), ?_⟩)) (fun w hw => hw)
      rw [if_neg (by omega)] at hF
      obtain ⟨n, hn⟩ := Int.eq_ofNat_of_zero_le (nbt_bd (bitB B 0) (bitB_01 B 0) a2 2).1
      have hn1 := (nbt_bd (bitB B 0) (bitB_01 B 0) a2 2).2
      rw [hn] at he hn1 hF
      subst he
      have hn2 : (n : Int) < 4 := hn1
      refine ⟨_, rfl, _, hw', ?_⟩
      clear hw' hw w w'
      (repeat (first | (apply gJR; first | (refine sx ?_; try intro _)) | (apply gJO; first | (refine sx ?_; try intro _))))
      (apply JS_seq; apply JS_seq; apply JS_region; (repeat (first | (apply gJR; first | (refine sx ?_; try intro _)) | (apply gJO; first | (refine sx ?_; try intro _)))); refine JS_condF rfl ?_; apply JS_skip)
      (apply JS_seq; apply JS_seq; apply JS_region; (repeat (first | (apply gJR; first | (refine sx ?_; try intro _)) | (apply gJO; first | (refine sx ?_; try intro _)))); refine JS_condF rfl ?_; apply JS_skip)
      exact JS_to4 K 0 (3 + n) x (a2 + 2) ⟨by omega, by omega, hlst.1, hlst.2, .inl ⟨rfl, h1, by omega, hF⟩⟩ (by repeat (first | exact trivial | refine ⟨rfl, ?_⟩ | refine ⟨lookI rfl (by omega), ?_⟩)) (fun w hw => hw)
    rw [if_neg h16] at hF
    (repeat (first | (apply gJR; first | (refine sx ?_; try intro _)) | (apply gJO; first | (refine sx ?_; try intro _))))
    (apply JS_seq; apply JS_region; repeat (first | (apply gJR; first | (refine sx ?_; try intro _)) | (apply gJO; first | (refine sx ?_; try intro _))))
    (apply JS_seq; apply JS_region; repeat (first | (apply gJR; first | (refine sx ?_; try intro _)) | (apply gJO; first | (refine sx ?_; try intro _))))
    (apply JS_seq; apply JS_seq; apply JS_region; (repeat (first | (apply gJR; first | (refine sx ?_; try intro _)) | (apply gJO; first | (refine sx ?_; try intro _)))); refine JS_condF rfl ?_; apply JS_skip)
    by_cases h17 : i = 17
    · rw [if_pos h17] at hF
      repeat (first | (refine sx ?_; try intro _))
      refine JO_call Try.call64 rfl rfl fun w hw => (RGrp4_c hK a2 3 (by omega) ha2 hm2 w hw).mono ?_
      rintro e w' (⟨h, rfl, hw'⟩ | ⟨h1, he, hw'⟩)
      · refine ⟨_, rfl, _, hw', ?_⟩
        clear hw' hw w w'
        rw [if_pos h] at hF
        (repeat (first | (apply gJR; first | (refine sx ?_; try intro _)) | (apply gJO; first | (refine sx ?_; try intro _))))
        (apply JS_seq; apply JS_seq; apply JS_region; (repeat (first | (apply gJR; first | (refine sx ?_; try intro _)) | (apply gJO; first | (refine sx ?_; try intro _)))); refine JS_condF rfl ?_; apply JS_skip)
        exact JS_to4 K 20 3 0 a2 ⟨by omega, by omega, by omega, by omega, .inr ⟨by decide, hinv _ (.err hF)⟩⟩ (by repeat (first | exact trivial | refine ⟨rfl, ?_⟩ | refine ⟨lookI rfl (by omega), ?_⟩)) (fun w hw => hw)
      rw [if_neg (by omega)] at hF
      obtain ⟨n, hn⟩ := Int.eq_ofNat_of_zero_le (nbt_bd (bitB B 0) (bitB_01 B 0) a2 3).1
      have hn1 := (nbt_bd (bitB B 0) (bitB_01 B 0) a2 3).2
      rw [hn] at he hn1 hF
      subst he
      have hn2 : (n : Int) < 8 := hn1
      refine ⟨_, rfl, _, hw', ?_⟩
      clear hw' hw w w'
      (repeat (first | (apply gJR; first | (refine sx ?_; try intro _)) | (apply gJO; first | (refine sx ?_; try intro _))))
      (apply JS_seq; apply JS_seq; apply JS_region; (repeat (first | (apply gJR; first | (refine sx ?_; try intro _)) | (apply gJO; first | (refine sx ?_; try intro _)))); refine JS_condF rfl ?_; apply JS_skip)
      exact JS_to4 K 0 (3 + n) 0 (a2 + 3) ⟨by omega, by omega, by omega, by omega, .inl ⟨rfl, h1, by omega, hF⟩⟩ (by repeat (first | exact trivial | refine ⟨rfl, ?_⟩ | refine ⟨lookI rfl (by omega), ?_⟩)) (fun w hw => hw)
    rw [if_neg h17] at hF
    (apply JS_seq; apply JS_seq; apply JS_region; (repeat (first | (apply gJR; first | (refine sx ?_; try intro _)) | (apply gJO; first | (refine sx ?_; try intro _)))); refine JS_condF rfl ?_; apply JS_skip)
    by_cases h18 : i = 18
    · rw [if_pos h18] at hF
      repeat (first | (refine sx ?_; try intro _))
      refine JO_call Try.call64 rfl rfl fun w hw => (RGrp4_c hK a2 7 (by omega) ha2 hm2 w hw).mono ?_
      rintro e w' (⟨h, rfl, hw'⟩ | ⟨h1, he, hw'⟩)
      · refine ⟨_, rfl, _, hw', ?_⟩
        clear hw' hw w w'
        rw [if_pos h] at hF
        (repeat (first | (apply gJR; first | (refine sx ?_; try intro _)) | (apply gJO; first | (refine sx ?_; try intro _))))
        exact JS_to4 K 20 11 0 a2 ⟨by omega, by omega, by omega, by omega, .inr ⟨by decide, hinv _ (.err hF)⟩⟩ (by repeat (first | exact trivial | refine ⟨rfl, ?_⟩ | refine ⟨lookI rfl (by omega), ?_⟩)) (fun w hw => hw)
      rw [if_neg (by omega)] at hF
      obtain ⟨n, hn⟩ := Int.eq_ofNat_of_zero_le (nbt_bd (bitB B 0) (bitB_01 B 0) a2 7).1
      have hn1 := (nbt_bd (bitB B 0) (bitB_01 B 0) a2 7).2
      rw [hn] at he hn1 hF
      subst he
      have hn2 : (n : Int) < 128 := hn1
      refine ⟨_, rfl, _, hw', ?_⟩
      clear hw' hw w w'
      (repeat (first | (apply gJR; first | (refine sx ?_; try intro _)) | (apply gJO; first | (refine sx ?_; try intro _))))
      exact JS_to4 K 0 (11 + n) 0 (a2 + 7) ⟨by omega, by omega, by omega, by omega, .inl ⟨rfl, h1, by omega, hF⟩⟩ (by repeat (first | exact trivial | refine ⟨rfl, ?_⟩ | refine ⟨lookI rfl (by omega), ?_⟩)) (fun w hw => hw)
    rw [if_neg h18] at hF
    (apply JS_seq; apply JS_seq; apply JS_region; (repeat (first | (apply gJR; first | (refine sx ?_; try intro _)) | (apply gJO; first | (refine sx ?_; try intro _)))); refine JS_condF rfl ?_; apply JS_skip)
    exact JS_to4 K 0 1 i a2 ⟨by omega, by omega, hi0, by omega, .inl ⟨rfl, ha2, ha12, hF⟩⟩ (by repeat (first | exact trivial | refine ⟨rfl, ?_⟩ | refine ⟨lookI rfl (by omega), ?_⟩)) (fun w hw => hw)
end
end Go.Proofs.Ytbiocgenbgbfpaa

namespace Sx
open Go
theorem JS_joinQ53 {P : Program} {f n : Nat} {R : Ending → World → Prop} {D : List Deferred} {w0 : World} {k : List Item} {ov : Ov} {H : List Asn} {α β γ δ ε : Type} {c1 c2 c3 rest : Code} (o : α → β → γ → δ → ε → Ov) (H' : α → β → γ → δ → ε → List Asn) (I : α → β → γ → δ → ε → Prop)
    (cont : ∀ (x1 : α) (x2 : β) (x3 : γ) (x4 : δ) (x5 : ε), I x1 x2 x3 x4 x5 → JS P f n R D w0 (.code rest :: k) (o x1 x2 x3 x4 x5) (H' x1 x2 x3 x4 x5))
    (h : (∀ (x1 : α) (x2 : β) (x3 : γ) (x4 : δ) (x5 : ε), I x1 x2 x3 x4 x5 → JS P f n R D w0 (.code rest :: k) (o x1 x2 x3 x4 x5) (H' x1 x2 x3 x4 x5)) → JS P f n R D w0 (.code (.seq c1 (.seq c2 (.seq c3 rest))) :: k) ov H) :
    JS P f n R D w0 (.code (.seq c1 (.seq c2 (.seq c3 rest))) :: k) ov H := h cont
theorem JS_joinQ54 {P : Program} {f n : Nat} {R : Ending → World → Prop} {D : List Deferred} {w0 : World} {k : List Item} {ov : Ov} {H : List Asn} {α β γ δ ε : Type} {c1 c2 c3 c4 rest : Code} (o : α → β → γ → δ → ε → Ov) (H' : α → β → γ → δ → ε → List Asn) (I : α → β → γ → δ → ε → Prop)
    (cont : ∀ (x1 : α) (x2 : β) (x3 : γ) (x4 : δ) (x5 : ε), I x1 x2 x3 x4 x5 → JS P f n R D w0 (.code rest :: k) (o x1 x2 x3 x4 x5) (H' x1 x2 x3 x4 x5))
    (h : (∀ (x1 : α) (x2 : β) (x3 : γ) (x4 : δ) (x5 : ε), I x1 x2 x3 x4 x5 → JS P f n R D w0 (.code rest :: k) (o x1 x2 x3 x4 x5) (H' x1 x2 x3 x4 x5)) → JS P f n R D w0 (.code (.seq c1 (.seq c2 (.seq c3 (.seq c4 rest)))) :: k) ov H) :
    JS P f n R D w0 (.code (.seq c1 (.seq c2 (.seq c3 (.seq c4 rest)))) :: k) ov H := h cont
end Sx
namespace Go.Proofs.Ytbiocgenbgbfpaa
open Sx Go
set_option linter.unusedVariables false
set_option linter.unusedSimpArgs false
attribute [local irreducible] syA fc tk cds
theorem OKB_set {C : List Int} (h : OKB C) {x : Int} (hx : 0 ≤ x ∧ x < 256) (k : Nat) : OKB (C.set k x) := by
  intro j
  rw [List.getD_eq_getElem?_getD, List.getElem?_set]
  split
  · split
    · exact hx
    · exact ⟨by decide, by decide⟩
  · have := h j; rwa [List.getD_eq_getElem?_getD] at this
open Classical in
noncomputable def des1b (bt : Nat → Int) (N lim lit sp : Nat) (C : List Int) (a : Nat) (o : List Int) : Res :=
  if ¬ OKL C ∨ ¬ tk C = 32768 then .err 62
  else match itF (lenF bt N C (lit + sp)) a [] with
    | .err e => .err e
    | .ok a' l => des2 bt N lim lit l a' o
theorem des1_b (bt : Nat → Int) (N lim lit sp ln : Nat) (a : Nat) (o : List Int) : des1 bt N lim lit sp ln a o = if 286 < lit ∨ 30 < sp then .err 62 else if N < a + 3 * ln then .err 20 else des1b bt N lim lit sp (ccl bt a ln) (a + 3 * ln) o := rfl
theorem des1b_bad {bt : Nat → Int} {N lim lit sp : Nat} {C : List Int} {a : Nat} {o : List Int} (h : ¬ OKL C ∨ ¬ tk C = 32768) : des1b bt N lim lit sp C a o = .err 62 := by
  unfold des1b; rw [if_pos h]
theorem des1b_ok {bt : Nat → Int} {N lim lit sp : Nat} {C : List Int} {a : Nat} {o : List Int} (h : ¬ (¬ OKL C ∨ ¬ tk C = 32768)) : des1b bt N lim lit sp C a o = match itF (lenF bt N C (lit + sp)) a [] with
    | .err e => .err e
    | .ok a' l => des2 bt N lim lit l a' o := by
  unfold des1b; rw [if_neg h]
section
variable {w0 : World} {H : List Asn} {bs : Nat} {q : Option Addr} {d m : Nat} {B : List Int} {lim : Nat} {po : Option Addr} {co : Nat} {o : List Int}
theorem RP_drop {x : Asn} {r : Res} {w : World} (h : RP w0 bs q d m B lim (x :: H) r w) : RP w0 bs q d m B lim H r w := by
  unfold RP at *
  cases r with
  | err r => exact ⟨h.1, h.2.elim fun a h => h.elim fun po h => h.elim fun co h => h.elim fun o h => ⟨a, po, co, o, St.sub (by repeat (first | exact List.Sublist.refl _ | apply List.Sublist.cons_cons | apply List.Sublist.cons)) h⟩⟩
  | ok a o => exact ⟨h.1, h.2.1, h.2.2.elim fun po h => h.elim fun co h => ⟨po, co, St.sub (by repeat (first | exact List.Sublist.refl _ | apply List.Sublist.cons_cons | apply List.Sublist.cons)) h⟩⟩
theorem strL_ins {w : World} {a : Nat} {E : Int} (X : List Asn) (h : St w0 (X ++ strL bs q d m B lim a po co o E H) w) : St w0 (strL bs q d m B lim a po co o E (X ++ H)) w :=
  h.perm (List.perm_append_comm_assoc X [_, _, _] H)
set_option maxRecDepth 10000 in
set_option maxHeartbeats 4000000 in
theorem RDes_c (hK : InfK m B lim) (a : Nat) (ha : a ≤ 8 * m) (hm2 : m ≤ 17592186044410) (ho : o.length ≤ lim) (w : World) (hw : St w0 (strL bs q d m B lim a po co o 0 H) w) :
    Calls Try.prog 68 #[.pointer (some ⟨bs, 0, none⟩)] w fun e w' => e = .returned (.tuple #[]) ∧ RP w0 bs q d m B lim H (desF (bitB B 0) (8 * m) lim a o) w' := by
  have hl := hK.hl
  have hm1 := hK.hm1
  refine enter (vs := [.pointer (some ⟨bs, 0, none⟩)]) Try.func68 rfl rfl rfl hw ?_
  obtain ⟨F, hFd⟩ : ∃ F, desF (bitB B 0) (8 * m) lim a o = F := ⟨_, rfl⟩
  rw [hFd]
  refine JS_joinQ53 (fun (E : Int) (a3 lit sp ln : Nat) => [(0, .pointer (some ⟨bs, 0, none⟩)), (2, .int .i64 lit), (3, .int .i64 sp), (4, .int .i64 ln)]) (fun E a3 _ _ _ => strL bs q d m B lim a3 po co o E H)
    (fun E a3 lit sp ln => lit ≤ 300 ∧ 257 ≤ lit ∧ 1 ≤ sp ∧ sp ≤ 40 ∧ 4 ≤ ln ∧ ln ≤ 19 ∧ ((E = 0 ∧ a3 ≤ 8 * m ∧ F = des1 (bitB B 0) (8 * m) lim lit sp ln a3 o) ∨ (E ≠ 0 ∧ F = .err E))) ?_ ?_
  · clear hFd
    intro E a3 lit sp ln ⟨hlit, hlit2, hsp1, hsp, hln1, hln2, hmode⟩
    refine JS_joinQ54 (fun (E : Int) (a4 : Nat) (C : List Int) (pC : Option Addr) (cC : Nat) => [(0, .pointer (some ⟨bs, 0, none⟩)), (2, .int .i64 lit), (3, .int .i64 sp), (6, .slice pC 19 cC)]) (fun E a4 C pC cC => strL bs q d m B lim a4 po co o E (vec 5 1 (.slice pC 19 cC) 19 (ints .u8 C) :: H))
      (fun E a4 C pC cC => C.length = 19 ∧ OKB C ∧ ((E = 0 ∧ a4 ≤ 8 * m ∧ F = des1b (bitB B 0) (8 * m) lim lit sp C a4 o) ∨ (E ≠ 0 ∧ F = .err E))) ?_ ?_
    · clear hmode E
      intro E a4 C pC cC ⟨hC, hBC, hmode⟩
      repeat (first | (refine sx ?_; try intro _))
      refine JO_call Try.call114 rfl rfl fun w hw => (RCheck5_c pC cC 19 C (vec_rd (by repeat (first | apply List.Mem.head | apply List.Mem.tail))) hC hBC (by omega) w hw).mono ?_
      rintro e w' ⟨r, ob, rfl, hw', hcase⟩
      refine ⟨_, rfl, _, hw', ?_⟩
      clear hw' hw w w'
      have hbad : (r ≠ 0 ∨ ob = false) ↔ (¬ OKL C ∨ ¬ tk C = 32768) := by
        rcases hcase with ⟨h, rfl, rfl⟩ | ⟨h1, h2, h3, rfl, rfl⟩ | ⟨h1, h2, h3, rfl, rfl⟩
        · refine ⟨fun _ => .inl fun h' => ?_, fun _ => .inr rfl⟩
          rcases h with h | ⟨j, h⟩
          · omega
          · have := h'.2.1 j; omega
        · exact ⟨fun _ => .inl fun h' => h3 h'.2.2, fun _ => .inr rfl⟩
        · have hok : OKL C := ⟨by omega, h2, h3⟩
          constructor
          · rintro (h | h)
            · exact absurd rfl h
            · exact .inr (by simpa using h)
          · rintro (h | h)
            · exact absurd hok h
            · exact .inr (by simpa using h)
      by_cases hb : r ≠ 0 ∨ ob = false
      · obtain ⟨E2, hE2, hF2, heq⟩ : ∃ E2 : Int, E2 ≠ 0 ∧ F = .err E2 ∧ (if E = 0 then 62 else E) = E2 := by
          rcases hmode with ⟨rfl, ha4, hF⟩ | ⟨hE, hF⟩
          · exact ⟨62, by decide, by rw [hF, des1b_bad (hbad.1 hb)], rfl⟩
          · exact ⟨E, hE, hF, if_neg hE⟩
        have hb' : r ≠ 0 ∨ (r = 0 ∧ ob = false) := by
          by_cases h : r = 0
          · exact .inr ⟨h, hb.resolve_left fun h' => h' h⟩
          · exact .inl h
        rcases hb' with h | ⟨rfl, rfl⟩
        all_goals (repeat (first | (refine sx ?_; try intro _)))
        all_goals (refine JO_call Try.call113 rfl rfl fun w hw => (RFail_c 62 a4 E w hw).mono ?_)
        all_goals (rw [heq]; rintro e w' ⟨rfl, hw'⟩; refine ⟨_, rfl, _, hw', ?_⟩; clear hw' hw w w'; repeat (first | (refine sx ?_; try intro _)))
        all_goals (refine JS_ret Try.func68 rfl rfl fun w hw => ⟨rfl, ?_⟩; rw [hF2]; exact ⟨hE2, a4, _, _, _, St.sub (by repeat (first | exact List.Sublist.refl _ | apply List.Sublist.cons_cons | apply List.Sublist.cons)) hw⟩)
      · obtain rfl : r = 0 := by
          by_cases h : r = 0
          · exact h
          · exact absurd (.inl h) hb
        obtain rfl : ob = true := by
          cases ob with
          | true => rfl
          | false => exact absurd (.inr rfl) hb
        rcases hmode with ⟨rfl, ha4, hF⟩ | ⟨hE, hF⟩
        rotate_left
        · repeat (first | (refine sx ?_; try intro _))
          refine JS_ret Try.func68 rfl rfl fun w hw => ⟨rfl, ?_⟩
          rw [hF]
          exact ⟨hE, a4, _, _, _, St.sub (by repeat (first | exact List.Sublist.refl _ | apply List.Sublist.cons_cons | apply List.Sublist.cons)) hw⟩
        rw [des1b_ok (fun h => hb (hbad.2 h))] at hF
        have hkC : OKL C := by
          rcases hcase with ⟨_, h, _⟩ | ⟨_, _, _, h, _⟩ | ⟨h1, h2, h3, _, _⟩
          · exact absurd h (by decide)
          · exact absurd h (by decide)
          · exact ⟨by omega, h2, h3⟩
        have hls : (lit : Int) + sp = ((lit + sp : Nat) : Int) := by omega
        repeat (first | (refine sx ?_; try intro _))
        simp only [hls]
        refine JO_call Try.call115 rfl rfl fun w hw => (RLens_c hK a4 ha4 hm2 (lit + sp) (by omega) pC cC C (vec_rd (List.Mem.head _)) hC hBC hkC w hw).mono ?_
        rintro e w' ⟨r, hr, h⟩
        rw [itF_of hr] at hF
        clear hr
        cases r with
        | err r =>
          obtain ⟨hr0, ⟨v, rfl⟩, a', hw'⟩ := h
          refine ⟨_, rfl, _, hw', ?_⟩
          clear hw' hw w w'
          simp only at hF
          repeat (first | (refine sx ?_; try intro _))
          refine JS_ret Try.func68 rfl rfl fun w hw => ⟨rfl, ?_⟩
          rw [hF]
          exact ⟨hr0, a', _, _, _, St.sub (by repeat (first | exact List.Sublist.refl _ | apply List.Sublist.cons_cons | apply List.Sublist.cons)) hw⟩
        | ok a' l =>
        obtain ⟨ha', hll, hol, p, c, rfl, hw'⟩ := h
        have hcap : lit + sp ≤ c := (Rd.lcap (vec_rd (e := 5) (size := 1) (v := .slice p (lit + sp) c) (n := lit + sp) (cs := ints .u8 l) (by repeat (first | apply List.Mem.head | apply List.Mem.tail))) hw').1
        refine ⟨_, rfl, _, hw', ?_⟩
        clear hw' hw w w'
        simp only at hF
        unfold des2 at hF
        have g256 : (ints .u8 l)[256]? = some (.int .u8 (l.getD 256 0)) := ints_get (by omega)
        have h256 := hol 256
        by_cases hz : l.getD 256 0 = 0
        · rw [if_pos hz] at hF
          repeat (first | (apply gJO; first | refine JO_v (V_loadC (tb := tb) rfl (vec_rd (e := 5) (size := 1) (v := .slice p (lit + sp) c) (n := lit + sp) (cs := ints .u8 l) (by repeat (first | apply List.Mem.head | apply List.Mem.tail))) rfl rfl g256 rfl) ?_ | refine JO_v (V_slice (tb := tb) (lo := 0) (hi := lit) rfl rfl rfl rfl rfl (by rfl) (by rfl) (fun w hw => ⟨by omega, by omega⟩) rfl) ?_ | refine JO_v (V_slice (tb := tb) (lo := lit) (hi := lit + sp) rfl rfl rfl rfl rfl (by rfl) (by rfl) (fun w hw => ⟨by omega, by omega⟩) rfl) ?_) | first | (refine sx ?_; try intro _))
          refine JS_ret Try.func68 rfl rfl fun w hw => ⟨rfl, ?_⟩
          rw [hF]
          exact ⟨by decide, a', _, _, _, St.sub (by repeat (first | exact List.Sublist.refl _ | apply List.Sublist.cons_cons | apply List.Sublist.cons)) hw⟩
        rw [if_neg hz] at hF
        have hl1 : (l.take lit).length = lit := by rw [List.length_take]; omega
        have hl2 : (l.drop lit).length = sp := by rw [List.length_drop]; omega
        have ho1 : OKB (l.take lit) := Byt_take hol _
        have ho2 : OKB (l.drop lit) := Byt_drop hol _
        have e2 : lit + sp - lit = sp := by omega
        have R1 : Rd w0 (vec 5 1 (.slice p (lit + sp) c) (lit + sp) (ints .u8 l) :: vec 5 1 (.slice pC 19 cC) 19 (ints .u8 C) :: H) (.slice p lit c) lit (ints .u8 (l.take lit)) := by
          have := Rd_sub (lo := 0) (hi := lit) (sz := 1) (vec_rd (w0 := w0) (H := vec 5 1 (.slice p (lit + sp) c) (lit + sp) (ints .u8 l) :: vec 5 1 (.slice pC 19 cC) 19 (ints .u8 C) :: H) (e := 5) (size := 1) (v := .slice p (lit + sp) c) (n := lit + sp) (cs := ints .u8 l) (by repeat (first | apply List.Mem.head | apply List.Mem.tail))) (by omega) (by omega)
          simp only [subB_0, Nat.sub_zero, Nat.zero_mul, Nat.mul_one, List.drop_zero, ints_take] at this
          exact this
        have R2 : Rd w0 (vec 5 1 (.slice p (lit + sp) c) (lit + sp) (ints .u8 l) :: vec 5 1 (.slice pC 19 cC) 19 (ints .u8 C) :: H) (.slice (subB p lit c 1) sp (c - lit)) sp (ints .u8 (l.drop lit)) := by
          have := Rd_sub (lo := lit) (hi := lit + sp) (sz := 1) (vec_rd (w0 := w0) (H := vec 5 1 (.slice p (lit + sp) c) (lit + sp) (ints .u8 l) :: vec 5 1 (.slice pC 19 cC) 19 (ints .u8 C) :: H) (e := 5) (size := 1) (v := .slice p (lit + sp) c) (n := lit + sp) (cs := ints .u8 l) (by repeat (first | apply List.Mem.head | apply List.Mem.tail))) (by omega) (by omega)
          simp only [e2, Nat.mul_one, ints_drop, ints_take] at this
          rw [List.take_of_length_le (by omega)] at this
          exact this
        repeat (first | (apply gJO; first | refine JO_v (V_loadC (tb := tb) rfl (vec_rd (e := 5) (size := 1) (v := .slice p (lit + sp) c) (n := lit + sp) (cs := ints .u8 l) (by repeat (first | apply List.Mem.head | apply List.Mem.tail))) rfl rfl g256 rfl) ?_ | refine JO_v (V_slice (tb := tb) (lo := 0) (hi := lit) rfl rfl rfl rfl rfl (by rfl) (by rfl) (fun w hw => ⟨by omega, by omega⟩) rfl) ?_ | refine JO_v (V_slice (tb := tb) (lo := lit) (hi := lit + sp) rfl rfl rfl rfl rfl (by rfl) (by rfl) (fun w hw => ⟨by omega, by omega⟩) rfl) ?_) | first | (refine sx ?_; try intro _))
        simp only [subB_0, Nat.sub_zero]
        refine JO_call Try.call116 rfl rfl fun w hw => (RBad_c p c lit (l.take lit) (Rd_weak R1 fun w hw => St.sub (by repeat (first | exact List.Sublist.refl _ | apply List.Sublist.cons_cons | apply List.Sublist.cons)) hw) hl1 ho1 (by omega) w hw).mono ?_
        rintro e w' ⟨b1, rfl, hb1, hw'⟩
        refine ⟨_, rfl, _, hw', ?_⟩
        clear hw' hw w w'
        cases b1 with
        | true =>
          rw [if_pos (hb1.1 rfl)] at hF
          repeat (first | (apply gJO; first | refine JO_v (V_loadC (tb := tb) rfl (vec_rd (e := 5) (size := 1) (v := .slice p (lit + sp) c) (n := lit + sp) (cs := ints .u8 l) (by repeat (first | apply List.Mem.head | apply List.Mem.tail))) rfl rfl g256 rfl) ?_ | refine JO_v (V_slice (tb := tb) (lo := 0) (hi := lit) rfl rfl rfl rfl rfl (by rfl) (by rfl) (fun w hw => ⟨by omega, by omega⟩) rfl) ?_ | refine JO_v (V_slice (tb := tb) (lo := lit) (hi := lit + sp) rfl rfl rfl rfl rfl (by rfl) (by rfl) (fun w hw => ⟨by omega, by omega⟩) rfl) ?_) | first | (refine sx ?_; try intro _))
          refine JS_ret Try.func68 rfl rfl fun w hw => ⟨rfl, ?_⟩
          rw [hF]
          exact ⟨by decide, a', _, _, _, St.sub (by repeat (first | exact List.Sublist.refl _ | apply List.Sublist.cons_cons | apply List.Sublist.cons)) hw⟩
        | false =>
        have hk1 : OKL (l.take lit) := Classical.byContradiction fun h => by have := hb1.2 h; cases this
        rw [if_neg (fun h => h hk1)] at hF
        repeat (first | (apply gJO; first | refine JO_v (V_loadC (tb := tb) rfl (vec_rd (e := 5) (size := 1) (v := .slice p (lit + sp) c) (n := lit + sp) (cs := ints .u8 l) (by repeat (first | apply List.Mem.head | apply List.Mem.tail))) rfl rfl g256 rfl) ?_ | refine JO_v (V_slice (tb := tb) (lo := 0) (hi := lit) rfl rfl rfl rfl rfl (by rfl) (by rfl) (fun w hw => ⟨by omega, by omega⟩) rfl) ?_ | refine JO_v (V_slice (tb := tb) (lo := lit) (hi := lit + sp) rfl rfl rfl rfl rfl (by rfl) (by rfl) (fun w hw => ⟨by omega, by omega⟩) rfl) ?_) | first | (refine sx ?_; try intro _))
        simp only [e2]
        refine JO_call Try.call116 rfl rfl fun w hw => (RBad_c _ _ sp (l.drop lit) (Rd_weak R2 fun w hw => St.sub (by repeat (first | exact List.Sublist.refl _ | apply List.Sublist.cons_cons | apply List.Sublist.cons)) hw) hl2 ho2 (by omega) w hw).mono ?_
        rintro e w' ⟨b2, rfl, hb2, hw'⟩
        refine ⟨_, rfl, _, hw', ?_⟩
        clear hw' hw w w'
        cases b2 with
        | true =>
          rw [if_pos (hb2.1 rfl)] at hF
          repeat (first | (apply gJO; first | refine JO_v (V_loadC (tb := tb) rfl (vec_rd (e := 5) (size := 1) (v := .slice p (lit + sp) c) (n := lit + sp) (cs := ints .u8 l) (by repeat (first | apply List.Mem.head | apply List.Mem.tail))) rfl rfl g256 rfl) ?_ | refine JO_v (V_slice (tb := tb) (lo := 0) (hi := lit) rfl rfl rfl rfl rfl (by rfl) (by rfl) (fun w hw => ⟨by omega, by omega⟩) rfl) ?_ | refine JO_v (V_slice (tb := tb) (lo := lit) (hi := lit + sp) rfl rfl rfl rfl rfl (by rfl) (by rfl) (fun w hw => ⟨by omega, by omega⟩) rfl) ?_) | first | (refine sx ?_; try intro _))
          refine JS_ret Try.func68 rfl rfl fun w hw => ⟨rfl, ?_⟩
          rw [hF]
          exact ⟨by decide, a', _, _, _, St.sub (by repeat (first | exact List.Sublist.refl _ | apply List.Sublist.cons_cons | apply List.Sublist.cons)) hw⟩
        | false =>
        have hk2 : OKL (l.drop lit) := Classical.byContradiction fun h => by have := hb2.2 h; cases this
        rw [if_neg (fun h => h hk2)] at hF
        repeat (first | (apply gQO; first | refine QO_v rfl (V_slice (tb := tb) (lo := 0) (hi := lit) rfl rfl rfl rfl rfl (by rfl) (by rfl) (fun w hw => ⟨by omega, by omega⟩) rfl) ?_ | refine QO_v rfl (V_slice (tb := tb) (lo := lit) (hi := lit + sp) rfl rfl rfl rfl rfl (by rfl) (by rfl) (fun w hw => ⟨by omega, by omega⟩) rfl) ?_) | (apply gJO; first | refine JO_v (V_loadC (tb := tb) rfl (vec_rd (e := 5) (size := 1) (v := .slice p (lit + sp) c) (n := lit + sp) (cs := ints .u8 l) (by repeat (first | apply List.Mem.head | apply List.Mem.tail))) rfl rfl g256 rfl) ?_ | refine JO_v (V_slice (tb := tb) (lo := 0) (hi := lit) rfl rfl rfl rfl rfl (by rfl) (by rfl) (fun w hw => ⟨by omega, by omega⟩) rfl) ?_ | refine JO_v (V_slice (tb := tb) (lo := lit) (hi := lit + sp) rfl rfl rfl rfl rfl (by rfl) (by rfl) (fun w hw => ⟨by omega, by omega⟩) rfl) ?_) | first | (refine sx ?_; try intro _))
        simp only [subB_0, Nat.sub_zero, e2]
        refine QO_call Try.call66 rfl rfl fun w hw => (RBlk_c hK a' ha' hm2 ho p (subB p lit c 1) c (c - lit) lit sp (l.take lit) (l.drop lit) R1 hl1 ho1 hk1 R2 hl2 ho2 hk2 w hw).mono ?_
        rintro e w' ⟨rfl, r, hr, hrp⟩
        rw [itF_of hr] at hF
        clear hr
        have hrp2 := RP_drop (RP_drop hrp)
        clear hrp
        subst hF
        unfold RP at hrp2
        cases F with
        | err E =>
          obtain ⟨hE, a2, po2, co2, o2, hw'⟩ := hrp2
          refine ⟨_, rfl, _, hw', .inr rfl, ?_⟩
          clear hw' hw w w'
          repeat (first | (refine sx ?_; try intro _))
          exact JS_fin Try.func68 rfl rfl fun w hw => ⟨rfl, hE, a2, po2, co2, o2, hw⟩
        | ok a2 o2 =>
          obtain ⟨h1, h2, po2, co2, hw'⟩ := hrp2
          refine ⟨_, rfl, _, hw', .inr rfl, ?_⟩
          clear hw' hw w w'
          repeat (first | (refine sx ?_; try intro _))
          exact JS_fin Try.func68 rfl rfl fun w hw => ⟨rfl, h1, h2, po2, co2, hw⟩
    · intro K
      by_cases hbig : 286 < lit ∨ 30 < sp
      · obtain ⟨E2, hE2, hF2, heq⟩ : ∃ E2 : Int, E2 ≠ 0 ∧ F = .err E2 ∧ (if E = 0 then 62 else E) = E2 := by
          rcases hmode with ⟨rfl, ha4, hF⟩ | ⟨hE, hF⟩
          · exact ⟨62, by decide, by rw [hF, des1_b, if_pos hbig], rfl⟩
          · exact ⟨E, hE, hF, if_neg hE⟩
        have : (286 < lit) ∨ (¬ 286 < lit ∧ 30 < sp) := by omega
        rcases this with h | ⟨h, h'⟩
        all_goals (repeat (first | (refine sx ?_; try intro _)))
        all_goals (refine JO_call Try.call113 rfl rfl fun w hw => (RFail_c 62 a3 E w hw).mono ?_)
        all_goals (rw [heq]; rintro e w' ⟨rfl, hw'⟩; refine ⟨_, rfl, _, hw', ?_⟩; clear hw' hw w w'; (repeat (first | (apply gJR; first | (refine sx ?_; try intro _)) | (apply gJO; first | (refine sx ?_; try intro _)))))
        all_goals ((apply JS_seq; apply JS_region; repeat (first | (apply gJR; first | (refine sx ?_; try intro _)) | (apply gJO; first | (refine sx ?_; try intro _)))))
        all_goals ((apply JS_seq; apply JS_region; repeat (first | (apply gJR; first | (refine sx ?_; try intro _)) | (apply gJO; first | (refine sx ?_; try intro _)))))
        all_goals (rename_i p5 p6; apply JS_seq; apply JS_seq; apply JS_region; (repeat (first | (apply gJR; first | (refine sx ?_; try intro _)) | (apply gJO; first | (refine sx ?_; try intro _)))); apply JS_block; apply JS_loop'; apply JS_seq; apply JS_seq; apply JS_region; (repeat (first | (apply gJR; first | (refine sx ?_; try intro _)) | (apply gJO; first | (refine sx ?_; try intro _)))); refine JS_condF rfl ?_; refine JS_exit rfl ?_)
        all_goals (exact JS_to5 K E2 a3 (List.replicate 19 0) (some p6) 19 ⟨rfl, OKB_rep ⟨by decide, by decide⟩ 19, .inr ⟨hE2, hF2⟩⟩ (by repeat (first | exact trivial | refine ⟨rfl, ?_⟩ | refine ⟨lookI rfl (by omega), ?_⟩)) (fun w hw => strL_ins [vec 5 1 (.slice (some p6) 19 19) 19 (ints .u8 (List.replicate 19 0))] (St.sub (by repeat (first | exact List.Sublist.refl _ | apply List.Sublist.cons_cons | apply List.Sublist.cons)) hw)))
      rcases hmode with ⟨rfl, ha4, hF⟩ | ⟨hE, hF⟩
      rotate_left
      · (apply JS_seq; apply JS_seq; apply JS_region; (repeat (first | (apply gJR; first | (refine sx ?_; try intro _)) | (apply gJO; first | (refine sx ?_; try intro _)))); refine JS_condF rfl ?_; apply JS_skip)
        (apply JS_seq; apply JS_region; repeat (first | (apply gJR; first | (refine sx ?_; try intro _)) | (apply gJO; first | (refine sx ?_; try intro _))))
        (apply JS_seq; apply JS_region; repeat (first | (apply gJR; first | (refine sx ?_; try intro _)) | (apply gJO; first | (refine sx ?_; try intro _))))
        rename_i p5 p6
        apply JS_seq; apply JS_seq; apply JS_region; (repeat (first | (apply gJR; first | (refine sx ?_; try intro _)) | (apply gJO; first | (refine sx ?_; try intro _)))); apply JS_block; apply JS_loop'; apply JS_seq; apply JS_seq; apply JS_region; (repeat (first | (apply gJR; first | (refine sx ?_; try intro _)) | (apply gJO; first | (refine sx ?_; try intro _)))); refine JS_condF rfl ?_; refine JS_exit rfl ?_
        exact JS_to5 K E a3 (List.replicate 19 0) (some p6) 19 ⟨rfl, OKB_rep ⟨by decide, by decide⟩ 19, .inr ⟨hE, hF⟩⟩ (by repeat (first | exact trivial | refine ⟨rfl, ?_⟩ | refine ⟨lookI rfl (by omega), ?_⟩)) (fun w hw => strL_ins [vec 5 1 (.slice (some p6) 19 19) 19 (ints .u8 (List.replicate 19 0))] (St.sub (by repeat (first | exact List.Sublist.refl _ | apply List.Sublist.cons_cons | apply List.Sublist.cons)) hw))
      rw [des1_b, if_neg hbig] at hF
      (apply JS_seq; apply JS_seq; apply JS_region; (repeat (first | (apply gJR; first | (refine sx ?_; try intro _)) | (apply gJO; first | (refine sx ?_; try intro _)))); refine JS_condF rfl ?_; apply JS_skip)
      (apply JS_seq; apply JS_region; repeat (first | (apply gJR; first | (refine sx ?_; try intro _)) | (apply gJO; first | (refine sx ?_; try intro _))))
      (apply JS_seq; apply JS_region; repeat (first | (apply gJR; first | (refine sx ?_; try intro _)) | (apply gJO; first | (refine sx ?_; try intro _))))
      rename_i p5 p6
      apply JS_seq; apply JS_seq; apply JS_region; (repeat (first | (apply gJR; first | (refine sx ?_; try intro _)) | (apply gJO; first | (refine sx ?_; try intro _))))
      refine JS_block ?_
      refine JS_loop1 (fun (i : Nat) => [(0, .pointer (some ⟨bs, 0, none⟩)), (2, .int .i64 lit), (3, .int .i64 sp), (4, .int .i64 ln), (5, .slice (some p5) 19 19), (6, .slice (some p6) 19 19), (7, .int .i64 i)])
        (fun i => strL bs q d m B lim (a3 + 3 * i) po co o 0 (vec 5 1 (.slice (some p6) 19 19) 19 (ints .u8 (ccl (bitB B 0) a3 i)) :: vec 3 1 (.slice (some p5) 19 19) 19 (ints .i64 ordI) :: H)) (fun i => i ≤ ln ∧ a3 + 3 * i ≤ 8 * m) (fun i => ln - i) 0 ⟨Nat.zero_le _, by omega⟩ (by repeat (first | exact trivial | refine ⟨rfl, ?_⟩ | refine ⟨lookI rfl (by omega), ?_⟩))
        (fun w h => strL_ins [vec 5 1 (.slice (some p6) 19 19) 19 (ints .u8 (ccl (bitB B 0) a3 0)), vec 3 1 (.slice (some p5) 19 19) 19 (ints .i64 ordI)] h) ?_
      intro i ⟨hi, hai⟩ again
      have hcc := ccl_len (bitB B 0) a3 i
      have hco := ccl_okb (bitB B 0) (bitB_01 B 0) a3 i
      by_cases hil : i < ln
      · have gi : (ints .i64 ordI)[i]? = some (.int .i64 (ordI.getD i 0)) := ints_get (by show i < 19; omega)
        have ho19 := ordL_get i (by omega)
        have hcs : ccl (bitB B 0) a3 (i + 1) = (ccl (bitB B 0) a3 i).set (ordL.getD i 0) (nbt (bitB B 0) (a3 + 3 * i) 3) := rfl
        have hco1 := ccl_okb (bitB B 0) (bitB_01 B 0) a3 (i + 1)
        rw [ordI_get i (by omega)] at gi
        generalize ordL.getD i 0 = k at *
        generalize ccl (bitB B 0) a3 i = C at *
        apply JS_seq; apply JS_seq; apply JS_region; (repeat (first | (apply gJR; first | (refine sx ?_; try intro _)) | (apply gJO; first | (refine sx ?_; try intro _))))
        refine JS_condT rfl ?_
        apply JS_skip
        apply JS_seq
        apply JS_block
        refine JS_order2 [vec 5 1 (.slice (some p6) 19 19) 19 (ints .u8 C), vec 3 1 (.slice (some p5) 19 19) 19 (ints .i64 ordI)] [0, 1, 2, 3, 4, 5, 6, 7, 8, 9] [0] (fun w hw => St.sub (by repeat (first | exact List.nil_sublist _ | apply List.Sublist.cons_cons | apply List.Sublist.cons)) hw) (Picks.cons rfl (Picks.cons rfl (Picks.cons rfl (Picks.cons rfl (Picks.cons rfl (Picks.cons rfl (Picks.cons rfl (Picks.cons rfl (Picks.cons rfl (Picks.cons rfl (Picks.nil))))))))))) (by kernel_rfl) (by kernel_rfl) rfl (by decide +kernel) ?_
        repeat (first | (apply gQR2; apply QR2_un) | (apply gQO2; first | refine QO2_v rfl (V_index (tb := tb) (j := i) rfl rfl rfl rfl (Rd.sl (vec_rd (cs := ints .i64 ordI) (by repeat (first | apply List.Mem.head | apply List.Mem.tail)))) (by omega) (by (try simp only [tn, tna, tn1, tn2, tn3, tn4, tnd16, tnd8, Int.reduceToNat]); first | exact Nat.mul_one _ | exact rfl) rfl) ?_ | refine QO2_v rfl (V_loadC (tb := tb) rfl (vec_rd (cs := ints .i64 ordI) (by repeat (first | apply List.Mem.head | apply List.Mem.tail))) rfl rfl gi rfl) ?_ | refine aQ2 ?_))
        refine QO2_callE Try.call64 rfl rfl fun w hw => (RGrp4_c hK (a3 + 3 * i) 3 (by omega) (by omega) hm2 w hw).mono ?_
        rintro e w' (⟨h, rfl, hw'⟩ | ⟨h1, he, hw'⟩)
        · refine .inl ⟨_, rfl, [vec 5 1 (.slice (some p6) 19 19) 19 (ints .u8 C), vec 3 1 (.slice (some p5) 19 19) 19 (ints .i64 ordI)], _, hw', fun w hw => St.sub (by repeat (first | exact List.nil_sublist _ | apply List.Sublist.cons_cons | apply List.Sublist.cons)) hw, .inl fun w hw => hw, ?_⟩
          clear hw' hw w w' again
          rw [if_pos (by omega)] at hF
          repeat (first | (apply gQR2; first | apply QR2_un | apply QR2_nil) | (apply gQO2; first | refine QO2_v rfl (V_index (tb := tb) (j := k) rfl rfl rfl rfl (Rd.sl (vec_rd (cs := ints .u8 C) (by repeat (first | apply List.Mem.head | apply List.Mem.tail)))) (by omega) (by (try simp only [tn, tna, tn1, tn2, tn3, tn4, tnd16, tnd8, Int.reduceToNat]); first | exact Nat.mul_one _ | exact rfl) rfl) ?_ | refine aQ2 ?_ | refine aK2S rfl ?_))
          apply JS_inBlock; apply JS_region; (repeat (first | (apply gJR; first | (refine sx ?_; try intro _)) | (apply gJO; first | (refine sx ?_; try intro _))))
          apply JS_inLoop; apply JS_seq; apply JS_seq; apply JS_region
          by_cases hnx : (i : Int) + 1 < ln
          all_goals ((repeat (first | (apply gJR; first | (refine sx ?_; try intro _)) | (apply gJO; first | (refine sx ?_; try intro _)))); refine JS_condF rfl ?_; refine JS_exit rfl ?_)
          all_goals (exact JS_to5 K 20 (a3 + 3 * i) (C.set k 0) (some p6) 19 ⟨by rw [List.length_set]; exact hcc, OKB_set hco ⟨by decide, by decide⟩ k, .inr ⟨by decide, hF⟩⟩ (by repeat (first | exact trivial | refine ⟨rfl, ?_⟩ | refine ⟨lookI rfl (by omega), ?_⟩)) (fun w hw => St.sub (by repeat (first | exact List.Sublist.refl _ | apply List.Sublist.cons_cons | apply List.Sublist.cons)) hw))
        obtain ⟨x, hx⟩ := Int.eq_ofNat_of_zero_le (nbt_bd (bitB B 0) (bitB_01 B 0) (a3 + 3 * i) 3).1
        have hx1 := (nbt_bd (bitB B 0) (bitB_01 B 0) (a3 + 3 * i) 3).2
        rw [hx] at he hx1 hcs
        subst he
        have hx2 : (x : Int) < 8 := hx1
        refine .inl ⟨_, rfl, [vec 5 1 (.slice (some p6) 19 19) 19 (ints .u8 C), vec 3 1 (.slice (some p5) 19 19) 19 (ints .i64 ordI)], _, hw', fun w hw => St.sub (by repeat (first | exact List.nil_sublist _ | apply List.Sublist.cons_cons | apply List.Sublist.cons)) hw, .inl fun w hw => hw, ?_⟩
        clear hw' hw w w'
        repeat (first | (apply gQR2; first | apply QR2_un | apply QR2_nil) | (apply gQO2; first | refine QO2_v rfl (V_index (tb := tb) (j := k) rfl rfl rfl rfl (Rd.sl (vec_rd (cs := ints .u8 C) (by repeat (first | apply List.Mem.head | apply List.Mem.tail)))) (by omega) (by (try simp only [tn, tna, tn1, tn2, tn3, tn4, tnd16, tnd8, Int.reduceToNat]); first | exact Nat.mul_one _ | exact rfl) rfl) ?_ | refine aQ2 ?_ | refine aK2S rfl ?_))
        repeat (first | (refine sx ?_; try intro _))
        exact JS_again1 again (i + 1) ⟨by omega, by omega⟩ (by omega) (by repeat (first | exact trivial | refine ⟨rfl, ?_⟩ | refine ⟨lookI rfl (by omega), ?_⟩)) (fun w hw => by rw [hcs]; exact hw)
      · obtain rfl : i = ln := by omega
        clear again
        rw [if_neg (by omega)] at hF
        apply JS_seq; apply JS_seq; apply JS_region; (repeat (first | (apply gJR; first | (refine sx ?_; try intro _)) | (apply gJO; first | (refine sx ?_; try intro _))))
        refine JS_condF rfl ?_
        refine JS_exit rfl ?_
        exact JS_to5 K 0 (a3 + 3 * i) (ccl (bitB B 0) a3 i) (some p6) 19 ⟨hcc, hco, .inl ⟨rfl, hai, hF⟩⟩ (by repeat (first | exact trivial | refine ⟨rfl, ?_⟩ | refine ⟨lookI rfl (by omega), ?_⟩)) (fun w hw => St.sub (by repeat (first | exact List.Sublist.refl _ | apply List.Sublist.cons_cons | apply List.Sublist.cons)) hw)
  · intro K
    unfold desF at hFd
    obtain ⟨n1, hn1⟩ := Int.eq_ofNat_of_zero_le (nbt_bd (bitB B 0) (bitB_01 B 0) a 5).1
    have hb1 := (nbt_bd (bitB B 0) (bitB_01 B 0) a 5).2
    obtain ⟨n2, hn2⟩ := Int.eq_ofNat_of_zero_le (nbt_bd (bitB B 0) (bitB_01 B 0) (a + 5) 5).1
    have hb2 := (nbt_bd (bitB B 0) (bitB_01 B 0) (a + 5) 5).2
    obtain ⟨n3, hn3⟩ := Int.eq_ofNat_of_zero_le (nbt_bd (bitB B 0) (bitB_01 B 0) (a + 10) 4).1
    have hb3 := (nbt_bd (bitB B 0) (bitB_01 B 0) (a + 10) 4).2
    rw [hn1] at hb1
    rw [hn2] at hb2
    rw [hn3] at hb3
    have hb1' : (n1 : Int) < 32 := hb1
    have hb2' : (n2 : Int) < 32 := hb2
    have hb3' : (n3 : Int) < 16 := hb3
    rw [hn1, hn2, hn3, show ((n1 : Int) + 257).toNat = n1 + 257 by omega, show ((n2 : Int) + 1).toNat = n2 + 1 by omega, show ((n3 : Int) + 4).toNat = n3 + 4 by omega] at hFd
    repeat (first | (refine sx ?_; try intro _))
    refine JO_call Try.call64 rfl rfl fun w hw => (RGrp4_c hK a 5 (by omega) ha hm2 w hw).mono ?_
    rintro e w' (⟨h, rfl, hw'⟩ | ⟨h1, he, hw'⟩)
    · refine ⟨_, rfl, _, hw', ?_⟩
      clear hw' hw w w'
      rw [if_pos h] at hFd
      repeat (first | (refine sx ?_; try intro _))
      refine JO_call Try.call64 rfl rfl fun w hw => (RGrpE_c 5 a 20 (by decide) w hw).mono ?_
      rintro e w' ⟨rfl, hw'⟩
      refine ⟨_, rfl, _, hw', ?_⟩
      clear hw' hw w w'
      repeat (first | (refine sx ?_; try intro _))
      refine JO_call Try.call64 rfl rfl fun w hw => (RGrpE_c 4 a 20 (by decide) w hw).mono ?_
      rintro e w' ⟨rfl, hw'⟩
      refine ⟨_, rfl, _, hw', ?_⟩
      clear hw' hw w w'
      (repeat (first | (apply gJR; first | (refine sx ?_; try intro _)) | (apply gJO; first | (refine sx ?_; try intro _))))
      exact JS_to5 K 20 a 257 1 4 ⟨by omega, by omega, by omega, by omega, by omega, by omega, .inr ⟨by decide, hFd.symm⟩⟩ (by repeat (first | exact trivial | refine ⟨rfl, ?_⟩ | refine ⟨lookI rfl (by omega), ?_⟩)) (fun w hw => hw)
    rw [hn1] at he; subst he
    refine ⟨_, rfl, _, hw', ?_⟩
    clear hw' hw w w'
    rw [if_neg (by omega)] at hFd
    repeat (first | (refine sx ?_; try intro _))
    refine JO_call Try.call64 rfl rfl fun w hw => (RGrp4_c hK (a + 5) 5 (by omega) h1 hm2 w hw).mono ?_
    rintro e w' (⟨h, rfl, hw'⟩ | ⟨h2, he, hw'⟩)
    · refine ⟨_, rfl, _, hw', ?_⟩
      clear hw' hw w w'
      rw [if_pos (by omega)] at hFd
      repeat (first | (refine sx ?_; try intro _))
      refine JO_call Try.call64 rfl rfl fun w hw => (RGrpE_c 4 (a + 5) 20 (by decide) w hw).mono ?_
      rintro e w' ⟨rfl, hw'⟩
      refine ⟨_, rfl, _, hw', ?_⟩
      clear hw' hw w w'
      (repeat (first | (apply gJR; first | (refine sx ?_; try intro _)) | (apply gJO; first | (refine sx ?_; try intro _))))
      exact JS_to5 K 20 (a + 5) (n1 + 257) 1 4 ⟨by omega, by omega, by omega, by omega, by omega, by omega, .inr ⟨by decide, hFd.symm⟩⟩ (by repeat (first | exact trivial | refine ⟨rfl, ?_⟩ | refine ⟨lookI rfl (by omega), ?_⟩)) (fun w hw => hw)
    rw [hn2] at he; subst he
    refine ⟨_, rfl, _, hw', ?_⟩
    clear hw' hw w w'
    rw [if_neg (by omega)] at hFd
    repeat (first | (refine sx ?_; try intro _))
    refine JO_call Try.call64 rfl rfl fun w hw => (RGrp4_c hK (a + 10) 4 (by omega) h2 hm2 w hw).mono ?_
    rintro e w' (⟨h, rfl, hw'⟩ | ⟨h3, he, hw'⟩)
    · refine ⟨_, rfl, _, hw', ?_⟩
      clear hw' hw w w'
      rw [if_pos (by omega)] at hFd
      (repeat (first | (apply gJR; first | (refine sx ?_; try intro _)) | (apply gJO; first | (refine sx ?_; try intro _))))
      exact JS_to5 K 20 (a + 10) (n1 + 257) (n2 + 1) 4 ⟨by omega, by omega, by omega, by omega, by omega, by omega, .inr ⟨by decide, hFd.symm⟩⟩ (by repeat (first | exact trivial | refine ⟨rfl, ?_⟩ | refine ⟨lookI rfl (by omega), ?_⟩)) (fun w hw => hw)
    rw [hn3] at he; subst he
    refine ⟨_, rfl, _, hw', ?_⟩
    clear hw' hw w w'
    rw [if_neg (by omega)] at hFd
    (repeat (first | (apply gJR; first | (refine sx ?_; try intro _)) | (apply gJO; first | (refine sx ?_; try intro _))))
    exact JS_to5 K 0 (a + 14) (n1 + 257) (n2 + 1) (n3 + 4) ⟨by omega, by omega, by omega, by omega, by omega, by omega, .inl ⟨rfl, h3, hFd.symm⟩⟩ (by repeat (first | exact trivial | refine ⟨rfl, ?_⟩ | refine ⟨lookI rfl (by omega), ?_⟩)) (fun w hw => hw)
end
end Go.Proofs.Ytbiocgenbgbfpaa
