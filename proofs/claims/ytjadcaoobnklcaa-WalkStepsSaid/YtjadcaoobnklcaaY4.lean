import Derived.Test.YtjadcaoobnklcaaY1
namespace Go.Proofs.Ytjadcaoobnklcaa
open Sx Go
set_option linter.unusedVariables false
set_option linter.unusedSimpArgs false
set_option maxHeartbeats 2000000 in
theorem RRight_c {w0 : World} {H : List Asn} (p : Option Addr) (c m : Nat) (T : List (Int × Int)) (hr : Rd w0 H (.slice p m c) m (flat T)) (hm : T.length = m) (hT : OKT T) (hm1 : m ≤ 1000000) (w : World) (hw : St w0 H w) :
    Calls Try.prog 10 #[.slice p m c] w fun e w' => ∃ o, e = .returned (.bool o) ∧ St w0 H w' ∧ (o = true ↔ RIGHT T) := by
  refine enter (vs := [.slice p m c]) Try.func10 rfl rfl rfl hw ?_
  repeat (first | (apply gJR; first | (apply gJO; first | (apply kS; refine aK ?_) | (apply kX; refine JO_box rfl rfl rfl ?_; intro _) | (apply kA; refine JO_alloc (tb := tb) rfl rfl ?_; intro _) | (apply kBs; refine JO_buildSlice (tb := tb) rfl rfl rfl rfl rfl rfl rfl rfl rfl ?_; intro _) | (apply kM; refine JO_make (tb := tb) rfl rfl rfl rfl rfl rfl (by omega) rfl ?_; intro _) | refine aO ?_) | (apply gJR; first | apply JR_un | apply JR_nil | refine JR_yes rfl rfl ?_ | refine JR_no rfl rfl rfl rfl ?_ | refine JR_noU rfl rfl rfl ?_) | (apply gJS; first | apply JS_seq | apply JS_region | apply JS_skip | apply JS_block | apply JS_inBlock | apply JS_label | refine JS_exit rfl ?_ | refine JS_condT rfl ?_ | refine JS_condF rfl ?_ | refine JS_draw [0] (by kernel_rfl) (by kernel_rfl) (by decide +kernel) ?_ | refine JS_draw [] (by kernel_rfl) (by kernel_rfl) (by decide +kernel) ?_ | refine JS_cond_T rfl (by omega) ?_ | refine JS_cond_F rfl (by omega) ?_) | (apply gQR; first | apply QR_un | apply QR_nil | refine QR_yes rfl rfl ?_ | refine QR_no rfl rfl rfl rfl ?_ | refine QR_noU rfl rfl rfl ?_) | (apply gQO; first | refine aQ ?_ | refine aQK rfl ?_)) | (apply gJO; first | (apply gJO; first | (apply kS; refine aK ?_) | (apply kX; refine JO_box rfl rfl rfl ?_; intro _) | (apply kA; refine JO_alloc (tb := tb) rfl rfl ?_; intro _) | (apply kBs; refine JO_buildSlice (tb := tb) rfl rfl rfl rfl rfl rfl rfl rfl rfl ?_; intro _) | (apply kM; refine JO_make (tb := tb) rfl rfl rfl rfl rfl rfl (by omega) rfl ?_; intro _) | refine aO ?_) | (apply gJR; first | apply JR_un | apply JR_nil | refine JR_yes rfl rfl ?_ | refine JR_no rfl rfl rfl rfl ?_ | refine JR_noU rfl rfl rfl ?_) | (apply gJS; first | apply JS_seq | apply JS_region | apply JS_skip | apply JS_block | apply JS_inBlock | apply JS_label | refine JS_exit rfl ?_ | refine JS_condT rfl ?_ | refine JS_condF rfl ?_ | refine JS_draw [0] (by kernel_rfl) (by kernel_rfl) (by decide +kernel) ?_ | refine JS_draw [] (by kernel_rfl) (by kernel_rfl) (by decide +kernel) ?_ | refine JS_cond_T rfl (by omega) ?_ | refine JS_cond_F rfl (by omega) ?_) | (apply gQR; first | apply QR_un | apply QR_nil | refine QR_yes rfl rfl ?_ | refine QR_no rfl rfl rfl rfl ?_ | refine QR_noU rfl rfl rfl ?_) | (apply gQO; first | refine aQ ?_ | refine aQK rfl ?_)) | apply JS_seq | apply JS_region)
  refine JS_block ?_
  refine JS_loop1 (fun (i : Nat) => [(0, .slice p m c), (3, .int .u64 (sw (T.take i))), (4, .int .i64 i)]) (fun _ => H) (fun i => i ≤ m ∧ ∀ j, j < i → OKat T j) (fun i => m - i) 0 ⟨by omega, fun j h => absurd h (by omega)⟩ (by repeat (first | exact trivial | refine ⟨rfl, ?_⟩ | refine ⟨lookI rfl (by omega), ?_⟩)) (fun _ h => h) ?_
  intro i ⟨hi, hok⟩ again
  have hs0 := swT_nn hT i (by omega)
  have hs1 := swT_le hT hok (by omega)
  by_cases him : i < m
  · have ht := hT.get i (by omega)
    have hsw := sw_take T i (by omega)
    have gA := flat_get0 T i (by omega)
    have gB := flat_get1 T i (by omega)
    have hat : OKat T i ↔ (T.getD i (0, 0)).2 ≠ 0 ∧ (T.getD i (0, 0)).2 ≤ 4611686018427387904 - sw (T.take i) ∧ (0 < i → (T.getD (i - 1) (0, 0)).1 < (T.getD i (0, 0)).1) := Iff.rfl
    have hnr : ¬ OKat T i → ¬ RIGHT T := fun h h2 => h (h2 i (by omega))
    have hnext : OKat T i → ∀ j, j < i + 1 → OKat T j := fun h j hj => by
      rcases Nat.lt_or_ge j i with h2 | h2
      · exact hok j h2
      · obtain rfl : j = i := by omega
        exact h
    have hbd : ∀ j, j < T.length → -9223372036854775808 ≤ (T.getD j (0, 0)).1 ∧ (T.getD j (0, 0)).1 < 9223372036854775808 := fun j hj => (hT.get j hj).1
    have hprev : 0 < i → (flat T)[(i - 1) * 2]? = some (.int .i64 (T.getD (i - 1) (0, 0)).1) := fun h => flat_get0 T (i - 1) (by omega)
    generalize T.getD i (0, 0) = t at *
    obtain ⟨tk, tn⟩ := t
    simp only [] at *
    generalize sw (T.take i) = S at *
    by_cases h1 : tn = 0
    · have hno : ¬ OKat T i := fun h => (hat.1 h).1 h1
      repeat (first | (apply gQO; first | refine QO_v rfl (V_loadC (tb := tb) rfl hr rfl rfl gB rfl) ?_) | (first | (apply gJO; first | (apply kS; refine aK ?_) | (apply kX; refine JO_box rfl rfl rfl ?_; intro _) | (apply kA; refine JO_alloc (tb := tb) rfl rfl ?_; intro _) | (apply kBs; refine JO_buildSlice (tb := tb) rfl rfl rfl rfl rfl rfl rfl rfl rfl ?_; intro _) | (apply kM; refine JO_make (tb := tb) rfl rfl rfl rfl rfl rfl (by omega) rfl ?_; intro _) | refine aO ?_) | (apply gJR; first | apply JR_un | apply JR_nil | refine JR_yes rfl rfl ?_ | refine JR_no rfl rfl rfl rfl ?_ | refine JR_noU rfl rfl rfl ?_) | (apply gJS; first | apply JS_seq | apply JS_region | apply JS_skip | apply JS_block | apply JS_inBlock | apply JS_label | refine JS_exit rfl ?_ | refine JS_condT rfl ?_ | refine JS_condF rfl ?_ | refine JS_draw [0] (by kernel_rfl) (by kernel_rfl) (by decide +kernel) ?_ | refine JS_draw [] (by kernel_rfl) (by kernel_rfl) (by decide +kernel) ?_ | refine JS_cond_T rfl (by omega) ?_ | refine JS_cond_F rfl (by omega) ?_) | (apply gQR; first | apply QR_un | apply QR_nil | refine QR_yes rfl rfl ?_ | refine QR_no rfl rfl rfl rfl ?_ | refine QR_noU rfl rfl rfl ?_) | (apply gQO; first | refine aQ ?_ | refine aQK rfl ?_)))
      refine JS_ret Try.func10 rfl rfl ?_
      intro w hw
      exact ⟨_, rfl, hw, by simp; exact hnr hno⟩
    by_cases h2 : 4611686018427387904 - S < tn
    · have hno : ¬ OKat T i := fun h => absurd (hat.1 h).2.1 (by omega)
      repeat (first | (apply gQO; first | refine QO_v rfl (V_loadC (tb := tb) rfl hr rfl rfl gB rfl) ?_) | (first | (apply gJO; first | (apply kS; refine aK ?_) | (apply kX; refine JO_box rfl rfl rfl ?_; intro _) | (apply kA; refine JO_alloc (tb := tb) rfl rfl ?_; intro _) | (apply kBs; refine JO_buildSlice (tb := tb) rfl rfl rfl rfl rfl rfl rfl rfl rfl ?_; intro _) | (apply kM; refine JO_make (tb := tb) rfl rfl rfl rfl rfl rfl (by omega) rfl ?_; intro _) | refine aO ?_) | (apply gJR; first | apply JR_un | apply JR_nil | refine JR_yes rfl rfl ?_ | refine JR_no rfl rfl rfl rfl ?_ | refine JR_noU rfl rfl rfl ?_) | (apply gJS; first | apply JS_seq | apply JS_region | apply JS_skip | apply JS_block | apply JS_inBlock | apply JS_label | refine JS_exit rfl ?_ | refine JS_condT rfl ?_ | refine JS_condF rfl ?_ | refine JS_draw [0] (by kernel_rfl) (by kernel_rfl) (by decide +kernel) ?_ | refine JS_draw [] (by kernel_rfl) (by kernel_rfl) (by decide +kernel) ?_ | refine JS_cond_T rfl (by omega) ?_ | refine JS_cond_F rfl (by omega) ?_) | (apply gQR; first | apply QR_un | apply QR_nil | refine QR_yes rfl rfl ?_ | refine QR_no rfl rfl rfl rfl ?_ | refine QR_noU rfl rfl rfl ?_) | (apply gQO; first | refine aQ ?_ | refine aQK rfl ?_)))
      refine JS_ret Try.func10 rfl rfl ?_
      intro w hw
      exact ⟨_, rfl, hw, by simp; exact hnr hno⟩
    by_cases h3 : 0 < i
    · have gp := hprev h3
      have hidx : ((i : Int) - 1).toNat * 2 = (i - 1) * 2 := by omega
      have hb1 := hbd (i - 1) (by omega)
      generalize (T.getD (i - 1) (0, 0)).1 = pv at *
      by_cases h4 : tk ≤ pv
      · have hno : ¬ OKat T i := fun h => absurd ((hat.1 h).2.2 h3) (by omega)
        repeat (first | (apply gQO; first | refine QO_v rfl (V_loadC (tb := tb) rfl hr rfl rfl gB rfl) ?_ | refine QO_v rfl (V_loadC (tb := tb) rfl hr rfl rfl gA rfl) ?_ | refine QO_v rfl (V_index (tb := tb) rfl rfl rfl rfl (by first | exact Rd.sl (vec_rd (by repeat (first | apply List.Mem.head | apply List.Mem.tail))) | exact Rd.sl (by assumption) | exact Rd.sl (ArgRd.rd (by assumption) _) | (apply Rd.sl; (apply Rd_weak; assumption; intro _ hx; exact St.sub (by repeat (first | exact List.Sublist.refl _ | apply List.Sublist.cons_cons | apply List.Sublist.cons)) hx))) (by omega) hidx rfl) ?_ | refine QO_v rfl (V_loadC (tb := tb) rfl hr rfl rfl gp rfl) ?_) | (first | (apply gJO; first | (apply kS; refine aK ?_) | (apply kX; refine JO_box rfl rfl rfl ?_; intro _) | (apply kA; refine JO_alloc (tb := tb) rfl rfl ?_; intro _) | (apply kBs; refine JO_buildSlice (tb := tb) rfl rfl rfl rfl rfl rfl rfl rfl rfl ?_; intro _) | (apply kM; refine JO_make (tb := tb) rfl rfl rfl rfl rfl rfl (by omega) rfl ?_; intro _) | refine aO ?_) | (apply gJR; first | apply JR_un | apply JR_nil | refine JR_yes rfl rfl ?_ | refine JR_no rfl rfl rfl rfl ?_ | refine JR_noU rfl rfl rfl ?_) | (apply gJS; first | apply JS_seq | apply JS_region | apply JS_skip | apply JS_block | apply JS_inBlock | apply JS_label | refine JS_exit rfl ?_ | refine JS_condT rfl ?_ | refine JS_condF rfl ?_ | refine JS_draw [0] (by kernel_rfl) (by kernel_rfl) (by decide +kernel) ?_ | refine JS_draw [] (by kernel_rfl) (by kernel_rfl) (by decide +kernel) ?_ | refine JS_cond_T rfl (by omega) ?_ | refine JS_cond_F rfl (by omega) ?_) | (apply gQR; first | apply QR_un | apply QR_nil | refine QR_yes rfl rfl ?_ | refine QR_no rfl rfl rfl rfl ?_ | refine QR_noU rfl rfl rfl ?_) | (apply gQO; first | refine aQ ?_ | refine aQK rfl ?_)))
        refine JS_ret Try.func10 rfl rfl ?_
        intro w hw
        exact ⟨_, rfl, hw, by simp; exact hnr hno⟩
      · have hyes := hnext (hat.2 ⟨h1, by omega, fun _ => by omega⟩)
        repeat (first | (apply gJO; refine JO_v (V_loadC (tb := tb) rfl hr rfl rfl gB rfl) ?_) | (apply gQO; first | refine QO_v rfl (V_loadC (tb := tb) rfl hr rfl rfl gB rfl) ?_ | refine QO_v rfl (V_loadC (tb := tb) rfl hr rfl rfl gA rfl) ?_ | refine QO_v rfl (V_index (tb := tb) rfl rfl rfl rfl (by first | exact Rd.sl (vec_rd (by repeat (first | apply List.Mem.head | apply List.Mem.tail))) | exact Rd.sl (by assumption) | exact Rd.sl (ArgRd.rd (by assumption) _) | (apply Rd.sl; (apply Rd_weak; assumption; intro _ hx; exact St.sub (by repeat (first | exact List.Sublist.refl _ | apply List.Sublist.cons_cons | apply List.Sublist.cons)) hx))) (by omega) hidx rfl) ?_ | refine QO_v rfl (V_loadC (tb := tb) rfl hr rfl rfl gp rfl) ?_) | (first | (apply gJO; first | (apply kS; refine aK ?_) | (apply kX; refine JO_box rfl rfl rfl ?_; intro _) | (apply kA; refine JO_alloc (tb := tb) rfl rfl ?_; intro _) | (apply kBs; refine JO_buildSlice (tb := tb) rfl rfl rfl rfl rfl rfl rfl rfl rfl ?_; intro _) | (apply kM; refine JO_make (tb := tb) rfl rfl rfl rfl rfl rfl (by omega) rfl ?_; intro _) | refine aO ?_) | (apply gJR; first | apply JR_un | apply JR_nil | refine JR_yes rfl rfl ?_ | refine JR_no rfl rfl rfl rfl ?_ | refine JR_noU rfl rfl rfl ?_) | (apply gJS; first | apply JS_seq | apply JS_region | apply JS_skip | apply JS_block | apply JS_inBlock | apply JS_label | refine JS_exit rfl ?_ | refine JS_condT rfl ?_ | refine JS_condF rfl ?_ | refine JS_draw [0] (by kernel_rfl) (by kernel_rfl) (by decide +kernel) ?_ | refine JS_draw [] (by kernel_rfl) (by kernel_rfl) (by decide +kernel) ?_ | refine JS_cond_T rfl (by omega) ?_ | refine JS_cond_F rfl (by omega) ?_) | (apply gQR; first | apply QR_un | apply QR_nil | refine QR_yes rfl rfl ?_ | refine QR_no rfl rfl rfl rfl ?_ | refine QR_noU rfl rfl rfl ?_) | (apply gQO; first | refine aQ ?_ | refine aQK rfl ?_)))
        exact JS_again1 again (i + 1) ⟨by omega, hyes⟩ (by omega) (by exact ⟨rfl, lookI rfl (by omega), rfl, trivial⟩) (fun w hw => hw)
    · have hyes := hnext (hat.2 ⟨h1, by omega, fun h => absurd h h3⟩)
      repeat (first | (apply gJO; refine JO_v (V_loadC (tb := tb) rfl hr rfl rfl gB rfl) ?_) | (apply gQO; first | refine QO_v rfl (V_loadC (tb := tb) rfl hr rfl rfl gB rfl) ?_ | refine QO_v rfl (V_loadC (tb := tb) rfl hr rfl rfl gA rfl) ?_) | (first | (apply gJO; first | (apply kS; refine aK ?_) | (apply kX; refine JO_box rfl rfl rfl ?_; intro _) | (apply kA; refine JO_alloc (tb := tb) rfl rfl ?_; intro _) | (apply kBs; refine JO_buildSlice (tb := tb) rfl rfl rfl rfl rfl rfl rfl rfl rfl ?_; intro _) | (apply kM; refine JO_make (tb := tb) rfl rfl rfl rfl rfl rfl (by omega) rfl ?_; intro _) | refine aO ?_) | (apply gJR; first | apply JR_un | apply JR_nil | refine JR_yes rfl rfl ?_ | refine JR_no rfl rfl rfl rfl ?_ | refine JR_noU rfl rfl rfl ?_) | (apply gJS; first | apply JS_seq | apply JS_region | apply JS_skip | apply JS_block | apply JS_inBlock | apply JS_label | refine JS_exit rfl ?_ | refine JS_condT rfl ?_ | refine JS_condF rfl ?_ | refine JS_draw [0] (by kernel_rfl) (by kernel_rfl) (by decide +kernel) ?_ | refine JS_draw [] (by kernel_rfl) (by kernel_rfl) (by decide +kernel) ?_ | refine JS_cond_T rfl (by omega) ?_ | refine JS_cond_F rfl (by omega) ?_) | (apply gQR; first | apply QR_un | apply QR_nil | refine QR_yes rfl rfl ?_ | refine QR_no rfl rfl rfl rfl ?_ | refine QR_noU rfl rfl rfl ?_) | (apply gQO; first | refine aQ ?_ | refine aQK rfl ?_)))
      exact JS_again1 again (i + 1) ⟨by omega, hyes⟩ (by omega) (by exact ⟨rfl, lookI rfl (by omega), rfl, trivial⟩) (fun w hw => hw)
  · obtain rfl : i = m := by omega
    clear again
    repeat (first | (apply gJO; first | (apply kS; refine aK ?_) | (apply kX; refine JO_box rfl rfl rfl ?_; intro _) | (apply kA; refine JO_alloc (tb := tb) rfl rfl ?_; intro _) | (apply kBs; refine JO_buildSlice (tb := tb) rfl rfl rfl rfl rfl rfl rfl rfl rfl ?_; intro _) | (apply kM; refine JO_make (tb := tb) rfl rfl rfl rfl rfl rfl (by omega) rfl ?_; intro _) | refine aO ?_) | (apply gJR; first | apply JR_un | apply JR_nil | refine JR_yes rfl rfl ?_ | refine JR_no rfl rfl rfl rfl ?_ | refine JR_noU rfl rfl rfl ?_) | (apply gJS; first | apply JS_seq | apply JS_region | apply JS_skip | apply JS_block | apply JS_inBlock | apply JS_label | refine JS_exit rfl ?_ | refine JS_condT rfl ?_ | refine JS_condF rfl ?_ | refine JS_draw [0] (by kernel_rfl) (by kernel_rfl) (by decide +kernel) ?_ | refine JS_draw [] (by kernel_rfl) (by kernel_rfl) (by decide +kernel) ?_ | refine JS_cond_T rfl (by omega) ?_ | refine JS_cond_F rfl (by omega) ?_) | (apply gQR; first | apply QR_un | apply QR_nil | refine QR_yes rfl rfl ?_ | refine QR_no rfl rfl rfl rfl ?_ | refine QR_noU rfl rfl rfl ?_) | (apply gQO; first | refine aQ ?_ | refine aQK rfl ?_))
    refine JS_ret Try.func10 rfl rfl ?_
    intro w hw
    subst hm
    exact ⟨_, rfl, hw, by simp; exact hok⟩
theorem RTotal_c {w0 : World} {H : List Asn} (p : Option Addr) (c m : Nat) (T : List (Int × Int)) (hr : Rd w0 H (.slice p m c) m (flat T)) (hm : T.length = m) (hT : OKT T) (hR : RIGHT T) (hm1 : m ≤ 1000000) (w : World) (hw : St w0 H w) :
    Calls Try.prog 12 #[.slice p m c] w fun e w' => e = .returned (.int .u64 (sw T)) ∧ St w0 H w' := by
  refine enter (vs := [.slice p m c]) Try.func12 rfl rfl rfl hw ?_
  repeat (first | (apply gJR; first | (apply gJO; first | (apply kS; refine aK ?_) | (apply kX; refine JO_box rfl rfl rfl ?_; intro _) | (apply kA; refine JO_alloc (tb := tb) rfl rfl ?_; intro _) | (apply kBs; refine JO_buildSlice (tb := tb) rfl rfl rfl rfl rfl rfl rfl rfl rfl ?_; intro _) | (apply kM; refine JO_make (tb := tb) rfl rfl rfl rfl rfl rfl (by omega) rfl ?_; intro _) | refine aO ?_) | (apply gJR; first | apply JR_un | apply JR_nil | refine JR_yes rfl rfl ?_ | refine JR_no rfl rfl rfl rfl ?_ | refine JR_noU rfl rfl rfl ?_) | (apply gJS; first | apply JS_seq | apply JS_region | apply JS_skip | apply JS_block | apply JS_inBlock | apply JS_label | refine JS_exit rfl ?_ | refine JS_condT rfl ?_ | refine JS_condF rfl ?_ | refine JS_draw [0] (by kernel_rfl) (by kernel_rfl) (by decide +kernel) ?_ | refine JS_draw [] (by kernel_rfl) (by kernel_rfl) (by decide +kernel) ?_ | refine JS_cond_T rfl (by omega) ?_ | refine JS_cond_F rfl (by omega) ?_) | (apply gQR; first | apply QR_un | apply QR_nil | refine QR_yes rfl rfl ?_ | refine QR_no rfl rfl rfl rfl ?_ | refine QR_noU rfl rfl rfl ?_) | (apply gQO; first | refine aQ ?_ | refine aQK rfl ?_)) | (apply gJO; first | (apply gJO; first | (apply kS; refine aK ?_) | (apply kX; refine JO_box rfl rfl rfl ?_; intro _) | (apply kA; refine JO_alloc (tb := tb) rfl rfl ?_; intro _) | (apply kBs; refine JO_buildSlice (tb := tb) rfl rfl rfl rfl rfl rfl rfl rfl rfl ?_; intro _) | (apply kM; refine JO_make (tb := tb) rfl rfl rfl rfl rfl rfl (by omega) rfl ?_; intro _) | refine aO ?_) | (apply gJR; first | apply JR_un | apply JR_nil | refine JR_yes rfl rfl ?_ | refine JR_no rfl rfl rfl rfl ?_ | refine JR_noU rfl rfl rfl ?_) | (apply gJS; first | apply JS_seq | apply JS_region | apply JS_skip | apply JS_block | apply JS_inBlock | apply JS_label | refine JS_exit rfl ?_ | refine JS_condT rfl ?_ | refine JS_condF rfl ?_ | refine JS_draw [0] (by kernel_rfl) (by kernel_rfl) (by decide +kernel) ?_ | refine JS_draw [] (by kernel_rfl) (by kernel_rfl) (by decide +kernel) ?_ | refine JS_cond_T rfl (by omega) ?_ | refine JS_cond_F rfl (by omega) ?_) | (apply gQR; first | apply QR_un | apply QR_nil | refine QR_yes rfl rfl ?_ | refine QR_no rfl rfl rfl rfl ?_ | refine QR_noU rfl rfl rfl ?_) | (apply gQO; first | refine aQ ?_ | refine aQK rfl ?_)) | apply JS_seq | apply JS_region)
  refine JS_block ?_
  refine JS_loop1 (fun (i : Nat) => [(0, .slice p m c), (3, .int .u64 (sw (T.take i))), (4, .int .i64 i)]) (fun _ => H) (fun i => i ≤ m) (fun i => m - i) 0 (by omega) (by repeat (first | exact trivial | refine ⟨rfl, ?_⟩ | refine ⟨lookI rfl (by omega), ?_⟩)) (fun _ h => h) ?_
  intro i hi again
  by_cases him : i < m
  · have hs0 := swT_nn hT i (by omega)
    have hs1 := swT_le (i := i + 1) hT (fun j hj => hR j (by omega)) (by omega)
    have ht := hT.get i (by omega)
    have hsw := sw_take T i (by omega)
    have gB := flat_get1 T i (by omega)
    rw [hsw] at hs1
    repeat (first | (apply gJO; refine JO_v (V_loadC (tb := tb) rfl hr rfl rfl gB rfl) ?_) | (first | (apply gJO; first | (apply kS; refine aK ?_) | (apply kX; refine JO_box rfl rfl rfl ?_; intro _) | (apply kA; refine JO_alloc (tb := tb) rfl rfl ?_; intro _) | (apply kBs; refine JO_buildSlice (tb := tb) rfl rfl rfl rfl rfl rfl rfl rfl rfl ?_; intro _) | (apply kM; refine JO_make (tb := tb) rfl rfl rfl rfl rfl rfl (by omega) rfl ?_; intro _) | refine aO ?_) | (apply gJR; first | apply JR_un | apply JR_nil | refine JR_yes rfl rfl ?_ | refine JR_no rfl rfl rfl rfl ?_ | refine JR_noU rfl rfl rfl ?_) | (apply gJS; first | apply JS_seq | apply JS_region | apply JS_skip | apply JS_block | apply JS_inBlock | apply JS_label | refine JS_exit rfl ?_ | refine JS_condT rfl ?_ | refine JS_condF rfl ?_ | refine JS_draw [0] (by kernel_rfl) (by kernel_rfl) (by decide +kernel) ?_ | refine JS_draw [] (by kernel_rfl) (by kernel_rfl) (by decide +kernel) ?_ | refine JS_cond_T rfl (by omega) ?_ | refine JS_cond_F rfl (by omega) ?_) | (apply gQR; first | apply QR_un | apply QR_nil | refine QR_yes rfl rfl ?_ | refine QR_no rfl rfl rfl rfl ?_ | refine QR_noU rfl rfl rfl ?_) | (apply gQO; first | refine aQ ?_ | refine aQK rfl ?_)))
    exact JS_again1 again (i + 1) (by omega) (by omega) (by exact ⟨rfl, lookI rfl (by omega), rfl, trivial⟩) (fun w hw => hw)
  · obtain rfl : i = m := by omega
    clear again
    repeat (first | (apply gJO; first | (apply kS; refine aK ?_) | (apply kX; refine JO_box rfl rfl rfl ?_; intro _) | (apply kA; refine JO_alloc (tb := tb) rfl rfl ?_; intro _) | (apply kBs; refine JO_buildSlice (tb := tb) rfl rfl rfl rfl rfl rfl rfl rfl rfl ?_; intro _) | (apply kM; refine JO_make (tb := tb) rfl rfl rfl rfl rfl rfl (by omega) rfl ?_; intro _) | refine aO ?_) | (apply gJR; first | apply JR_un | apply JR_nil | refine JR_yes rfl rfl ?_ | refine JR_no rfl rfl rfl rfl ?_ | refine JR_noU rfl rfl rfl ?_) | (apply gJS; first | apply JS_seq | apply JS_region | apply JS_skip | apply JS_block | apply JS_inBlock | apply JS_label | refine JS_exit rfl ?_ | refine JS_condT rfl ?_ | refine JS_condF rfl ?_ | refine JS_draw [0] (by kernel_rfl) (by kernel_rfl) (by decide +kernel) ?_ | refine JS_draw [] (by kernel_rfl) (by kernel_rfl) (by decide +kernel) ?_ | refine JS_cond_T rfl (by omega) ?_ | refine JS_cond_F rfl (by omega) ?_) | (apply gQR; first | apply QR_un | apply QR_nil | refine QR_yes rfl rfl ?_ | refine QR_no rfl rfl rfl rfl ?_ | refine QR_noU rfl rfl rfl ?_) | (apply gQO; first | refine aQ ?_ | refine aQK rfl ?_))
    refine JS_ret Try.func12 rfl rfl ?_
    intro w hw
    rw [List.take_of_length_le (by omega)]
    exact ⟨rfl, hw⟩
/-- how many things have a lesser key, or that one too -/
def bl (k : Int) (too : Bool) : List (Int × Int) → Int
  | [] => 0
  | t :: r => (if t.1 < k ∨ (too = true ∧ t.1 = k) then t.2 else 0) + bl k too r
theorem bl_app (k : Int) (too : Bool) : ∀ A B, bl k too (A ++ B) = bl k too A + bl k too B
  | [], B => by simp [bl]
  | t :: r, B => by simp only [List.cons_append, bl, bl_app k too r B]; omega
theorem bl_take (k : Int) (too : Bool) (T : List (Int × Int)) (i : Nat) (h : i < T.length) : bl k too (T.take (i + 1)) = bl k too (T.take i) + if (T.getD i (0, 0)).1 < k ∨ (too = true ∧ (T.getD i (0, 0)).1 = k) then (T.getD i (0, 0)).2 else 0 := by
  rw [take_step T i h, bl_app]; simp [bl]
theorem bl_bd (k : Int) (too : Bool) {T : List (Int × Int)} (hT : OKT T) : ∀ i, i ≤ T.length → 0 ≤ bl k too (T.take i) ∧ bl k too (T.take i) ≤ sw (T.take i)
  | 0, _ => by simp [bl, sw]
  | i + 1, hi => by
    rw [sw_take T i (by omega), bl_take k too T i (by omega)]
    have := bl_bd k too hT i (by omega)
    have := (hT.get i (by omega)).2
    split <;> omega
set_option maxHeartbeats 1000000 in
theorem RBelow_c {w0 : World} {H : List Asn} (p : Option Addr) (c m : Nat) (T : List (Int × Int)) (k : Int) (too : Bool) (hr : Rd w0 H (.slice p m c) m (flat T)) (hm : T.length = m) (hT : OKT T) (hR : RIGHT T) (hm1 : m ≤ 1000000) (w : World) (hw : St w0 H w) :
    Calls Try.prog 19 #[.slice p m c, .int .i64 k, .bool too] w fun e w' => e = .returned (.int .u64 (bl k too T)) ∧ St w0 H w' := by
  refine enter (vs := [.slice p m c, .int .i64 k, .bool too]) Try.func19 rfl rfl rfl hw ?_
  repeat (first | (apply gJR; first | (apply gJO; first | (apply kS; refine aK ?_) | (apply kX; refine JO_box rfl rfl rfl ?_; intro _) | (apply kA; refine JO_alloc (tb := tb) rfl rfl ?_; intro _) | (apply kBs; refine JO_buildSlice (tb := tb) rfl rfl rfl rfl rfl rfl rfl rfl rfl ?_; intro _) | (apply kM; refine JO_make (tb := tb) rfl rfl rfl rfl rfl rfl (by omega) rfl ?_; intro _) | refine aO ?_) | (apply gJR; first | apply JR_un | apply JR_nil | refine JR_yes rfl rfl ?_ | refine JR_no rfl rfl rfl rfl ?_ | refine JR_noU rfl rfl rfl ?_) | (apply gJS; first | apply JS_seq | apply JS_region | apply JS_skip | apply JS_block | apply JS_inBlock | apply JS_label | refine JS_exit rfl ?_ | refine JS_condT rfl ?_ | refine JS_condF rfl ?_ | refine JS_draw [0] (by kernel_rfl) (by kernel_rfl) (by decide +kernel) ?_ | refine JS_draw [] (by kernel_rfl) (by kernel_rfl) (by decide +kernel) ?_ | refine JS_cond_T rfl (by omega) ?_ | refine JS_cond_F rfl (by omega) ?_) | (apply gQR; first | apply QR_un | apply QR_nil | refine QR_yes rfl rfl ?_ | refine QR_no rfl rfl rfl rfl ?_ | refine QR_noU rfl rfl rfl ?_) | (apply gQO; first | refine aQ ?_ | refine aQK rfl ?_)) | (apply gJO; first | (apply gJO; first | (apply kS; refine aK ?_) | (apply kX; refine JO_box rfl rfl rfl ?_; intro _) | (apply kA; refine JO_alloc (tb := tb) rfl rfl ?_; intro _) | (apply kBs; refine JO_buildSlice (tb := tb) rfl rfl rfl rfl rfl rfl rfl rfl rfl ?_; intro _) | (apply kM; refine JO_make (tb := tb) rfl rfl rfl rfl rfl rfl (by omega) rfl ?_; intro _) | refine aO ?_) | (apply gJR; first | apply JR_un | apply JR_nil | refine JR_yes rfl rfl ?_ | refine JR_no rfl rfl rfl rfl ?_ | refine JR_noU rfl rfl rfl ?_) | (apply gJS; first | apply JS_seq | apply JS_region | apply JS_skip | apply JS_block | apply JS_inBlock | apply JS_label | refine JS_exit rfl ?_ | refine JS_condT rfl ?_ | refine JS_condF rfl ?_ | refine JS_draw [0] (by kernel_rfl) (by kernel_rfl) (by decide +kernel) ?_ | refine JS_draw [] (by kernel_rfl) (by kernel_rfl) (by decide +kernel) ?_ | refine JS_cond_T rfl (by omega) ?_ | refine JS_cond_F rfl (by omega) ?_) | (apply gQR; first | apply QR_un | apply QR_nil | refine QR_yes rfl rfl ?_ | refine QR_no rfl rfl rfl rfl ?_ | refine QR_noU rfl rfl rfl ?_) | (apply gQO; first | refine aQ ?_ | refine aQK rfl ?_)) | apply JS_seq | apply JS_region)
  refine JS_block ?_
  refine JS_loop1 (fun (i : Nat) => [(0, .slice p m c), (1, .int .i64 k), (2, .bool too), (7, .int .u64 (bl k too (T.take i))), (8, .int .i64 i)]) (fun _ => H) (fun i => i ≤ m) (fun i => m - i) 0 (by omega) (by repeat (first | exact trivial | refine ⟨rfl, ?_⟩ | refine ⟨lookI rfl (by omega), ?_⟩)) (fun _ h => h) ?_
  intro i hi again
  by_cases him : i < m
  · have hs0 := bl_bd k too hT (i + 1) (by omega)
    have hs1 := swT_le (i := i + 1) hT (fun j hj => hR j (by omega)) (by omega)
    have hs2 := bl_bd k too hT i (by omega)
    have ht := hT.get i (by omega)
    have hb := bl_take k too T i (by omega)
    have gA := flat_get0 T i (by omega)
    have gB := flat_get1 T i (by omega)
    generalize T.getD i (0, 0) = t at *
    obtain ⟨tk, tn⟩ := t
    simp only [] at *
    by_cases h1 : tk < k
    · rw [if_pos (.inl h1)] at hb
      rw [hb] at hs0
      repeat (first | (apply gJO; first | refine JO_v (V_loadC (tb := tb) rfl hr rfl rfl gA rfl) ?_ | refine JO_v (V_loadC (tb := tb) rfl hr rfl rfl gB rfl) ?_) | (first | (apply gJO; first | (apply kS; refine aK ?_) | (apply kX; refine JO_box rfl rfl rfl ?_; intro _) | (apply kA; refine JO_alloc (tb := tb) rfl rfl ?_; intro _) | (apply kBs; refine JO_buildSlice (tb := tb) rfl rfl rfl rfl rfl rfl rfl rfl rfl ?_; intro _) | (apply kM; refine JO_make (tb := tb) rfl rfl rfl rfl rfl rfl (by omega) rfl ?_; intro _) | refine aO ?_) | (apply gJR; first | apply JR_un | apply JR_nil | refine JR_yes rfl rfl ?_ | refine JR_no rfl rfl rfl rfl ?_ | refine JR_noU rfl rfl rfl ?_) | (apply gJS; first | apply JS_seq | apply JS_region | apply JS_skip | apply JS_block | apply JS_inBlock | apply JS_label | refine JS_exit rfl ?_ | refine JS_condT rfl ?_ | refine JS_condF rfl ?_ | refine JS_draw [0] (by kernel_rfl) (by kernel_rfl) (by decide +kernel) ?_ | refine JS_draw [] (by kernel_rfl) (by kernel_rfl) (by decide +kernel) ?_ | refine JS_cond_T rfl (by omega) ?_ | refine JS_cond_F rfl (by omega) ?_) | (apply gQR; first | apply QR_un | apply QR_nil | refine QR_yes rfl rfl ?_ | refine QR_no rfl rfl rfl rfl ?_ | refine QR_noU rfl rfl rfl ?_) | (apply gQO; first | refine aQ ?_ | refine aQK rfl ?_)))
      exact JS_again1 again (i + 1) (by omega) (by omega) (by exact ⟨rfl, rfl, rfl, lookI rfl (by omega), rfl, trivial⟩) (fun w hw => hw)
    · cases too
      · rw [if_neg (by simp; omega)] at hb
        repeat (first | (apply gJO; first | refine JO_v (V_loadC (tb := tb) rfl hr rfl rfl gA rfl) ?_ | refine JO_v (V_loadC (tb := tb) rfl hr rfl rfl gB rfl) ?_) | (first | (apply gJO; first | (apply kS; refine aK ?_) | (apply kX; refine JO_box rfl rfl rfl ?_; intro _) | (apply kA; refine JO_alloc (tb := tb) rfl rfl ?_; intro _) | (apply kBs; refine JO_buildSlice (tb := tb) rfl rfl rfl rfl rfl rfl rfl rfl rfl ?_; intro _) | (apply kM; refine JO_make (tb := tb) rfl rfl rfl rfl rfl rfl (by omega) rfl ?_; intro _) | refine aO ?_) | (apply gJR; first | apply JR_un | apply JR_nil | refine JR_yes rfl rfl ?_ | refine JR_no rfl rfl rfl rfl ?_ | refine JR_noU rfl rfl rfl ?_) | (apply gJS; first | apply JS_seq | apply JS_region | apply JS_skip | apply JS_block | apply JS_inBlock | apply JS_label | refine JS_exit rfl ?_ | refine JS_condT rfl ?_ | refine JS_condF rfl ?_ | refine JS_draw [0] (by kernel_rfl) (by kernel_rfl) (by decide +kernel) ?_ | refine JS_draw [] (by kernel_rfl) (by kernel_rfl) (by decide +kernel) ?_ | refine JS_cond_T rfl (by omega) ?_ | refine JS_cond_F rfl (by omega) ?_) | (apply gQR; first | apply QR_un | apply QR_nil | refine QR_yes rfl rfl ?_ | refine QR_no rfl rfl rfl rfl ?_ | refine QR_noU rfl rfl rfl ?_) | (apply gQO; first | refine aQ ?_ | refine aQK rfl ?_)))
        exact JS_again1 again (i + 1) (by omega) (by omega) (by exact ⟨rfl, rfl, rfl, lookI rfl (by omega), rfl, trivial⟩) (fun w hw => hw)
      · by_cases h2 : tk = k
        · rw [if_pos (.inr ⟨rfl, h2⟩)] at hb
          rw [hb] at hs0
          repeat (first | (apply gJO; first | refine JO_v (V_loadC (tb := tb) rfl hr rfl rfl gA rfl) ?_ | refine JO_v (V_loadC (tb := tb) rfl hr rfl rfl gB rfl) ?_) | (first | (apply gJO; first | (apply kS; refine aK ?_) | (apply kX; refine JO_box rfl rfl rfl ?_; intro _) | (apply kA; refine JO_alloc (tb := tb) rfl rfl ?_; intro _) | (apply kBs; refine JO_buildSlice (tb := tb) rfl rfl rfl rfl rfl rfl rfl rfl rfl ?_; intro _) | (apply kM; refine JO_make (tb := tb) rfl rfl rfl rfl rfl rfl (by omega) rfl ?_; intro _) | refine aO ?_) | (apply gJR; first | apply JR_un | apply JR_nil | refine JR_yes rfl rfl ?_ | refine JR_no rfl rfl rfl rfl ?_ | refine JR_noU rfl rfl rfl ?_) | (apply gJS; first | apply JS_seq | apply JS_region | apply JS_skip | apply JS_block | apply JS_inBlock | apply JS_label | refine JS_exit rfl ?_ | refine JS_condT rfl ?_ | refine JS_condF rfl ?_ | refine JS_draw [0] (by kernel_rfl) (by kernel_rfl) (by decide +kernel) ?_ | refine JS_draw [] (by kernel_rfl) (by kernel_rfl) (by decide +kernel) ?_ | refine JS_cond_T rfl (by omega) ?_ | refine JS_cond_F rfl (by omega) ?_) | (apply gQR; first | apply QR_un | apply QR_nil | refine QR_yes rfl rfl ?_ | refine QR_no rfl rfl rfl rfl ?_ | refine QR_noU rfl rfl rfl ?_) | (apply gQO; first | refine aQ ?_ | refine aQK rfl ?_)))
          exact JS_again1 again (i + 1) (by omega) (by omega) (by exact ⟨rfl, rfl, rfl, lookI rfl (by omega), rfl, trivial⟩) (fun w hw => hw)
        · rw [if_neg (by simp; omega)] at hb
          repeat (first | (apply gJO; first | refine JO_v (V_loadC (tb := tb) rfl hr rfl rfl gA rfl) ?_ | refine JO_v (V_loadC (tb := tb) rfl hr rfl rfl gB rfl) ?_) | (first | (apply gJO; first | (apply kS; refine aK ?_) | (apply kX; refine JO_box rfl rfl rfl ?_; intro _) | (apply kA; refine JO_alloc (tb := tb) rfl rfl ?_; intro _) | (apply kBs; refine JO_buildSlice (tb := tb) rfl rfl rfl rfl rfl rfl rfl rfl rfl ?_; intro _) | (apply kM; refine JO_make (tb := tb) rfl rfl rfl rfl rfl rfl (by omega) rfl ?_; intro _) | refine aO ?_) | (apply gJR; first | apply JR_un | apply JR_nil | refine JR_yes rfl rfl ?_ | refine JR_no rfl rfl rfl rfl ?_ | refine JR_noU rfl rfl rfl ?_) | (apply gJS; first | apply JS_seq | apply JS_region | apply JS_skip | apply JS_block | apply JS_inBlock | apply JS_label | refine JS_exit rfl ?_ | refine JS_condT rfl ?_ | refine JS_condF rfl ?_ | refine JS_draw [0] (by kernel_rfl) (by kernel_rfl) (by decide +kernel) ?_ | refine JS_draw [] (by kernel_rfl) (by kernel_rfl) (by decide +kernel) ?_ | refine JS_cond_T rfl (by omega) ?_ | refine JS_cond_F rfl (by omega) ?_) | (apply gQR; first | apply QR_un | apply QR_nil | refine QR_yes rfl rfl ?_ | refine QR_no rfl rfl rfl rfl ?_ | refine QR_noU rfl rfl rfl ?_) | (apply gQO; first | refine aQ ?_ | refine aQK rfl ?_)))
          exact JS_again1 again (i + 1) (by omega) (by omega) (by exact ⟨rfl, rfl, rfl, lookI rfl (by omega), rfl, trivial⟩) (fun w hw => hw)
  · obtain rfl : i = m := by omega
    clear again
    repeat (first | (apply gJO; first | (apply kS; refine aK ?_) | (apply kX; refine JO_box rfl rfl rfl ?_; intro _) | (apply kA; refine JO_alloc (tb := tb) rfl rfl ?_; intro _) | (apply kBs; refine JO_buildSlice (tb := tb) rfl rfl rfl rfl rfl rfl rfl rfl rfl ?_; intro _) | (apply kM; refine JO_make (tb := tb) rfl rfl rfl rfl rfl rfl (by omega) rfl ?_; intro _) | refine aO ?_) | (apply gJR; first | apply JR_un | apply JR_nil | refine JR_yes rfl rfl ?_ | refine JR_no rfl rfl rfl rfl ?_ | refine JR_noU rfl rfl rfl ?_) | (apply gJS; first | apply JS_seq | apply JS_region | apply JS_skip | apply JS_block | apply JS_inBlock | apply JS_label | refine JS_exit rfl ?_ | refine JS_condT rfl ?_ | refine JS_condF rfl ?_ | refine JS_draw [0] (by kernel_rfl) (by kernel_rfl) (by decide +kernel) ?_ | refine JS_draw [] (by kernel_rfl) (by kernel_rfl) (by decide +kernel) ?_ | refine JS_cond_T rfl (by omega) ?_ | refine JS_cond_F rfl (by omega) ?_) | (apply gQR; first | apply QR_un | apply QR_nil | refine QR_yes rfl rfl ?_ | refine QR_no rfl rfl rfl rfl ?_ | refine QR_noU rfl rfl rfl ?_) | (apply gQO; first | refine aQ ?_ | refine aQK rfl ?_))
    refine JS_ret Try.func19 rfl rfl ?_
    intro w hw
    rw [List.take_of_length_le (by omega)]
    exact ⟨rfl, hw⟩
/-- rising keys -/
theorem rise {T : List (Int × Int)} (hR : RIGHT T) (i : Nat) : ∀ d, i + d + 1 < T.length + 0 → (T.getD i (0, 0)).1 < (T.getD (i + d + 1) (0, 0)).1
  | 0, h => by
    have := (hR (i + 1) (by omega)).2.2 (by omega)
    rwa [Nat.add_sub_cancel] at this
  | d + 1, h => by
    have h1 := rise hR i d (by omega)
    have h2 := (hR (i + (d + 1) + 1) (by omega)).2.2 (by omega)
    rw [show i + (d + 1) + 1 - 1 = i + d + 1 by omega] at h2
    omega
theorem rise_lt {T : List (Int × Int)} (hR : RIGHT T) {i j : Nat} (hij : i < j) (hj : j < T.length) : (T.getD i (0, 0)).1 < (T.getD j (0, 0)).1 := by
  have := rise hR i (j - i - 1) (by omega)
  rwa [show i + (j - i - 1) + 1 = j by omega] at this
/-- where the lesser keys end -/
theorem bl_cut {T : List (Int × Int)} (k : Int) (too : Bool) (j : Nat) (hj : j ≤ T.length) (h1 : ∀ i, i < j → (T.getD i (0, 0)).1 < k ∨ (too = true ∧ (T.getD i (0, 0)).1 = k)) (h2 : ∀ i, j ≤ i → i < T.length → ¬ ((T.getD i (0, 0)).1 < k ∨ (too = true ∧ (T.getD i (0, 0)).1 = k))) : bl k too T = sw (T.take j) := by
  have key : ∀ i, i ≤ T.length → bl k too (T.take i) = sw (T.take (min i j)) := by
    intro i
    induction i with
    | zero => intro _; simp [bl, sw]
    | succ i ih =>
      intro hi
      rw [bl_take k too T i (by omega), ih (by omega)]
      by_cases h : i < j
      · rw [if_pos (h1 i h), Nat.min_eq_left (by omega), Nat.min_eq_left (by omega), sw_take T i (by omega)]
      · rw [if_neg (h2 i (by omega) (by omega)), Nat.min_eq_right (by omega), Nat.min_eq_right (by omega)]; omega
  have := key T.length (Nat.le_refl _)
  rwa [List.take_length, Nat.min_eq_right hj] at this
theorem le_or {x k : Int} (h : x ≤ k) : x < k ∨ (true = true ∧ x = k) := by
  rcases Int.lt_or_eq_of_le h with h | h
  · exact .inl h
  · exact .inr ⟨rfl, h⟩
theorem bl_below {T : List (Int × Int)} (hR : RIGHT T) (k : Int) (j : Nat) (hj : j ≤ T.length) (h1 : j = 0 ∨ (T.getD (j - 1) (0, 0)).1 < k) (h2 : j = T.length ∨ k ≤ (T.getD j (0, 0)).1) : bl k false T = sw (T.take j) := by
  refine bl_cut k false j hj (fun i hi => .inl ?_) (fun i hi hl => ?_)
  · rcases h1 with h | h
    · omega
    · rcases Nat.eq_or_lt_of_le (show i ≤ j - 1 by omega) with h3 | h3
      · rw [h3]; exact h
      · have := rise_lt hR h3 (by omega); omega
  · rcases h2 with h | h
    · omega
    · have h4 : k ≤ (T.getD i (0, 0)).1 := by
        rcases Nat.eq_or_lt_of_le hi with h3 | h3
        · rw [← h3]; exact h
        · have := rise_lt hR h3 hl; omega
      rintro (h5 | ⟨h5, _⟩)
      · omega
      · cases h5
theorem bl_upto {T : List (Int × Int)} (hR : RIGHT T) (k : Int) (j : Nat) (hj : j ≤ T.length) (h1 : j = 0 ∨ (T.getD (j - 1) (0, 0)).1 ≤ k) (h2 : j = T.length ∨ k < (T.getD j (0, 0)).1) : bl k true T = sw (T.take j) := by
  refine bl_cut k true j hj (fun i hi => le_or ?_) (fun i hi hl => ?_)
  · rcases h1 with h | h
    · omega
    · rcases Nat.eq_or_lt_of_le (show i ≤ j - 1 by omega) with h3 | h3
      · rw [h3]; exact h
      · have := rise_lt hR h3 (by omega); omega
  · rcases h2 with h | h
    · omega
    · have h4 : k < (T.getD i (0, 0)).1 := by
        rcases Nat.eq_or_lt_of_le hi with h3 | h3
        · rw [← h3]; exact h
        · have := rise_lt hR h3 hl; omega
      rintro (h5 | ⟨_, h5⟩) <;> omega
theorem bl_at {T : List (Int × Int)} (hR : RIGHT T) (i : Nat) (hi : i < T.length) : bl (T.getD i (0, 0)).1 true T = sw (T.take (i + 1)) := by
  refine bl_upto hR _ (i + 1) (by omega) (.inr (by rw [Nat.add_sub_cancel]; exact Int.le_refl _)) ?_
  by_cases h : i + 1 = T.length
  · exact .inl h
  · exact .inr (rise_lt hR (by omega) (by omega))
theorem sw_mono {T : List (Int × Int)} (hT : OKT T) (i : Nat) : ∀ d, i + d ≤ T.length → sw (T.take i) ≤ sw (T.take (i + d))
  | 0, _ => Int.le_refl _
  | d + 1, h => by
    have h1 := sw_mono hT i d (by omega)
    have h2 := sw_take T (i + d) (by omega)
    have h3 := (hT.get (i + d) (by omega)).2
    rw [show i + (d + 1) = i + d + 1 from rfl, h2]; omega
/-- the key of a rank -/
def KY (T : List (Int × Int)) (r v : Int) : Prop := (∃ i : Nat, i < T.length ∧ (i = 0 ∨ sw (T.take i) < r) ∧ r ≤ sw (T.take (i + 1)) ∧ v = (T.getD i (0, 0)).1) ∨ ((∀ i : Nat, i < T.length → sw (T.take (i + 1)) < r) ∧ v = 0)
theorem KY_fun {T : List (Int × Int)} (hT : OKT T) {r v v' : Int} (h : KY T r v) (h' : KY T r v') : v = v' := by
  have key : ∀ i j : Nat, i < j → j < T.length → (j = 0 ∨ sw (T.take j) < r) → r ≤ sw (T.take (i + 1)) → False := by
    intro i j hij hj h1 h2
    have := sw_mono hT (i + 1) (j - (i + 1)) (by omega)
    rw [show i + 1 + (j - (i + 1)) = j by omega] at this
    omega
  rcases h with ⟨i, h1, h2, h3, rfl⟩ | ⟨h1, rfl⟩ <;> rcases h' with ⟨j, g1, g2, g3, rfl⟩ | ⟨g1, rfl⟩
  · rcases Nat.lt_trichotomy i j with h | h | h
    · exact (key i j h g1 g2 h3).elim
    · rw [h]
    · exact (key j i h h1 h2 g3).elim
  · have := g1 i h1; omega
  · have := h1 j g1; omega
  · rfl
set_option maxHeartbeats 1000000 in
theorem RKey_c {w0 : World} {H : List Asn} (p : Option Addr) (c m : Nat) (T : List (Int × Int)) (r : Int) (hr : Rd w0 H (.slice p m c) m (flat T)) (hm : T.length = m) (hT : OKT T) (hR : RIGHT T) (hm1 : m ≤ 1000000) (w : World) (hw : St w0 H w) :
    Calls Try.prog 22 #[.slice p m c, .int .u64 r] w fun e w' => ∃ v, e = .returned (.int .i64 v) ∧ St w0 H w' ∧ KY T r v := by
  refine enter (vs := [.slice p m c, .int .u64 r]) Try.func22 rfl rfl rfl hw ?_
  repeat (first | (apply gJR; first | (apply gJO; first | (apply kS; refine aK ?_) | (apply kX; refine JO_box rfl rfl rfl ?_; intro _) | (apply kA; refine JO_alloc (tb := tb) rfl rfl ?_; intro _) | (apply kBs; refine JO_buildSlice (tb := tb) rfl rfl rfl rfl rfl rfl rfl rfl rfl ?_; intro _) | (apply kM; refine JO_make (tb := tb) rfl rfl rfl rfl rfl rfl (by omega) rfl ?_; intro _) | refine aO ?_) | (apply gJR; first | apply JR_un | apply JR_nil | refine JR_yes rfl rfl ?_ | refine JR_no rfl rfl rfl rfl ?_ | refine JR_noU rfl rfl rfl ?_) | (apply gJS; first | apply JS_seq | apply JS_region | apply JS_skip | apply JS_block | apply JS_inBlock | apply JS_label | refine JS_exit rfl ?_ | refine JS_condT rfl ?_ | refine JS_condF rfl ?_ | refine JS_draw [0] (by kernel_rfl) (by kernel_rfl) (by decide +kernel) ?_ | refine JS_draw [] (by kernel_rfl) (by kernel_rfl) (by decide +kernel) ?_ | refine JS_cond_T rfl (by omega) ?_ | refine JS_cond_F rfl (by omega) ?_) | (apply gQR; first | apply QR_un | apply QR_nil | refine QR_yes rfl rfl ?_ | refine QR_no rfl rfl rfl rfl ?_ | refine QR_noU rfl rfl rfl ?_) | (apply gQO; first | refine aQ ?_ | refine aQK rfl ?_)) | (apply gJO; first | (apply gJO; first | (apply kS; refine aK ?_) | (apply kX; refine JO_box rfl rfl rfl ?_; intro _) | (apply kA; refine JO_alloc (tb := tb) rfl rfl ?_; intro _) | (apply kBs; refine JO_buildSlice (tb := tb) rfl rfl rfl rfl rfl rfl rfl rfl rfl ?_; intro _) | (apply kM; refine JO_make (tb := tb) rfl rfl rfl rfl rfl rfl (by omega) rfl ?_; intro _) | refine aO ?_) | (apply gJR; first | apply JR_un | apply JR_nil | refine JR_yes rfl rfl ?_ | refine JR_no rfl rfl rfl rfl ?_ | refine JR_noU rfl rfl rfl ?_) | (apply gJS; first | apply JS_seq | apply JS_region | apply JS_skip | apply JS_block | apply JS_inBlock | apply JS_label | refine JS_exit rfl ?_ | refine JS_condT rfl ?_ | refine JS_condF rfl ?_ | refine JS_draw [0] (by kernel_rfl) (by kernel_rfl) (by decide +kernel) ?_ | refine JS_draw [] (by kernel_rfl) (by kernel_rfl) (by decide +kernel) ?_ | refine JS_cond_T rfl (by omega) ?_ | refine JS_cond_F rfl (by omega) ?_) | (apply gQR; first | apply QR_un | apply QR_nil | refine QR_yes rfl rfl ?_ | refine QR_no rfl rfl rfl rfl ?_ | refine QR_noU rfl rfl rfl ?_) | (apply gQO; first | refine aQ ?_ | refine aQK rfl ?_)) | apply JS_seq | apply JS_region)
  refine JS_block ?_
  refine JS_loop1 (fun (i : Nat) => [(0, .slice p m c), (1, .int .u64 r), (5, .int .i64 i)]) (fun _ => H) (fun i => i ≤ m ∧ ∀ j : Nat, j < i → sw (T.take (j + 1)) < r) (fun i => m - i) 0 ⟨by omega, fun j h => absurd h (by omega)⟩ (by repeat (first | exact trivial | refine ⟨rfl, ?_⟩ | refine ⟨lookI rfl (by omega), ?_⟩)) (fun _ h => h) ?_
  intro i ⟨hi, hlt⟩ again
  by_cases him : i < m
  · have gA := flat_get0 T i (by omega)
    have hat := bl_at hR i (by omega)
    repeat (first | (apply gJO; first | refine JO_v (V_loadC (tb := tb) rfl hr rfl rfl gA rfl) ?_) | (first | (apply gJO; first | (apply kS; refine aK ?_) | (apply kX; refine JO_box rfl rfl rfl ?_; intro _) | (apply kA; refine JO_alloc (tb := tb) rfl rfl ?_; intro _) | (apply kBs; refine JO_buildSlice (tb := tb) rfl rfl rfl rfl rfl rfl rfl rfl rfl ?_; intro _) | (apply kM; refine JO_make (tb := tb) rfl rfl rfl rfl rfl rfl (by omega) rfl ?_; intro _) | refine aO ?_) | (apply gJR; first | apply JR_un | apply JR_nil | refine JR_yes rfl rfl ?_ | refine JR_no rfl rfl rfl rfl ?_ | refine JR_noU rfl rfl rfl ?_) | (apply gJS; first | apply JS_seq | apply JS_region | apply JS_skip | apply JS_block | apply JS_inBlock | apply JS_label | refine JS_exit rfl ?_ | refine JS_condT rfl ?_ | refine JS_condF rfl ?_ | refine JS_draw [0] (by kernel_rfl) (by kernel_rfl) (by decide +kernel) ?_ | refine JS_draw [] (by kernel_rfl) (by kernel_rfl) (by decide +kernel) ?_ | refine JS_cond_T rfl (by omega) ?_ | refine JS_cond_F rfl (by omega) ?_) | (apply gQR; first | apply QR_un | apply QR_nil | refine QR_yes rfl rfl ?_ | refine QR_no rfl rfl rfl rfl ?_ | refine QR_noU rfl rfl rfl ?_) | (apply gQO; first | refine aQ ?_ | refine aQK rfl ?_)))
    refine JO_call Try.call19 rfl rfl fun w hw => (RBelow_c p c m T _ true hr hm hT hR hm1 w hw).mono ?_
    rintro e w' ⟨rfl, hw'⟩
    rw [hat]
    refine ⟨_, rfl, _, hw', ?_⟩
    clear hw' hw w w'
    by_cases hge : r ≤ sw (T.take (i + 1))
    · repeat (first | (apply gJO; first | refine JO_v (V_loadC (tb := tb) rfl hr rfl rfl gA rfl) ?_) | (first | (apply gJO; first | (apply kS; refine aK ?_) | (apply kX; refine JO_box rfl rfl rfl ?_; intro _) | (apply kA; refine JO_alloc (tb := tb) rfl rfl ?_; intro _) | (apply kBs; refine JO_buildSlice (tb := tb) rfl rfl rfl rfl rfl rfl rfl rfl rfl ?_; intro _) | (apply kM; refine JO_make (tb := tb) rfl rfl rfl rfl rfl rfl (by omega) rfl ?_; intro _) | refine aO ?_) | (apply gJR; first | apply JR_un | apply JR_nil | refine JR_yes rfl rfl ?_ | refine JR_no rfl rfl rfl rfl ?_ | refine JR_noU rfl rfl rfl ?_) | (apply gJS; first | apply JS_seq | apply JS_region | apply JS_skip | apply JS_block | apply JS_inBlock | apply JS_label | refine JS_exit rfl ?_ | refine JS_condT rfl ?_ | refine JS_condF rfl ?_ | refine JS_draw [0] (by kernel_rfl) (by kernel_rfl) (by decide +kernel) ?_ | refine JS_draw [] (by kernel_rfl) (by kernel_rfl) (by decide +kernel) ?_ | refine JS_cond_T rfl (by omega) ?_ | refine JS_cond_F rfl (by omega) ?_) | (apply gQR; first | apply QR_un | apply QR_nil | refine QR_yes rfl rfl ?_ | refine QR_no rfl rfl rfl rfl ?_ | refine QR_noU rfl rfl rfl ?_) | (apply gQO; first | refine aQ ?_ | refine aQK rfl ?_)))
      refine JS_ret Try.func22 rfl rfl ?_
      intro w hw
      refine ⟨_, rfl, hw, .inl ⟨i, by omega, ?_, hge, rfl⟩⟩
      by_cases h0 : i = 0
      · exact .inl h0
      · have := hlt (i - 1) (by omega)
        rw [show i - 1 + 1 = i by omega] at this
        exact .inr this
    · repeat (first | (apply gJO; first | (apply kS; refine aK ?_) | (apply kX; refine JO_box rfl rfl rfl ?_; intro _) | (apply kA; refine JO_alloc (tb := tb) rfl rfl ?_; intro _) | (apply kBs; refine JO_buildSlice (tb := tb) rfl rfl rfl rfl rfl rfl rfl rfl rfl ?_; intro _) | (apply kM; refine JO_make (tb := tb) rfl rfl rfl rfl rfl rfl (by omega) rfl ?_; intro _) | refine aO ?_) | (apply gJR; first | apply JR_un | apply JR_nil | refine JR_yes rfl rfl ?_ | refine JR_no rfl rfl rfl rfl ?_ | refine JR_noU rfl rfl rfl ?_) | (apply gJS; first | apply JS_seq | apply JS_region | apply JS_skip | apply JS_block | apply JS_inBlock | apply JS_label | refine JS_exit rfl ?_ | refine JS_condT rfl ?_ | refine JS_condF rfl ?_ | refine JS_draw [0] (by kernel_rfl) (by kernel_rfl) (by decide +kernel) ?_ | refine JS_draw [] (by kernel_rfl) (by kernel_rfl) (by decide +kernel) ?_ | refine JS_cond_T rfl (by omega) ?_ | refine JS_cond_F rfl (by omega) ?_) | (apply gQR; first | apply QR_un | apply QR_nil | refine QR_yes rfl rfl ?_ | refine QR_no rfl rfl rfl rfl ?_ | refine QR_noU rfl rfl rfl ?_) | (apply gQO; first | refine aQ ?_ | refine aQK rfl ?_))
      exact JS_again1 again (i + 1) ⟨by omega, fun j hj => by
        rcases Nat.lt_or_ge j i with h | h
        · exact hlt j h
        · obtain rfl : j = i := by omega
          omega⟩ (by omega) (by repeat (first | exact trivial | refine ⟨rfl, ?_⟩ | refine ⟨lookI rfl (by omega), ?_⟩)) (fun w hw => hw)
  · obtain rfl : i = m := by omega
    clear again
    repeat (first | (apply gJO; first | (apply kS; refine aK ?_) | (apply kX; refine JO_box rfl rfl rfl ?_; intro _) | (apply kA; refine JO_alloc (tb := tb) rfl rfl ?_; intro _) | (apply kBs; refine JO_buildSlice (tb := tb) rfl rfl rfl rfl rfl rfl rfl rfl rfl ?_; intro _) | (apply kM; refine JO_make (tb := tb) rfl rfl rfl rfl rfl rfl (by omega) rfl ?_; intro _) | refine aO ?_) | (apply gJR; first | apply JR_un | apply JR_nil | refine JR_yes rfl rfl ?_ | refine JR_no rfl rfl rfl rfl ?_ | refine JR_noU rfl rfl rfl ?_) | (apply gJS; first | apply JS_seq | apply JS_region | apply JS_skip | apply JS_block | apply JS_inBlock | apply JS_label | refine JS_exit rfl ?_ | refine JS_condT rfl ?_ | refine JS_condF rfl ?_ | refine JS_draw [0] (by kernel_rfl) (by kernel_rfl) (by decide +kernel) ?_ | refine JS_draw [] (by kernel_rfl) (by kernel_rfl) (by decide +kernel) ?_ | refine JS_cond_T rfl (by omega) ?_ | refine JS_cond_F rfl (by omega) ?_) | (apply gQR; first | apply QR_un | apply QR_nil | refine QR_yes rfl rfl ?_ | refine QR_no rfl rfl rfl rfl ?_ | refine QR_noU rfl rfl rfl ?_) | (apply gQO; first | refine aQ ?_ | refine aQK rfl ?_))
    refine JS_ret Try.func22 rfl rfl ?_
    intro w hw
    exact ⟨0, rfl, hw, .inr ⟨fun j hj => hlt j (by omega), rfl⟩⟩
end Go.Proofs.Ytjadcaoobnklcaa
