import Derived.Test.YtakgoflfcgofdaaP3
namespace Go.Proofs.Ytakgoflfcgofdaa
open Sx Go
set_option linter.unusedVariables false
set_option linter.unusedSimpArgs false
/-- the least distance of a symbol, and how many bits follow -/
def lfar (n : Int) : Int × Int := if n < 0 ∨ 29 < n then (0, 0) else if n < 4 then (1 + n, 0) else (1 + (2 + n % 2) * 2 ^ (n / 2 - 1).toNat, n / 2 - 1)
theorem Far_c {w0 : World} {H : List Asn} (s : Int) (hs : -9223372036854775808 ≤ s ∧ s < 9223372036854775808) (w : World) (hw : St w0 H w) :
    Calls Try.prog 26 #[.int .i64 s] w fun e w' => e = .returned (.tuple #[.int .i64 (lfar s).1, .int .i64 (lfar s).2]) ∧ St w0 H w' := by
  refine enter (vs := [.int .i64 s]) Try.func26 rfl rfl rfl hw ?_
  unfold lfar
  by_cases h1 : s < 0
  · rw [if_pos (.inl h1)]
    repeat (first | (apply gJO; first | (apply kS; refine aK ?_) | (apply kX; refine JO_box rfl rfl rfl ?_; intro _) | (apply kA; refine JO_alloc (tb := tb) rfl rfl ?_; intro _) | (apply kBs; refine JO_buildSlice (tb := tb) rfl rfl rfl rfl rfl rfl rfl rfl rfl ?_; intro _) | (apply kM; refine JO_make (tb := tb) rfl rfl rfl rfl rfl rfl (by omega) rfl ?_; intro _) | refine aO ?_) | (apply gJR; first | apply JR_un | apply JR_nil | refine JR_yes rfl rfl ?_ | refine JR_no rfl rfl rfl rfl ?_ | refine JR_noU rfl rfl rfl ?_) | (apply gJS; first | apply JS_seq | apply JS_region | apply JS_skip | apply JS_block | apply JS_inBlock | apply JS_label | refine JS_exit rfl ?_ | refine JS_condT rfl ?_ | refine JS_condF rfl ?_ | refine JS_draw [0] (by kernel_rfl) (by kernel_rfl) (by decide +kernel) ?_ | refine JS_draw [] (by kernel_rfl) (by kernel_rfl) (by decide +kernel) ?_ | refine JS_cond_T rfl (by omega) ?_ | refine JS_cond_F rfl (by omega) ?_) | (apply gQR; first | apply QR_un | apply QR_nil | refine QR_yes rfl rfl ?_ | refine QR_no rfl rfl rfl rfl ?_ | refine QR_noU rfl rfl rfl ?_) | (apply gQO; first | refine aQ ?_ | refine aQK rfl ?_))
    exact JS_ret Try.func26 rfl rfl fun w hw => ⟨rfl, hw⟩
  by_cases h2 : 29 < s
  · rw [if_pos (.inr h2)]
    repeat (first | (apply gJO; first | (apply kS; refine aK ?_) | (apply kX; refine JO_box rfl rfl rfl ?_; intro _) | (apply kA; refine JO_alloc (tb := tb) rfl rfl ?_; intro _) | (apply kBs; refine JO_buildSlice (tb := tb) rfl rfl rfl rfl rfl rfl rfl rfl rfl ?_; intro _) | (apply kM; refine JO_make (tb := tb) rfl rfl rfl rfl rfl rfl (by omega) rfl ?_; intro _) | refine aO ?_) | (apply gJR; first | apply JR_un | apply JR_nil | refine JR_yes rfl rfl ?_ | refine JR_no rfl rfl rfl rfl ?_ | refine JR_noU rfl rfl rfl ?_) | (apply gJS; first | apply JS_seq | apply JS_region | apply JS_skip | apply JS_block | apply JS_inBlock | apply JS_label | refine JS_exit rfl ?_ | refine JS_condT rfl ?_ | refine JS_condF rfl ?_ | refine JS_draw [0] (by kernel_rfl) (by kernel_rfl) (by decide +kernel) ?_ | refine JS_draw [] (by kernel_rfl) (by kernel_rfl) (by decide +kernel) ?_ | refine JS_cond_T rfl (by omega) ?_ | refine JS_cond_F rfl (by omega) ?_) | (apply gQR; first | apply QR_un | apply QR_nil | refine QR_yes rfl rfl ?_ | refine QR_no rfl rfl rfl rfl ?_ | refine QR_noU rfl rfl rfl ?_) | (apply gQO; first | refine aQ ?_ | refine aQK rfl ?_))
    exact JS_ret Try.func26 rfl rfl fun w hw => ⟨rfl, hw⟩
  rw [if_neg (by omega)]
  by_cases h4 : s < 4
  · rw [if_pos h4]
    repeat (first | (apply gJO; first | (apply kS; refine aK ?_) | (apply kX; refine JO_box rfl rfl rfl ?_; intro _) | (apply kA; refine JO_alloc (tb := tb) rfl rfl ?_; intro _) | (apply kBs; refine JO_buildSlice (tb := tb) rfl rfl rfl rfl rfl rfl rfl rfl rfl ?_; intro _) | (apply kM; refine JO_make (tb := tb) rfl rfl rfl rfl rfl rfl (by omega) rfl ?_; intro _) | refine aO ?_) | (apply gJR; first | apply JR_un | apply JR_nil | refine JR_yes rfl rfl ?_ | refine JR_no rfl rfl rfl rfl ?_ | refine JR_noU rfl rfl rfl ?_) | (apply gJS; first | apply JS_seq | apply JS_region | apply JS_skip | apply JS_block | apply JS_inBlock | apply JS_label | refine JS_exit rfl ?_ | refine JS_condT rfl ?_ | refine JS_condF rfl ?_ | refine JS_draw [0] (by kernel_rfl) (by kernel_rfl) (by decide +kernel) ?_ | refine JS_draw [] (by kernel_rfl) (by kernel_rfl) (by decide +kernel) ?_ | refine JS_cond_T rfl (by omega) ?_ | refine JS_cond_F rfl (by omega) ?_) | (apply gQR; first | apply QR_un | apply QR_nil | refine QR_yes rfl rfl ?_ | refine QR_no rfl rfl rfl rfl ?_ | refine QR_noU rfl rfl rfl ?_) | (apply gQO; first | refine aQ ?_ | refine aQK rfl ?_))
    exact JS_ret Try.func26 rfl rfl fun w hw => ⟨rfl, hw⟩
  rw [if_neg h4]
  have h5 : ∃ k : Nat, s / 2 - 1 = k ∧ k ≤ 13 := ⟨(s / 2 - 1).toNat, by omega, by omega⟩
  obtain ⟨k, hk, hk5⟩ := h5
  have hp : (2 : Int) ^ k ≤ 8192 ∧ 1 ≤ (2 : Int) ^ k := by
    have h : ∀ j : Fin 14, (2 : Int) ^ j.val ≤ 8192 ∧ 1 ≤ (2 : Int) ^ j.val := by decide +kernel
    exact h ⟨k, by omega⟩
  have hm : 0 ≤ (2 + s % 2) * (2 : Int) ^ k ∧ (2 + s % 2) * (2 : Int) ^ k ≤ 24576 := by
    rcases (show s % 2 = 0 ∨ s % 2 = 1 by omega) with h | h <;> (rw [h]; omega)
  have hw9 : IntKind.i64.wrap ((2 + s % 2) * (2 : Int) ^ k) = (2 + s % 2) * (2 : Int) ^ k := wi64 (by omega)
  have hmin : min (s / 2 - 1).toNat IntKind.i64.bits = k := by
    rw [hk]; show min k 64 = k; omega
  have hkt : (s / 2 - 1).toNat = k := by omega
  simp only [hkt]
  repeat (first | (apply gJO; refine JO_v (V_shl (m := k) rfl rfl (by omega) hmin hw9 rfl) ?_) | (first | (apply gJO; first | (apply kS; refine aK ?_) | (apply kX; refine JO_box rfl rfl rfl ?_; intro _) | (apply kA; refine JO_alloc (tb := tb) rfl rfl ?_; intro _) | (apply kBs; refine JO_buildSlice (tb := tb) rfl rfl rfl rfl rfl rfl rfl rfl rfl ?_; intro _) | (apply kM; refine JO_make (tb := tb) rfl rfl rfl rfl rfl rfl (by omega) rfl ?_; intro _) | refine aO ?_) | (apply gJR; first | apply JR_un | apply JR_nil | refine JR_yes rfl rfl ?_ | refine JR_no rfl rfl rfl rfl ?_ | refine JR_noU rfl rfl rfl ?_) | (apply gJS; first | apply JS_seq | apply JS_region | apply JS_skip | apply JS_block | apply JS_inBlock | apply JS_label | refine JS_exit rfl ?_ | refine JS_condT rfl ?_ | refine JS_condF rfl ?_ | refine JS_draw [0] (by kernel_rfl) (by kernel_rfl) (by decide +kernel) ?_ | refine JS_draw [] (by kernel_rfl) (by kernel_rfl) (by decide +kernel) ?_ | refine JS_cond_T rfl (by omega) ?_ | refine JS_cond_F rfl (by omega) ?_) | (apply gQR; first | apply QR_un | apply QR_nil | refine QR_yes rfl rfl ?_ | refine QR_no rfl rfl rfl rfl ?_ | refine QR_noU rfl rfl rfl ?_) | (apply gQO; first | refine aQ ?_ | refine aQK rfl ?_)))
  exact JS_ret Try.func26 rfl rfl fun w hw => ⟨rfl, hw⟩
theorem lfar_step : ∀ i : Nat, i < 29 → (lfar i).1 + 2 ^ (lfar i).2.toNat = (lfar (i + 1 : Nat)).1 := by
  have h : ∀ i : Fin 29, (lfar (i.val : Int)).1 + 2 ^ (lfar (i.val : Int)).2.toNat = (lfar ((i.val + 1 : Nat) : Int)).1 := by decide +kernel
  exact fun i hi => h ⟨i, hi⟩
theorem lfar_bd : ∀ i : Nat, i < 30 → 1 ≤ (lfar i).1 ∧ (lfar i).1 ≤ 24577 ∧ 0 ≤ (lfar i).2 ∧ (lfar i).2 ≤ 13 ∧ (lfar i).2 = if i < 4 then 0 else ((i : Int) - 2) / 2 := by
  have h : ∀ i : Fin 30, 1 ≤ (lfar (i.val : Int)).1 ∧ (lfar (i.val : Int)).1 ≤ 24577 ∧ 0 ≤ (lfar (i.val : Int)).2 ∧ (lfar (i.val : Int)).2 ≤ 13 ∧ (lfar (i.val : Int)).2 = if i.val < 4 then 0 else ((i.val : Int) - 2) / 2 := by decide +kernel
  exact fun i hi => h ⟨i, hi⟩
set_option maxHeartbeats 1000000 in
theorem RFar_c {w0 : World} {H : List Asn} (s : Int) (hs : -9223372036854775808 ≤ s ∧ s < 9223372036854775808) (w : World) (hw : St w0 H w) :
    Calls Try.prog 31 #[.int .i64 s] w fun e w' => e = .returned (.tuple #[.int .i64 (lfar s).1, .int .i64 (lfar s).2]) ∧ St w0 H w' := by
  refine enter (vs := [.int .i64 s]) Try.func31 rfl rfl rfl hw ?_
  by_cases h1 : s < 0
  · rw [show lfar s = (0, 0) from if_pos (.inl h1)]
    repeat (first | (apply gJO; first | (apply kS; refine aK ?_) | (apply kX; refine JO_box rfl rfl rfl ?_; intro _) | (apply kA; refine JO_alloc (tb := tb) rfl rfl ?_; intro _) | (apply kBs; refine JO_buildSlice (tb := tb) rfl rfl rfl rfl rfl rfl rfl rfl rfl ?_; intro _) | (apply kM; refine JO_make (tb := tb) rfl rfl rfl rfl rfl rfl (by omega) rfl ?_; intro _) | refine aO ?_) | (apply gJR; first | apply JR_un | apply JR_nil | refine JR_yes rfl rfl ?_ | refine JR_no rfl rfl rfl rfl ?_ | refine JR_noU rfl rfl rfl ?_) | (apply gJS; first | apply JS_seq | apply JS_region | apply JS_skip | apply JS_block | apply JS_inBlock | apply JS_label | refine JS_exit rfl ?_ | refine JS_condT rfl ?_ | refine JS_condF rfl ?_ | refine JS_draw [0] (by kernel_rfl) (by kernel_rfl) (by decide +kernel) ?_ | refine JS_draw [] (by kernel_rfl) (by kernel_rfl) (by decide +kernel) ?_ | refine JS_cond_T rfl (by omega) ?_ | refine JS_cond_F rfl (by omega) ?_) | (apply gQR; first | apply QR_un | apply QR_nil | refine QR_yes rfl rfl ?_ | refine QR_no rfl rfl rfl rfl ?_ | refine QR_noU rfl rfl rfl ?_) | (apply gQO; first | refine aQ ?_ | refine aQK rfl ?_))
    exact JS_ret Try.func31 rfl rfl fun w hw => ⟨rfl, hw⟩
  by_cases h2 : 29 < s
  · rw [show lfar s = (0, 0) from if_pos (.inr h2)]
    repeat (first | (apply gJO; first | (apply kS; refine aK ?_) | (apply kX; refine JO_box rfl rfl rfl ?_; intro _) | (apply kA; refine JO_alloc (tb := tb) rfl rfl ?_; intro _) | (apply kBs; refine JO_buildSlice (tb := tb) rfl rfl rfl rfl rfl rfl rfl rfl rfl ?_; intro _) | (apply kM; refine JO_make (tb := tb) rfl rfl rfl rfl rfl rfl (by omega) rfl ?_; intro _) | refine aO ?_) | (apply gJR; first | apply JR_un | apply JR_nil | refine JR_yes rfl rfl ?_ | refine JR_no rfl rfl rfl rfl ?_ | refine JR_noU rfl rfl rfl ?_) | (apply gJS; first | apply JS_seq | apply JS_region | apply JS_skip | apply JS_block | apply JS_inBlock | apply JS_label | refine JS_exit rfl ?_ | refine JS_condT rfl ?_ | refine JS_condF rfl ?_ | refine JS_draw [0] (by kernel_rfl) (by kernel_rfl) (by decide +kernel) ?_ | refine JS_draw [] (by kernel_rfl) (by kernel_rfl) (by decide +kernel) ?_ | refine JS_cond_T rfl (by omega) ?_ | refine JS_cond_F rfl (by omega) ?_) | (apply gQR; first | apply QR_un | apply QR_nil | refine QR_yes rfl rfl ?_ | refine QR_no rfl rfl rfl rfl ?_ | refine QR_noU rfl rfl rfl ?_) | (apply gQO; first | refine aQ ?_ | refine aQK rfl ?_))
    exact JS_ret Try.func31 rfl rfl fun w hw => ⟨rfl, hw⟩
  repeat (first | (apply gJR; first | (apply gJO; first | (apply kS; refine aK ?_) | (apply kX; refine JO_box rfl rfl rfl ?_; intro _) | (apply kA; refine JO_alloc (tb := tb) rfl rfl ?_; intro _) | (apply kBs; refine JO_buildSlice (tb := tb) rfl rfl rfl rfl rfl rfl rfl rfl rfl ?_; intro _) | (apply kM; refine JO_make (tb := tb) rfl rfl rfl rfl rfl rfl (by omega) rfl ?_; intro _) | refine aO ?_) | (apply gJR; first | apply JR_un | apply JR_nil | refine JR_yes rfl rfl ?_ | refine JR_no rfl rfl rfl rfl ?_ | refine JR_noU rfl rfl rfl ?_) | (apply gJS; first | apply JS_seq | apply JS_region | apply JS_skip | apply JS_block | apply JS_inBlock | apply JS_label | refine JS_exit rfl ?_ | refine JS_condT rfl ?_ | refine JS_condF rfl ?_ | refine JS_draw [0] (by kernel_rfl) (by kernel_rfl) (by decide +kernel) ?_ | refine JS_draw [] (by kernel_rfl) (by kernel_rfl) (by decide +kernel) ?_ | refine JS_cond_T rfl (by omega) ?_ | refine JS_cond_F rfl (by omega) ?_) | (apply gQR; first | apply QR_un | apply QR_nil | refine QR_yes rfl rfl ?_ | refine QR_no rfl rfl rfl rfl ?_ | refine QR_noU rfl rfl rfl ?_) | (apply gQO; first | refine aQ ?_ | refine aQK rfl ?_)) | (apply gJO; first | (apply gJO; first | (apply kS; refine aK ?_) | (apply kX; refine JO_box rfl rfl rfl ?_; intro _) | (apply kA; refine JO_alloc (tb := tb) rfl rfl ?_; intro _) | (apply kBs; refine JO_buildSlice (tb := tb) rfl rfl rfl rfl rfl rfl rfl rfl rfl ?_; intro _) | (apply kM; refine JO_make (tb := tb) rfl rfl rfl rfl rfl rfl (by omega) rfl ?_; intro _) | refine aO ?_) | (apply gJR; first | apply JR_un | apply JR_nil | refine JR_yes rfl rfl ?_ | refine JR_no rfl rfl rfl rfl ?_ | refine JR_noU rfl rfl rfl ?_) | (apply gJS; first | apply JS_seq | apply JS_region | apply JS_skip | apply JS_block | apply JS_inBlock | apply JS_label | refine JS_exit rfl ?_ | refine JS_condT rfl ?_ | refine JS_condF rfl ?_ | refine JS_draw [0] (by kernel_rfl) (by kernel_rfl) (by decide +kernel) ?_ | refine JS_draw [] (by kernel_rfl) (by kernel_rfl) (by decide +kernel) ?_ | refine JS_cond_T rfl (by omega) ?_ | refine JS_cond_F rfl (by omega) ?_) | (apply gQR; first | apply QR_un | apply QR_nil | refine QR_yes rfl rfl ?_ | refine QR_no rfl rfl rfl rfl ?_ | refine QR_noU rfl rfl rfl ?_) | (apply gQO; first | refine aQ ?_ | refine aQK rfl ?_)) | apply JS_seq | apply JS_region | refine JS_condF rfl ?_ | refine JS_cond_F rfl (by omega) ?_ | apply JS_skip)
  refine JS_block ?_
  refine JS_loop1 (fun (i : Nat) => [(0, .int .i64 s), (4, .int .i64 (lfar i).1), (5, .int .i64 i)]) (fun _ => H) (fun i => (i : Int) ≤ s) (fun i => 100 - i) 0 (by omega) (by exact ⟨rfl, rfl, rfl, trivial⟩) (fun _ h => h) ?_
  intro i hi again
  obtain ⟨b1, b2, b3, b4, b5⟩ := lfar_bd i (by omega)
  by_cases he : (i : Int) = s
  · obtain rfl : s = i := by omega
    clear again
    by_cases h8 : i < 4
    · rw [if_pos h8] at b5
      repeat (first | (apply gJO; first | (apply kS; refine aK ?_) | (apply kX; refine JO_box rfl rfl rfl ?_; intro _) | (apply kA; refine JO_alloc (tb := tb) rfl rfl ?_; intro _) | (apply kBs; refine JO_buildSlice (tb := tb) rfl rfl rfl rfl rfl rfl rfl rfl rfl ?_; intro _) | (apply kM; refine JO_make (tb := tb) rfl rfl rfl rfl rfl rfl (by omega) rfl ?_; intro _) | refine aO ?_) | (apply gJR; first | apply JR_un | apply JR_nil | refine JR_yes rfl rfl ?_ | refine JR_no rfl rfl rfl rfl ?_ | refine JR_noU rfl rfl rfl ?_) | (apply gJS; first | apply JS_seq | apply JS_region | apply JS_skip | apply JS_block | apply JS_inBlock | apply JS_label | refine JS_exit rfl ?_ | refine JS_condT rfl ?_ | refine JS_condF rfl ?_ | refine JS_draw [0] (by kernel_rfl) (by kernel_rfl) (by decide +kernel) ?_ | refine JS_draw [] (by kernel_rfl) (by kernel_rfl) (by decide +kernel) ?_ | refine JS_cond_T rfl (by omega) ?_ | refine JS_cond_F rfl (by omega) ?_) | (apply gQR; first | apply QR_un | apply QR_nil | refine QR_yes rfl rfl ?_ | refine QR_no rfl rfl rfl rfl ?_ | refine QR_noU rfl rfl rfl ?_) | (apply gQO; first | refine aQ ?_ | refine aQK rfl ?_))
      refine JS_ret Try.func31 rfl rfl fun w hw => ⟨?_, hw⟩
      rw [b5]; rfl
    · rw [if_neg h8] at b5
      repeat (first | (apply gJO; first | (apply kS; refine aK ?_) | (apply kX; refine JO_box rfl rfl rfl ?_; intro _) | (apply kA; refine JO_alloc (tb := tb) rfl rfl ?_; intro _) | (apply kBs; refine JO_buildSlice (tb := tb) rfl rfl rfl rfl rfl rfl rfl rfl rfl ?_; intro _) | (apply kM; refine JO_make (tb := tb) rfl rfl rfl rfl rfl rfl (by omega) rfl ?_; intro _) | refine aO ?_) | (apply gJR; first | apply JR_un | apply JR_nil | refine JR_yes rfl rfl ?_ | refine JR_no rfl rfl rfl rfl ?_ | refine JR_noU rfl rfl rfl ?_) | (apply gJS; first | apply JS_seq | apply JS_region | apply JS_skip | apply JS_block | apply JS_inBlock | apply JS_label | refine JS_exit rfl ?_ | refine JS_condT rfl ?_ | refine JS_condF rfl ?_ | refine JS_draw [0] (by kernel_rfl) (by kernel_rfl) (by decide +kernel) ?_ | refine JS_draw [] (by kernel_rfl) (by kernel_rfl) (by decide +kernel) ?_ | refine JS_cond_T rfl (by omega) ?_ | refine JS_cond_F rfl (by omega) ?_) | (apply gQR; first | apply QR_un | apply QR_nil | refine QR_yes rfl rfl ?_ | refine QR_no rfl rfl rfl rfl ?_ | refine QR_noU rfl rfl rfl ?_) | (apply gQO; first | refine aQ ?_ | refine aQK rfl ?_))
      refine JS_ret Try.func31 rfl rfl fun w hw => ⟨?_, hw⟩
      rw [b5]; rfl
  · have hst := lfar_step i (by omega)
    obtain ⟨c1, c2, _⟩ := lfar_bd (i + 1) (by omega)
    by_cases h8 : i < 4
    · rw [if_pos h8] at b5
      rw [b5] at hst
      have hst' : (lfar i).1 + 1 = (lfar (i + 1 : Nat)).1 := hst
      repeat (first | (apply gJO; refine JO_v (V_shl (m := 0) (c := 1) rfl rfl (by omega) (by decide) (by decide) rfl) ?_) | (first | (apply gJO; first | (apply kS; refine aK ?_) | (apply kX; refine JO_box rfl rfl rfl ?_; intro _) | (apply kA; refine JO_alloc (tb := tb) rfl rfl ?_; intro _) | (apply kBs; refine JO_buildSlice (tb := tb) rfl rfl rfl rfl rfl rfl rfl rfl rfl ?_; intro _) | (apply kM; refine JO_make (tb := tb) rfl rfl rfl rfl rfl rfl (by omega) rfl ?_; intro _) | refine aO ?_) | (apply gJR; first | apply JR_un | apply JR_nil | refine JR_yes rfl rfl ?_ | refine JR_no rfl rfl rfl rfl ?_ | refine JR_noU rfl rfl rfl ?_) | (apply gJS; first | apply JS_seq | apply JS_region | apply JS_skip | apply JS_block | apply JS_inBlock | apply JS_label | refine JS_exit rfl ?_ | refine JS_condT rfl ?_ | refine JS_condF rfl ?_ | refine JS_draw [0] (by kernel_rfl) (by kernel_rfl) (by decide +kernel) ?_ | refine JS_draw [] (by kernel_rfl) (by kernel_rfl) (by decide +kernel) ?_ | refine JS_cond_T rfl (by omega) ?_ | refine JS_cond_F rfl (by omega) ?_) | (apply gQR; first | apply QR_un | apply QR_nil | refine QR_yes rfl rfl ?_ | refine QR_no rfl rfl rfl rfl ?_ | refine QR_noU rfl rfl rfl ?_) | (apply gQO; first | refine aQ ?_ | refine aQK rfl ?_)))
      exact JS_again1 again (i + 1) (by omega) (by omega) (by exact ⟨rfl, lookI rfl (by omega), lookI rfl (by omega), trivial⟩) (fun w hw => hw)
    · rw [if_neg h8] at b5
      have hk : ∃ k : Nat, ((i : Int) - 2) / 2 = k ∧ k ≤ 13 := ⟨(((i : Int) - 2) / 2).toNat, by omega, by omega⟩
      obtain ⟨k, hk, hk5⟩ := hk
      rw [b5, hk] at hst
      have hpw : (2 : Int) ^ k ≤ 8192 ∧ 1 ≤ (2 : Int) ^ k := by
        have h : ∀ j : Fin 14, (2 : Int) ^ j.val ≤ 8192 ∧ 1 ≤ (2 : Int) ^ j.val := by decide +kernel
        exact h ⟨k, by omega⟩
      have hst' : (lfar i).1 + 2 ^ k = (lfar (i + 1 : Nat)).1 := hst
      have hw9 : IntKind.i64.wrap (1 * (2 : Int) ^ k) = (2 : Int) ^ k := (congrArg _ (Int.one_mul _)).trans (wi64 (by omega))
      have hmin : min (((i : Int) - 2) / 2).toNat IntKind.i64.bits = k := by
        rw [hk]; show min k 64 = k; omega
      repeat (first | (apply gJO; refine JO_v (V_shl (m := k) rfl rfl (by omega) hmin hw9 rfl) ?_) | (first | (apply gJO; first | (apply kS; refine aK ?_) | (apply kX; refine JO_box rfl rfl rfl ?_; intro _) | (apply kA; refine JO_alloc (tb := tb) rfl rfl ?_; intro _) | (apply kBs; refine JO_buildSlice (tb := tb) rfl rfl rfl rfl rfl rfl rfl rfl rfl ?_; intro _) | (apply kM; refine JO_make (tb := tb) rfl rfl rfl rfl rfl rfl (by omega) rfl ?_; intro _) | refine aO ?_) | (apply gJR; first | apply JR_un | apply JR_nil | refine JR_yes rfl rfl ?_ | refine JR_no rfl rfl rfl rfl ?_ | refine JR_noU rfl rfl rfl ?_) | (apply gJS; first | apply JS_seq | apply JS_region | apply JS_skip | apply JS_block | apply JS_inBlock | apply JS_label | refine JS_exit rfl ?_ | refine JS_condT rfl ?_ | refine JS_condF rfl ?_ | refine JS_draw [0] (by kernel_rfl) (by kernel_rfl) (by decide +kernel) ?_ | refine JS_draw [] (by kernel_rfl) (by kernel_rfl) (by decide +kernel) ?_ | refine JS_cond_T rfl (by omega) ?_ | refine JS_cond_F rfl (by omega) ?_) | (apply gQR; first | apply QR_un | apply QR_nil | refine QR_yes rfl rfl ?_ | refine QR_no rfl rfl rfl rfl ?_ | refine QR_noU rfl rfl rfl ?_) | (apply gQO; first | refine aQ ?_ | refine aQK rfl ?_)))
      exact JS_again1 again (i + 1) (by omega) (by omega) (by exact ⟨rfl, lookI rfl (by omega), lookI rfl (by omega), trivial⟩) (fun w hw => hw)
end Go.Proofs.Ytakgoflfcgofdaa

namespace Go.Proofs.Ytakgoflfcgofdaa
open Sx Go
set_option linter.unusedVariables false
set_option linter.unusedSimpArgs false
attribute [local irreducible] syA fc tk cds
/-! ## what a compressed stream tells, on bits -/
/-- so many bits as a number, the first one the lowest -/
def nbt (bt : Nat → Int) (a : Nat) : Nat → Int
  | 0 => 0
  | c + 1 => nbt bt a c + bt (a + c) * 2 ^ c
theorem nbt_bd (bt : Nat → Int) (hb : ∀ j, bt j = 0 ∨ bt j = 1) (a : Nat) : ∀ c, 0 ≤ nbt bt a c ∧ nbt bt a c < 2 ^ c
  | 0 => ⟨Int.le_refl _, by show (0 : Int) < 1; decide⟩
  | c + 1 => by
    have h := nbt_bd bt hb a c
    simp only [nbt, Int.pow_succ]
    rcases hb (a + c) with h1 | h1 <;> rw [h1] <;> omega
theorem nbt_congr {bt bt' : Nat → Int} {a a' : Nat} : ∀ {c : Nat}, (∀ j, j < c → bt (a + j) = bt' (a' + j)) → nbt bt a c = nbt bt' a' c
  | 0, _ => rfl
  | c + 1, h => by
    simp only [nbt]
    rw [nbt_congr (c := c) (fun j hj => h j (by omega)), h c (by omega)]
inductive Stp where
  | err (e : Int)
  | stop (a : Nat) (o : List Int)
  | go (a : Nat) (o : List Int)
inductive Res where
  | err (e : Int)
  | ok (a : Nat) (o : List Int)
/-- a step done over and over -/
inductive It (f : Nat → List Int → Stp) : Nat → List Int → Res → Prop where
  | err {a : Nat} {o : List Int} {e : Int} (h : f a o = .err e) : It f a o (.err e)
  | stop {a : Nat} {o : List Int} {a' : Nat} {o' : List Int} (h : f a o = .stop a' o') : It f a o (.ok a' o')
  | go {a : Nat} {o : List Int} {a' : Nat} {o' : List Int} {r : Res} (h : f a o = .go a' o') (t : It f a' o' r) : It f a o r
theorem It.one {f : Nat → List Int → Stp} {a : Nat} {o : List Int} {r r' : Res} (h : It f a o r) : It f a o r' → r = r' := by
  induction h with
  | err h => intro h'; cases h' with
    | err h2 => rw [h] at h2; cases h2; rfl
    | stop h2 => rw [h] at h2; cases h2
    | go h2 _ => rw [h] at h2; cases h2
  | stop h => intro h'; cases h' with
    | err h2 => rw [h] at h2; cases h2
    | stop h2 => rw [h] at h2; cases h2; rfl
    | go h2 _ => rw [h] at h2; cases h2
  | go h _ ih => intro h'; cases h' with
    | err h2 => rw [h] at h2; cases h2
    | stop h2 => rw [h] at h2; cases h2
    | go h2 t => rw [h] at h2; cases h2; exact ih t
open Classical in
noncomputable def itF (f : Nat → List Int → Stp) (a : Nat) (o : List Int) : Res := if h : ∃ r, It f a o r then h.choose else .err 0
theorem itF_of {f : Nat → List Int → Stp} {a : Nat} {o : List Int} {r : Res} (h : It f a o r) : itF f a o = r := by
  have hex : ∃ r, It f a o r := ⟨r, h⟩
  unfold itF
  rw [dif_pos hex]
  exact hex.choose_spec.one h
inductive Sy where
  | err (e : Int)
  | ok (i : Int) (a : Nat)
open Classical in
/-- a symbol by lengths -/
noncomputable def symS (bt : Nat → Int) (N : Nat) (L : List Int) (a : Nat) : Sy :=
  if h : ∃ x : Int × Nat × Int, RD L (fun j => bt (a + j)) (N - a) x.1 x.2.1 x.2.2 then (if h.choose.2.2 = 0 then .ok h.choose.1 (a + h.choose.2.1) else .err h.choose.2.2) else .err 0
theorem symS_of {bt : Nat → Int} {N a : Nat} {L : List Int} (hB : OKB L) (hk : OKL L) (hb : ∀ j, bt j = 0 ∨ bt j = 1) {i : Int} {u : Nat} {r : Int} (h : RD L (fun j => bt (a + j)) (N - a) i u r) :
    symS bt N L a = if r = 0 then .ok i (a + u) else .err r := by
  have hex : ∃ x : Int × Nat × Int, RD L (fun j => bt (a + j)) (N - a) x.1 x.2.1 x.2.2 := ⟨(i, u, r), h⟩
  unfold symS
  rw [dif_pos hex]
  obtain ⟨h1, h2, h3⟩ := RD_fun hB hk (fun j => hb _) hex.choose_spec h
  rw [h1, h2, h3]
/-- bytes from so far back -/
def cpy (o : List Int) (back : Nat) : Nat → List Int
  | 0 => o
  | n + 1 => cpy o back n ++ [(cpy o back n).getD ((cpy o back n).length - back) 0]
theorem cpy_len (o : List Int) (back : Nat) : ∀ n, (cpy o back n).length = o.length + n
  | 0 => rfl
  | n + 1 => by simp only [cpy, List.length_append, List.length_cons, List.length_nil, cpy_len o back n]; omega
/-- behind a length's symbol -/
noncomputable def blk2 (bt : Nat → Int) (N lim : Nat) (D : List Int) (o : List Int) (len : Int) (a : Nat) : Stp :=
  match symS bt N D a with
  | .err e => .err e
  | .ok d a2 =>
    if (lfar d).1 = 0 then .err 62
    else if N < a2 + (lfar d).2.toNat then .err 20
    else if (o.length : Int) < (lfar d).1 + nbt bt a2 (lfar d).2.toNat then .err 63
    else if (lim : Int) - o.length < len then .err 64
    else .go (a2 + (lfar d).2.toNat) (cpy o ((lfar d).1 + nbt bt a2 (lfar d).2.toNat).toNat len.toNat)
/-- a symbol of a block -/
noncomputable def blkF (bt : Nat → Int) (N lim : Nat) (L D : List Int) (a : Nat) (o : List Int) : Stp :=
  match symS bt N L a with
  | .err e => .err e
  | .ok i a1 =>
    if i = 256 then .stop a1 o
    else if i < 256 then (if (lim : Int) - o.length < 1 then .err 64 else .go a1 (o ++ [i]))
    else if (lbase i).1 = 0 then .err 62
    else if N < a1 + (lbase i).2.toNat then .err 20
    else blk2 bt N lim D o ((lbase i).1 + nbt bt a1 (lbase i).2.toNat) (a1 + (lbase i).2.toNat)
/-- some lengths more -/
def lenP (many : Nat) (l : List Int) (x : Int) (t : Int) (a : Nat) : Stp :=
  if (many : Int) < l.length + t then .err 62 else .go a (l ++ List.replicate t.toNat x)
/-- a symbol of the lengths -/
noncomputable def lenF (bt : Nat → Int) (N : Nat) (C : List Int) (many : Nat) (a : Nat) (l : List Int) : Stp :=
  if many ≤ l.length then .stop a l else
  match symS bt N C a with
  | .err e => .err e
  | .ok i a1 =>
    if i = 16 then (if l.length = 0 then .err 62 else if N < a1 + 2 then .err 20 else lenP many l (l.getD (l.length - 1) 0) (3 + nbt bt a1 2) (a1 + 2))
    else if i = 17 then (if N < a1 + 3 then .err 20 else lenP many l 0 (3 + nbt bt a1 3) (a1 + 3))
    else if i = 18 then (if N < a1 + 7 then .err 20 else lenP many l 0 (11 + nbt bt a1 7) (a1 + 7))
    else lenP many l i 1 a1
/-- bytes of bits -/
def byts (bt : Nat → Int) (a n : Nat) : List Int := (List.range n).map fun j => nbt bt (a + 8 * j) 8
theorem byts_len (bt : Nat → Int) (a n : Nat) : (byts bt a n).length = n := by simp [byts]
/-- the next place where a byte begins -/
def upto8 (a : Nat) : Nat := (a + 7) / 8 * 8
/-- a stored block -/
def stoF (bt : Nat → Int) (N lim : Nat) (a : Nat) (o : List Int) : Res :=
  if N < upto8 a + 16 then .err 20
  else if N < upto8 a + 32 then .err 20
  else if nbt bt (upto8 a) 16 + nbt bt (upto8 a + 16) 16 ≠ 65535 then .err 61
  else if (lim : Int) - o.length < nbt bt (upto8 a) 16 then .err 64
  else if (N : Int) < upto8 a + 32 + 8 * nbt bt (upto8 a) 16 then .err 20
  else .ok (upto8 a + 32 + 8 * (nbt bt (upto8 a) 16).toNat) (o ++ byts bt (upto8 a + 32) (nbt bt (upto8 a) 16).toNat)
/-- the order of the lengths' lengths -/
def ordL : List Nat := [16, 17, 18, 0, 8, 7, 9, 6, 10, 5, 11, 4, 12, 3, 13, 2, 14, 1, 15]
def ccl (bt : Nat → Int) (a : Nat) : Nat → List Int
  | 0 => List.replicate 19 0
  | i + 1 => (ccl bt a i).set (ordL.getD i 0) (nbt bt (a + 3 * i) 3)
theorem ccl_len (bt : Nat → Int) (a : Nat) : ∀ n, (ccl bt a n).length = 19
  | 0 => by simp [ccl]
  | n + 1 => by simp [ccl, ccl_len bt a n]
open Classical in
/-- behind the lengths of both sets -/
noncomputable def des2 (bt : Nat → Int) (N lim lit : Nat) (l : List Int) (a : Nat) (o : List Int) : Res :=
  if l.getD 256 0 = 0 then .err 62
  else if ¬ OKL (l.take lit) then .err 62
  else if ¬ OKL (l.drop lit) then .err 62
  else itF (blkF bt N lim (l.take lit) (l.drop lit)) a o
open Classical in
/-- behind the numbers of lengths -/
noncomputable def des1 (bt : Nat → Int) (N lim lit sp ln : Nat) (a : Nat) (o : List Int) : Res :=
  if 286 < lit ∨ 30 < sp then .err 62
  else if N < a + 3 * ln then .err 20
  else if ¬ OKL (ccl bt a ln) ∨ ¬ tk (ccl bt a ln) = 32768 then .err 62
  else match itF (lenF bt N (ccl bt a ln) (lit + sp)) (a + 3 * ln) [] with
    | .err e => .err e
    | .ok a' l => des2 bt N lim lit l a' o
/-- a described block -/
noncomputable def desF (bt : Nat → Int) (N lim : Nat) (a : Nat) (o : List Int) : Res :=
  if N < a + 5 then .err 20
  else if N < a + 10 then .err 20
  else if N < a + 14 then .err 20
  else des1 bt N lim (nbt bt a 5 + 257).toNat (nbt bt (a + 5) 5 + 1).toNat (nbt bt (a + 10) 4 + 4).toNat (a + 14) o
/-- a block of a kind -/
noncomputable def kndF (bt : Nat → Int) (N lim : Nat) (k : Int) (a : Nat) (o : List Int) : Res :=
  if k = 0 then stoF bt N lim a o
  else if k = 1 then itF (blkF bt N lim (tab 288 fixF) (List.replicate 32 5)) a o
  else if k = 2 then desF bt N lim a o
  else .err 60
/-- a block -/
noncomputable def rdF (bt : Nat → Int) (N lim : Nat) (a : Nat) (o : List Int) : Stp :=
  if N < a + 1 then .err 20
  else if N < a + 3 then .err 20
  else match kndF bt N lim (nbt bt (a + 1) 2) (a + 3) o with
    | .err e => .err e
    | .ok a' o' => if nbt bt a 1 = 0 then .go a' o' else .stop a' o'
/-- all of it: how many bits, which bytes -/
def ALLR (B : List Int) (lim : Nat) (r : Res) : Prop := It (rdF (bitB B 0) (8 * B.length) lim) 0 [] r
theorem bitB_add (B : List Int) (a j : Nat) : bitB B 0 (a + j) = bitB B a j := by
  unfold bitB; simp only [Nat.zero_add]
theorem bitB_fun (B : List Int) (a : Nat) : (fun j => bitB B 0 (a + j)) = bitB B a := funext fun j => bitB_add B a j
end Go.Proofs.Ytakgoflfcgofdaa

namespace Go.Proofs.Ytakgoflfcgofdaa
open Sx Go
set_option linter.unusedVariables false
set_option linter.unusedSimpArgs false
attribute [local irreducible] syA fc tk cds
theorem or_add_u32 {a y : Int} {s : Nat} (hs : s < 32) (ha : 0 ≤ a ∧ a < 2 ^ s) (hy : y = 0 ∨ y = 1) : IntKind.u32.wrap ((BitVec.ofInt IntKind.u32.bits a ||| BitVec.ofInt IntKind.u32.bits (y * 2 ^ s)).toNat) = a + y * 2 ^ s := by
  have hp : (2 : Int) ^ s ≤ 2147483648 := by
    have : ∀ k : Fin 32, (2 : Int) ^ k.val ≤ 2147483648 := by decide
    exact this ⟨s, hs⟩
  have hyb : 0 ≤ y * 2 ^ s ∧ y * 2 ^ s ≤ 2147483648 := by rcases hy with rfl | rfl <;> omega
  rw [or_nat .u32 ⟨ha.1, by show a < 4294967296; omega⟩ ⟨hyb.1, by show y * 2 ^ s < 4294967296; omega⟩]
  obtain ⟨m, rfl⟩ := Int.eq_ofNat_of_zero_le ha.1
  have hpn : ((2 ^ s : Nat) : Int) = 2 ^ s := by simp
  rcases hy with rfl | rfl
  · simp only [Int.zero_mul, Int.toNat_natCast, Int.toNat_zero, Nat.or_zero, Int.add_zero]
    exact wu32 (by omega)
  · have h := Nat.two_pow_add_eq_or_of_lt (i := s) (b := m) (by have := ha.2; rw [← hpn] at this; omega) 1
    rw [Nat.mul_one] at h
    rw [Int.one_mul, Int.toNat_natCast, show ((2 : Int) ^ s).toNat = 2 ^ s by rw [← hpn]; rfl, Nat.or_comm, ← h]
    refine (wu32 (by omega)).trans (by omega)
theorem pw32 (i : Nat) (h : i < 32) : (1 : Int) ≤ 2 ^ i ∧ (2 : Int) ^ i ≤ 2147483648 := by
  have : ∀ k : Fin 32, (1 : Int) ≤ 2 ^ k.val ∧ (2 : Int) ^ k.val ≤ 2147483648 := by decide
  exact this ⟨i, h⟩
set_option maxHeartbeats 4000000 in
/-- so many bits are read -/
theorem RGrp_c {w0 : World} {H : List Asn} (b : Nat) (q : Option Addr) (d m : Nat) (B : List Int) (hr : Rd w0 H (.slice q m d) m (ints .u8 B)) (hm : B.length = m) (hB : OKB B) (hm1 : m ≤ 140737488355328) (a c : Nat) (hc : c ≤ 32) (ha : a ≤ 8 * m) (w : World) (hw : St w0 (blk b [.slice q m d, .int .i64 a] :: H) w) :
    Calls Try.prog 82 #[.pointer (some ⟨b, 0, none⟩), .int .i64 c] w fun e w' =>
      (8 * m < a + c ∧ e = .returned (.tuple #[.int .u32 0, .int .i64 20]) ∧ St w0 (blk b [.slice q m d, .int .i64 a] :: H) w') ∨
      (a + c ≤ 8 * m ∧ e = .returned (.tuple #[.int .u32 (nbt (bitB B 0) a c), .int .i64 0]) ∧ St w0 (blk b [.slice q m d, .int .i64 (a + c : Nat)] :: H) w') := by
  refine enter (vs := [.pointer (some ⟨b, 0, none⟩), .int .i64 c]) Try.func82 rfl rfl rfl hw ?_
  repeat (first | (apply gJO; first | (apply kS; refine aK ?_) | (apply kX; refine JO_box rfl rfl rfl ?_; intro _) | (apply kA; refine JO_alloc (tb := tb) rfl rfl ?_; intro _) | (apply kBs; refine JO_buildSlice (tb := tb) rfl rfl rfl rfl rfl rfl rfl rfl rfl ?_; intro _) | (apply kM; refine JO_make (tb := tb) rfl rfl rfl rfl rfl rfl (by omega) rfl ?_; intro _) | refine aO ?_) | (apply gJR; first | apply JR_un | apply JR_nil | refine JR_yes rfl rfl ?_ | refine JR_no rfl rfl rfl rfl ?_ | refine JR_noU rfl rfl rfl ?_) | (apply gJS; first | apply JS_seq | apply JS_region | apply JS_skip | apply JS_block | apply JS_inBlock | apply JS_label | refine JS_exit rfl ?_ | refine JS_condT rfl ?_ | refine JS_condF rfl ?_ | refine JS_draw [0] (by kernel_rfl) (by kernel_rfl) (by decide +kernel) ?_ | refine JS_draw [] (by kernel_rfl) (by kernel_rfl) (by decide +kernel) ?_ | refine JS_cond_T rfl (by omega) ?_ | refine JS_cond_F rfl (by omega) ?_) | (apply gQR; first | apply QR_un | apply QR_nil | refine QR_yes rfl rfl ?_ | refine QR_no rfl rfl rfl rfl ?_ | refine QR_noU rfl rfl rfl ?_) | (apply gQO; first | refine aQ ?_ | refine aQK rfl ?_))
  refine JO_call Try.call94 rfl rfl fun w hw => (Left_c b q d m a (List.Mem.head _) hm1 (by omega) w hw).mono ?_
  rintro e w' ⟨rfl, hw'⟩
  refine ⟨_, rfl, _, hw', ?_⟩
  clear hw' hw w w'
  by_cases hend : 8 * m < a + c
  · repeat (first | (apply gJO; first | (apply kS; refine aK ?_) | (apply kX; refine JO_box rfl rfl rfl ?_; intro _) | (apply kA; refine JO_alloc (tb := tb) rfl rfl ?_; intro _) | (apply kBs; refine JO_buildSlice (tb := tb) rfl rfl rfl rfl rfl rfl rfl rfl rfl ?_; intro _) | (apply kM; refine JO_make (tb := tb) rfl rfl rfl rfl rfl rfl (by omega) rfl ?_; intro _) | refine aO ?_) | (apply gJR; first | apply JR_un | apply JR_nil | refine JR_yes rfl rfl ?_ | refine JR_no rfl rfl rfl rfl ?_ | refine JR_noU rfl rfl rfl ?_) | (apply gJS; first | apply JS_seq | apply JS_region | apply JS_skip | apply JS_block | apply JS_inBlock | apply JS_label | refine JS_exit rfl ?_ | refine JS_condT rfl ?_ | refine JS_condF rfl ?_ | refine JS_draw [0] (by kernel_rfl) (by kernel_rfl) (by decide +kernel) ?_ | refine JS_draw [] (by kernel_rfl) (by kernel_rfl) (by decide +kernel) ?_ | refine JS_cond_T rfl (by omega) ?_ | refine JS_cond_F rfl (by omega) ?_) | (apply gQR; first | apply QR_un | apply QR_nil | refine QR_yes rfl rfl ?_ | refine QR_no rfl rfl rfl rfl ?_ | refine QR_noU rfl rfl rfl ?_) | (apply gQO; first | refine aQ ?_ | refine aQK rfl ?_))
    refine JS_ret Try.func82 rfl rfl ?_
    intro w hw
    exact .inl ⟨hend, rfl, hw⟩
  repeat (first | (apply gJR; first | (apply gJO; first | (apply kS; refine aK ?_) | (apply kX; refine JO_box rfl rfl rfl ?_; intro _) | (apply kA; refine JO_alloc (tb := tb) rfl rfl ?_; intro _) | (apply kBs; refine JO_buildSlice (tb := tb) rfl rfl rfl rfl rfl rfl rfl rfl rfl ?_; intro _) | (apply kM; refine JO_make (tb := tb) rfl rfl rfl rfl rfl rfl (by omega) rfl ?_; intro _) | refine aO ?_) | (apply gJR; first | apply JR_un | apply JR_nil | refine JR_yes rfl rfl ?_ | refine JR_no rfl rfl rfl rfl ?_ | refine JR_noU rfl rfl rfl ?_) | (apply gJS; first | apply JS_seq | apply JS_region | apply JS_skip | apply JS_block | apply JS_inBlock | apply JS_label | refine JS_exit rfl ?_ | refine JS_condT rfl ?_ | refine JS_condF rfl ?_ | refine JS_draw [0] (by kernel_rfl) (by kernel_rfl) (by decide +kernel) ?_ | refine JS_draw [] (by kernel_rfl) (by kernel_rfl) (by decide +kernel) ?_ | refine JS_cond_T rfl (by omega) ?_ | refine JS_cond_F rfl (by omega) ?_) | (apply gQR; first | apply QR_un | apply QR_nil | refine QR_yes rfl rfl ?_ | refine QR_no rfl rfl rfl rfl ?_ | refine QR_noU rfl rfl rfl ?_) | (apply gQO; first | refine aQ ?_ | refine aQK rfl ?_)) | (apply gJO; first | (apply gJO; first | (apply kS; refine aK ?_) | (apply kX; refine JO_box rfl rfl rfl ?_; intro _) | (apply kA; refine JO_alloc (tb := tb) rfl rfl ?_; intro _) | (apply kBs; refine JO_buildSlice (tb := tb) rfl rfl rfl rfl rfl rfl rfl rfl rfl ?_; intro _) | (apply kM; refine JO_make (tb := tb) rfl rfl rfl rfl rfl rfl (by omega) rfl ?_; intro _) | refine aO ?_) | (apply gJR; first | apply JR_un | apply JR_nil | refine JR_yes rfl rfl ?_ | refine JR_no rfl rfl rfl rfl ?_ | refine JR_noU rfl rfl rfl ?_) | (apply gJS; first | apply JS_seq | apply JS_region | apply JS_skip | apply JS_block | apply JS_inBlock | apply JS_label | refine JS_exit rfl ?_ | refine JS_condT rfl ?_ | refine JS_condF rfl ?_ | refine JS_draw [0] (by kernel_rfl) (by kernel_rfl) (by decide +kernel) ?_ | refine JS_draw [] (by kernel_rfl) (by kernel_rfl) (by decide +kernel) ?_ | refine JS_cond_T rfl (by omega) ?_ | refine JS_cond_F rfl (by omega) ?_) | (apply gQR; first | apply QR_un | apply QR_nil | refine QR_yes rfl rfl ?_ | refine QR_no rfl rfl rfl rfl ?_ | refine QR_noU rfl rfl rfl ?_) | (apply gQO; first | refine aQ ?_ | refine aQK rfl ?_)) | apply JS_seq | apply JS_region | refine JS_condF rfl ?_ | refine JS_cond_F rfl (by omega) ?_ | apply JS_skip)
  refine JS_block ?_
  refine JS_loop1 (fun (i : Nat) => [(0, .pointer (some ⟨b, 0, none⟩)), (6, .int .u32 (nbt (bitB B 0) a i)), (18, .int .i64 c), (19, .int .i64 i)]) (fun i => blk b [.slice q m d, .int .i64 (a + i : Nat)] :: H)
    (fun i => i ≤ c) (fun i => c - i) 0 (Nat.zero_le _) (by repeat (first | exact trivial | refine ⟨rfl, ?_⟩ | refine ⟨lookI rfl (by omega), ?_⟩)) (fun _ h => h) ?_
  intro i hi again
  by_cases hic : i < c
  · have hr' : Rd w0 (blk b [.slice q m d, .int .i64 (a + i : Nat)] :: H) (.slice q m d) m (ints .u8 B) := Rd_weak hr fun w hw => St.sub (by repeat (first | exact List.Sublist.refl _ | apply List.Sublist.cons_cons | apply List.Sublist.cons)) hw
    have hb := hB ((a + i) / 8)
    have gi : (ints .u8 B)[(a + i) / 8]? = some (.int .u8 (B.getD ((a + i) / 8) 0)) := ints_get (by omega)
    have hs : min (((a + i : Nat) : Int) % 8).toNat IntKind.u8.bits = (a + i) % 8 := by show min _ 8 = _; omega
    obtain ⟨y, hy⟩ : ∃ y, B.getD ((a + i) / 8) 0 / 2 ^ ((a + i) % 8) = y := ⟨_, rfl⟩
    have hpos : (0 : Int) < 2 ^ ((a + i) % 8) := Int.pow_pos (by decide)
    have hy0 : 0 ≤ y := by rw [← hy]; exact Int.ediv_nonneg hb.1 (Int.le_of_lt hpos)
    have hy1 : y < 256 := by
      rw [← hy]
      exact Int.lt_of_le_of_lt (Int.ediv_le_self _ hb.1) hb.2
    have hz : y % 2 = 0 ∨ y % 2 = 1 := by omega
    have hbt : bitB B 0 (a + i) = y % 2 := by unfold bitB; rw [Nat.zero_add, hy]
    obtain ⟨hn0, hn1⟩ := nbt_bd (bitB B 0) (bitB_01 B 0) a i
    obtain ⟨hp0, hp1⟩ := pw32 i (by omega)
    have hs2 : min ((i : Int)).toNat IntKind.u32.bits = i := by show min _ 32 = _; omega
    have hwr : IntKind.u32.wrap (y % 2 * 2 ^ i) = y % 2 * 2 ^ i := wu32 (by rcases hz with h | h <;> rw [h] <;> omega)
    have hor := or_add_u32 (s := i) (by omega) ⟨hn0, hn1⟩ hz
    repeat (first | (apply gQO; refine QO_v rfl (V_loadC (tb := tb) rfl hr' rfl rfl gi rfl) ?_) | (apply gQO; refine QO_v rfl (V_shr (m := (a + i) % 8) rfl rfl (by omega) hs hy rfl) ?_) | (apply gQO; refine QO_v rfl (V_and rfl rfl (mask1_u8 ⟨hy0, hy1⟩) rfl) ?_) | (apply gQO; refine QO_v rfl (V_shl (m := i) (c := y % 2 * 2 ^ i) rfl rfl (by omega) hs2 hwr rfl) ?_) | (apply gQO; refine QO_v rfl (V_or rfl rfl hor rfl) ?_) | (first | (apply gJO; first | (apply kS; refine aK ?_) | (apply kX; refine JO_box rfl rfl rfl ?_; intro _) | (apply kA; refine JO_alloc (tb := tb) rfl rfl ?_; intro _) | (apply kBs; refine JO_buildSlice (tb := tb) rfl rfl rfl rfl rfl rfl rfl rfl rfl ?_; intro _) | (apply kM; refine JO_make (tb := tb) rfl rfl rfl rfl rfl rfl (by omega) rfl ?_; intro _) | refine aO ?_) | (apply gJR; first | apply JR_un | apply JR_nil | refine JR_yes rfl rfl ?_ | refine JR_no rfl rfl rfl rfl ?_ | refine JR_noU rfl rfl rfl ?_) | (apply gJS; first | apply JS_seq | apply JS_region | apply JS_skip | apply JS_block | apply JS_inBlock | apply JS_label | refine JS_exit rfl ?_ | refine JS_condT rfl ?_ | refine JS_condF rfl ?_ | refine JS_draw [0] (by kernel_rfl) (by kernel_rfl) (by decide +kernel) ?_ | refine JS_draw [] (by kernel_rfl) (by kernel_rfl) (by decide +kernel) ?_ | refine JS_cond_T rfl (by omega) ?_ | refine JS_cond_F rfl (by omega) ?_) | (apply gQR; first | apply QR_un | apply QR_nil | refine QR_yes rfl rfl ?_ | refine QR_no rfl rfl rfl rfl ?_ | refine QR_noU rfl rfl rfl ?_) | (apply gQO; first | refine aQ ?_ | refine aQK rfl ?_)))
    refine JS_again1 again (i + 1) (by omega) (by omega) ?_ (fun w hw => hw)
    refine ⟨rfl, ?_, rfl, rfl, trivial⟩
    simp only [nbt, hbt]; rfl
  · obtain rfl : i = c := by omega
    clear again
    repeat (first | (apply gJO; first | (apply kS; refine aK ?_) | (apply kX; refine JO_box rfl rfl rfl ?_; intro _) | (apply kA; refine JO_alloc (tb := tb) rfl rfl ?_; intro _) | (apply kBs; refine JO_buildSlice (tb := tb) rfl rfl rfl rfl rfl rfl rfl rfl rfl ?_; intro _) | (apply kM; refine JO_make (tb := tb) rfl rfl rfl rfl rfl rfl (by omega) rfl ?_; intro _) | refine aO ?_) | (apply gJR; first | apply JR_un | apply JR_nil | refine JR_yes rfl rfl ?_ | refine JR_no rfl rfl rfl rfl ?_ | refine JR_noU rfl rfl rfl ?_) | (apply gJS; first | apply JS_seq | apply JS_region | apply JS_skip | apply JS_block | apply JS_inBlock | apply JS_label | refine JS_exit rfl ?_ | refine JS_condT rfl ?_ | refine JS_condF rfl ?_ | refine JS_draw [0] (by kernel_rfl) (by kernel_rfl) (by decide +kernel) ?_ | refine JS_draw [] (by kernel_rfl) (by kernel_rfl) (by decide +kernel) ?_ | refine JS_cond_T rfl (by omega) ?_ | refine JS_cond_F rfl (by omega) ?_) | (apply gQR; first | apply QR_un | apply QR_nil | refine QR_yes rfl rfl ?_ | refine QR_no rfl rfl rfl rfl ?_ | refine QR_noU rfl rfl rfl ?_) | (apply gQO; first | refine aQ ?_ | refine aQK rfl ?_))
    refine JS_ret Try.func82 rfl rfl ?_
    intro w hw
    exact .inr ⟨by omega, rfl, hw⟩
/-- up to the next byte -/
theorem Align_c {w0 : World} {H : List Asn} (b : Nat) (u : Value) (a : Nat) (ha : a ≤ 4611686018427387904) (w : World) (hw : St w0 (blk b [u, .int .i64 a] :: H) w) :
    Calls Try.prog 75 #[.pointer (some ⟨b, 0, none⟩)] w fun e w' => e = .returned (.tuple #[]) ∧ St w0 (blk b [u, .int .i64 (upto8 a : Nat)] :: H) w' := by
  refine enter (vs := [.pointer (some ⟨b, 0, none⟩)]) Try.func75 rfl rfl rfl hw ?_
  repeat (first | (apply gJO; first | (apply kS; refine aK ?_) | (apply kX; refine JO_box rfl rfl rfl ?_; intro _) | (apply kA; refine JO_alloc (tb := tb) rfl rfl ?_; intro _) | (apply kBs; refine JO_buildSlice (tb := tb) rfl rfl rfl rfl rfl rfl rfl rfl rfl ?_; intro _) | (apply kM; refine JO_make (tb := tb) rfl rfl rfl rfl rfl rfl (by omega) rfl ?_; intro _) | refine aO ?_) | (apply gJR; first | apply JR_un | apply JR_nil | refine JR_yes rfl rfl ?_ | refine JR_no rfl rfl rfl rfl ?_ | refine JR_noU rfl rfl rfl ?_) | (apply gJS; first | apply JS_seq | apply JS_region | apply JS_skip | apply JS_block | apply JS_inBlock | apply JS_label | refine JS_exit rfl ?_ | refine JS_condT rfl ?_ | refine JS_condF rfl ?_ | refine JS_draw [0] (by kernel_rfl) (by kernel_rfl) (by decide +kernel) ?_ | refine JS_draw [] (by kernel_rfl) (by kernel_rfl) (by decide +kernel) ?_ | refine JS_cond_T rfl (by omega) ?_ | refine JS_cond_F rfl (by omega) ?_) | (apply gQR; first | apply QR_un | apply QR_nil | refine QR_yes rfl rfl ?_ | refine QR_no rfl rfl rfl rfl ?_ | refine QR_noU rfl rfl rfl ?_) | (apply gQO; first | refine aQ ?_ | refine aQK rfl ?_))
  refine JS_fin Try.func75 rfl rfl ?_
  intro w hw
  refine ⟨rfl, ?_⟩
  rwa [show ((a : Int) + 7) / 8 * 8 = (upto8 a : Nat) by unfold upto8; omega] at hw
theorem upto8_le {a m : Nat} (h : a ≤ 8 * m) : upto8 a ≤ 8 * m := by unfold upto8; omega
theorem upto8_8 (a : Nat) : upto8 a % 8 = 0 := by unfold upto8; omega
theorem upto8_up (a : Nat) : upto8 (upto8 a) = upto8 a := by unfold upto8; omega
set_option maxHeartbeats 2000000 in
/-- bytes are read -/
theorem Text_c {w0 : World} {H : List Asn} (b : Nat) (q : Option Addr) (d m : Nat) (B : List Int) (hr : Rd w0 H (.slice q m d) m (ints .u8 B)) (hm : B.length = m) (hB : OKB B) (hm1 : m ≤ 140737488355328) (a n : Nat) (hn : n ≤ 140737488355328) (ha : a ≤ 8 * m) (w : World) (hw : St w0 (blk b [.slice q m d, .int .i64 a] :: H) w) :
    Calls Try.prog 76 #[.pointer (some ⟨b, 0, none⟩), .int .i64 n] w fun e w' =>
      (8 * m < upto8 a + 8 * n ∧ e = .returned (.tuple #[.slice none 0 0, .int .i64 20]) ∧ St w0 (blk b [.slice q m d, .int .i64 (upto8 a : Nat)] :: H) w') ∨
      (upto8 a + 8 * n ≤ 8 * m ∧ ∃ p c, e = .returned (.tuple #[.slice p n c, .int .i64 0]) ∧ St w0 (vec 5 1 (.slice p n c) n (ints .u8 ((B.drop (upto8 a / 8)).take n)) :: blk b [.slice q m d, .int .i64 (upto8 a + 8 * n : Nat)] :: H) w') := by
  have hu := upto8_le ha
  have hu8 := upto8_8 a
  refine enter (vs := [.pointer (some ⟨b, 0, none⟩), .int .i64 n]) Try.func76 rfl rfl rfl hw ?_
  repeat (first | (apply gJO; first | (apply kS; refine aK ?_) | (apply kX; refine JO_box rfl rfl rfl ?_; intro _) | (apply kA; refine JO_alloc (tb := tb) rfl rfl ?_; intro _) | (apply kBs; refine JO_buildSlice (tb := tb) rfl rfl rfl rfl rfl rfl rfl rfl rfl ?_; intro _) | (apply kM; refine JO_make (tb := tb) rfl rfl rfl rfl rfl rfl (by omega) rfl ?_; intro _) | refine aO ?_) | (apply gJR; first | apply JR_un | apply JR_nil | refine JR_yes rfl rfl ?_ | refine JR_no rfl rfl rfl rfl ?_ | refine JR_noU rfl rfl rfl ?_) | (apply gJS; first | apply JS_seq | apply JS_region | apply JS_skip | apply JS_block | apply JS_inBlock | apply JS_label | refine JS_exit rfl ?_ | refine JS_condT rfl ?_ | refine JS_condF rfl ?_ | refine JS_draw [0] (by kernel_rfl) (by kernel_rfl) (by decide +kernel) ?_ | refine JS_draw [] (by kernel_rfl) (by kernel_rfl) (by decide +kernel) ?_ | refine JS_cond_T rfl (by omega) ?_ | refine JS_cond_F rfl (by omega) ?_) | (apply gQR; first | apply QR_un | apply QR_nil | refine QR_yes rfl rfl ?_ | refine QR_no rfl rfl rfl rfl ?_ | refine QR_noU rfl rfl rfl ?_) | (apply gQO; first | refine aQ ?_ | refine aQK rfl ?_))
  refine JO_call Try.call75 rfl rfl fun w hw => (Align_c b _ a (by omega) w hw).mono ?_
  rintro e w' ⟨rfl, hw'⟩
  refine ⟨_, rfl, _, hw', ?_⟩
  clear hw' hw w w'
  generalize upto8 a = u at *
  repeat (first | (apply gJO; first | (apply kS; refine aK ?_) | (apply kX; refine JO_box rfl rfl rfl ?_; intro _) | (apply kA; refine JO_alloc (tb := tb) rfl rfl ?_; intro _) | (apply kBs; refine JO_buildSlice (tb := tb) rfl rfl rfl rfl rfl rfl rfl rfl rfl ?_; intro _) | (apply kM; refine JO_make (tb := tb) rfl rfl rfl rfl rfl rfl (by omega) rfl ?_; intro _) | refine aO ?_) | (apply gJR; first | apply JR_un | apply JR_nil | refine JR_yes rfl rfl ?_ | refine JR_no rfl rfl rfl rfl ?_ | refine JR_noU rfl rfl rfl ?_) | (apply gJS; first | apply JS_seq | apply JS_region | apply JS_skip | apply JS_block | apply JS_inBlock | apply JS_label | refine JS_exit rfl ?_ | refine JS_condT rfl ?_ | refine JS_condF rfl ?_ | refine JS_draw [0] (by kernel_rfl) (by kernel_rfl) (by decide +kernel) ?_ | refine JS_draw [] (by kernel_rfl) (by kernel_rfl) (by decide +kernel) ?_ | refine JS_cond_T rfl (by omega) ?_ | refine JS_cond_F rfl (by omega) ?_) | (apply gQR; first | apply QR_un | apply QR_nil | refine QR_yes rfl rfl ?_ | refine QR_no rfl rfl rfl rfl ?_ | refine QR_noU rfl rfl rfl ?_) | (apply gQO; first | refine aQ ?_ | refine aQK rfl ?_))
  refine JO_call Try.call94 rfl rfl fun w hw => (Left_c b q d m u (List.Mem.head _) hm1 (by omega) w hw).mono ?_
  rintro e w' ⟨rfl, hw'⟩
  refine ⟨_, rfl, _, hw', ?_⟩
  clear hw' hw w w'
  by_cases hend : 8 * m < u + 8 * n
  · repeat (first | (apply gJO; first | (apply kS; refine aK ?_) | (apply kX; refine JO_box rfl rfl rfl ?_; intro _) | (apply kA; refine JO_alloc (tb := tb) rfl rfl ?_; intro _) | (apply kBs; refine JO_buildSlice (tb := tb) rfl rfl rfl rfl rfl rfl rfl rfl rfl ?_; intro _) | (apply kM; refine JO_make (tb := tb) rfl rfl rfl rfl rfl rfl (by omega) rfl ?_; intro _) | refine aO ?_) | (apply gJR; first | apply JR_un | apply JR_nil | refine JR_yes rfl rfl ?_ | refine JR_no rfl rfl rfl rfl ?_ | refine JR_noU rfl rfl rfl ?_) | (apply gJS; first | apply JS_seq | apply JS_region | apply JS_skip | apply JS_block | apply JS_inBlock | apply JS_label | refine JS_exit rfl ?_ | refine JS_condT rfl ?_ | refine JS_condF rfl ?_ | refine JS_draw [0] (by kernel_rfl) (by kernel_rfl) (by decide +kernel) ?_ | refine JS_draw [] (by kernel_rfl) (by kernel_rfl) (by decide +kernel) ?_ | refine JS_cond_T rfl (by omega) ?_ | refine JS_cond_F rfl (by omega) ?_) | (apply gQR; first | apply QR_un | apply QR_nil | refine QR_yes rfl rfl ?_ | refine QR_no rfl rfl rfl rfl ?_ | refine QR_noU rfl rfl rfl ?_) | (apply gQO; first | refine aQ ?_ | refine aQK rfl ?_))
    refine JS_ret Try.func76 rfl rfl ?_
    intro w hw
    exact .inl ⟨hend, rfl, hw⟩
  have hr' : Rd w0 (blk b [.slice q m d, .int .i64 (u + 8 * n : Nat)] :: H) (.slice q m d) m (ints .u8 B) := Rd_weak hr fun w hw => St.sub (by repeat (first | exact List.Sublist.refl _ | apply List.Sublist.cons_cons | apply List.Sublist.cons)) hw
  have hrs := Rd_sub (lo := u / 8) (hi := u / 8 + n) (sz := 1) hr' (by omega) (by omega)
  have hsub : ((ints .u8 B).drop (u / 8 * 1)).take ((u / 8 + n - u / 8) * 1) = ints .u8 ((B.drop (u / 8)).take n) := by
    rw [show u / 8 + n - u / 8 = n by omega, Nat.mul_one, Nat.mul_one, ints_drop, ints_take]
  rw [hsub, show u / 8 + n - u / 8 = n by omega] at hrs
  have hcap : ∀ w, St w0 (blk b [.slice q m d, .int .i64 (u + 8 * n : Nat)] :: H) w → u / 8 + n ≤ d := fun w hw => by
    have := (hr'.lcap hw).1; omega
  have hst : ((u : Int) + 8 * n) = ((u + 8 * n : Nat) : Int) := by omega
  repeat (first | (apply gJO; refine JO_v (V_slice (tb := tb) (lo := u / 8) (hi := u / 8 + n) rfl rfl rfl rfl rfl (by omega) (by omega) (fun w hw => ⟨by omega, hcap w (by rw [← hst]; exact hw)⟩) rfl) ?_) | (first | (apply gJO; first | (apply kS; refine aK ?_) | (apply kX; refine JO_box rfl rfl rfl ?_; intro _) | (apply kA; refine JO_alloc (tb := tb) rfl rfl ?_; intro _) | (apply kBs; refine JO_buildSlice (tb := tb) rfl rfl rfl rfl rfl rfl rfl rfl rfl ?_; intro _) | (apply kM; refine JO_make (tb := tb) rfl rfl rfl rfl rfl rfl (by omega) rfl ?_; intro _) | refine aO ?_) | (apply gJR; first | apply JR_un | apply JR_nil | refine JR_yes rfl rfl ?_ | refine JR_no rfl rfl rfl rfl ?_ | refine JR_noU rfl rfl rfl ?_) | (apply gJS; first | apply JS_seq | apply JS_region | apply JS_skip | apply JS_block | apply JS_inBlock | apply JS_label | refine JS_exit rfl ?_ | refine JS_condT rfl ?_ | refine JS_condF rfl ?_ | refine JS_draw [0] (by kernel_rfl) (by kernel_rfl) (by decide +kernel) ?_ | refine JS_draw [] (by kernel_rfl) (by kernel_rfl) (by decide +kernel) ?_ | refine JS_cond_T rfl (by omega) ?_ | refine JS_cond_F rfl (by omega) ?_) | (apply gQR; first | apply QR_un | apply QR_nil | refine QR_yes rfl rfl ?_ | refine QR_no rfl rfl rfl rfl ?_ | refine QR_noU rfl rfl rfl ?_) | (apply gQO; first | refine aQ ?_ | refine aQK rfl ?_)))
  have e3 : u / 8 + n - u / 8 = n := by omega
  simp only [hst, e3]
  have hl : ((B.drop (u / 8)).take n).length = n := by rw [List.length_take, List.length_drop]; omega
  have hok : OKB ((B.drop (u / 8)).take n) := Byt_take (Byt_drop hB _) _
  refine JO_call Try.call72 rfl rfl fun w hw => (Clone_c _ _ n _ hrs hl hok (by omega) (hrs.nil hw) w hw).mono ?_
  rintro e w' ⟨p, c, rfl, hw'⟩
  refine ⟨_, rfl, _, hw', ?_⟩
  clear hw' hw w w'
  repeat (first | (apply gJO; first | (apply kS; refine aK ?_) | (apply kX; refine JO_box rfl rfl rfl ?_; intro _) | (apply kA; refine JO_alloc (tb := tb) rfl rfl ?_; intro _) | (apply kBs; refine JO_buildSlice (tb := tb) rfl rfl rfl rfl rfl rfl rfl rfl rfl ?_; intro _) | (apply kM; refine JO_make (tb := tb) rfl rfl rfl rfl rfl rfl (by omega) rfl ?_; intro _) | refine aO ?_) | (apply gJR; first | apply JR_un | apply JR_nil | refine JR_yes rfl rfl ?_ | refine JR_no rfl rfl rfl rfl ?_ | refine JR_noU rfl rfl rfl ?_) | (apply gJS; first | apply JS_seq | apply JS_region | apply JS_skip | apply JS_block | apply JS_inBlock | apply JS_label | refine JS_exit rfl ?_ | refine JS_condT rfl ?_ | refine JS_condF rfl ?_ | refine JS_draw [0] (by kernel_rfl) (by kernel_rfl) (by decide +kernel) ?_ | refine JS_draw [] (by kernel_rfl) (by kernel_rfl) (by decide +kernel) ?_ | refine JS_cond_T rfl (by omega) ?_ | refine JS_cond_F rfl (by omega) ?_) | (apply gQR; first | apply QR_un | apply QR_nil | refine QR_yes rfl rfl ?_ | refine QR_no rfl rfl rfl rfl ?_ | refine QR_noU rfl rfl rfl ?_) | (apply gQO; first | refine aQ ?_ | refine aQK rfl ?_))
  refine JS_ret Try.func76 rfl rfl ?_
  intro w hw
  exact .inr ⟨by omega, p, c, rfl, hw⟩
end Go.Proofs.Ytakgoflfcgofdaa

namespace Go.Proofs.Ytakgoflfcgofdaa
open Sx Go
set_option linter.unusedVariables false
set_option linter.unusedSimpArgs false
attribute [local irreducible] syA fc tk cds
/-- what is thrown when a reading is given up -/
def FLT (r : Int) : List PanicEntry := [{ v := .iface 98 (.int .i64 r), recovered := false }]
theorem Give_c {w0 : World} {H : List Asn} (r : Int) (w : World) (hw : St w0 H w) :
    Calls Try.prog 56 #[.int .i64 r] w fun e w' => (r = 0 ∧ e = .returned (.tuple #[]) ∧ St w0 H w') ∨ (r ≠ 0 ∧ e = .panicked (FLT r) ∧ St w0 H w') := by
  refine enter (vs := [.int .i64 r]) Try.func56 rfl rfl rfl hw ?_
  by_cases h : r = 0
  · repeat (first | (apply gJO; first | (apply kS; refine aK ?_) | (apply kX; refine JO_box rfl rfl rfl ?_; intro _) | (apply kA; refine JO_alloc (tb := tb) rfl rfl ?_; intro _) | (apply kBs; refine JO_buildSlice (tb := tb) rfl rfl rfl rfl rfl rfl rfl rfl rfl ?_; intro _) | (apply kM; refine JO_make (tb := tb) rfl rfl rfl rfl rfl rfl (by omega) rfl ?_; intro _) | refine aO ?_) | (apply gJR; first | apply JR_un | apply JR_nil | refine JR_yes rfl rfl ?_ | refine JR_no rfl rfl rfl rfl ?_ | refine JR_noU rfl rfl rfl ?_) | (apply gJS; first | apply JS_seq | apply JS_region | apply JS_skip | apply JS_block | apply JS_inBlock | apply JS_label | refine JS_exit rfl ?_ | refine JS_condT rfl ?_ | refine JS_condF rfl ?_ | refine JS_draw [0] (by kernel_rfl) (by kernel_rfl) (by decide +kernel) ?_ | refine JS_draw [] (by kernel_rfl) (by kernel_rfl) (by decide +kernel) ?_ | refine JS_cond_T rfl (by omega) ?_ | refine JS_cond_F rfl (by omega) ?_) | (apply gQR; first | apply QR_un | apply QR_nil | refine QR_yes rfl rfl ?_ | refine QR_no rfl rfl rfl rfl ?_ | refine QR_noU rfl rfl rfl ?_) | (apply gQO; first | refine aQ ?_ | refine aQK rfl ?_))
    refine JS_fin Try.func56 rfl rfl ?_
    intro w hw
    exact .inl ⟨h, rfl, hw⟩
  · repeat (first | (apply gJO; refine JO_v (V_mkI (tb := tb) rfl rfl (by simp) rfl) ?_) | first | (apply gJO; first | (apply kS; refine aK ?_) | (apply kX; refine JO_box rfl rfl rfl ?_; intro _) | (apply kA; refine JO_alloc (tb := tb) rfl rfl ?_; intro _) | (apply kBs; refine JO_buildSlice (tb := tb) rfl rfl rfl rfl rfl rfl rfl rfl rfl ?_; intro _) | (apply kM; refine JO_make (tb := tb) rfl rfl rfl rfl rfl rfl (by omega) rfl ?_; intro _) | refine aO ?_) | (apply gJR; first | apply JR_un | apply JR_nil | refine JR_yes rfl rfl ?_ | refine JR_no rfl rfl rfl rfl ?_ | refine JR_noU rfl rfl rfl ?_) | (apply gJS; first | apply JS_seq | apply JS_region | apply JS_skip | apply JS_block | apply JS_inBlock | apply JS_label | refine JS_exit rfl ?_ | refine JS_condT rfl ?_ | refine JS_condF rfl ?_ | refine JS_draw [0] (by kernel_rfl) (by kernel_rfl) (by decide +kernel) ?_ | refine JS_draw [] (by kernel_rfl) (by kernel_rfl) (by decide +kernel) ?_ | refine JS_cond_T rfl (by omega) ?_ | refine JS_cond_F rfl (by omega) ?_) | (apply gQR; first | apply QR_un | apply QR_nil | refine QR_yes rfl rfl ?_ | refine QR_no rfl rfl rfl rfl ?_ | refine QR_noU rfl rfl rfl ?_) | (apply gQO; first | refine aQ ?_ | refine aQK rfl ?_))
    refine JO_panic Try.func56 rfl ?_
    intro a w _ hw
    exact .inr ⟨h, rfl, hw⟩
/-- the reading's memory -/
abbrev infL (bf br : Nat) (q : Option Addr) (d m : Nat) (B : List Int) (lim : Int) (a : Nat) (po : Option Addr) (co : Nat) (o : List Int) (H : List Asn) : List Asn :=
  blk br [.slice q m d, .int .i64 a] :: blk bf [.pointer (some ⟨br, 0, none⟩), .slice po o.length co, .int .i64 lim] :: vec 5 1 (.slice po o.length co) o.length (ints .u8 o) :: vec 5 1 (.slice q m d) m (ints .u8 B) :: H
theorem infL_drop {w0 : World} {w : World} {bf br : Nat} {q : Option Addr} {d m : Nat} {B : List Int} {lim : Int} {a : Nat} {po : Option Addr} {co : Nat} {o : List Int} {H : List Asn} (h : St w0 (infL bf br q d m B lim a po co o H) w) : St w0 H w := h.drop.drop.drop.drop
theorem infL_in {w0 : World} {w : World} {bf br : Nat} {q : Option Addr} {d m : Nat} {B : List Int} {lim : Int} {a : Nat} {po : Option Addr} {co : Nat} {o : List Int} {H : List Asn} {x : Asn} (h : St w0 (x :: infL bf br q d m B lim a po co o H) w) : St w0 (infL bf br q d m B lim a po co o (x :: H)) w :=
  h.perm (List.Perm.trans (List.Perm.swap _ _ _) (List.Perm.cons _ (List.Perm.trans (List.Perm.swap _ _ _) (List.Perm.cons _ (List.Perm.trans (List.Perm.swap _ _ _) (List.Perm.cons _ (List.Perm.swap _ _ _)))))))
theorem infL_out {w0 : World} {w : World} {bf br : Nat} {q : Option Addr} {d m : Nat} {B : List Int} {lim : Int} {a : Nat} {po : Option Addr} {co : Nat} {o : List Int} {H : List Asn} {x : Asn} (h : St w0 (infL bf br q d m B lim a po co o (x :: H)) w) : St w0 (infL bf br q d m B lim a po co o H) w := St.sub (by repeat (first | exact List.Sublist.refl _ | apply List.Sublist.cons_cons | apply List.Sublist.cons)) h
/-- what stays the same all along -/
structure InfK (m : Nat) (B : List Int) (lim : Nat) : Prop where
  hm : B.length = m
  hB : OKB B
  hm1 : m ≤ 140737488355328
  hl : lim ≤ 1048576
theorem pw16 (i : Nat) (h : i ≤ 16) : (1 : Int) ≤ 2 ^ i ∧ (2 : Int) ^ i ≤ 65536 := by
  have : ∀ k : Fin 17, (1 : Int) ≤ 2 ^ k.val ∧ (2 : Int) ^ k.val ≤ 65536 := by decide
  exact this ⟨i, by omega⟩
section
variable {w0 : World} {H : List Asn} {bf br : Nat} {q : Option Addr} {d m : Nat} {B : List Int} {lim : Nat} {po : Option Addr} {co : Nat} {o : List Int}
theorem Grp_c (hK : InfK m B lim) (a c : Nat) (hc : c ≤ 16) (ha : a ≤ 8 * m) (w : World) (hw : St w0 (infL bf br q d m B lim a po co o H) w) :
    Calls Try.prog 55 #[.pointer (some ⟨bf, 0, none⟩), .int .i64 c] w fun e w' => (8 * m < a + c ∧ e = .panicked (FLT 20) ∧ St w0 H w') ∨
      (a + c ≤ 8 * m ∧ e = .returned (.int .i64 (nbt (bitB B 0) a c)) ∧ St w0 (infL bf br q d m B lim (a + c) po co o H) w') := by
  obtain ⟨hn0, hn1⟩ := nbt_bd (bitB B 0) (bitB_01 B 0) a c
  have hp := (pw16 c hc).2
  refine enter (vs := [.pointer (some ⟨bf, 0, none⟩), .int .i64 c]) Try.func55 rfl rfl rfl hw ?_
  repeat (first | (apply gJO; first | (apply kS; refine aK ?_) | (apply kX; refine JO_box rfl rfl rfl ?_; intro _) | (apply kA; refine JO_alloc (tb := tb) rfl rfl ?_; intro _) | (apply kBs; refine JO_buildSlice (tb := tb) rfl rfl rfl rfl rfl rfl rfl rfl rfl ?_; intro _) | (apply kM; refine JO_make (tb := tb) rfl rfl rfl rfl rfl rfl (by omega) rfl ?_; intro _) | refine aO ?_) | (apply gJR; first | apply JR_un | apply JR_nil | refine JR_yes rfl rfl ?_ | refine JR_no rfl rfl rfl rfl ?_ | refine JR_noU rfl rfl rfl ?_) | (apply gJS; first | apply JS_seq | apply JS_region | apply JS_skip | apply JS_block | apply JS_inBlock | apply JS_label | refine JS_exit rfl ?_ | refine JS_condT rfl ?_ | refine JS_condF rfl ?_ | refine JS_draw [0] (by kernel_rfl) (by kernel_rfl) (by decide +kernel) ?_ | refine JS_draw [] (by kernel_rfl) (by kernel_rfl) (by decide +kernel) ?_ | refine JS_cond_T rfl (by omega) ?_ | refine JS_cond_F rfl (by omega) ?_) | (apply gQR; first | apply QR_un | apply QR_nil | refine QR_yes rfl rfl ?_ | refine QR_no rfl rfl rfl rfl ?_ | refine QR_noU rfl rfl rfl ?_) | (apply gQO; first | refine aQ ?_ | refine aQK rfl ?_))
  refine JO_call Try.call82 rfl rfl fun w hw => (RGrp_c br q d m B (vec_rd (by repeat (first | apply List.Mem.head | apply List.Mem.tail))) hK.hm hK.hB hK.hm1 a c (by omega) ha w hw).mono ?_
  rintro e w' (⟨h, rfl, hw'⟩ | ⟨h, rfl, hw'⟩)
  · refine ⟨_, rfl, _, hw', ?_⟩
    clear hw' hw w w'
    repeat (first | (apply gJO; first | (apply kS; refine aK ?_) | (apply kX; refine JO_box rfl rfl rfl ?_; intro _) | (apply kA; refine JO_alloc (tb := tb) rfl rfl ?_; intro _) | (apply kBs; refine JO_buildSlice (tb := tb) rfl rfl rfl rfl rfl rfl rfl rfl rfl ?_; intro _) | (apply kM; refine JO_make (tb := tb) rfl rfl rfl rfl rfl rfl (by omega) rfl ?_; intro _) | refine aO ?_) | (apply gJR; first | apply JR_un | apply JR_nil | refine JR_yes rfl rfl ?_ | refine JR_no rfl rfl rfl rfl ?_ | refine JR_noU rfl rfl rfl ?_) | (apply gJS; first | apply JS_seq | apply JS_region | apply JS_skip | apply JS_block | apply JS_inBlock | apply JS_label | refine JS_exit rfl ?_ | refine JS_condT rfl ?_ | refine JS_condF rfl ?_ | refine JS_draw [0] (by kernel_rfl) (by kernel_rfl) (by decide +kernel) ?_ | refine JS_draw [] (by kernel_rfl) (by kernel_rfl) (by decide +kernel) ?_ | refine JS_cond_T rfl (by omega) ?_ | refine JS_cond_F rfl (by omega) ?_) | (apply gQR; first | apply QR_un | apply QR_nil | refine QR_yes rfl rfl ?_ | refine QR_no rfl rfl rfl rfl ?_ | refine QR_noU rfl rfl rfl ?_) | (apply gQO; first | refine aQ ?_ | refine aQK rfl ?_))
    refine JO_callE Try.func55 Try.call56 rfl rfl fun A hA w hw => (Give_c 20 w hw).mono ?_
    rintro e w' (⟨h, rfl, hw'⟩ | ⟨_, rfl, hw'⟩)
    · exact absurd h (by decide)
    · exact .inr ⟨_, rfl, .inl ⟨h, rfl, infL_drop hw'⟩⟩
  · refine ⟨_, rfl, _, hw', ?_⟩
    clear hw' hw w w'
    generalize nbt (bitB B 0) a c = x at *
    repeat (first | (apply gJO; first | (apply kS; refine aK ?_) | (apply kX; refine JO_box rfl rfl rfl ?_; intro _) | (apply kA; refine JO_alloc (tb := tb) rfl rfl ?_; intro _) | (apply kBs; refine JO_buildSlice (tb := tb) rfl rfl rfl rfl rfl rfl rfl rfl rfl ?_; intro _) | (apply kM; refine JO_make (tb := tb) rfl rfl rfl rfl rfl rfl (by omega) rfl ?_; intro _) | refine aO ?_) | (apply gJR; first | apply JR_un | apply JR_nil | refine JR_yes rfl rfl ?_ | refine JR_no rfl rfl rfl rfl ?_ | refine JR_noU rfl rfl rfl ?_) | (apply gJS; first | apply JS_seq | apply JS_region | apply JS_skip | apply JS_block | apply JS_inBlock | apply JS_label | refine JS_exit rfl ?_ | refine JS_condT rfl ?_ | refine JS_condF rfl ?_ | refine JS_draw [0] (by kernel_rfl) (by kernel_rfl) (by decide +kernel) ?_ | refine JS_draw [] (by kernel_rfl) (by kernel_rfl) (by decide +kernel) ?_ | refine JS_cond_T rfl (by omega) ?_ | refine JS_cond_F rfl (by omega) ?_) | (apply gQR; first | apply QR_un | apply QR_nil | refine QR_yes rfl rfl ?_ | refine QR_no rfl rfl rfl rfl ?_ | refine QR_noU rfl rfl rfl ?_) | (apply gQO; first | refine aQ ?_ | refine aQK rfl ?_))
    refine JO_callE Try.func55 Try.call56 rfl rfl fun A hA w hw => (Give_c 0 w hw).mono ?_
    rintro e w' (⟨_, rfl, hw'⟩ | ⟨h, rfl, hw'⟩)
    · refine .inl ⟨_, rfl, _, hw', ?_⟩
      clear hw' hw w w'
      repeat (first | (apply gJO; first | (apply kS; refine aK ?_) | (apply kX; refine JO_box rfl rfl rfl ?_; intro _) | (apply kA; refine JO_alloc (tb := tb) rfl rfl ?_; intro _) | (apply kBs; refine JO_buildSlice (tb := tb) rfl rfl rfl rfl rfl rfl rfl rfl rfl ?_; intro _) | (apply kM; refine JO_make (tb := tb) rfl rfl rfl rfl rfl rfl (by omega) rfl ?_; intro _) | refine aO ?_) | (apply gJR; first | apply JR_un | apply JR_nil | refine JR_yes rfl rfl ?_ | refine JR_no rfl rfl rfl rfl ?_ | refine JR_noU rfl rfl rfl ?_) | (apply gJS; first | apply JS_seq | apply JS_region | apply JS_skip | apply JS_block | apply JS_inBlock | apply JS_label | refine JS_exit rfl ?_ | refine JS_condT rfl ?_ | refine JS_condF rfl ?_ | refine JS_draw [0] (by kernel_rfl) (by kernel_rfl) (by decide +kernel) ?_ | refine JS_draw [] (by kernel_rfl) (by kernel_rfl) (by decide +kernel) ?_ | refine JS_cond_T rfl (by omega) ?_ | refine JS_cond_F rfl (by omega) ?_) | (apply gQR; first | apply QR_un | apply QR_nil | refine QR_yes rfl rfl ?_ | refine QR_no rfl rfl rfl rfl ?_ | refine QR_noU rfl rfl rfl ?_) | (apply gQO; first | refine aQ ?_ | refine aQK rfl ?_))
      refine JS_ret Try.func55 rfl rfl ?_
      intro w hw
      exact .inr ⟨h, rfl, hw⟩
    · exact absurd rfl h
/-- what a symbol's reading does -/
def symP (bt : Nat → Int) (m : Nat) (L : List Int) (a : Nat) (E : Int → Prop) (K : Int → Nat → Prop) : Prop :=
  match symS bt (8 * m) L a with
  | .err r => E r
  | .ok i a1 => 0 ≤ i ∧ i < L.length ∧ a < a1 ∧ a1 ≤ 8 * m ∧ K i a1
theorem Sym_c (hK : InfK m B lim) (a : Nat) (ha : a ≤ 8 * m) (b : Nat) (L : List Int) (hs : IsSet w0 H b L) (w : World) (hw : St w0 (infL bf br q d m B lim a po co o H) w) :
    Calls Try.prog 95 #[.pointer (some ⟨bf, 0, none⟩), .pointer (some ⟨b, 0, none⟩)] w fun e w' =>
      symP (bitB B 0) m L a (fun r => e = .panicked (FLT r) ∧ St w0 H w') (fun i a1 => e = .returned (.int .i64 i) ∧ St w0 (infL bf br q d m B lim a1 po co o H) w') := by
  refine enter (vs := [.pointer (some ⟨bf, 0, none⟩), .pointer (some ⟨b, 0, none⟩)]) Try.func95 rfl rfl rfl hw ?_
  repeat (first | (apply gJO; first | (apply kS; refine aK ?_) | (apply kX; refine JO_box rfl rfl rfl ?_; intro _) | (apply kA; refine JO_alloc (tb := tb) rfl rfl ?_; intro _) | (apply kBs; refine JO_buildSlice (tb := tb) rfl rfl rfl rfl rfl rfl rfl rfl rfl ?_; intro _) | (apply kM; refine JO_make (tb := tb) rfl rfl rfl rfl rfl rfl (by omega) rfl ?_; intro _) | refine aO ?_) | (apply gJR; first | apply JR_un | apply JR_nil | refine JR_yes rfl rfl ?_ | refine JR_no rfl rfl rfl rfl ?_ | refine JR_noU rfl rfl rfl ?_) | (apply gJS; first | apply JS_seq | apply JS_region | apply JS_skip | apply JS_block | apply JS_inBlock | apply JS_label | refine JS_exit rfl ?_ | refine JS_condT rfl ?_ | refine JS_condF rfl ?_ | refine JS_draw [0] (by kernel_rfl) (by kernel_rfl) (by decide +kernel) ?_ | refine JS_draw [] (by kernel_rfl) (by kernel_rfl) (by decide +kernel) ?_ | refine JS_cond_T rfl (by omega) ?_ | refine JS_cond_F rfl (by omega) ?_) | (apply gQR; first | apply QR_un | apply QR_nil | refine QR_yes rfl rfl ?_ | refine QR_no rfl rfl rfl rfl ?_ | refine QR_noU rfl rfl rfl ?_) | (apply gQO; first | refine aQ ?_ | refine aQK rfl ?_))
  refine JO_call Try.call102 rfl rfl fun w hw => (Read2_c b br L B (hs.sub (by repeat (first | exact List.Sublist.refl _ | apply List.Sublist.cons))) q d m (vec_rd (by repeat (first | apply List.Mem.head | apply List.Mem.tail))) hK.hm hK.hB hK.hm1 a ha w hw).mono ?_
  rintro e w' ⟨i, u, r, rfl, hw', hu, hrd⟩
  refine ⟨_, rfl, _, hw', ?_⟩
  clear hw' hw w w'
  rw [← bitB_fun] at hrd
  have hsy := symS_of hs.hB hs.hl (bitB_01 B 0) hrd
  by_cases hr : r = 0
  · subst hr
    rw [if_pos rfl] at hsy
    have hi : 0 ≤ i ∧ i < L.length ∧ 0 < u := by
      rcases hrd with ⟨j, rfl, _, ⟨n, hj, h0, hn, _⟩, hu⟩ | ⟨_, _, h | h | ⟨_, _, h | h⟩⟩
      · rw [hu] at hn; omega
      · omega
      · omega
      · omega
      · omega
    repeat (first | (apply gJO; first | (apply kS; refine aK ?_) | (apply kX; refine JO_box rfl rfl rfl ?_; intro _) | (apply kA; refine JO_alloc (tb := tb) rfl rfl ?_; intro _) | (apply kBs; refine JO_buildSlice (tb := tb) rfl rfl rfl rfl rfl rfl rfl rfl rfl ?_; intro _) | (apply kM; refine JO_make (tb := tb) rfl rfl rfl rfl rfl rfl (by omega) rfl ?_; intro _) | refine aO ?_) | (apply gJR; first | apply JR_un | apply JR_nil | refine JR_yes rfl rfl ?_ | refine JR_no rfl rfl rfl rfl ?_ | refine JR_noU rfl rfl rfl ?_) | (apply gJS; first | apply JS_seq | apply JS_region | apply JS_skip | apply JS_block | apply JS_inBlock | apply JS_label | refine JS_exit rfl ?_ | refine JS_condT rfl ?_ | refine JS_condF rfl ?_ | refine JS_draw [0] (by kernel_rfl) (by kernel_rfl) (by decide +kernel) ?_ | refine JS_draw [] (by kernel_rfl) (by kernel_rfl) (by decide +kernel) ?_ | refine JS_cond_T rfl (by omega) ?_ | refine JS_cond_F rfl (by omega) ?_) | (apply gQR; first | apply QR_un | apply QR_nil | refine QR_yes rfl rfl ?_ | refine QR_no rfl rfl rfl rfl ?_ | refine QR_noU rfl rfl rfl ?_) | (apply gQO; first | refine aQ ?_ | refine aQK rfl ?_))
    refine JO_callE Try.func95 Try.call56 rfl rfl fun A hA w hw => (Give_c 0 w hw).mono ?_
    rintro e w' (⟨_, rfl, hw'⟩ | ⟨h, rfl, hw'⟩)
    · refine .inl ⟨_, rfl, _, hw', ?_⟩
      clear hw' hw w w'
      repeat (first | (apply gJO; first | (apply kS; refine aK ?_) | (apply kX; refine JO_box rfl rfl rfl ?_; intro _) | (apply kA; refine JO_alloc (tb := tb) rfl rfl ?_; intro _) | (apply kBs; refine JO_buildSlice (tb := tb) rfl rfl rfl rfl rfl rfl rfl rfl rfl ?_; intro _) | (apply kM; refine JO_make (tb := tb) rfl rfl rfl rfl rfl rfl (by omega) rfl ?_; intro _) | refine aO ?_) | (apply gJR; first | apply JR_un | apply JR_nil | refine JR_yes rfl rfl ?_ | refine JR_no rfl rfl rfl rfl ?_ | refine JR_noU rfl rfl rfl ?_) | (apply gJS; first | apply JS_seq | apply JS_region | apply JS_skip | apply JS_block | apply JS_inBlock | apply JS_label | refine JS_exit rfl ?_ | refine JS_condT rfl ?_ | refine JS_condF rfl ?_ | refine JS_draw [0] (by kernel_rfl) (by kernel_rfl) (by decide +kernel) ?_ | refine JS_draw [] (by kernel_rfl) (by kernel_rfl) (by decide +kernel) ?_ | refine JS_cond_T rfl (by omega) ?_ | refine JS_cond_F rfl (by omega) ?_) | (apply gQR; first | apply QR_un | apply QR_nil | refine QR_yes rfl rfl ?_ | refine QR_no rfl rfl rfl rfl ?_ | refine QR_noU rfl rfl rfl ?_) | (apply gQO; first | refine aQ ?_ | refine aQK rfl ?_))
      refine JS_ret Try.func95 rfl rfl ?_
      intro w hw
      unfold symP
      rw [hsy]
      exact ⟨hi.1, hi.2.1, by omega, hu, rfl, hw⟩
    · exact absurd rfl h
  · rw [if_neg hr] at hsy
    repeat (first | (apply gJO; first | (apply kS; refine aK ?_) | (apply kX; refine JO_box rfl rfl rfl ?_; intro _) | (apply kA; refine JO_alloc (tb := tb) rfl rfl ?_; intro _) | (apply kBs; refine JO_buildSlice (tb := tb) rfl rfl rfl rfl rfl rfl rfl rfl rfl ?_; intro _) | (apply kM; refine JO_make (tb := tb) rfl rfl rfl rfl rfl rfl (by omega) rfl ?_; intro _) | refine aO ?_) | (apply gJR; first | apply JR_un | apply JR_nil | refine JR_yes rfl rfl ?_ | refine JR_no rfl rfl rfl rfl ?_ | refine JR_noU rfl rfl rfl ?_) | (apply gJS; first | apply JS_seq | apply JS_region | apply JS_skip | apply JS_block | apply JS_inBlock | apply JS_label | refine JS_exit rfl ?_ | refine JS_condT rfl ?_ | refine JS_condF rfl ?_ | refine JS_draw [0] (by kernel_rfl) (by kernel_rfl) (by decide +kernel) ?_ | refine JS_draw [] (by kernel_rfl) (by kernel_rfl) (by decide +kernel) ?_ | refine JS_cond_T rfl (by omega) ?_ | refine JS_cond_F rfl (by omega) ?_) | (apply gQR; first | apply QR_un | apply QR_nil | refine QR_yes rfl rfl ?_ | refine QR_no rfl rfl rfl rfl ?_ | refine QR_noU rfl rfl rfl ?_) | (apply gQO; first | refine aQ ?_ | refine aQK rfl ?_))
    refine JO_callE Try.func95 Try.call56 rfl rfl fun A hA w hw => (Give_c r w hw).mono ?_
    rintro e w' (⟨h, rfl, hw'⟩ | ⟨_, rfl, hw'⟩)
    · exact absurd h hr
    · refine .inr ⟨_, rfl, ?_⟩
      show symP _ _ _ _ _ _
      unfold symP
      rw [hsy]
      exact ⟨rfl, infL_drop hw'⟩
/-- bytes are told -/
theorem Tell_c (hK : InfK m B lim) (a : Nat) (u : Option Addr) (cu n : Nat) (X : List Int) (hr : Rd w0 H (.slice u n cu) n (ints .u8 X)) (hX : X.length = n) (ho : o.length ≤ lim) (hn : n ≤ 140737488355328) (w : World) (hw : St w0 (infL bf br q d m B lim a po co o H) w) :
    Calls Try.prog 77 #[.pointer (some ⟨bf, 0, none⟩), .slice u n cu] w fun e w' => ((lim : Int) - o.length < n ∧ e = .panicked (FLT 64) ∧ St w0 H w') ∨
      (¬ (lim : Int) - o.length < n ∧ e = .returned (.tuple #[]) ∧ ∃ po co, St w0 (infL bf br q d m B lim a po co (o ++ X) H) w') := by
  have hl := hK.hl
  refine enter (vs := [.pointer (some ⟨bf, 0, none⟩), .slice u n cu]) Try.func77 rfl rfl rfl hw ?_
  by_cases h : (lim : Int) - o.length < n
  · repeat (first | (apply gJO; first | (apply kS; refine aK ?_) | (apply kX; refine JO_box rfl rfl rfl ?_; intro _) | (apply kA; refine JO_alloc (tb := tb) rfl rfl ?_; intro _) | (apply kBs; refine JO_buildSlice (tb := tb) rfl rfl rfl rfl rfl rfl rfl rfl rfl ?_; intro _) | (apply kM; refine JO_make (tb := tb) rfl rfl rfl rfl rfl rfl (by omega) rfl ?_; intro _) | refine aO ?_) | (apply gJR; first | apply JR_un | apply JR_nil | refine JR_yes rfl rfl ?_ | refine JR_no rfl rfl rfl rfl ?_ | refine JR_noU rfl rfl rfl ?_) | (apply gJS; first | apply JS_seq | apply JS_region | apply JS_skip | apply JS_block | apply JS_inBlock | apply JS_label | refine JS_exit rfl ?_ | refine JS_condT rfl ?_ | refine JS_condF rfl ?_ | refine JS_draw [0] (by kernel_rfl) (by kernel_rfl) (by decide +kernel) ?_ | refine JS_draw [] (by kernel_rfl) (by kernel_rfl) (by decide +kernel) ?_ | refine JS_cond_T rfl (by omega) ?_ | refine JS_cond_F rfl (by omega) ?_) | (apply gQR; first | apply QR_un | apply QR_nil | refine QR_yes rfl rfl ?_ | refine QR_no rfl rfl rfl rfl ?_ | refine QR_noU rfl rfl rfl ?_) | (apply gQO; first | refine aQ ?_ | refine aQK rfl ?_))
    refine JO_callE Try.func77 Try.call56 rfl rfl fun A hA w hw => (Give_c 64 w hw).mono ?_
    rintro e w' (⟨h, rfl, hw'⟩ | ⟨_, rfl, hw'⟩)
    · exact absurd h (by decide)
    · exact .inr ⟨_, rfl, .inl ⟨h, rfl, infL_drop hw'⟩⟩
  · repeat (first | (apply gJO; first | (apply kS; refine aK ?_) | (apply kX; refine JO_box rfl rfl rfl ?_; intro _) | (apply kA; refine JO_alloc (tb := tb) rfl rfl ?_; intro _) | (apply kBs; refine JO_buildSlice (tb := tb) rfl rfl rfl rfl rfl rfl rfl rfl rfl ?_; intro _) | (apply kM; refine JO_make (tb := tb) rfl rfl rfl rfl rfl rfl (by omega) rfl ?_; intro _) | refine aO ?_) | (apply gJR; first | apply JR_un | apply JR_nil | refine JR_yes rfl rfl ?_ | refine JR_no rfl rfl rfl rfl ?_ | refine JR_noU rfl rfl rfl ?_) | (apply gJS; first | apply JS_seq | apply JS_region | apply JS_skip | apply JS_block | apply JS_inBlock | apply JS_label | refine JS_exit rfl ?_ | refine JS_condT rfl ?_ | refine JS_condF rfl ?_ | refine JS_draw [0] (by kernel_rfl) (by kernel_rfl) (by decide +kernel) ?_ | refine JS_draw [] (by kernel_rfl) (by kernel_rfl) (by decide +kernel) ?_ | refine JS_cond_T rfl (by omega) ?_ | refine JS_cond_F rfl (by omega) ?_) | (apply gQR; first | apply QR_un | apply QR_nil | refine QR_yes rfl rfl ?_ | refine QR_no rfl rfl rfl rfl ?_ | refine QR_noU rfl rfl rfl ?_) | (apply gQO; first | refine aQ ?_ | refine aQK rfl ?_))
    have hr' : Rd w0 (infL bf br q d m B lim a po co o H) (.slice u n cu) n (ints .u8 X) := Rd_weak hr fun w hw => infL_drop hw
    refine JO_app (tb := tb) rfl rfl rfl rfl rfl rfl (by repeat (first | exact Sel.here _ _ | apply Sel.there)) hr' (by rw [ints_len]; omega) (by first | exact ints_one | (repeat (first | exact trivial | refine ⟨rfl, ?_⟩))) (by omega) rfl ?_
    intro p c
    repeat (first | (apply gJO; first | (apply kS; refine aK ?_) | (apply kX; refine JO_box rfl rfl rfl ?_; intro _) | (apply kA; refine JO_alloc (tb := tb) rfl rfl ?_; intro _) | (apply kBs; refine JO_buildSlice (tb := tb) rfl rfl rfl rfl rfl rfl rfl rfl rfl ?_; intro _) | (apply kM; refine JO_make (tb := tb) rfl rfl rfl rfl rfl rfl (by omega) rfl ?_; intro _) | refine aO ?_) | (apply gJR; first | apply JR_un | apply JR_nil | refine JR_yes rfl rfl ?_ | refine JR_no rfl rfl rfl rfl ?_ | refine JR_noU rfl rfl rfl ?_) | (apply gJS; first | apply JS_seq | apply JS_region | apply JS_skip | apply JS_block | apply JS_inBlock | apply JS_label | refine JS_exit rfl ?_ | refine JS_condT rfl ?_ | refine JS_condF rfl ?_ | refine JS_draw [0] (by kernel_rfl) (by kernel_rfl) (by decide +kernel) ?_ | refine JS_draw [] (by kernel_rfl) (by kernel_rfl) (by decide +kernel) ?_ | refine JS_cond_T rfl (by omega) ?_ | refine JS_cond_F rfl (by omega) ?_) | (apply gQR; first | apply QR_un | apply QR_nil | refine QR_yes rfl rfl ?_ | refine QR_no rfl rfl rfl rfl ?_ | refine QR_noU rfl rfl rfl ?_) | (apply gQO; first | refine aQ ?_ | refine aQK rfl ?_))
    refine JS_fin Try.func77 rfl rfl ?_
    intro w hw
    refine .inr ⟨h, rfl, p, c, ?_⟩
    unfold infL
    rw [List.length_append, hX, ← ints_app]
    exact hw
end
end Go.Proofs.Ytakgoflfcgofdaa

namespace Go.Proofs.Ytakgoflfcgofdaa
open Sx Go
set_option linter.unusedVariables false
set_option linter.unusedSimpArgs false
attribute [local irreducible] syA fc tk cds
def resP (r : Res) (E : Int → Prop) (K : Nat → List Int → Prop) : Prop :=
  match r with
  | .err e => E e
  | .ok a o => K a o
theorem xor16 {n : Nat} (h : n < 65536) : n ^^^ 65535 = 65535 - n := by
  have h1 : (BitVec.ofNat 16 n ^^^ BitVec.allOnes 16).toNat = n ^^^ 65535 := by
    rw [BitVec.toNat_xor, BitVec.toNat_ofNat, Nat.mod_eq_of_lt (by omega)]; rfl
  rw [← h1, BitVec.xor_allOnes, BitVec.toNat_not, BitVec.toNat_ofNat, Nat.mod_eq_of_lt (by omega)]
theorem xor16_i64 {a : Int} (h : 0 ≤ a ∧ a < 65536) : IntKind.i64.wrap ((BitVec.ofInt IntKind.i64.bits a ^^^ BitVec.ofInt IntKind.i64.bits 65535).toNat) = 65535 - a := by
  rw [xor_nat .i64 ⟨h.1, Int.lt_trans h.2 (by decide)⟩ ⟨by omega, by decide⟩, show (65535 : Int).toNat = 65535 from rfl, xor16 (by omega)]
  exact (wi64 (by omega)).trans (by omega)
theorem nbt_byte (B : List Int) (hB : OKB B) (j : Nat) : nbt (bitB B 0) (8 * j) 8 = B.getD j 0 := by
  have h := hB j
  simp only [nbt, bitB, Nat.zero_add]
  have e : ∀ t, t < 8 → (8 * j + t) / 8 = j ∧ (8 * j + t) % 8 = t := fun t ht => by omega
  rw [(e 0 (by omega)).1, (e 0 (by omega)).2, (e 1 (by omega)).1, (e 1 (by omega)).2, (e 2 (by omega)).1, (e 2 (by omega)).2, (e 3 (by omega)).1, (e 3 (by omega)).2, (e 4 (by omega)).1, (e 4 (by omega)).2, (e 5 (by omega)).1, (e 5 (by omega)).2, (e 6 (by omega)).1, (e 6 (by omega)).2, (e 7 (by omega)).1, (e 7 (by omega)).2]
  simp only [Int.reducePow]
  omega
theorem byts_eq (B : List Int) (hB : OKB B) (j n : Nat) (h : j + n ≤ B.length) : byts (bitB B 0) (8 * j) n = (B.drop j).take n := by
  apply List.ext_getElem?
  intro k
  simp only [byts, List.getElem?_map, List.getElem?_take, List.getElem?_drop]
  by_cases hk : k < n
  · rw [List.getElem?_range hk, if_pos hk, Option.map_some, show 8 * j + 8 * k = 8 * (j + k) by omega, nbt_byte B hB]
    rw [List.getD_eq_getElem?_getD, List.getElem?_eq_getElem (by omega)]; rfl
  · rw [if_neg hk, List.getElem?_eq_none (by simp; omega)]; rfl
section
variable {w0 : World} {H : List Asn} {bf br : Nat} {q : Option Addr} {d m : Nat} {B : List Int} {lim : Nat} {po : Option Addr} {co : Nat} {o : List Int}
set_option maxHeartbeats 2000000 in
theorem Sto_c (hK : InfK m B lim) (a : Nat) (ha : a ≤ 8 * m) (ho : o.length ≤ lim) (w : World) (hw : St w0 (infL bf br q d m B lim a po co o H) w) :
    Calls Try.prog 52 #[.pointer (some ⟨bf, 0, none⟩)] w fun e w' => resP (stoF (bitB B 0) (8 * m) lim a o) (fun r => e = .panicked (FLT r) ∧ St w0 H w')
      (fun a' o' => a' ≤ 8 * m ∧ o'.length ≤ lim ∧ e = .returned (.tuple #[]) ∧ ∃ po co, St w0 (infL bf br q d m B lim a' po co o' H) w') := by
  have hl := hK.hl
  have hm1 := hK.hm1
  have hu := upto8_le ha
  have hu8 := upto8_8 a
  refine enter (vs := [.pointer (some ⟨bf, 0, none⟩)]) Try.func52 rfl rfl rfl hw ?_
  repeat (first | (apply gJO; first | (apply kS; refine aK ?_) | (apply kX; refine JO_box rfl rfl rfl ?_; intro _) | (apply kA; refine JO_alloc (tb := tb) rfl rfl ?_; intro _) | (apply kBs; refine JO_buildSlice (tb := tb) rfl rfl rfl rfl rfl rfl rfl rfl rfl ?_; intro _) | (apply kM; refine JO_make (tb := tb) rfl rfl rfl rfl rfl rfl (by omega) rfl ?_; intro _) | refine aO ?_) | (apply gJR; first | apply JR_un | apply JR_nil | refine JR_yes rfl rfl ?_ | refine JR_no rfl rfl rfl rfl ?_ | refine JR_noU rfl rfl rfl ?_) | (apply gJS; first | apply JS_seq | apply JS_region | apply JS_skip | apply JS_block | apply JS_inBlock | apply JS_label | refine JS_exit rfl ?_ | refine JS_condT rfl ?_ | refine JS_condF rfl ?_ | refine JS_draw [0] (by kernel_rfl) (by kernel_rfl) (by decide +kernel) ?_ | refine JS_draw [] (by kernel_rfl) (by kernel_rfl) (by decide +kernel) ?_ | refine JS_cond_T rfl (by omega) ?_ | refine JS_cond_F rfl (by omega) ?_) | (apply gQR; first | apply QR_un | apply QR_nil | refine QR_yes rfl rfl ?_ | refine QR_no rfl rfl rfl rfl ?_ | refine QR_noU rfl rfl rfl ?_) | (apply gQO; first | refine aQ ?_ | refine aQK rfl ?_))
  refine JO_call Try.call75 rfl rfl fun w hw => (Align_c br _ a (by omega) w hw).mono ?_
  rintro e w' ⟨rfl, hw'⟩
  refine ⟨_, rfl, _, hw', ?_⟩
  clear hw' hw w w'
  have hS : ∀ r, stoF (bitB B 0) (8 * m) lim a o = r → stoF (bitB B 0) (8 * m) lim a o = r := fun _ h => h
  unfold stoF at hS ⊢
  generalize upto8 a = u at *
  have huu : upto8 (u + 32) = u + 32 := by unfold upto8; omega
  obtain ⟨n, hn⟩ := Int.eq_ofNat_of_zero_le (nbt_bd (bitB B 0) (bitB_01 B 0) u 16).1
  have hn1 := (nbt_bd (bitB B 0) (bitB_01 B 0) u 16).2
  obtain ⟨x, hx⟩ := Int.eq_ofNat_of_zero_le (nbt_bd (bitB B 0) (bitB_01 B 0) (u + 16) 16).1
  have hx1 := (nbt_bd (bitB B 0) (bitB_01 B 0) (u + 16) 16).2
  have hp16 : (2 : Int) ^ 16 = 65536 := by decide
  rw [hn, hp16] at hn1
  rw [hx, hp16] at hx1
  rw [hn, hx]
  repeat (first | (apply gJO; first | (apply kS; refine aK ?_) | (apply kX; refine JO_box rfl rfl rfl ?_; intro _) | (apply kA; refine JO_alloc (tb := tb) rfl rfl ?_; intro _) | (apply kBs; refine JO_buildSlice (tb := tb) rfl rfl rfl rfl rfl rfl rfl rfl rfl ?_; intro _) | (apply kM; refine JO_make (tb := tb) rfl rfl rfl rfl rfl rfl (by omega) rfl ?_; intro _) | refine aO ?_) | (apply gJR; first | apply JR_un | apply JR_nil | refine JR_yes rfl rfl ?_ | refine JR_no rfl rfl rfl rfl ?_ | refine JR_noU rfl rfl rfl ?_) | (apply gJS; first | apply JS_seq | apply JS_region | apply JS_skip | apply JS_block | apply JS_inBlock | apply JS_label | refine JS_exit rfl ?_ | refine JS_condT rfl ?_ | refine JS_condF rfl ?_ | refine JS_draw [0] (by kernel_rfl) (by kernel_rfl) (by decide +kernel) ?_ | refine JS_draw [] (by kernel_rfl) (by kernel_rfl) (by decide +kernel) ?_ | refine JS_cond_T rfl (by omega) ?_ | refine JS_cond_F rfl (by omega) ?_) | (apply gQR; first | apply QR_un | apply QR_nil | refine QR_yes rfl rfl ?_ | refine QR_no rfl rfl rfl rfl ?_ | refine QR_noU rfl rfl rfl ?_) | (apply gQO; first | refine aQ ?_ | refine aQK rfl ?_))
  refine JO_callE Try.func52 Try.call55 rfl rfl fun A hA w hw => (Grp_c hK u 16 (by omega) (by omega) w hw).mono ?_
  rintro e w' (⟨h, rfl, hw'⟩ | ⟨h1, he, hw'⟩)
  · refine .inr ⟨_, rfl, ?_⟩
    show resP _ _ _
    rw [if_pos h]; exact ⟨rfl, hw'⟩
  rw [hn] at he; subst he
  refine .inl ⟨_, rfl, _, hw', ?_⟩
  clear hw' hw w w' hA A
  rw [if_neg (by omega)]
  repeat (first | (apply gJO; first | (apply kS; refine aK ?_) | (apply kX; refine JO_box rfl rfl rfl ?_; intro _) | (apply kA; refine JO_alloc (tb := tb) rfl rfl ?_; intro _) | (apply kBs; refine JO_buildSlice (tb := tb) rfl rfl rfl rfl rfl rfl rfl rfl rfl ?_; intro _) | (apply kM; refine JO_make (tb := tb) rfl rfl rfl rfl rfl rfl (by omega) rfl ?_; intro _) | refine aO ?_) | (apply gJR; first | apply JR_un | apply JR_nil | refine JR_yes rfl rfl ?_ | refine JR_no rfl rfl rfl rfl ?_ | refine JR_noU rfl rfl rfl ?_) | (apply gJS; first | apply JS_seq | apply JS_region | apply JS_skip | apply JS_block | apply JS_inBlock | apply JS_label | refine JS_exit rfl ?_ | refine JS_condT rfl ?_ | refine JS_condF rfl ?_ | refine JS_draw [0] (by kernel_rfl) (by kernel_rfl) (by decide +kernel) ?_ | refine JS_draw [] (by kernel_rfl) (by kernel_rfl) (by decide +kernel) ?_ | refine JS_cond_T rfl (by omega) ?_ | refine JS_cond_F rfl (by omega) ?_) | (apply gQR; first | apply QR_un | apply QR_nil | refine QR_yes rfl rfl ?_ | refine QR_no rfl rfl rfl rfl ?_ | refine QR_noU rfl rfl rfl ?_) | (apply gQO; first | refine aQ ?_ | refine aQK rfl ?_))
  refine JO_callE Try.func52 Try.call55 rfl rfl fun A hA w hw => (Grp_c hK (u + 16) 16 (by omega) (by omega) w hw).mono ?_
  rintro e w' (⟨h, rfl, hw'⟩ | ⟨h2, he, hw'⟩)
  · refine .inr ⟨_, rfl, ?_⟩
    show resP _ _ _
    rw [if_pos (by omega)]; exact ⟨rfl, hw'⟩
  rw [hx] at he; subst he
  refine .inl ⟨_, rfl, _, hw', ?_⟩
  clear hw' hw w w' hA A
  rw [if_neg (by omega)]
  have hxor := xor16_i64 (a := (n : Int)) ⟨by omega, hn1⟩
  by_cases h3 : (n : Int) + x ≠ 65535
  · repeat (first | (apply gJO; refine JO_v (V_xor rfl rfl hxor rfl) ?_) | first | (apply gJO; first | (apply kS; refine aK ?_) | (apply kX; refine JO_box rfl rfl rfl ?_; intro _) | (apply kA; refine JO_alloc (tb := tb) rfl rfl ?_; intro _) | (apply kBs; refine JO_buildSlice (tb := tb) rfl rfl rfl rfl rfl rfl rfl rfl rfl ?_; intro _) | (apply kM; refine JO_make (tb := tb) rfl rfl rfl rfl rfl rfl (by omega) rfl ?_; intro _) | refine aO ?_) | (apply gJR; first | apply JR_un | apply JR_nil | refine JR_yes rfl rfl ?_ | refine JR_no rfl rfl rfl rfl ?_ | refine JR_noU rfl rfl rfl ?_) | (apply gJS; first | apply JS_seq | apply JS_region | apply JS_skip | apply JS_block | apply JS_inBlock | apply JS_label | refine JS_exit rfl ?_ | refine JS_condT rfl ?_ | refine JS_condF rfl ?_ | refine JS_draw [0] (by kernel_rfl) (by kernel_rfl) (by decide +kernel) ?_ | refine JS_draw [] (by kernel_rfl) (by kernel_rfl) (by decide +kernel) ?_ | refine JS_cond_T rfl (by omega) ?_ | refine JS_cond_F rfl (by omega) ?_) | (apply gQR; first | apply QR_un | apply QR_nil | refine QR_yes rfl rfl ?_ | refine QR_no rfl rfl rfl rfl ?_ | refine QR_noU rfl rfl rfl ?_) | (apply gQO; first | refine aQ ?_ | refine aQK rfl ?_))
    refine JO_callE Try.func52 Try.call56 rfl rfl fun A hA w hw => (Give_c 61 w hw).mono ?_
    rintro e w' (⟨h, rfl, hw'⟩ | ⟨_, rfl, hw'⟩)
    · exact absurd h (by decide)
    · refine .inr ⟨_, rfl, ?_⟩
      show resP _ _ _
      rw [if_pos h3]; exact ⟨rfl, infL_drop hw'⟩
  rw [if_neg h3]
  have h3' : (n : Int) + x = 65535 := by omega
  by_cases h4 : (lim : Int) - o.length < n
  · repeat (first | (apply gJO; refine JO_v (V_xor rfl rfl hxor rfl) ?_) | first | (apply gJO; first | (apply kS; refine aK ?_) | (apply kX; refine JO_box rfl rfl rfl ?_; intro _) | (apply kA; refine JO_alloc (tb := tb) rfl rfl ?_; intro _) | (apply kBs; refine JO_buildSlice (tb := tb) rfl rfl rfl rfl rfl rfl rfl rfl rfl ?_; intro _) | (apply kM; refine JO_make (tb := tb) rfl rfl rfl rfl rfl rfl (by omega) rfl ?_; intro _) | refine aO ?_) | (apply gJR; first | apply JR_un | apply JR_nil | refine JR_yes rfl rfl ?_ | refine JR_no rfl rfl rfl rfl ?_ | refine JR_noU rfl rfl rfl ?_) | (apply gJS; first | apply JS_seq | apply JS_region | apply JS_skip | apply JS_block | apply JS_inBlock | apply JS_label | refine JS_exit rfl ?_ | refine JS_condT rfl ?_ | refine JS_condF rfl ?_ | refine JS_draw [0] (by kernel_rfl) (by kernel_rfl) (by decide +kernel) ?_ | refine JS_draw [] (by kernel_rfl) (by kernel_rfl) (by decide +kernel) ?_ | refine JS_cond_T rfl (by omega) ?_ | refine JS_cond_F rfl (by omega) ?_) | (apply gQR; first | apply QR_un | apply QR_nil | refine QR_yes rfl rfl ?_ | refine QR_no rfl rfl rfl rfl ?_ | refine QR_noU rfl rfl rfl ?_) | (apply gQO; first | refine aQ ?_ | refine aQK rfl ?_))
    refine JO_callE Try.func52 Try.call56 rfl rfl fun A hA w hw => (Give_c 64 w hw).mono ?_
    rintro e w' (⟨h, rfl, hw'⟩ | ⟨_, rfl, hw'⟩)
    · exact absurd h (by decide)
    · refine .inr ⟨_, rfl, ?_⟩
      show resP _ _ _
      rw [if_pos h4]; exact ⟨rfl, infL_drop hw'⟩
  rw [if_neg h4]
  repeat (first | (apply gJO; refine JO_v (V_xor rfl rfl hxor rfl) ?_) | first | (apply gJO; first | (apply kS; refine aK ?_) | (apply kX; refine JO_box rfl rfl rfl ?_; intro _) | (apply kA; refine JO_alloc (tb := tb) rfl rfl ?_; intro _) | (apply kBs; refine JO_buildSlice (tb := tb) rfl rfl rfl rfl rfl rfl rfl rfl rfl ?_; intro _) | (apply kM; refine JO_make (tb := tb) rfl rfl rfl rfl rfl rfl (by omega) rfl ?_; intro _) | refine aO ?_) | (apply gJR; first | apply JR_un | apply JR_nil | refine JR_yes rfl rfl ?_ | refine JR_no rfl rfl rfl rfl ?_ | refine JR_noU rfl rfl rfl ?_) | (apply gJS; first | apply JS_seq | apply JS_region | apply JS_skip | apply JS_block | apply JS_inBlock | apply JS_label | refine JS_exit rfl ?_ | refine JS_condT rfl ?_ | refine JS_condF rfl ?_ | refine JS_draw [0] (by kernel_rfl) (by kernel_rfl) (by decide +kernel) ?_ | refine JS_draw [] (by kernel_rfl) (by kernel_rfl) (by decide +kernel) ?_ | refine JS_cond_T rfl (by omega) ?_ | refine JS_cond_F rfl (by omega) ?_) | (apply gQR; first | apply QR_un | apply QR_nil | refine QR_yes rfl rfl ?_ | refine QR_no rfl rfl rfl rfl ?_ | refine QR_noU rfl rfl rfl ?_) | (apply gQO; first | refine aQ ?_ | refine aQK rfl ?_))
  refine JO_call Try.call76 rfl rfl fun w hw => (Text_c br q d m B (vec_rd (by repeat (first | apply List.Mem.head | apply List.Mem.tail))) hK.hm hK.hB hK.hm1 (u + 16 + 16) n (by omega) (by omega) w hw).mono ?_
  rw [show u + 16 + 16 = u + 32 by omega, huu]
  rintro e w' (⟨h5, rfl, hw'⟩ | ⟨h5, p, c, rfl, hw'⟩)
  · refine ⟨_, rfl, _, hw', ?_⟩
    clear hw' hw w w'
    repeat (first | (apply gJO; first | (apply kS; refine aK ?_) | (apply kX; refine JO_box rfl rfl rfl ?_; intro _) | (apply kA; refine JO_alloc (tb := tb) rfl rfl ?_; intro _) | (apply kBs; refine JO_buildSlice (tb := tb) rfl rfl rfl rfl rfl rfl rfl rfl rfl ?_; intro _) | (apply kM; refine JO_make (tb := tb) rfl rfl rfl rfl rfl rfl (by omega) rfl ?_; intro _) | refine aO ?_) | (apply gJR; first | apply JR_un | apply JR_nil | refine JR_yes rfl rfl ?_ | refine JR_no rfl rfl rfl rfl ?_ | refine JR_noU rfl rfl rfl ?_) | (apply gJS; first | apply JS_seq | apply JS_region | apply JS_skip | apply JS_block | apply JS_inBlock | apply JS_label | refine JS_exit rfl ?_ | refine JS_condT rfl ?_ | refine JS_condF rfl ?_ | refine JS_draw [0] (by kernel_rfl) (by kernel_rfl) (by decide +kernel) ?_ | refine JS_draw [] (by kernel_rfl) (by kernel_rfl) (by decide +kernel) ?_ | refine JS_cond_T rfl (by omega) ?_ | refine JS_cond_F rfl (by omega) ?_) | (apply gQR; first | apply QR_un | apply QR_nil | refine QR_yes rfl rfl ?_ | refine QR_no rfl rfl rfl rfl ?_ | refine QR_noU rfl rfl rfl ?_) | (apply gQO; first | refine aQ ?_ | refine aQK rfl ?_))
    refine JO_callE Try.func52 Try.call56 rfl rfl fun A hA w hw => (Give_c 20 w hw).mono ?_
    rintro e w' (⟨h, rfl, hw'⟩ | ⟨_, rfl, hw'⟩)
    · exact absurd h (by decide)
    · refine .inr ⟨_, rfl, ?_⟩
      show resP _ _ _
      rw [if_pos (by omega)]; exact ⟨rfl, infL_drop hw'⟩
  refine ⟨_, rfl, _, hw', ?_⟩
  clear hw' hw w w'
  have hby := byts_eq B hK.hB ((u + 32) / 8) n (by rw [hK.hm]; omega)
  rw [show 8 * ((u + 32) / 8) = u + 32 by omega] at hby
  rw [← hby]
  rw [if_neg (by omega), Int.toNat_natCast]
  repeat (first | (apply gJO; first | (apply kS; refine aK ?_) | (apply kX; refine JO_box rfl rfl rfl ?_; intro _) | (apply kA; refine JO_alloc (tb := tb) rfl rfl ?_; intro _) | (apply kBs; refine JO_buildSlice (tb := tb) rfl rfl rfl rfl rfl rfl rfl rfl rfl ?_; intro _) | (apply kM; refine JO_make (tb := tb) rfl rfl rfl rfl rfl rfl (by omega) rfl ?_; intro _) | refine aO ?_) | (apply gJR; first | apply JR_un | apply JR_nil | refine JR_yes rfl rfl ?_ | refine JR_no rfl rfl rfl rfl ?_ | refine JR_noU rfl rfl rfl ?_) | (apply gJS; first | apply JS_seq | apply JS_region | apply JS_skip | apply JS_block | apply JS_inBlock | apply JS_label | refine JS_exit rfl ?_ | refine JS_condT rfl ?_ | refine JS_condF rfl ?_ | refine JS_draw [0] (by kernel_rfl) (by kernel_rfl) (by decide +kernel) ?_ | refine JS_draw [] (by kernel_rfl) (by kernel_rfl) (by decide +kernel) ?_ | refine JS_cond_T rfl (by omega) ?_ | refine JS_cond_F rfl (by omega) ?_) | (apply gQR; first | apply QR_un | apply QR_nil | refine QR_yes rfl rfl ?_ | refine QR_no rfl rfl rfl rfl ?_ | refine QR_noU rfl rfl rfl ?_) | (apply gQO; first | refine aQ ?_ | refine aQK rfl ?_))
  refine JO_callE Try.func52 Try.call56 rfl rfl fun A hA w hw => (Give_c 0 w hw).mono ?_
  rintro e w' (⟨_, rfl, hw'⟩ | ⟨h, rfl, hw'⟩)
  rotate_left
  · exact absurd rfl h
  refine .inl ⟨_, rfl, _, hw', ?_⟩
  clear hw' hw w w' hA A
  repeat (first | (apply gJO; first | (apply kS; refine aK ?_) | (apply kX; refine JO_box rfl rfl rfl ?_; intro _) | (apply kA; refine JO_alloc (tb := tb) rfl rfl ?_; intro _) | (apply kBs; refine JO_buildSlice (tb := tb) rfl rfl rfl rfl rfl rfl rfl rfl rfl ?_; intro _) | (apply kM; refine JO_make (tb := tb) rfl rfl rfl rfl rfl rfl (by omega) rfl ?_; intro _) | refine aO ?_) | (apply gJR; first | apply JR_un | apply JR_nil | refine JR_yes rfl rfl ?_ | refine JR_no rfl rfl rfl rfl ?_ | refine JR_noU rfl rfl rfl ?_) | (apply gJS; first | apply JS_seq | apply JS_region | apply JS_skip | apply JS_block | apply JS_inBlock | apply JS_label | refine JS_exit rfl ?_ | refine JS_condT rfl ?_ | refine JS_condF rfl ?_ | refine JS_draw [0] (by kernel_rfl) (by kernel_rfl) (by decide +kernel) ?_ | refine JS_draw [] (by kernel_rfl) (by kernel_rfl) (by decide +kernel) ?_ | refine JS_cond_T rfl (by omega) ?_ | refine JS_cond_F rfl (by omega) ?_) | (apply gQR; first | apply QR_un | apply QR_nil | refine QR_yes rfl rfl ?_ | refine QR_no rfl rfl rfl rfl ?_ | refine QR_noU rfl rfl rfl ?_) | (apply gQO; first | refine aQ ?_ | refine aQK rfl ?_))
  refine JO_callE Try.func52 Try.call77 rfl rfl fun A hA w hw => (Tell_c hK (u + 32 + 8 * n) p c n _ (vec_rd (List.Mem.head _)) (byts_len _ _ _) ho (by omega) w (infL_in hw)).mono ?_
  rintro e w' (⟨h, rfl, hw'⟩ | ⟨_, rfl, p', c', hw'⟩)
  · exact absurd h h4
  refine .inl ⟨_, rfl, _, hw', ?_⟩
  clear hw' hw w w' hA A
  repeat (first | (apply gJO; first | (apply kS; refine aK ?_) | (apply kX; refine JO_box rfl rfl rfl ?_; intro _) | (apply kA; refine JO_alloc (tb := tb) rfl rfl ?_; intro _) | (apply kBs; refine JO_buildSlice (tb := tb) rfl rfl rfl rfl rfl rfl rfl rfl rfl ?_; intro _) | (apply kM; refine JO_make (tb := tb) rfl rfl rfl rfl rfl rfl (by omega) rfl ?_; intro _) | refine aO ?_) | (apply gJR; first | apply JR_un | apply JR_nil | refine JR_yes rfl rfl ?_ | refine JR_no rfl rfl rfl rfl ?_ | refine JR_noU rfl rfl rfl ?_) | (apply gJS; first | apply JS_seq | apply JS_region | apply JS_skip | apply JS_block | apply JS_inBlock | apply JS_label | refine JS_exit rfl ?_ | refine JS_condT rfl ?_ | refine JS_condF rfl ?_ | refine JS_draw [0] (by kernel_rfl) (by kernel_rfl) (by decide +kernel) ?_ | refine JS_draw [] (by kernel_rfl) (by kernel_rfl) (by decide +kernel) ?_ | refine JS_cond_T rfl (by omega) ?_ | refine JS_cond_F rfl (by omega) ?_) | (apply gQR; first | apply QR_un | apply QR_nil | refine QR_yes rfl rfl ?_ | refine QR_no rfl rfl rfl rfl ?_ | refine QR_noU rfl rfl rfl ?_) | (apply gQO; first | refine aQ ?_ | refine aQK rfl ?_))
  refine JS_fin Try.func52 rfl rfl ?_
  intro w hw
  refine ⟨h5, ?_, rfl, p', c', infL_out hw⟩
  rw [List.length_append, byts_len]; omega
theorem MakeS_c (p : Option Addr) (c m : Nat) (B : List Int) (hr : Rd w0 H (.slice p m c) m (ints .u8 B)) (hm : B.length = m) (hB : OKB B) (hm1 : m ≤ 140737488355328) (hpm : p = none → m = 0) (w : World) (hw : St w0 H w) :
    Calls Try.prog 64 #[.slice p m c] w fun e w' => ∃ u r, e = .returned (.tuple #[u, .int .i64 r]) ∧
      ((BADL B r ∧ u = .pointer none ∧ St w0 H w') ∨ (OKL B ∧ r = 0 ∧ ∃ b a1 a2 a3, u = .pointer (some ⟨b, 0, none⟩) ∧ IsSet w0 [a1, a2, a3] b B ∧ St w0 (a1 :: a2 :: a3 :: H) w')) := by
  refine (Make_c p c m B hr hm hB hm1 hpm w hw).mono ?_
  rintro e w' ⟨u, r, rfl, h⟩
  refine ⟨u, r, rfl, ?_⟩
  subst hm
  rcases h with ⟨h1, rfl, rfl, h2⟩ | ⟨h1, h15, h2, rfl, rfl, h3⟩ | ⟨h1, h15, h2, rfl, b, q, d, s, k, rfl, h3⟩
  · exact .inl ⟨.inl ⟨h1, rfl⟩, rfl, h2⟩
  · exact .inl ⟨.inr ⟨h1, h15, fun h => h2 ((fine_iff B hB h15).2 h), rfl⟩, rfl, h3⟩
  · refine .inr ⟨⟨h1, h15, (fine_iff B hB h15).1 h2⟩, rfl, b, _, _, _, rfl, ⟨⟨q, d, s, k, (by repeat (first | apply List.Mem.head | apply List.Mem.tail)), vec_rd (by repeat (first | apply List.Mem.head | apply List.Mem.tail)), vec_rd (by repeat (first | apply List.Mem.head | apply List.Mem.tail))⟩, hB, ⟨h1, h15, (fine_iff B hB h15).1 h2⟩⟩, h3⟩
/-- a set is made -/
theorem Made_c (p : Option Addr) (c n : Nat) (L : List Int) (hr : Rd w0 H (.slice p n c) n (ints .u8 L)) (hL : L.length = n) (hB : OKB L) (hn : n ≤ 140737488355328) (w : World) (hw : St w0 H w) :
    Calls Try.prog 79 #[.slice p n c] w fun e w' => (¬ OKL L ∧ e = .panicked (FLT 62) ∧ St w0 H w') ∨ (OKL L ∧ ∃ b a1 a2 a3, e = .returned (.pointer (some ⟨b, 0, none⟩)) ∧ IsSet w0 [a1, a2, a3] b L ∧ St w0 (a1 :: a2 :: a3 :: H) w') := by
  refine enter (vs := [.slice p n c]) Try.func79 rfl rfl rfl hw ?_
  repeat (first | (apply gJO; first | (apply kS; refine aK ?_) | (apply kX; refine JO_box rfl rfl rfl ?_; intro _) | (apply kA; refine JO_alloc (tb := tb) rfl rfl ?_; intro _) | (apply kBs; refine JO_buildSlice (tb := tb) rfl rfl rfl rfl rfl rfl rfl rfl rfl ?_; intro _) | (apply kM; refine JO_make (tb := tb) rfl rfl rfl rfl rfl rfl (by omega) rfl ?_; intro _) | refine aO ?_) | (apply gJR; first | apply JR_un | apply JR_nil | refine JR_yes rfl rfl ?_ | refine JR_no rfl rfl rfl rfl ?_ | refine JR_noU rfl rfl rfl ?_) | (apply gJS; first | apply JS_seq | apply JS_region | apply JS_skip | apply JS_block | apply JS_inBlock | apply JS_label | refine JS_exit rfl ?_ | refine JS_condT rfl ?_ | refine JS_condF rfl ?_ | refine JS_draw [0] (by kernel_rfl) (by kernel_rfl) (by decide +kernel) ?_ | refine JS_draw [] (by kernel_rfl) (by kernel_rfl) (by decide +kernel) ?_ | refine JS_cond_T rfl (by omega) ?_ | refine JS_cond_F rfl (by omega) ?_) | (apply gQR; first | apply QR_un | apply QR_nil | refine QR_yes rfl rfl ?_ | refine QR_no rfl rfl rfl rfl ?_ | refine QR_noU rfl rfl rfl ?_) | (apply gQO; first | refine aQ ?_ | refine aQK rfl ?_))
  refine JO_call Try.call64 rfl rfl fun w hw => (MakeS_c p c n L hr hL hB hn (hr.nil hw) w hw).mono ?_
  rintro e w' ⟨u, r, rfl, h⟩
  rcases h with ⟨hbad, rfl, hw'⟩ | ⟨hok, rfl, b, a1, a2, a3, rfl, hs, hw'⟩
  · refine ⟨_, rfl, _, hw', ?_⟩
    clear hw' hw w w'
    have hr0 := hbad.pos
    repeat (first | (apply gJO; first | (apply kS; refine aK ?_) | (apply kX; refine JO_box rfl rfl rfl ?_; intro _) | (apply kA; refine JO_alloc (tb := tb) rfl rfl ?_; intro _) | (apply kBs; refine JO_buildSlice (tb := tb) rfl rfl rfl rfl rfl rfl rfl rfl rfl ?_; intro _) | (apply kM; refine JO_make (tb := tb) rfl rfl rfl rfl rfl rfl (by omega) rfl ?_; intro _) | refine aO ?_) | (apply gJR; first | apply JR_un | apply JR_nil | refine JR_yes rfl rfl ?_ | refine JR_no rfl rfl rfl rfl ?_ | refine JR_noU rfl rfl rfl ?_) | (apply gJS; first | apply JS_seq | apply JS_region | apply JS_skip | apply JS_block | apply JS_inBlock | apply JS_label | refine JS_exit rfl ?_ | refine JS_condT rfl ?_ | refine JS_condF rfl ?_ | refine JS_draw [0] (by kernel_rfl) (by kernel_rfl) (by decide +kernel) ?_ | refine JS_draw [] (by kernel_rfl) (by kernel_rfl) (by decide +kernel) ?_ | refine JS_cond_T rfl (by omega) ?_ | refine JS_cond_F rfl (by omega) ?_) | (apply gQR; first | apply QR_un | apply QR_nil | refine QR_yes rfl rfl ?_ | refine QR_no rfl rfl rfl rfl ?_ | refine QR_noU rfl rfl rfl ?_) | (apply gQO; first | refine aQ ?_ | refine aQK rfl ?_))
    refine JO_callE Try.func79 Try.call56 rfl rfl fun A hA w hw => (Give_c 62 w hw).mono ?_
    rintro e w' (⟨h, rfl, hw'⟩ | ⟨_, rfl, hw'⟩)
    · exact absurd h (by decide)
    · exact .inr ⟨_, rfl, .inl ⟨hbad.not, rfl, hw'⟩⟩
  · refine ⟨_, rfl, _, hw', ?_⟩
    clear hw' hw w w'
    repeat (first | (apply gJO; first | (apply kS; refine aK ?_) | (apply kX; refine JO_box rfl rfl rfl ?_; intro _) | (apply kA; refine JO_alloc (tb := tb) rfl rfl ?_; intro _) | (apply kBs; refine JO_buildSlice (tb := tb) rfl rfl rfl rfl rfl rfl rfl rfl rfl ?_; intro _) | (apply kM; refine JO_make (tb := tb) rfl rfl rfl rfl rfl rfl (by omega) rfl ?_; intro _) | refine aO ?_) | (apply gJR; first | apply JR_un | apply JR_nil | refine JR_yes rfl rfl ?_ | refine JR_no rfl rfl rfl rfl ?_ | refine JR_noU rfl rfl rfl ?_) | (apply gJS; first | apply JS_seq | apply JS_region | apply JS_skip | apply JS_block | apply JS_inBlock | apply JS_label | refine JS_exit rfl ?_ | refine JS_condT rfl ?_ | refine JS_condF rfl ?_ | refine JS_draw [0] (by kernel_rfl) (by kernel_rfl) (by decide +kernel) ?_ | refine JS_draw [] (by kernel_rfl) (by kernel_rfl) (by decide +kernel) ?_ | refine JS_cond_T rfl (by omega) ?_ | refine JS_cond_F rfl (by omega) ?_) | (apply gQR; first | apply QR_un | apply QR_nil | refine QR_yes rfl rfl ?_ | refine QR_no rfl rfl rfl rfl ?_ | refine QR_noU rfl rfl rfl ?_) | (apply gQO; first | refine aQ ?_ | refine aQK rfl ?_))
    refine JS_ret Try.func79 rfl rfl ?_
    intro w hw
    exact .inr ⟨hok, b, a1, a2, a3, rfl, hs, hw⟩
set_option maxRecDepth 10000 in
set_option maxHeartbeats 4000000 in
/-- bytes from so far back, again -/
theorem Again_c (hK : InfK m B lim) (a len bk : Nat) (hbk : 0 < bk) (ho : o.length ≤ lim) (hlen : len ≤ 1000) (hbk2 : bk ≤ 100000) (w : World) (hw : St w0 (infL bf br q d m B lim a po co o H) w) :
    Calls Try.prog 96 #[.pointer (some ⟨bf, 0, none⟩), .int .i64 len, .int .i64 bk] w fun e w' => (o.length < bk ∧ e = .panicked (FLT 63) ∧ St w0 H w') ∨ (bk ≤ o.length ∧ (lim : Int) - o.length < len ∧ e = .panicked (FLT 64) ∧ St w0 H w') ∨
      (bk ≤ o.length ∧ ¬ (lim : Int) - o.length < len ∧ e = .returned (.tuple #[]) ∧ ∃ po co, St w0 (infL bf br q d m B lim a po co (cpy o bk len) H) w') := by
  have hl := hK.hl
  refine enter (vs := [.pointer (some ⟨bf, 0, none⟩), .int .i64 len, .int .i64 bk]) Try.func96 rfl rfl rfl hw ?_
  by_cases h1 : o.length < bk
  · repeat (first | (apply gJO; first | (apply kS; refine aK ?_) | (apply kX; refine JO_box rfl rfl rfl ?_; intro _) | (apply kA; refine JO_alloc (tb := tb) rfl rfl ?_; intro _) | (apply kBs; refine JO_buildSlice (tb := tb) rfl rfl rfl rfl rfl rfl rfl rfl rfl ?_; intro _) | (apply kM; refine JO_make (tb := tb) rfl rfl rfl rfl rfl rfl (by omega) rfl ?_; intro _) | refine aO ?_) | (apply gJR; first | apply JR_un | apply JR_nil | refine JR_yes rfl rfl ?_ | refine JR_no rfl rfl rfl rfl ?_ | refine JR_noU rfl rfl rfl ?_) | (apply gJS; first | apply JS_seq | apply JS_region | apply JS_skip | apply JS_block | apply JS_inBlock | apply JS_label | refine JS_exit rfl ?_ | refine JS_condT rfl ?_ | refine JS_condF rfl ?_ | refine JS_draw [0] (by kernel_rfl) (by kernel_rfl) (by decide +kernel) ?_ | refine JS_draw [] (by kernel_rfl) (by kernel_rfl) (by decide +kernel) ?_ | refine JS_cond_T rfl (by omega) ?_ | refine JS_cond_F rfl (by omega) ?_) | (apply gQR; first | apply QR_un | apply QR_nil | refine QR_yes rfl rfl ?_ | refine QR_no rfl rfl rfl rfl ?_ | refine QR_noU rfl rfl rfl ?_) | (apply gQO; first | refine aQ ?_ | refine aQK rfl ?_))
    refine JO_callE Try.func96 Try.call56 rfl rfl fun A hA w hw => (Give_c 63 w hw).mono ?_
    rintro e w' (⟨h, rfl, hw'⟩ | ⟨_, rfl, hw'⟩)
    · exact absurd h (by decide)
    · exact .inr ⟨_, rfl, .inl ⟨h1, rfl, infL_drop hw'⟩⟩
  by_cases h2 : (lim : Int) - o.length < len
  · repeat (first | (apply gJO; first | (apply kS; refine aK ?_) | (apply kX; refine JO_box rfl rfl rfl ?_; intro _) | (apply kA; refine JO_alloc (tb := tb) rfl rfl ?_; intro _) | (apply kBs; refine JO_buildSlice (tb := tb) rfl rfl rfl rfl rfl rfl rfl rfl rfl ?_; intro _) | (apply kM; refine JO_make (tb := tb) rfl rfl rfl rfl rfl rfl (by omega) rfl ?_; intro _) | refine aO ?_) | (apply gJR; first | apply JR_un | apply JR_nil | refine JR_yes rfl rfl ?_ | refine JR_no rfl rfl rfl rfl ?_ | refine JR_noU rfl rfl rfl ?_) | (apply gJS; first | apply JS_seq | apply JS_region | apply JS_skip | apply JS_block | apply JS_inBlock | apply JS_label | refine JS_exit rfl ?_ | refine JS_condT rfl ?_ | refine JS_condF rfl ?_ | refine JS_draw [0] (by kernel_rfl) (by kernel_rfl) (by decide +kernel) ?_ | refine JS_draw [] (by kernel_rfl) (by kernel_rfl) (by decide +kernel) ?_ | refine JS_cond_T rfl (by omega) ?_ | refine JS_cond_F rfl (by omega) ?_) | (apply gQR; first | apply QR_un | apply QR_nil | refine QR_yes rfl rfl ?_ | refine QR_no rfl rfl rfl rfl ?_ | refine QR_noU rfl rfl rfl ?_) | (apply gQO; first | refine aQ ?_ | refine aQK rfl ?_))
    refine JO_callE Try.func96 Try.call56 rfl rfl fun A hA w hw => (Give_c 64 w hw).mono ?_
    rintro e w' (⟨h, rfl, hw'⟩ | ⟨_, rfl, hw'⟩)
    · exact absurd h (by decide)
    · exact .inr ⟨_, rfl, .inr (.inl ⟨by omega, h2, rfl, infL_drop hw'⟩)⟩
  repeat (first | (apply gJR; first | (apply gJO; first | (apply kS; refine aK ?_) | (apply kX; refine JO_box rfl rfl rfl ?_; intro _) | (apply kA; refine JO_alloc (tb := tb) rfl rfl ?_; intro _) | (apply kBs; refine JO_buildSlice (tb := tb) rfl rfl rfl rfl rfl rfl rfl rfl rfl ?_; intro _) | (apply kM; refine JO_make (tb := tb) rfl rfl rfl rfl rfl rfl (by omega) rfl ?_; intro _) | refine aO ?_) | (apply gJR; first | apply JR_un | apply JR_nil | refine JR_yes rfl rfl ?_ | refine JR_no rfl rfl rfl rfl ?_ | refine JR_noU rfl rfl rfl ?_) | (apply gJS; first | apply JS_seq | apply JS_region | apply JS_skip | apply JS_block | apply JS_inBlock | apply JS_label | refine JS_exit rfl ?_ | refine JS_condT rfl ?_ | refine JS_condF rfl ?_ | refine JS_draw [0] (by kernel_rfl) (by kernel_rfl) (by decide +kernel) ?_ | refine JS_draw [] (by kernel_rfl) (by kernel_rfl) (by decide +kernel) ?_ | refine JS_cond_T rfl (by omega) ?_ | refine JS_cond_F rfl (by omega) ?_) | (apply gQR; first | apply QR_un | apply QR_nil | refine QR_yes rfl rfl ?_ | refine QR_no rfl rfl rfl rfl ?_ | refine QR_noU rfl rfl rfl ?_) | (apply gQO; first | refine aQ ?_ | refine aQK rfl ?_)) | (apply gJO; first | (apply gJO; first | (apply kS; refine aK ?_) | (apply kX; refine JO_box rfl rfl rfl ?_; intro _) | (apply kA; refine JO_alloc (tb := tb) rfl rfl ?_; intro _) | (apply kBs; refine JO_buildSlice (tb := tb) rfl rfl rfl rfl rfl rfl rfl rfl rfl ?_; intro _) | (apply kM; refine JO_make (tb := tb) rfl rfl rfl rfl rfl rfl (by omega) rfl ?_; intro _) | refine aO ?_) | (apply gJR; first | apply JR_un | apply JR_nil | refine JR_yes rfl rfl ?_ | refine JR_no rfl rfl rfl rfl ?_ | refine JR_noU rfl rfl rfl ?_) | (apply gJS; first | apply JS_seq | apply JS_region | apply JS_skip | apply JS_block | apply JS_inBlock | apply JS_label | refine JS_exit rfl ?_ | refine JS_condT rfl ?_ | refine JS_condF rfl ?_ | refine JS_draw [0] (by kernel_rfl) (by kernel_rfl) (by decide +kernel) ?_ | refine JS_draw [] (by kernel_rfl) (by kernel_rfl) (by decide +kernel) ?_ | refine JS_cond_T rfl (by omega) ?_ | refine JS_cond_F rfl (by omega) ?_) | (apply gQR; first | apply QR_un | apply QR_nil | refine QR_yes rfl rfl ?_ | refine QR_no rfl rfl rfl rfl ?_ | refine QR_noU rfl rfl rfl ?_) | (apply gQO; first | refine aQ ?_ | refine aQK rfl ?_)) | (apply gQR; first | (apply gJO; first | (apply kS; refine aK ?_) | (apply kX; refine JO_box rfl rfl rfl ?_; intro _) | (apply kA; refine JO_alloc (tb := tb) rfl rfl ?_; intro _) | (apply kBs; refine JO_buildSlice (tb := tb) rfl rfl rfl rfl rfl rfl rfl rfl rfl ?_; intro _) | (apply kM; refine JO_make (tb := tb) rfl rfl rfl rfl rfl rfl (by omega) rfl ?_; intro _) | refine aO ?_) | (apply gJR; first | apply JR_un | apply JR_nil | refine JR_yes rfl rfl ?_ | refine JR_no rfl rfl rfl rfl ?_ | refine JR_noU rfl rfl rfl ?_) | (apply gJS; first | apply JS_seq | apply JS_region | apply JS_skip | apply JS_block | apply JS_inBlock | apply JS_label | refine JS_exit rfl ?_ | refine JS_condT rfl ?_ | refine JS_condF rfl ?_ | refine JS_draw [0] (by kernel_rfl) (by kernel_rfl) (by decide +kernel) ?_ | refine JS_draw [] (by kernel_rfl) (by kernel_rfl) (by decide +kernel) ?_ | refine JS_cond_T rfl (by omega) ?_ | refine JS_cond_F rfl (by omega) ?_) | (apply gQR; first | apply QR_un | apply QR_nil | refine QR_yes rfl rfl ?_ | refine QR_no rfl rfl rfl rfl ?_ | refine QR_noU rfl rfl rfl ?_) | (apply gQO; first | refine aQ ?_ | refine aQK rfl ?_)) | (apply gQO; first | (apply gJO; first | (apply kS; refine aK ?_) | (apply kX; refine JO_box rfl rfl rfl ?_; intro _) | (apply kA; refine JO_alloc (tb := tb) rfl rfl ?_; intro _) | (apply kBs; refine JO_buildSlice (tb := tb) rfl rfl rfl rfl rfl rfl rfl rfl rfl ?_; intro _) | (apply kM; refine JO_make (tb := tb) rfl rfl rfl rfl rfl rfl (by omega) rfl ?_; intro _) | refine aO ?_) | (apply gJR; first | apply JR_un | apply JR_nil | refine JR_yes rfl rfl ?_ | refine JR_no rfl rfl rfl rfl ?_ | refine JR_noU rfl rfl rfl ?_) | (apply gJS; first | apply JS_seq | apply JS_region | apply JS_skip | apply JS_block | apply JS_inBlock | apply JS_label | refine JS_exit rfl ?_ | refine JS_condT rfl ?_ | refine JS_condF rfl ?_ | refine JS_draw [0] (by kernel_rfl) (by kernel_rfl) (by decide +kernel) ?_ | refine JS_draw [] (by kernel_rfl) (by kernel_rfl) (by decide +kernel) ?_ | refine JS_cond_T rfl (by omega) ?_ | refine JS_cond_F rfl (by omega) ?_) | (apply gQR; first | apply QR_un | apply QR_nil | refine QR_yes rfl rfl ?_ | refine QR_no rfl rfl rfl rfl ?_ | refine QR_noU rfl rfl rfl ?_) | (apply gQO; first | refine aQ ?_ | refine aQK rfl ?_)) | apply JS_seq | apply JS_region | refine JS_draw [] (by kernel_rfl) (by kernel_rfl) (by decide +kernel) ?_ | refine JS_condF rfl ?_ | refine JS_cond_F rfl (by omega) ?_ | apply JS_skip)
  refine JS_block ?_
  refine JS_loop3 (fun (i : Nat) (p : Option Addr) (c : Nat) => [(0, .pointer (some ⟨bf, 0, none⟩)), (2, .int .i64 bk), (27, .int .i64 len), (28, .int .i64 i)]) (fun i p c => infL bf br q d m B lim a p c (cpy o bk i) H)
    (fun i _ _ => i ≤ len) (fun i _ _ => len - i) 0 po co (Nat.zero_le _) (by repeat (first | exact trivial | refine ⟨rfl, ?_⟩ | refine ⟨lookI rfl (by omega), ?_⟩)) (fun _ h => h) ?_
  intro i p c hi again
  have hcl := cpy_len o bk i
  by_cases hil : i < len
  · have hcs : cpy o bk (i + 1) = cpy o bk i ++ [(cpy o bk i).getD ((cpy o bk i).length - bk) 0] := rfl
    generalize cpy o bk i = L at *
    have gi : (ints .u8 L)[L.length - bk]? = some (.int .u8 (L.getD (L.length - bk) 0)) := ints_get (by omega)
    generalize L.getD (L.length - bk) 0 = x at *
    repeat (first | (apply gQO; first | refine QO_v rfl (V_index (tb := tb) (j := L.length - bk) rfl rfl rfl rfl (Rd.sl (vec_rd (by repeat (first | apply List.Mem.head | apply List.Mem.tail)))) (by omega) (by omega) rfl) ?_ | refine QO_v rfl (V_loadC (tb := tb) rfl (vec_rd (by repeat (first | apply List.Mem.head | apply List.Mem.tail))) rfl rfl gi rfl) ?_ | (refine QO_e (E_buildSlice (tb := tb) rfl rfl rfl rfl rfl rfl rfl rfl rfl) rfl (.inr fun _ _ hw => St.sub (by repeat (first | exact List.Sublist.refl _ | apply List.Sublist.cons_cons | apply List.Sublist.cons)) hw) ?_; intro _) | (refine QO_e (E_appendB (tb := tb) rfl rfl rfl rfl rfl rfl (by repeat (first | exact Sel.here _ _ | apply Sel.there)) (by first | exact vec_rd (by repeat (first | apply List.Mem.head | apply List.Mem.tail)) | assumption | exact ArgRd.rd (by assumption) _ | (apply Rd_weak; assumption; intro _ hx; exact St.sub (by repeat (first | exact List.Sublist.refl _ | apply List.Sublist.cons_cons | apply List.Sublist.cons)) hx)) (by simp only [ints_len, List.length_cons, List.length_nil]; first | omega | rfl) (by first | exact ints_one | (repeat (first | exact trivial | refine ⟨rfl, ?_⟩))) (by omega) (by omega) rfl) rfl (.inr fun _ _ hw => vecB_back (by repeat (first | exact Sel.here _ _ | apply Sel.there)) hw) ?_; intro _)) | (first | (apply gJO; first | (apply kS; refine aK ?_) | (apply kX; refine JO_box rfl rfl rfl ?_; intro _) | (apply kA; refine JO_alloc (tb := tb) rfl rfl ?_; intro _) | (apply kBs; refine JO_buildSlice (tb := tb) rfl rfl rfl rfl rfl rfl rfl rfl rfl ?_; intro _) | (apply kM; refine JO_make (tb := tb) rfl rfl rfl rfl rfl rfl (by omega) rfl ?_; intro _) | refine aO ?_) | (apply gJR; first | apply JR_un | apply JR_nil | refine JR_yes rfl rfl ?_ | refine JR_no rfl rfl rfl rfl ?_ | refine JR_noU rfl rfl rfl ?_) | (apply gJS; first | apply JS_seq | apply JS_region | apply JS_skip | apply JS_block | apply JS_inBlock | apply JS_label | refine JS_exit rfl ?_ | refine JS_condT rfl ?_ | refine JS_condF rfl ?_ | refine JS_draw [0] (by kernel_rfl) (by kernel_rfl) (by decide +kernel) ?_ | refine JS_draw [] (by kernel_rfl) (by kernel_rfl) (by decide +kernel) ?_ | refine JS_cond_T rfl (by omega) ?_ | refine JS_cond_F rfl (by omega) ?_) | (apply gQR; first | apply QR_un | apply QR_nil | refine QR_yes rfl rfl ?_ | refine QR_no rfl rfl rfl rfl ?_ | refine QR_noU rfl rfl rfl ?_) | (apply gQO; first | refine aQ ?_ | refine aQK rfl ?_)))
    rename_i p1 c1
    exact JS_again3 again (i + 1) c1.1 c1.2 (by omega) (by omega) (by exact ⟨rfl, rfl, rfl, rfl, trivial⟩) (fun w hw => by rw [hcs]; unfold infL; rw [show (L ++ [x]).length = L.length + 1 by simp, ← ints_app1]; have g := vecB_fwd (by repeat (first | exact Sel.here _ _ | apply Sel.there)) hw; exact St.sub (by repeat (first | exact List.Sublist.refl _ | apply List.Sublist.cons_cons | apply List.Sublist.cons)) g)
  · obtain rfl : i = len := by omega
    clear again
    repeat (first | (apply gJO; first | (apply kS; refine aK ?_) | (apply kX; refine JO_box rfl rfl rfl ?_; intro _) | (apply kA; refine JO_alloc (tb := tb) rfl rfl ?_; intro _) | (apply kBs; refine JO_buildSlice (tb := tb) rfl rfl rfl rfl rfl rfl rfl rfl rfl ?_; intro _) | (apply kM; refine JO_make (tb := tb) rfl rfl rfl rfl rfl rfl (by omega) rfl ?_; intro _) | refine aO ?_) | (apply gJR; first | apply JR_un | apply JR_nil | refine JR_yes rfl rfl ?_ | refine JR_no rfl rfl rfl rfl ?_ | refine JR_noU rfl rfl rfl ?_) | (apply gJS; first | apply JS_seq | apply JS_region | apply JS_skip | apply JS_block | apply JS_inBlock | apply JS_label | refine JS_exit rfl ?_ | refine JS_condT rfl ?_ | refine JS_condF rfl ?_ | refine JS_draw [0] (by kernel_rfl) (by kernel_rfl) (by decide +kernel) ?_ | refine JS_draw [] (by kernel_rfl) (by kernel_rfl) (by decide +kernel) ?_ | refine JS_cond_T rfl (by omega) ?_ | refine JS_cond_F rfl (by omega) ?_) | (apply gQR; first | apply QR_un | apply QR_nil | refine QR_yes rfl rfl ?_ | refine QR_no rfl rfl rfl rfl ?_ | refine QR_noU rfl rfl rfl ?_) | (apply gQO; first | refine aQ ?_ | refine aQK rfl ?_))
    refine JS_fin Try.func96 rfl rfl ?_
    intro w hw
    exact .inr (.inr ⟨by omega, h2, rfl, p, c, hw⟩)
end
end Go.Proofs.Ytakgoflfcgofdaa

namespace Go.Proofs.Ytakgoflfcgofdaa
open Sx Go
set_option linter.unusedVariables false
set_option linter.unusedSimpArgs false
attribute [local irreducible] syA fc tk cds
theorem lbase_ok {i : Int} (h : (lbase i).1 ≠ 0) : 257 ≤ i ∧ i ≤ 285 ∧ 3 ≤ (lbase i).1 ∧ (lbase i).1 ≤ 258 ∧ 0 ≤ (lbase i).2 ∧ (lbase i).2 ≤ 5 := by
  by_cases h1 : i < 257 ∨ 285 < i
  · exact absurd (by unfold lbase; rw [if_pos h1]) h
  by_cases h2 : i = 285
  · subst h2; decide
  · obtain ⟨k, rfl⟩ : ∃ k : Nat, i = 257 + k := ⟨(i - 257).toNat, by omega⟩
    have := lbase_bd k (by omega)
    omega
theorem lfar_ok {i : Int} (h : (lfar i).1 ≠ 0) : 0 ≤ i ∧ i ≤ 29 ∧ 1 ≤ (lfar i).1 ∧ (lfar i).1 ≤ 24577 ∧ 0 ≤ (lfar i).2 ∧ (lfar i).2 ≤ 13 := by
  by_cases h1 : i < 0 ∨ 29 < i
  · exact absurd (by unfold lfar; rw [if_pos h1]) h
  · obtain ⟨k, rfl⟩ : ∃ k : Nat, i = k := ⟨i.toNat, by omega⟩
    have := lfar_bd k (by omega)
    omega
section
variable {w0 : World} {H : List Asn} {bf br : Nat} {q : Option Addr} {d m : Nat} {B : List Int} {lim : Nat} {po : Option Addr} {co : Nat} {o : List Int}
set_option maxRecDepth 10000 in
set_option maxHeartbeats 4000000 in
/-- a block of symbols -/
theorem Blk_c (hK : InfK m B lim) (a : Nat) (ha : a ≤ 8 * m) (ho : o.length ≤ lim) (b1 b2 : Nat) (L D : List Int) (hs1 : IsSet w0 H b1 L) (hs2 : IsSet w0 H b2 D) (w : World) (hw : St w0 (infL bf br q d m B lim a po co o H) w) :
    Calls Try.prog 78 #[.pointer (some ⟨bf, 0, none⟩), .pointer (some ⟨b1, 0, none⟩), .pointer (some ⟨b2, 0, none⟩)] w fun e w' => ∃ r, It (blkF (bitB B 0) (8 * m) lim L D) a o r ∧ resP r (fun r => e = .panicked (FLT r) ∧ St w0 H w')
      (fun a' o' => a' ≤ 8 * m ∧ o'.length ≤ lim ∧ e = .returned (.tuple #[]) ∧ ∃ po co, St w0 (infL bf br q d m B lim a' po co o' H) w') := by
  have hl := hK.hl
  have hm1 := hK.hm1
  have hL320 := hs1.hl.1
  have hD320 := hs2.hl.1
  refine enter (vs := [.pointer (some ⟨bf, 0, none⟩), .pointer (some ⟨b1, 0, none⟩), .pointer (some ⟨b2, 0, none⟩)]) Try.func78 rfl rfl rfl hw ?_
  refine JS_block ?_
  refine JS_loop4 (fun (a1 : Nat) (o1 : List Int) (p : Option Addr) (c : Nat) => [(0, .pointer (some ⟨bf, 0, none⟩)), (1, .pointer (some ⟨b1, 0, none⟩)), (2, .pointer (some ⟨b2, 0, none⟩))]) (fun a1 o1 p c => infL bf br q d m B lim a1 p c o1 H)
    (fun a1 o1 _ _ => a1 ≤ 8 * m ∧ o1.length ≤ lim ∧ ∀ r, It (blkF (bitB B 0) (8 * m) lim L D) a1 o1 r → It (blkF (bitB B 0) (8 * m) lim L D) a o r) (fun a1 _ _ _ => 8 * m - a1) a o po co ⟨ha, ho, fun _ h => h⟩ (by repeat (first | exact trivial | refine ⟨rfl, ?_⟩ | refine ⟨lookI rfl (by omega), ?_⟩)) (fun _ h => h) ?_
  intro a1 o1 p c ⟨ha1, ho1, hinv⟩ again
  repeat (first | (apply gJO; first | (apply kS; refine aK ?_) | (apply kX; refine JO_box rfl rfl rfl ?_; intro _) | (apply kA; refine JO_alloc (tb := tb) rfl rfl ?_; intro _) | (apply kBs; refine JO_buildSlice (tb := tb) rfl rfl rfl rfl rfl rfl rfl rfl rfl ?_; intro _) | (apply kM; refine JO_make (tb := tb) rfl rfl rfl rfl rfl rfl (by omega) rfl ?_; intro _) | refine aO ?_) | (apply gJR; first | apply JR_un | apply JR_nil | refine JR_yes rfl rfl ?_ | refine JR_no rfl rfl rfl rfl ?_ | refine JR_noU rfl rfl rfl ?_) | (apply gJS; first | apply JS_seq | apply JS_region | apply JS_skip | apply JS_block | apply JS_inBlock | apply JS_label | refine JS_exit rfl ?_ | refine JS_condT rfl ?_ | refine JS_condF rfl ?_ | refine JS_draw [0] (by kernel_rfl) (by kernel_rfl) (by decide +kernel) ?_ | refine JS_draw [] (by kernel_rfl) (by kernel_rfl) (by decide +kernel) ?_ | refine JS_cond_T rfl (by omega) ?_ | refine JS_cond_F rfl (by omega) ?_) | (apply gQR; first | apply QR_un | apply QR_nil | refine QR_yes rfl rfl ?_ | refine QR_no rfl rfl rfl rfl ?_ | refine QR_noU rfl rfl rfl ?_) | (apply gQO; first | refine aQ ?_ | refine aQK rfl ?_))
  refine JO_callE Try.func78 Try.call95 rfl rfl fun A hA w hw => (Sym_c hK a1 ha1 b1 L hs1 w hw).mono ?_
  intro e w' h
  unfold symP at h
  cases hsy : symS (bitB B 0) (8 * m) L a1 with
  | err r =>
    rw [hsy] at h
    obtain ⟨rfl, hw'⟩ := h
    exact .inr ⟨_, rfl, .err r, hinv _ (.err (by unfold blkF; rw [hsy])), rfl, hw'⟩
  | ok i a2 =>
  rw [hsy] at h
  obtain ⟨hi0, hiL, ha12, ha2, rfl, hw'⟩ := h
  refine .inl ⟨_, rfl, _, hw', ?_⟩
  clear hw' hw w w' hA A
  have hF : blkF (bitB B 0) (8 * m) lim L D a1 o1 = if i = 256 then .stop a2 o1
    else if i < 256 then (if (lim : Int) - o1.length < 1 then .err 64 else .go a2 (o1 ++ [i]))
    else if (lbase i).1 = 0 then .err 62
    else if 8 * m < a2 + (lbase i).2.toNat then .err 20
    else blk2 (bitB B 0) (8 * m) lim D o1 ((lbase i).1 + nbt (bitB B 0) a2 (lbase i).2.toNat) (a2 + (lbase i).2.toNat) := by unfold blkF; rw [hsy]
  by_cases h256 : i = 256
  · rw [if_pos h256] at hF
    clear again
    repeat (first | (apply gJO; first | (apply kS; refine aK ?_) | (apply kX; refine JO_box rfl rfl rfl ?_; intro _) | (apply kA; refine JO_alloc (tb := tb) rfl rfl ?_; intro _) | (apply kBs; refine JO_buildSlice (tb := tb) rfl rfl rfl rfl rfl rfl rfl rfl rfl ?_; intro _) | (apply kM; refine JO_make (tb := tb) rfl rfl rfl rfl rfl rfl (by omega) rfl ?_; intro _) | refine aO ?_) | (apply gJR; first | apply JR_un | apply JR_nil | refine JR_yes rfl rfl ?_ | refine JR_no rfl rfl rfl rfl ?_ | refine JR_noU rfl rfl rfl ?_) | (apply gJS; first | apply JS_seq | apply JS_region | apply JS_skip | apply JS_block | apply JS_inBlock | apply JS_label | refine JS_exit rfl ?_ | refine JS_condT rfl ?_ | refine JS_condF rfl ?_ | refine JS_draw [0] (by kernel_rfl) (by kernel_rfl) (by decide +kernel) ?_ | refine JS_draw [] (by kernel_rfl) (by kernel_rfl) (by decide +kernel) ?_ | refine JS_cond_T rfl (by omega) ?_ | refine JS_cond_F rfl (by omega) ?_) | (apply gQR; first | apply QR_un | apply QR_nil | refine QR_yes rfl rfl ?_ | refine QR_no rfl rfl rfl rfl ?_ | refine QR_noU rfl rfl rfl ?_) | (apply gQO; first | refine aQ ?_ | refine aQK rfl ?_))
    refine JS_ret Try.func78 rfl rfl ?_
    intro w hw
    exact ⟨.ok a2 o1, hinv _ (.stop hF), ha2, ho1, rfl, p, c, hw⟩
  rw [if_neg h256] at hF
  by_cases hlt : i < 256
  · rw [if_pos hlt] at hF
    repeat (first | (apply gJO; first | (apply kS; refine aK ?_) | (apply kX; refine JO_box rfl rfl rfl ?_; intro _) | (apply kA; refine JO_alloc (tb := tb) rfl rfl ?_; intro _) | (apply kBs; refine JO_buildSlice (tb := tb) rfl rfl rfl rfl rfl rfl rfl rfl rfl ?_; intro _) | (apply kM; refine JO_make (tb := tb) rfl rfl rfl rfl rfl rfl (by omega) rfl ?_; intro _) | refine aO ?_) | (apply gJR; first | apply JR_un | apply JR_nil | refine JR_yes rfl rfl ?_ | refine JR_no rfl rfl rfl rfl ?_ | refine JR_noU rfl rfl rfl ?_) | (apply gJS; first | apply JS_seq | apply JS_region | apply JS_skip | apply JS_block | apply JS_inBlock | apply JS_label | refine JS_exit rfl ?_ | refine JS_condT rfl ?_ | refine JS_condF rfl ?_ | refine JS_draw [0] (by kernel_rfl) (by kernel_rfl) (by decide +kernel) ?_ | refine JS_draw [] (by kernel_rfl) (by kernel_rfl) (by decide +kernel) ?_ | refine JS_cond_T rfl (by omega) ?_ | refine JS_cond_F rfl (by omega) ?_) | (apply gQR; first | apply QR_un | apply QR_nil | refine QR_yes rfl rfl ?_ | refine QR_no rfl rfl rfl rfl ?_ | refine QR_noU rfl rfl rfl ?_) | (apply gQO; first | refine aQ ?_ | refine aQK rfl ?_))
    rename_i p1
    refine JO_callE Try.func78 Try.call77 rfl rfl fun A hA w hw => (Tell_c hK a2 (some p1) 1 1 [i] (vec_rd (List.Mem.head _)) rfl ho1 (by omega) w (infL_in hw)).mono ?_
    rintro e w' (⟨h, rfl, hw'⟩ | ⟨h, rfl, p', c', hw'⟩)
    · exact .inr ⟨_, rfl, .err 64, hinv _ (.err (by rw [hF, if_pos (by omega)])), rfl, hw'.drop⟩
    refine .inl ⟨_, rfl, _, hw', ?_⟩
    clear hw' hw w w' hA A
    rw [if_neg (by omega)] at hF
    repeat (first | (apply gJO; first | (apply kS; refine aK ?_) | (apply kX; refine JO_box rfl rfl rfl ?_; intro _) | (apply kA; refine JO_alloc (tb := tb) rfl rfl ?_; intro _) | (apply kBs; refine JO_buildSlice (tb := tb) rfl rfl rfl rfl rfl rfl rfl rfl rfl ?_; intro _) | (apply kM; refine JO_make (tb := tb) rfl rfl rfl rfl rfl rfl (by omega) rfl ?_; intro _) | refine aO ?_) | (apply gJR; first | apply JR_un | apply JR_nil | refine JR_yes rfl rfl ?_ | refine JR_no rfl rfl rfl rfl ?_ | refine JR_noU rfl rfl rfl ?_) | (apply gJS; first | apply JS_seq | apply JS_region | apply JS_skip | apply JS_block | apply JS_inBlock | apply JS_label | refine JS_exit rfl ?_ | refine JS_condT rfl ?_ | refine JS_condF rfl ?_ | refine JS_draw [0] (by kernel_rfl) (by kernel_rfl) (by decide +kernel) ?_ | refine JS_draw [] (by kernel_rfl) (by kernel_rfl) (by decide +kernel) ?_ | refine JS_cond_T rfl (by omega) ?_ | refine JS_cond_F rfl (by omega) ?_) | (apply gQR; first | apply QR_un | apply QR_nil | refine QR_yes rfl rfl ?_ | refine QR_no rfl rfl rfl rfl ?_ | refine QR_noU rfl rfl rfl ?_) | (apply gQO; first | refine aQ ?_ | refine aQK rfl ?_))
    exact JS_again4 again a2 (o1 ++ [i]) p' c' ⟨ha2, by simp; omega, fun r hr => hinv r (.go hF hr)⟩ (by omega) (by exact ⟨rfl, rfl, rfl, trivial⟩) (fun w hw => infL_out hw)
  rw [if_neg hlt] at hF
  repeat (first | (apply gJO; first | (apply kS; refine aK ?_) | (apply kX; refine JO_box rfl rfl rfl ?_; intro _) | (apply kA; refine JO_alloc (tb := tb) rfl rfl ?_; intro _) | (apply kBs; refine JO_buildSlice (tb := tb) rfl rfl rfl rfl rfl rfl rfl rfl rfl ?_; intro _) | (apply kM; refine JO_make (tb := tb) rfl rfl rfl rfl rfl rfl (by omega) rfl ?_; intro _) | refine aO ?_) | (apply gJR; first | apply JR_un | apply JR_nil | refine JR_yes rfl rfl ?_ | refine JR_no rfl rfl rfl rfl ?_ | refine JR_noU rfl rfl rfl ?_) | (apply gJS; first | apply JS_seq | apply JS_region | apply JS_skip | apply JS_block | apply JS_inBlock | apply JS_label | refine JS_exit rfl ?_ | refine JS_condT rfl ?_ | refine JS_condF rfl ?_ | refine JS_draw [0] (by kernel_rfl) (by kernel_rfl) (by decide +kernel) ?_ | refine JS_draw [] (by kernel_rfl) (by kernel_rfl) (by decide +kernel) ?_ | refine JS_cond_T rfl (by omega) ?_ | refine JS_cond_F rfl (by omega) ?_) | (apply gQR; first | apply QR_un | apply QR_nil | refine QR_yes rfl rfl ?_ | refine QR_no rfl rfl rfl rfl ?_ | refine QR_noU rfl rfl rfl ?_) | (apply gQO; first | refine aQ ?_ | refine aQK rfl ?_))
  refine JO_call Try.call25 rfl rfl fun w hw => (Base_c i (by omega) w hw).mono ?_
  rintro e w' ⟨rfl, hw'⟩
  refine ⟨_, rfl, _, hw', ?_⟩
  clear hw' hw w w'
  by_cases hb0 : (lbase i).1 = 0
  · rw [if_pos hb0] at hF
    generalize lbase i = lb at *
    repeat (first | (apply gJO; first | (apply kS; refine aK ?_) | (apply kX; refine JO_box rfl rfl rfl ?_; intro _) | (apply kA; refine JO_alloc (tb := tb) rfl rfl ?_; intro _) | (apply kBs; refine JO_buildSlice (tb := tb) rfl rfl rfl rfl rfl rfl rfl rfl rfl ?_; intro _) | (apply kM; refine JO_make (tb := tb) rfl rfl rfl rfl rfl rfl (by omega) rfl ?_; intro _) | refine aO ?_) | (apply gJR; first | apply JR_un | apply JR_nil | refine JR_yes rfl rfl ?_ | refine JR_no rfl rfl rfl rfl ?_ | refine JR_noU rfl rfl rfl ?_) | (apply gJS; first | apply JS_seq | apply JS_region | apply JS_skip | apply JS_block | apply JS_inBlock | apply JS_label | refine JS_exit rfl ?_ | refine JS_condT rfl ?_ | refine JS_condF rfl ?_ | refine JS_draw [0] (by kernel_rfl) (by kernel_rfl) (by decide +kernel) ?_ | refine JS_draw [] (by kernel_rfl) (by kernel_rfl) (by decide +kernel) ?_ | refine JS_cond_T rfl (by omega) ?_ | refine JS_cond_F rfl (by omega) ?_) | (apply gQR; first | apply QR_un | apply QR_nil | refine QR_yes rfl rfl ?_ | refine QR_no rfl rfl rfl rfl ?_ | refine QR_noU rfl rfl rfl ?_) | (apply gQO; first | refine aQ ?_ | refine aQK rfl ?_))
    refine JO_callE Try.func78 Try.call56 rfl rfl fun A hA w hw => (Give_c 62 w hw).mono ?_
    rintro e w' (⟨h, rfl, hw'⟩ | ⟨_, rfl, hw'⟩)
    · exact absurd h (by decide)
    · exact .inr ⟨_, rfl, .err 62, hinv _ (.err hF), rfl, infL_drop hw'⟩
  rw [if_neg hb0] at hF
  obtain ⟨_, _, c1, c2, c3, c4⟩ := lbase_ok hb0
  obtain ⟨⟨lb1, lb2⟩, hlb⟩ : ∃ x, lbase i = x := ⟨_, rfl⟩
  rw [hlb] at hF hb0 c1 c2 c3 c4 ⊢
  simp only at hF hb0 c1 c2 c3 c4 ⊢
  obtain ⟨k1, rfl⟩ : ∃ k : Nat, lb2 = k := ⟨lb2.toNat, by omega⟩
  simp only [Int.toNat_natCast] at hF
  obtain ⟨hn0, hn1⟩ := nbt_bd (bitB B 0) (bitB_01 B 0) a2 k1
  have hp1 := (pw16 5 (by omega)).2
  have hp1 : (2 : Int) ^ k1 ≤ 32 := by
    have : ∀ k : Fin 6, (2 : Int) ^ k.val ≤ 32 := by decide
    exact this ⟨k1, by omega⟩
  obtain ⟨n1, hn1e⟩ := Int.eq_ofNat_of_zero_le hn0
  rw [hn1e] at hF hn1
  repeat (first | (apply gJO; first | (apply kS; refine aK ?_) | (apply kX; refine JO_box rfl rfl rfl ?_; intro _) | (apply kA; refine JO_alloc (tb := tb) rfl rfl ?_; intro _) | (apply kBs; refine JO_buildSlice (tb := tb) rfl rfl rfl rfl rfl rfl rfl rfl rfl ?_; intro _) | (apply kM; refine JO_make (tb := tb) rfl rfl rfl rfl rfl rfl (by omega) rfl ?_; intro _) | refine aO ?_) | (apply gJR; first | apply JR_un | apply JR_nil | refine JR_yes rfl rfl ?_ | refine JR_no rfl rfl rfl rfl ?_ | refine JR_noU rfl rfl rfl ?_) | (apply gJS; first | apply JS_seq | apply JS_region | apply JS_skip | apply JS_block | apply JS_inBlock | apply JS_label | refine JS_exit rfl ?_ | refine JS_condT rfl ?_ | refine JS_condF rfl ?_ | refine JS_draw [0] (by kernel_rfl) (by kernel_rfl) (by decide +kernel) ?_ | refine JS_draw [] (by kernel_rfl) (by kernel_rfl) (by decide +kernel) ?_ | refine JS_cond_T rfl (by omega) ?_ | refine JS_cond_F rfl (by omega) ?_) | (apply gQR; first | apply QR_un | apply QR_nil | refine QR_yes rfl rfl ?_ | refine QR_no rfl rfl rfl rfl ?_ | refine QR_noU rfl rfl rfl ?_) | (apply gQO; first | refine aQ ?_ | refine aQK rfl ?_))
  refine JO_callE Try.func78 Try.call55 rfl rfl fun A hA w hw => (Grp_c hK a2 k1 (by omega) ha2 w hw).mono ?_
  rintro e w' (⟨h, rfl, hw'⟩ | ⟨h1, he, hw'⟩)
  · exact .inr ⟨_, rfl, .err 20, hinv _ (.err (by rw [hF, if_pos h])), rfl, hw'⟩
  rw [hn1e] at he; subst he
  refine .inl ⟨_, rfl, _, hw', ?_⟩
  clear hw' hw w w' hA A
  rw [if_neg (by omega)] at hF
  obtain ⟨ln, hln⟩ : ∃ ln : Nat, lb1 + (n1 : Int) = ln := ⟨(lb1 + (n1 : Int)).toNat, by omega⟩
  rw [hln] at hF
  repeat (first | (apply gJO; first | (apply kS; refine aK ?_) | (apply kX; refine JO_box rfl rfl rfl ?_; intro _) | (apply kA; refine JO_alloc (tb := tb) rfl rfl ?_; intro _) | (apply kBs; refine JO_buildSlice (tb := tb) rfl rfl rfl rfl rfl rfl rfl rfl rfl ?_; intro _) | (apply kM; refine JO_make (tb := tb) rfl rfl rfl rfl rfl rfl (by omega) rfl ?_; intro _) | refine aO ?_) | (apply gJR; first | apply JR_un | apply JR_nil | refine JR_yes rfl rfl ?_ | refine JR_no rfl rfl rfl rfl ?_ | refine JR_noU rfl rfl rfl ?_) | (apply gJS; first | apply JS_seq | apply JS_region | apply JS_skip | apply JS_block | apply JS_inBlock | apply JS_label | refine JS_exit rfl ?_ | refine JS_condT rfl ?_ | refine JS_condF rfl ?_ | refine JS_draw [0] (by kernel_rfl) (by kernel_rfl) (by decide +kernel) ?_ | refine JS_draw [] (by kernel_rfl) (by kernel_rfl) (by decide +kernel) ?_ | refine JS_cond_T rfl (by omega) ?_ | refine JS_cond_F rfl (by omega) ?_) | (apply gQR; first | apply QR_un | apply QR_nil | refine QR_yes rfl rfl ?_ | refine QR_no rfl rfl rfl rfl ?_ | refine QR_noU rfl rfl rfl ?_) | (apply gQO; first | refine aQ ?_ | refine aQK rfl ?_))
  refine JO_callE Try.func78 Try.call95 rfl rfl fun A hA w hw => (Sym_c hK (a2 + k1) h1 b2 D hs2 w hw).mono ?_
  intro e w' h
  unfold symP at h
  cases hsy2 : symS (bitB B 0) (8 * m) D (a2 + k1) with
  | err r =>
    rw [hsy2] at h
    obtain ⟨rfl, hw'⟩ := h
    exact .inr ⟨_, rfl, .err r, hinv _ (.err (by rw [hF]; unfold blk2; rw [hsy2])), rfl, hw'⟩
  | ok dd a3 =>
  rw [hsy2] at h
  obtain ⟨hd0, hdD, ha23, ha3, rfl, hw'⟩ := h
  refine .inl ⟨_, rfl, _, hw', ?_⟩
  clear hw' hw w w' hA A
  have hF2 : blk2 (bitB B 0) (8 * m) lim D o1 ln (a2 + k1) = if (lfar dd).1 = 0 then .err 62
    else if 8 * m < a3 + (lfar dd).2.toNat then .err 20
    else if (o1.length : Int) < (lfar dd).1 + nbt (bitB B 0) a3 (lfar dd).2.toNat then .err 63
    else if (lim : Int) - o1.length < ln then .err 64
    else .go (a3 + (lfar dd).2.toNat) (cpy o1 ((lfar dd).1 + nbt (bitB B 0) a3 (lfar dd).2.toNat).toNat (ln : Int).toNat) := by unfold blk2; rw [hsy2]
  rw [hF2] at hF
  clear hF2
  repeat (first | (apply gJO; first | (apply kS; refine aK ?_) | (apply kX; refine JO_box rfl rfl rfl ?_; intro _) | (apply kA; refine JO_alloc (tb := tb) rfl rfl ?_; intro _) | (apply kBs; refine JO_buildSlice (tb := tb) rfl rfl rfl rfl rfl rfl rfl rfl rfl ?_; intro _) | (apply kM; refine JO_make (tb := tb) rfl rfl rfl rfl rfl rfl (by omega) rfl ?_; intro _) | refine aO ?_) | (apply gJR; first | apply JR_un | apply JR_nil | refine JR_yes rfl rfl ?_ | refine JR_no rfl rfl rfl rfl ?_ | refine JR_noU rfl rfl rfl ?_) | (apply gJS; first | apply JS_seq | apply JS_region | apply JS_skip | apply JS_block | apply JS_inBlock | apply JS_label | refine JS_exit rfl ?_ | refine JS_condT rfl ?_ | refine JS_condF rfl ?_ | refine JS_draw [0] (by kernel_rfl) (by kernel_rfl) (by decide +kernel) ?_ | refine JS_draw [] (by kernel_rfl) (by kernel_rfl) (by decide +kernel) ?_ | refine JS_cond_T rfl (by omega) ?_ | refine JS_cond_F rfl (by omega) ?_) | (apply gQR; first | apply QR_un | apply QR_nil | refine QR_yes rfl rfl ?_ | refine QR_no rfl rfl rfl rfl ?_ | refine QR_noU rfl rfl rfl ?_) | (apply gQO; first | refine aQ ?_ | refine aQK rfl ?_))
  refine JO_call Try.call26 rfl rfl fun w hw => (Far_c dd (by omega) w hw).mono ?_
  rintro e w' ⟨rfl, hw'⟩
  refine ⟨_, rfl, _, hw', ?_⟩
  clear hw' hw w w'
  by_cases hf0 : (lfar dd).1 = 0
  · rw [if_pos hf0] at hF
    generalize lfar dd = lf at *
    repeat (first | (apply gJO; first | (apply kS; refine aK ?_) | (apply kX; refine JO_box rfl rfl rfl ?_; intro _) | (apply kA; refine JO_alloc (tb := tb) rfl rfl ?_; intro _) | (apply kBs; refine JO_buildSlice (tb := tb) rfl rfl rfl rfl rfl rfl rfl rfl rfl ?_; intro _) | (apply kM; refine JO_make (tb := tb) rfl rfl rfl rfl rfl rfl (by omega) rfl ?_; intro _) | refine aO ?_) | (apply gJR; first | apply JR_un | apply JR_nil | refine JR_yes rfl rfl ?_ | refine JR_no rfl rfl rfl rfl ?_ | refine JR_noU rfl rfl rfl ?_) | (apply gJS; first | apply JS_seq | apply JS_region | apply JS_skip | apply JS_block | apply JS_inBlock | apply JS_label | refine JS_exit rfl ?_ | refine JS_condT rfl ?_ | refine JS_condF rfl ?_ | refine JS_draw [0] (by kernel_rfl) (by kernel_rfl) (by decide +kernel) ?_ | refine JS_draw [] (by kernel_rfl) (by kernel_rfl) (by decide +kernel) ?_ | refine JS_cond_T rfl (by omega) ?_ | refine JS_cond_F rfl (by omega) ?_) | (apply gQR; first | apply QR_un | apply QR_nil | refine QR_yes rfl rfl ?_ | refine QR_no rfl rfl rfl rfl ?_ | refine QR_noU rfl rfl rfl ?_) | (apply gQO; first | refine aQ ?_ | refine aQK rfl ?_))
    refine JO_callE Try.func78 Try.call56 rfl rfl fun A hA w hw => (Give_c 62 w hw).mono ?_
    rintro e w' (⟨h, rfl, hw'⟩ | ⟨_, rfl, hw'⟩)
    · exact absurd h (by decide)
    · exact .inr ⟨_, rfl, .err 62, hinv _ (.err hF), rfl, infL_drop hw'⟩
  rw [if_neg hf0] at hF
  obtain ⟨_, _, d1, d2, d3, d4⟩ := lfar_ok hf0
  obtain ⟨⟨lf1, lf2⟩, hlf⟩ : ∃ x, lfar dd = x := ⟨_, rfl⟩
  rw [hlf] at hF hf0 d1 d2 d3 d4 ⊢
  simp only at hF hf0 d1 d2 d3 d4 ⊢
  obtain ⟨k2, rfl⟩ : ∃ k : Nat, lf2 = k := ⟨lf2.toNat, by omega⟩
  simp only [Int.toNat_natCast] at hF
  obtain ⟨hm0, hm1'⟩ := nbt_bd (bitB B 0) (bitB_01 B 0) a3 k2
  have hp2 : (2 : Int) ^ k2 ≤ 8192 := by
    have : ∀ k : Fin 14, (2 : Int) ^ k.val ≤ 8192 := by decide
    exact this ⟨k2, by omega⟩
  obtain ⟨n2, hn2e⟩ := Int.eq_ofNat_of_zero_le hm0
  rw [hn2e] at hF hm1'
  repeat (first | (apply gJO; first | (apply kS; refine aK ?_) | (apply kX; refine JO_box rfl rfl rfl ?_; intro _) | (apply kA; refine JO_alloc (tb := tb) rfl rfl ?_; intro _) | (apply kBs; refine JO_buildSlice (tb := tb) rfl rfl rfl rfl rfl rfl rfl rfl rfl ?_; intro _) | (apply kM; refine JO_make (tb := tb) rfl rfl rfl rfl rfl rfl (by omega) rfl ?_; intro _) | refine aO ?_) | (apply gJR; first | apply JR_un | apply JR_nil | refine JR_yes rfl rfl ?_ | refine JR_no rfl rfl rfl rfl ?_ | refine JR_noU rfl rfl rfl ?_) | (apply gJS; first | apply JS_seq | apply JS_region | apply JS_skip | apply JS_block | apply JS_inBlock | apply JS_label | refine JS_exit rfl ?_ | refine JS_condT rfl ?_ | refine JS_condF rfl ?_ | refine JS_draw [0] (by kernel_rfl) (by kernel_rfl) (by decide +kernel) ?_ | refine JS_draw [] (by kernel_rfl) (by kernel_rfl) (by decide +kernel) ?_ | refine JS_cond_T rfl (by omega) ?_ | refine JS_cond_F rfl (by omega) ?_) | (apply gQR; first | apply QR_un | apply QR_nil | refine QR_yes rfl rfl ?_ | refine QR_no rfl rfl rfl rfl ?_ | refine QR_noU rfl rfl rfl ?_) | (apply gQO; first | refine aQ ?_ | refine aQK rfl ?_))
  refine JO_callE Try.func78 Try.call55 rfl rfl fun A hA w hw => (Grp_c hK a3 k2 (by omega) ha3 w hw).mono ?_
  rintro e w' (⟨h, rfl, hw'⟩ | ⟨h2, he, hw'⟩)
  · exact .inr ⟨_, rfl, .err 20, hinv _ (.err (by rw [hF, if_pos h])), rfl, hw'⟩
  rw [hn2e] at he; subst he
  refine .inl ⟨_, rfl, _, hw', ?_⟩
  clear hw' hw w w' hA A
  rw [if_neg (by omega)] at hF
  obtain ⟨bk, hbk⟩ : ∃ bk : Nat, lf1 + (n2 : Int) = bk := ⟨(lf1 + (n2 : Int)).toNat, by omega⟩
  rw [hbk, Int.toNat_natCast] at hF
  repeat (first | (apply gJO; first | (apply kS; refine aK ?_) | (apply kX; refine JO_box rfl rfl rfl ?_; intro _) | (apply kA; refine JO_alloc (tb := tb) rfl rfl ?_; intro _) | (apply kBs; refine JO_buildSlice (tb := tb) rfl rfl rfl rfl rfl rfl rfl rfl rfl ?_; intro _) | (apply kM; refine JO_make (tb := tb) rfl rfl rfl rfl rfl rfl (by omega) rfl ?_; intro _) | refine aO ?_) | (apply gJR; first | apply JR_un | apply JR_nil | refine JR_yes rfl rfl ?_ | refine JR_no rfl rfl rfl rfl ?_ | refine JR_noU rfl rfl rfl ?_) | (apply gJS; first | apply JS_seq | apply JS_region | apply JS_skip | apply JS_block | apply JS_inBlock | apply JS_label | refine JS_exit rfl ?_ | refine JS_condT rfl ?_ | refine JS_condF rfl ?_ | refine JS_draw [0] (by kernel_rfl) (by kernel_rfl) (by decide +kernel) ?_ | refine JS_draw [] (by kernel_rfl) (by kernel_rfl) (by decide +kernel) ?_ | refine JS_cond_T rfl (by omega) ?_ | refine JS_cond_F rfl (by omega) ?_) | (apply gQR; first | apply QR_un | apply QR_nil | refine QR_yes rfl rfl ?_ | refine QR_no rfl rfl rfl rfl ?_ | refine QR_noU rfl rfl rfl ?_) | (apply gQO; first | refine aQ ?_ | refine aQK rfl ?_))
  simp only [hln, hbk]
  refine JO_callE Try.func78 Try.call96 rfl rfl fun A hA w hw => (Again_c hK (a3 + k2) ln bk (by omega) ho1 (by omega) (by omega) w hw).mono ?_
  rintro e w' (⟨h, rfl, hw'⟩ | ⟨h, h', rfl, hw'⟩ | ⟨h, h', rfl, p', c', hw'⟩)
  · exact .inr ⟨_, rfl, .err 63, hinv _ (.err (by rw [hF, if_pos (by omega)])), rfl, hw'⟩
  · exact .inr ⟨_, rfl, .err 64, hinv _ (.err (by rw [hF, if_neg (by omega), if_pos h'])), rfl, hw'⟩
  refine .inl ⟨_, rfl, _, hw', ?_⟩
  clear hw' hw w w' hA A
  rw [if_neg (by omega), if_neg h'] at hF
  repeat (first | (apply gJO; first | (apply kS; refine aK ?_) | (apply kX; refine JO_box rfl rfl rfl ?_; intro _) | (apply kA; refine JO_alloc (tb := tb) rfl rfl ?_; intro _) | (apply kBs; refine JO_buildSlice (tb := tb) rfl rfl rfl rfl rfl rfl rfl rfl rfl ?_; intro _) | (apply kM; refine JO_make (tb := tb) rfl rfl rfl rfl rfl rfl (by omega) rfl ?_; intro _) | refine aO ?_) | (apply gJR; first | apply JR_un | apply JR_nil | refine JR_yes rfl rfl ?_ | refine JR_no rfl rfl rfl rfl ?_ | refine JR_noU rfl rfl rfl ?_) | (apply gJS; first | apply JS_seq | apply JS_region | apply JS_skip | apply JS_block | apply JS_inBlock | apply JS_label | refine JS_exit rfl ?_ | refine JS_condT rfl ?_ | refine JS_condF rfl ?_ | refine JS_draw [0] (by kernel_rfl) (by kernel_rfl) (by decide +kernel) ?_ | refine JS_draw [] (by kernel_rfl) (by kernel_rfl) (by decide +kernel) ?_ | refine JS_cond_T rfl (by omega) ?_ | refine JS_cond_F rfl (by omega) ?_) | (apply gQR; first | apply QR_un | apply QR_nil | refine QR_yes rfl rfl ?_ | refine QR_no rfl rfl rfl rfl ?_ | refine QR_noU rfl rfl rfl ?_) | (apply gQO; first | refine aQ ?_ | refine aQK rfl ?_))
  exact JS_again4 again (a3 + k2) (cpy o1 bk ln) p' c' ⟨h2, by rw [cpy_len]; omega, fun r hr => hinv r (.go hF hr)⟩ (by omega) (by exact ⟨rfl, rfl, rfl, trivial⟩) (fun w hw => hw)
end
end Go.Proofs.Ytakgoflfcgofdaa
