import Derived.Test.YtjadcaoobnklcaaW6
import Derived.Test.YtjadcaoobnklcaaW10
namespace Go.Proofs.Ytjadcaoobnklcaa
open Sx Go
set_option linter.unusedVariables false
set_option linter.unusedSimpArgs false
theorem Check_c {w0 : World} {H : List Asn} (a b : Int) (ha : 0 ≤ a ∧ a < 18446744073709551616) (hb : 0 ≤ b ∧ b < 18446744073709551616) (w : World) (hw : St w0 H w) :
    Calls Try.prog 41 #[.int .u64 a, .int .u64 b] w fun e w' => ∃ r, e = .returned (.int .i64 r) ∧ St w0 H w' ∧ (((b = 0 ∨ b < a) ∧ r = 7) ∨ (0 < b ∧ a ≤ b ∧ r = 0)) := by
  refine enter (vs := [.int .u64 a, .int .u64 b]) Try.func41 rfl rfl rfl hw ?_
  by_cases h0 : b = 0
  · repeat (first | (apply gJO; first | (apply kS; refine aK ?_) | (apply kX; refine JO_box rfl rfl rfl ?_; intro _) | (apply kA; refine JO_alloc (tb := tb) rfl rfl ?_; intro _) | (apply kBs; refine JO_buildSlice (tb := tb) rfl rfl rfl rfl rfl rfl rfl rfl rfl ?_; intro _) | (apply kM; refine JO_make (tb := tb) rfl rfl rfl rfl rfl rfl (by omega) rfl ?_; intro _) | refine aO ?_) | (apply gJR; first | apply JR_un | apply JR_nil | refine JR_yes rfl rfl ?_ | refine JR_no rfl rfl rfl rfl ?_ | refine JR_noU rfl rfl rfl ?_) | (apply gJS; first | apply JS_seq | apply JS_region | apply JS_skip | apply JS_block | apply JS_inBlock | apply JS_label | refine JS_exit rfl ?_ | refine JS_condT rfl ?_ | refine JS_condF rfl ?_ | refine JS_draw [0] (by kernel_rfl) (by kernel_rfl) (by decide +kernel) ?_ | refine JS_draw [] (by kernel_rfl) (by kernel_rfl) (by decide +kernel) ?_ | refine JS_cond_T rfl (by omega) ?_ | refine JS_cond_F rfl (by omega) ?_) | (apply gQR; first | apply QR_un | apply QR_nil | refine QR_yes rfl rfl ?_ | refine QR_no rfl rfl rfl rfl ?_ | refine QR_noU rfl rfl rfl ?_) | (apply gQO; first | refine aQ ?_ | refine aQK rfl ?_))
    refine JS_ret Try.func41 rfl rfl ?_
    intro w hw
    exact ⟨_, rfl, hw, by omega⟩
  by_cases h1 : b < a
  · repeat (first | (apply gJO; first | (apply kS; refine aK ?_) | (apply kX; refine JO_box rfl rfl rfl ?_; intro _) | (apply kA; refine JO_alloc (tb := tb) rfl rfl ?_; intro _) | (apply kBs; refine JO_buildSlice (tb := tb) rfl rfl rfl rfl rfl rfl rfl rfl rfl ?_; intro _) | (apply kM; refine JO_make (tb := tb) rfl rfl rfl rfl rfl rfl (by omega) rfl ?_; intro _) | refine aO ?_) | (apply gJR; first | apply JR_un | apply JR_nil | refine JR_yes rfl rfl ?_ | refine JR_no rfl rfl rfl rfl ?_ | refine JR_noU rfl rfl rfl ?_) | (apply gJS; first | apply JS_seq | apply JS_region | apply JS_skip | apply JS_block | apply JS_inBlock | apply JS_label | refine JS_exit rfl ?_ | refine JS_condT rfl ?_ | refine JS_condF rfl ?_ | refine JS_draw [0] (by kernel_rfl) (by kernel_rfl) (by decide +kernel) ?_ | refine JS_draw [] (by kernel_rfl) (by kernel_rfl) (by decide +kernel) ?_ | refine JS_cond_T rfl (by omega) ?_ | refine JS_cond_F rfl (by omega) ?_) | (apply gQR; first | apply QR_un | apply QR_nil | refine QR_yes rfl rfl ?_ | refine QR_no rfl rfl rfl rfl ?_ | refine QR_noU rfl rfl rfl ?_) | (apply gQO; first | refine aQ ?_ | refine aQK rfl ?_))
    refine JS_ret Try.func41 rfl rfl ?_
    intro w hw
    exact ⟨_, rfl, hw, by omega⟩
  · repeat (first | (apply gJO; first | (apply kS; refine aK ?_) | (apply kX; refine JO_box rfl rfl rfl ?_; intro _) | (apply kA; refine JO_alloc (tb := tb) rfl rfl ?_; intro _) | (apply kBs; refine JO_buildSlice (tb := tb) rfl rfl rfl rfl rfl rfl rfl rfl rfl ?_; intro _) | (apply kM; refine JO_make (tb := tb) rfl rfl rfl rfl rfl rfl (by omega) rfl ?_; intro _) | refine aO ?_) | (apply gJR; first | apply JR_un | apply JR_nil | refine JR_yes rfl rfl ?_ | refine JR_no rfl rfl rfl rfl ?_ | refine JR_noU rfl rfl rfl ?_) | (apply gJS; first | apply JS_seq | apply JS_region | apply JS_skip | apply JS_block | apply JS_inBlock | apply JS_label | refine JS_exit rfl ?_ | refine JS_condT rfl ?_ | refine JS_condF rfl ?_ | refine JS_draw [0] (by kernel_rfl) (by kernel_rfl) (by decide +kernel) ?_ | refine JS_draw [] (by kernel_rfl) (by kernel_rfl) (by decide +kernel) ?_ | refine JS_cond_T rfl (by omega) ?_ | refine JS_cond_F rfl (by omega) ?_) | (apply gQR; first | apply QR_un | apply QR_nil | refine QR_yes rfl rfl ?_ | refine QR_no rfl rfl rfl rfl ?_ | refine QR_noU rfl rfl rfl ?_) | (apply gQO; first | refine aQ ?_ | refine aQK rfl ?_))
    refine JS_ret Try.func41 rfl rfl ?_
    intro w hw
    exact ⟨_, rfl, hw, by omega⟩
theorem RCheck_c {w0 : World} {H : List Asn} (a b : Int) (ha : 0 ≤ a ∧ a < 18446744073709551616) (hb : 0 ≤ b ∧ b < 18446744073709551616) (w : World) (hw : St w0 H w) :
    Calls Try.prog 33 #[.int .u64 a, .int .u64 b] w fun e w' => ∃ r, e = .returned (.int .i64 r) ∧ St w0 H w' ∧ (((b = 0 ∨ b < a) ∧ r = 7) ∨ (0 < b ∧ a ≤ b ∧ r = 0)) := by
  refine enter (vs := [.int .u64 a, .int .u64 b]) Try.func33 rfl rfl rfl hw ?_
  by_cases h0 : b = 0
  · repeat (first | (apply gJO; first | (apply kS; refine aK ?_) | (apply kX; refine JO_box rfl rfl rfl ?_; intro _) | (apply kA; refine JO_alloc (tb := tb) rfl rfl ?_; intro _) | (apply kBs; refine JO_buildSlice (tb := tb) rfl rfl rfl rfl rfl rfl rfl rfl rfl ?_; intro _) | (apply kM; refine JO_make (tb := tb) rfl rfl rfl rfl rfl rfl (by omega) rfl ?_; intro _) | refine aO ?_) | (apply gJR; first | apply JR_un | apply JR_nil | refine JR_yes rfl rfl ?_ | refine JR_no rfl rfl rfl rfl ?_ | refine JR_noU rfl rfl rfl ?_) | (apply gJS; first | apply JS_seq | apply JS_region | apply JS_skip | apply JS_block | apply JS_inBlock | apply JS_label | refine JS_exit rfl ?_ | refine JS_condT rfl ?_ | refine JS_condF rfl ?_ | refine JS_draw [0] (by kernel_rfl) (by kernel_rfl) (by decide +kernel) ?_ | refine JS_draw [] (by kernel_rfl) (by kernel_rfl) (by decide +kernel) ?_ | refine JS_cond_T rfl (by omega) ?_ | refine JS_cond_F rfl (by omega) ?_) | (apply gQR; first | apply QR_un | apply QR_nil | refine QR_yes rfl rfl ?_ | refine QR_no rfl rfl rfl rfl ?_ | refine QR_noU rfl rfl rfl ?_) | (apply gQO; first | refine aQ ?_ | refine aQK rfl ?_))
    refine JS_ret Try.func33 rfl rfl ?_
    intro w hw
    exact ⟨_, rfl, hw, by omega⟩
  by_cases h1 : b < a
  · repeat (first | (apply gJO; first | (apply kS; refine aK ?_) | (apply kX; refine JO_box rfl rfl rfl ?_; intro _) | (apply kA; refine JO_alloc (tb := tb) rfl rfl ?_; intro _) | (apply kBs; refine JO_buildSlice (tb := tb) rfl rfl rfl rfl rfl rfl rfl rfl rfl ?_; intro _) | (apply kM; refine JO_make (tb := tb) rfl rfl rfl rfl rfl rfl (by omega) rfl ?_; intro _) | refine aO ?_) | (apply gJR; first | apply JR_un | apply JR_nil | refine JR_yes rfl rfl ?_ | refine JR_no rfl rfl rfl rfl ?_ | refine JR_noU rfl rfl rfl ?_) | (apply gJS; first | apply JS_seq | apply JS_region | apply JS_skip | apply JS_block | apply JS_inBlock | apply JS_label | refine JS_exit rfl ?_ | refine JS_condT rfl ?_ | refine JS_condF rfl ?_ | refine JS_draw [0] (by kernel_rfl) (by kernel_rfl) (by decide +kernel) ?_ | refine JS_draw [] (by kernel_rfl) (by kernel_rfl) (by decide +kernel) ?_ | refine JS_cond_T rfl (by omega) ?_ | refine JS_cond_F rfl (by omega) ?_) | (apply gQR; first | apply QR_un | apply QR_nil | refine QR_yes rfl rfl ?_ | refine QR_no rfl rfl rfl rfl ?_ | refine QR_noU rfl rfl rfl ?_) | (apply gQO; first | refine aQ ?_ | refine aQK rfl ?_))
    refine JS_ret Try.func33 rfl rfl ?_
    intro w hw
    exact ⟨_, rfl, hw, by omega⟩
  · repeat (first | (apply gJO; first | (apply kS; refine aK ?_) | (apply kX; refine JO_box rfl rfl rfl ?_; intro _) | (apply kA; refine JO_alloc (tb := tb) rfl rfl ?_; intro _) | (apply kBs; refine JO_buildSlice (tb := tb) rfl rfl rfl rfl rfl rfl rfl rfl rfl ?_; intro _) | (apply kM; refine JO_make (tb := tb) rfl rfl rfl rfl rfl rfl (by omega) rfl ?_; intro _) | refine aO ?_) | (apply gJR; first | apply JR_un | apply JR_nil | refine JR_yes rfl rfl ?_ | refine JR_no rfl rfl rfl rfl ?_ | refine JR_noU rfl rfl rfl ?_) | (apply gJS; first | apply JS_seq | apply JS_region | apply JS_skip | apply JS_block | apply JS_inBlock | apply JS_label | refine JS_exit rfl ?_ | refine JS_condT rfl ?_ | refine JS_condF rfl ?_ | refine JS_draw [0] (by kernel_rfl) (by kernel_rfl) (by decide +kernel) ?_ | refine JS_draw [] (by kernel_rfl) (by kernel_rfl) (by decide +kernel) ?_ | refine JS_cond_T rfl (by omega) ?_ | refine JS_cond_F rfl (by omega) ?_) | (apply gQR; first | apply QR_un | apply QR_nil | refine QR_yes rfl rfl ?_ | refine QR_no rfl rfl rfl rfl ?_ | refine QR_noU rfl rfl rfl ?_) | (apply gQO; first | refine aQ ?_ | refine aQK rfl ?_))
    refine JS_ret Try.func33 rfl rfl ?_
    intro w hw
    exact ⟨_, rfl, hw, by omega⟩
/-- the rank, of a quotient and what is left -/
def RV (q l v : Int) : Prop := (l = 0 ∧ q = 0 ∧ v = 1) ∨ (l = 0 ∧ q ≠ 0 ∧ v = q) ∨ (l ≠ 0 ∧ v = q + 1)
theorem RV_fun {q l v v' : Int} (h : RV q l v) (h' : RV q l v') : v = v' := by unfold RV at *; omega
def RK (a b n v r : Int) : Prop := ((b = 0 ∨ b < a) ∧ v = 0 ∧ r = 7) ∨ (0 < b ∧ a ≤ b ∧ n = 0 ∧ v = 0 ∧ r = 8) ∨ (0 < b ∧ a ≤ b ∧ n ≠ 0 ∧ r = 0 ∧ RV (a * n / b) (a * n % b) v)
/-- a part of n is no more than n -/
theorem part_bd {a b n : Int} (ha : 0 ≤ a) (hb : 0 < b) (hab : a ≤ b) (hn : 0 ≤ n) : 0 ≤ a * n / b ∧ a * n / b ≤ n ∧ (a * n % b ≠ 0 → a * n / b < n) := by
  have h0 : 0 ≤ a * n := Int.mul_nonneg ha hn
  have h1 : a * n ≤ b * n := Int.mul_le_mul_of_nonneg_right hab hn
  have h2 : b * n / b = n := Int.mul_ediv_cancel_left n (Int.ne_of_gt hb)
  have h3 := Int.ediv_le_ediv hb h1
  refine ⟨Int.ediv_nonneg h0 (Int.le_of_lt hb), by omega, fun h => ?_⟩
  have h4 := Int.mul_ediv_add_emod (a * n) b
  have h5 := Int.emod_nonneg (a * n) (Int.ne_of_gt hb)
  rcases Int.lt_or_le (a * n / b) n with h6 | h6
  · exact h6
  · have := Int.mul_le_mul_of_nonneg_left h6 (Int.le_of_lt hb)
    omega
set_option maxHeartbeats 1000000 in
theorem Rank_c {w0 : World} {H : List Asn} (a b n : Int) (ha : 0 ≤ a ∧ a < 18446744073709551616) (hb : 0 ≤ b ∧ b < 18446744073709551616) (hn : 0 ≤ n ∧ n < 18446744073709551616) (w : World) (hw : St w0 H w) :
    Calls Try.prog 39 #[.int .u64 a, .int .u64 b, .int .u64 n] w fun e w' => ∃ v r, e = .returned (.tuple #[.int .u64 v, .int .i64 r]) ∧ St w0 H w' ∧ RK a b n v r := by
  refine enter (vs := [.int .u64 a, .int .u64 b, .int .u64 n]) Try.func39 rfl rfl rfl hw ?_
  repeat (first | (apply gJO; first | (apply kS; refine aK ?_) | (apply kX; refine JO_box rfl rfl rfl ?_; intro _) | (apply kA; refine JO_alloc (tb := tb) rfl rfl ?_; intro _) | (apply kBs; refine JO_buildSlice (tb := tb) rfl rfl rfl rfl rfl rfl rfl rfl rfl ?_; intro _) | (apply kM; refine JO_make (tb := tb) rfl rfl rfl rfl rfl rfl (by omega) rfl ?_; intro _) | refine aO ?_) | (apply gJR; first | apply JR_un | apply JR_nil | refine JR_yes rfl rfl ?_ | refine JR_no rfl rfl rfl rfl ?_ | refine JR_noU rfl rfl rfl ?_) | (apply gJS; first | apply JS_seq | apply JS_region | apply JS_skip | apply JS_block | apply JS_inBlock | apply JS_label | refine JS_exit rfl ?_ | refine JS_condT rfl ?_ | refine JS_condF rfl ?_ | refine JS_draw [0] (by kernel_rfl) (by kernel_rfl) (by decide +kernel) ?_ | refine JS_draw [] (by kernel_rfl) (by kernel_rfl) (by decide +kernel) ?_ | refine JS_cond_T rfl (by omega) ?_ | refine JS_cond_F rfl (by omega) ?_) | (apply gQR; first | apply QR_un | apply QR_nil | refine QR_yes rfl rfl ?_ | refine QR_no rfl rfl rfl rfl ?_ | refine QR_noU rfl rfl rfl ?_) | (apply gQO; first | refine aQ ?_ | refine aQK rfl ?_))
  refine JO_call Try.call41 rfl rfl fun w hw => (Check_c a b ha hb w hw).mono ?_
  rintro e w' ⟨r, rfl, hw', h1⟩
  refine ⟨_, rfl, _, hw', ?_⟩
  clear hw' hw w w'
  rcases h1 with ⟨h1, rfl⟩ | ⟨h0, h1, rfl⟩
  · repeat (first | (apply gJO; first | (apply kS; refine aK ?_) | (apply kX; refine JO_box rfl rfl rfl ?_; intro _) | (apply kA; refine JO_alloc (tb := tb) rfl rfl ?_; intro _) | (apply kBs; refine JO_buildSlice (tb := tb) rfl rfl rfl rfl rfl rfl rfl rfl rfl ?_; intro _) | (apply kM; refine JO_make (tb := tb) rfl rfl rfl rfl rfl rfl (by omega) rfl ?_; intro _) | refine aO ?_) | (apply gJR; first | apply JR_un | apply JR_nil | refine JR_yes rfl rfl ?_ | refine JR_no rfl rfl rfl rfl ?_ | refine JR_noU rfl rfl rfl ?_) | (apply gJS; first | apply JS_seq | apply JS_region | apply JS_skip | apply JS_block | apply JS_inBlock | apply JS_label | refine JS_exit rfl ?_ | refine JS_condT rfl ?_ | refine JS_condF rfl ?_ | refine JS_draw [0] (by kernel_rfl) (by kernel_rfl) (by decide +kernel) ?_ | refine JS_draw [] (by kernel_rfl) (by kernel_rfl) (by decide +kernel) ?_ | refine JS_cond_T rfl (by omega) ?_ | refine JS_cond_F rfl (by omega) ?_) | (apply gQR; first | apply QR_un | apply QR_nil | refine QR_yes rfl rfl ?_ | refine QR_no rfl rfl rfl rfl ?_ | refine QR_noU rfl rfl rfl ?_) | (apply gQO; first | refine aQ ?_ | refine aQK rfl ?_))
    refine JS_ret Try.func39 rfl rfl ?_
    intro w hw
    exact ⟨_, _, rfl, hw, .inl ⟨h1, rfl, rfl⟩⟩
  by_cases hn0 : n = 0
  · repeat (first | (apply gJO; first | (apply kS; refine aK ?_) | (apply kX; refine JO_box rfl rfl rfl ?_; intro _) | (apply kA; refine JO_alloc (tb := tb) rfl rfl ?_; intro _) | (apply kBs; refine JO_buildSlice (tb := tb) rfl rfl rfl rfl rfl rfl rfl rfl rfl ?_; intro _) | (apply kM; refine JO_make (tb := tb) rfl rfl rfl rfl rfl rfl (by omega) rfl ?_; intro _) | refine aO ?_) | (apply gJR; first | apply JR_un | apply JR_nil | refine JR_yes rfl rfl ?_ | refine JR_no rfl rfl rfl rfl ?_ | refine JR_noU rfl rfl rfl ?_) | (apply gJS; first | apply JS_seq | apply JS_region | apply JS_skip | apply JS_block | apply JS_inBlock | apply JS_label | refine JS_exit rfl ?_ | refine JS_condT rfl ?_ | refine JS_condF rfl ?_ | refine JS_draw [0] (by kernel_rfl) (by kernel_rfl) (by decide +kernel) ?_ | refine JS_draw [] (by kernel_rfl) (by kernel_rfl) (by decide +kernel) ?_ | refine JS_cond_T rfl (by omega) ?_ | refine JS_cond_F rfl (by omega) ?_) | (apply gQR; first | apply QR_un | apply QR_nil | refine QR_yes rfl rfl ?_ | refine QR_no rfl rfl rfl rfl ?_ | refine QR_noU rfl rfl rfl ?_) | (apply gQO; first | refine aQ ?_ | refine aQK rfl ?_))
    refine JS_ret Try.func39 rfl rfl ?_
    intro w hw
    exact ⟨_, _, rfl, hw, .inr (.inl ⟨h0, h1, hn0, rfl, rfl⟩)⟩
  repeat (first | (apply gJO; first | (apply kS; refine aK ?_) | (apply kX; refine JO_box rfl rfl rfl ?_; intro _) | (apply kA; refine JO_alloc (tb := tb) rfl rfl ?_; intro _) | (apply kBs; refine JO_buildSlice (tb := tb) rfl rfl rfl rfl rfl rfl rfl rfl rfl ?_; intro _) | (apply kM; refine JO_make (tb := tb) rfl rfl rfl rfl rfl rfl (by omega) rfl ?_; intro _) | refine aO ?_) | (apply gJR; first | apply JR_un | apply JR_nil | refine JR_yes rfl rfl ?_ | refine JR_no rfl rfl rfl rfl ?_ | refine JR_noU rfl rfl rfl ?_) | (apply gJS; first | apply JS_seq | apply JS_region | apply JS_skip | apply JS_block | apply JS_inBlock | apply JS_label | refine JS_exit rfl ?_ | refine JS_condT rfl ?_ | refine JS_condF rfl ?_ | refine JS_draw [0] (by kernel_rfl) (by kernel_rfl) (by decide +kernel) ?_ | refine JS_draw [] (by kernel_rfl) (by kernel_rfl) (by decide +kernel) ?_ | refine JS_cond_T rfl (by omega) ?_ | refine JS_cond_F rfl (by omega) ?_) | (apply gQR; first | apply QR_un | apply QR_nil | refine QR_yes rfl rfl ?_ | refine QR_no rfl rfl rfl rfl ?_ | refine QR_noU rfl rfl rfl ?_) | (apply gQO; first | refine aQ ?_ | refine aQK rfl ?_))
  refine JO_call Try.call47 rfl rfl fun w hw => (Ceil_c a n b ha hn hb w hw).mono ?_
  rintro e w' ⟨q, r, rfl, hw', h2⟩
  refine ⟨_, rfl, _, hw', ?_⟩
  clear hw' hw w w'
  obtain ⟨p1, p2, p3⟩ := part_bd ha.1 h0 h1 hn.1
  have hr : r = 0 ∧ ((a * n % b = 0 ∧ q = a * n / b) ∨ (a * n % b ≠ 0 ∧ q = a * n / b + 1)) := by omega
  obtain ⟨rfl, hq⟩ := hr
  clear h2
  have hq0 : 0 ≤ q := by omega
  by_cases hq1 : 1 ≤ q
  · repeat (first | (apply gJO; first | (apply kS; refine aK ?_) | (apply kX; refine JO_box rfl rfl rfl ?_; intro _) | (apply kA; refine JO_alloc (tb := tb) rfl rfl ?_; intro _) | (apply kBs; refine JO_buildSlice (tb := tb) rfl rfl rfl rfl rfl rfl rfl rfl rfl ?_; intro _) | (apply kM; refine JO_make (tb := tb) rfl rfl rfl rfl rfl rfl (by omega) rfl ?_; intro _) | refine aO ?_) | (apply gJR; first | apply JR_un | apply JR_nil | refine JR_yes rfl rfl ?_ | refine JR_no rfl rfl rfl rfl ?_ | refine JR_noU rfl rfl rfl ?_) | (apply gJS; first | apply JS_seq | apply JS_region | apply JS_skip | apply JS_block | apply JS_inBlock | apply JS_label | refine JS_exit rfl ?_ | refine JS_condT rfl ?_ | refine JS_condF rfl ?_ | refine JS_draw [0] (by kernel_rfl) (by kernel_rfl) (by decide +kernel) ?_ | refine JS_draw [] (by kernel_rfl) (by kernel_rfl) (by decide +kernel) ?_ | refine JS_cond_T rfl (by omega) ?_ | refine JS_cond_F rfl (by omega) ?_) | (apply gQR; first | apply QR_un | apply QR_nil | refine QR_yes rfl rfl ?_ | refine QR_no rfl rfl rfl rfl ?_ | refine QR_noU rfl rfl rfl ?_) | (apply gQO; first | refine aQ ?_ | refine aQK rfl ?_))
    rw [show max 1 q = q by omega]
    refine JS_ret Try.func39 rfl rfl ?_
    intro w hw
    exact ⟨_, _, rfl, hw, .inr (.inr ⟨h0, h1, hn0, rfl, by unfold RV; omega⟩)⟩
  · repeat (first | (apply gJO; first | (apply kS; refine aK ?_) | (apply kX; refine JO_box rfl rfl rfl ?_; intro _) | (apply kA; refine JO_alloc (tb := tb) rfl rfl ?_; intro _) | (apply kBs; refine JO_buildSlice (tb := tb) rfl rfl rfl rfl rfl rfl rfl rfl rfl ?_; intro _) | (apply kM; refine JO_make (tb := tb) rfl rfl rfl rfl rfl rfl (by omega) rfl ?_; intro _) | refine aO ?_) | (apply gJR; first | apply JR_un | apply JR_nil | refine JR_yes rfl rfl ?_ | refine JR_no rfl rfl rfl rfl ?_ | refine JR_noU rfl rfl rfl ?_) | (apply gJS; first | apply JS_seq | apply JS_region | apply JS_skip | apply JS_block | apply JS_inBlock | apply JS_label | refine JS_exit rfl ?_ | refine JS_condT rfl ?_ | refine JS_condF rfl ?_ | refine JS_draw [0] (by kernel_rfl) (by kernel_rfl) (by decide +kernel) ?_ | refine JS_draw [] (by kernel_rfl) (by kernel_rfl) (by decide +kernel) ?_ | refine JS_cond_T rfl (by omega) ?_ | refine JS_cond_F rfl (by omega) ?_) | (apply gQR; first | apply QR_un | apply QR_nil | refine QR_yes rfl rfl ?_ | refine QR_no rfl rfl rfl rfl ?_ | refine QR_noU rfl rfl rfl ?_) | (apply gQO; first | refine aQ ?_ | refine aQK rfl ?_))
    rw [show max 1 q = 1 by omega]
    refine JS_ret Try.func39 rfl rfl ?_
    intro w hw
    exact ⟨_, _, rfl, hw, .inr (.inr ⟨h0, h1, hn0, rfl, by unfold RV; omega⟩)⟩
set_option maxHeartbeats 1000000 in
theorem RRank_c {w0 : World} {H : List Asn} (a b n : Int) (ha : 0 ≤ a ∧ a < 18446744073709551616) (hb : 0 ≤ b ∧ b < 18446744073709551616) (hn : 0 ≤ n ∧ n < 18446744073709551616) (w : World) (hw : St w0 H w) :
    Calls Try.prog 21 #[.int .u64 a, .int .u64 b, .int .u64 n] w fun e w' => ∃ v r, e = .returned (.tuple #[.int .u64 v, .int .i64 r]) ∧ St w0 H w' ∧ RK a b n v r := by
  refine enter (vs := [.int .u64 a, .int .u64 b, .int .u64 n]) Try.func21 rfl rfl rfl hw ?_
  repeat (first | (apply gJO; first | (apply kS; refine aK ?_) | (apply kX; refine JO_box rfl rfl rfl ?_; intro _) | (apply kA; refine JO_alloc (tb := tb) rfl rfl ?_; intro _) | (apply kBs; refine JO_buildSlice (tb := tb) rfl rfl rfl rfl rfl rfl rfl rfl rfl ?_; intro _) | (apply kM; refine JO_make (tb := tb) rfl rfl rfl rfl rfl rfl (by omega) rfl ?_; intro _) | refine aO ?_) | (apply gJR; first | apply JR_un | apply JR_nil | refine JR_yes rfl rfl ?_ | refine JR_no rfl rfl rfl rfl ?_ | refine JR_noU rfl rfl rfl ?_) | (apply gJS; first | apply JS_seq | apply JS_region | apply JS_skip | apply JS_block | apply JS_inBlock | apply JS_label | refine JS_exit rfl ?_ | refine JS_condT rfl ?_ | refine JS_condF rfl ?_ | refine JS_draw [0] (by kernel_rfl) (by kernel_rfl) (by decide +kernel) ?_ | refine JS_draw [] (by kernel_rfl) (by kernel_rfl) (by decide +kernel) ?_ | refine JS_cond_T rfl (by omega) ?_ | refine JS_cond_F rfl (by omega) ?_) | (apply gQR; first | apply QR_un | apply QR_nil | refine QR_yes rfl rfl ?_ | refine QR_no rfl rfl rfl rfl ?_ | refine QR_noU rfl rfl rfl ?_) | (apply gQO; first | refine aQ ?_ | refine aQK rfl ?_))
  refine JO_call Try.call33 rfl rfl fun w hw => (RCheck_c a b ha hb w hw).mono ?_
  rintro e w' ⟨r, rfl, hw', h1⟩
  refine ⟨_, rfl, _, hw', ?_⟩
  clear hw' hw w w'
  rcases h1 with ⟨h1, rfl⟩ | ⟨h0, h1, rfl⟩
  · repeat (first | (apply gJO; first | (apply kS; refine aK ?_) | (apply kX; refine JO_box rfl rfl rfl ?_; intro _) | (apply kA; refine JO_alloc (tb := tb) rfl rfl ?_; intro _) | (apply kBs; refine JO_buildSlice (tb := tb) rfl rfl rfl rfl rfl rfl rfl rfl rfl ?_; intro _) | (apply kM; refine JO_make (tb := tb) rfl rfl rfl rfl rfl rfl (by omega) rfl ?_; intro _) | refine aO ?_) | (apply gJR; first | apply JR_un | apply JR_nil | refine JR_yes rfl rfl ?_ | refine JR_no rfl rfl rfl rfl ?_ | refine JR_noU rfl rfl rfl ?_) | (apply gJS; first | apply JS_seq | apply JS_region | apply JS_skip | apply JS_block | apply JS_inBlock | apply JS_label | refine JS_exit rfl ?_ | refine JS_condT rfl ?_ | refine JS_condF rfl ?_ | refine JS_draw [0] (by kernel_rfl) (by kernel_rfl) (by decide +kernel) ?_ | refine JS_draw [] (by kernel_rfl) (by kernel_rfl) (by decide +kernel) ?_ | refine JS_cond_T rfl (by omega) ?_ | refine JS_cond_F rfl (by omega) ?_) | (apply gQR; first | apply QR_un | apply QR_nil | refine QR_yes rfl rfl ?_ | refine QR_no rfl rfl rfl rfl ?_ | refine QR_noU rfl rfl rfl ?_) | (apply gQO; first | refine aQ ?_ | refine aQK rfl ?_))
    refine JS_ret Try.func21 rfl rfl ?_
    intro w hw
    exact ⟨_, _, rfl, hw, .inl ⟨h1, rfl, rfl⟩⟩
  by_cases hn0 : n = 0
  · repeat (first | (apply gJO; first | (apply kS; refine aK ?_) | (apply kX; refine JO_box rfl rfl rfl ?_; intro _) | (apply kA; refine JO_alloc (tb := tb) rfl rfl ?_; intro _) | (apply kBs; refine JO_buildSlice (tb := tb) rfl rfl rfl rfl rfl rfl rfl rfl rfl ?_; intro _) | (apply kM; refine JO_make (tb := tb) rfl rfl rfl rfl rfl rfl (by omega) rfl ?_; intro _) | refine aO ?_) | (apply gJR; first | apply JR_un | apply JR_nil | refine JR_yes rfl rfl ?_ | refine JR_no rfl rfl rfl rfl ?_ | refine JR_noU rfl rfl rfl ?_) | (apply gJS; first | apply JS_seq | apply JS_region | apply JS_skip | apply JS_block | apply JS_inBlock | apply JS_label | refine JS_exit rfl ?_ | refine JS_condT rfl ?_ | refine JS_condF rfl ?_ | refine JS_draw [0] (by kernel_rfl) (by kernel_rfl) (by decide +kernel) ?_ | refine JS_draw [] (by kernel_rfl) (by kernel_rfl) (by decide +kernel) ?_ | refine JS_cond_T rfl (by omega) ?_ | refine JS_cond_F rfl (by omega) ?_) | (apply gQR; first | apply QR_un | apply QR_nil | refine QR_yes rfl rfl ?_ | refine QR_no rfl rfl rfl rfl ?_ | refine QR_noU rfl rfl rfl ?_) | (apply gQO; first | refine aQ ?_ | refine aQK rfl ?_))
    refine JS_ret Try.func21 rfl rfl ?_
    intro w hw
    exact ⟨_, _, rfl, hw, .inr (.inl ⟨h0, h1, hn0, rfl, rfl⟩)⟩
  repeat (first | (apply gJO; first | (apply kS; refine aK ?_) | (apply kX; refine JO_box rfl rfl rfl ?_; intro _) | (apply kA; refine JO_alloc (tb := tb) rfl rfl ?_; intro _) | (apply kBs; refine JO_buildSlice (tb := tb) rfl rfl rfl rfl rfl rfl rfl rfl rfl ?_; intro _) | (apply kM; refine JO_make (tb := tb) rfl rfl rfl rfl rfl rfl (by omega) rfl ?_; intro _) | refine aO ?_) | (apply gJR; first | apply JR_un | apply JR_nil | refine JR_yes rfl rfl ?_ | refine JR_no rfl rfl rfl rfl ?_ | refine JR_noU rfl rfl rfl ?_) | (apply gJS; first | apply JS_seq | apply JS_region | apply JS_skip | apply JS_block | apply JS_inBlock | apply JS_label | refine JS_exit rfl ?_ | refine JS_condT rfl ?_ | refine JS_condF rfl ?_ | refine JS_draw [0] (by kernel_rfl) (by kernel_rfl) (by decide +kernel) ?_ | refine JS_draw [] (by kernel_rfl) (by kernel_rfl) (by decide +kernel) ?_ | refine JS_cond_T rfl (by omega) ?_ | refine JS_cond_F rfl (by omega) ?_) | (apply gQR; first | apply QR_un | apply QR_nil | refine QR_yes rfl rfl ?_ | refine QR_no rfl rfl rfl rfl ?_ | refine QR_noU rfl rfl rfl ?_) | (apply gQO; first | refine aQ ?_ | refine aQK rfl ?_))
  refine JO_call Try.call34 rfl rfl fun w hw => (RMulDiv_c a n b ha hn hb w hw).mono ?_
  rintro e w' ⟨q, l, o, rfl, hw', h2⟩
  refine ⟨_, rfl, _, hw', ?_⟩
  clear hw' hw w w'
  obtain ⟨p1, p2, p3⟩ := part_bd ha.1 h0 h1 hn.1
  have p4 := Int.emod_nonneg (a * n) (Int.ne_of_gt h0)
  have hr : q = a * n / b ∧ l = a * n % b := by
    rcases h2 with ⟨_, _, _, h3, h4⟩ | ⟨_, h3, _, _⟩
    · exact ⟨h3, h4⟩
    · omega
  obtain ⟨hq, hl⟩ := hr
  clear h2
  rw [← hq] at p1 p2 p3
  rw [← hl] at p3 p4
  by_cases hl0 : 0 < l
  · repeat (first | (apply gJO; first | (apply kS; refine aK ?_) | (apply kX; refine JO_box rfl rfl rfl ?_; intro _) | (apply kA; refine JO_alloc (tb := tb) rfl rfl ?_; intro _) | (apply kBs; refine JO_buildSlice (tb := tb) rfl rfl rfl rfl rfl rfl rfl rfl rfl ?_; intro _) | (apply kM; refine JO_make (tb := tb) rfl rfl rfl rfl rfl rfl (by omega) rfl ?_; intro _) | refine aO ?_) | (apply gJR; first | apply JR_un | apply JR_nil | refine JR_yes rfl rfl ?_ | refine JR_no rfl rfl rfl rfl ?_ | refine JR_noU rfl rfl rfl ?_) | (apply gJS; first | apply JS_seq | apply JS_region | apply JS_skip | apply JS_block | apply JS_inBlock | apply JS_label | refine JS_exit rfl ?_ | refine JS_condT rfl ?_ | refine JS_condF rfl ?_ | refine JS_draw [0] (by kernel_rfl) (by kernel_rfl) (by decide +kernel) ?_ | refine JS_draw [] (by kernel_rfl) (by kernel_rfl) (by decide +kernel) ?_ | refine JS_cond_T rfl (by omega) ?_ | refine JS_cond_F rfl (by omega) ?_) | (apply gQR; first | apply QR_un | apply QR_nil | refine QR_yes rfl rfl ?_ | refine QR_no rfl rfl rfl rfl ?_ | refine QR_noU rfl rfl rfl ?_) | (apply gQO; first | refine aQ ?_ | refine aQK rfl ?_))
    refine JS_ret Try.func21 rfl rfl ?_
    intro w hw
    exact ⟨_, _, rfl, hw, .inr (.inr ⟨h0, h1, hn0, rfl, by unfold RV; omega⟩)⟩
  by_cases hq0 : q = 0
  · repeat (first | (apply gJO; first | (apply kS; refine aK ?_) | (apply kX; refine JO_box rfl rfl rfl ?_; intro _) | (apply kA; refine JO_alloc (tb := tb) rfl rfl ?_; intro _) | (apply kBs; refine JO_buildSlice (tb := tb) rfl rfl rfl rfl rfl rfl rfl rfl rfl ?_; intro _) | (apply kM; refine JO_make (tb := tb) rfl rfl rfl rfl rfl rfl (by omega) rfl ?_; intro _) | refine aO ?_) | (apply gJR; first | apply JR_un | apply JR_nil | refine JR_yes rfl rfl ?_ | refine JR_no rfl rfl rfl rfl ?_ | refine JR_noU rfl rfl rfl ?_) | (apply gJS; first | apply JS_seq | apply JS_region | apply JS_skip | apply JS_block | apply JS_inBlock | apply JS_label | refine JS_exit rfl ?_ | refine JS_condT rfl ?_ | refine JS_condF rfl ?_ | refine JS_draw [0] (by kernel_rfl) (by kernel_rfl) (by decide +kernel) ?_ | refine JS_draw [] (by kernel_rfl) (by kernel_rfl) (by decide +kernel) ?_ | refine JS_cond_T rfl (by omega) ?_ | refine JS_cond_F rfl (by omega) ?_) | (apply gQR; first | apply QR_un | apply QR_nil | refine QR_yes rfl rfl ?_ | refine QR_no rfl rfl rfl rfl ?_ | refine QR_noU rfl rfl rfl ?_) | (apply gQO; first | refine aQ ?_ | refine aQK rfl ?_))
    refine JS_ret Try.func21 rfl rfl ?_
    intro w hw
    exact ⟨_, _, rfl, hw, .inr (.inr ⟨h0, h1, hn0, rfl, by unfold RV; omega⟩)⟩
  · repeat (first | (apply gJO; first | (apply kS; refine aK ?_) | (apply kX; refine JO_box rfl rfl rfl ?_; intro _) | (apply kA; refine JO_alloc (tb := tb) rfl rfl ?_; intro _) | (apply kBs; refine JO_buildSlice (tb := tb) rfl rfl rfl rfl rfl rfl rfl rfl rfl ?_; intro _) | (apply kM; refine JO_make (tb := tb) rfl rfl rfl rfl rfl rfl (by omega) rfl ?_; intro _) | refine aO ?_) | (apply gJR; first | apply JR_un | apply JR_nil | refine JR_yes rfl rfl ?_ | refine JR_no rfl rfl rfl rfl ?_ | refine JR_noU rfl rfl rfl ?_) | (apply gJS; first | apply JS_seq | apply JS_region | apply JS_skip | apply JS_block | apply JS_inBlock | apply JS_label | refine JS_exit rfl ?_ | refine JS_condT rfl ?_ | refine JS_condF rfl ?_ | refine JS_draw [0] (by kernel_rfl) (by kernel_rfl) (by decide +kernel) ?_ | refine JS_draw [] (by kernel_rfl) (by kernel_rfl) (by decide +kernel) ?_ | refine JS_cond_T rfl (by omega) ?_ | refine JS_cond_F rfl (by omega) ?_) | (apply gQR; first | apply QR_un | apply QR_nil | refine QR_yes rfl rfl ?_ | refine QR_no rfl rfl rfl rfl ?_ | refine QR_noU rfl rfl rfl ?_) | (apply gQO; first | refine aQ ?_ | refine aQK rfl ?_))
    refine JS_ret Try.func21 rfl rfl ?_
    intro w hw
    exact ⟨_, _, rfl, hw, .inr (.inr ⟨h0, h1, hn0, rfl, by unfold RV; omega⟩)⟩
end Go.Proofs.Ytjadcaoobnklcaa
