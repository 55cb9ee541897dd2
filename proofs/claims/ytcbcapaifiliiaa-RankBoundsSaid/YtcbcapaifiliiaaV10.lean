import Derived.Test.YtcbcapaifiliiaaV5
import Derived.Test.YtcbcapaifiliiaaV3
import Derived.Test.YtcbcapaifiliiaaV6
namespace Go.Proofs.Ytcbcapaifiliiaa
open Sx Go
set_option linter.unusedVariables false
set_option linter.unusedSimpArgs false
theorem ceil_char {a b n v : Int} (hb : 0 < b) (h0 : 0 ≤ a * n) (h : RV (a * n / b) (a * n % b) v) : 1 ≤ v ∧ a * n ≤ v * b ∧ (v = 1 ∨ v * b - b < a * n) := by
  have e := Int.mul_ediv_add_emod (a * n) b
  have l0 := Int.emod_nonneg (a * n) (Int.ne_of_gt hb)
  have l1 := Int.emod_lt_of_pos (a * n) hb
  have q0 := Int.ediv_nonneg h0 (Int.le_of_lt hb)
  generalize a * n / b = q at *
  generalize a * n % b = l at *
  generalize a * n = N at *
  have e1 : q * b = b * q := Int.mul_comm _ _
  have e2 : (q + 1) * b = b * q + b := by grind
  unfold RV at h
  rcases h with ⟨rfl, rfl, rfl⟩ | ⟨rfl, h, rfl⟩ | ⟨h, rfl⟩
  · omega
  · omega
  · omega
theorem rank_mono {a b c d n v w : Int} (hb : 0 < b) (hd : 0 < d) (ha : 0 ≤ a) (hc : 0 ≤ c) (hn : 0 ≤ n) (hv : RV (a * n / b) (a * n % b) v) (hw : RV (c * n / d) (c * n % d) w) (h : a * d ≤ c * b) : v ≤ w := by
  obtain ⟨v1, v2, v3⟩ := ceil_char hb (Int.mul_nonneg ha hn) hv
  obtain ⟨w1, w2, w3⟩ := ceil_char hd (Int.mul_nonneg hc hn) hw
  rcases Int.lt_or_le w v with h1 | h1
  · exfalso
    have h2 : v * b - b < a * n := by omega
    have h3 : w * b ≤ v * b - b := by
      have := Int.mul_le_mul_of_nonneg_right (show w ≤ v - 1 by omega) (Int.le_of_lt hb)
      rw [Int.sub_mul, Int.one_mul] at this
      exact this
    have h4 : w * b * d < a * n * d := Int.mul_lt_mul_of_pos_right (by omega) hd
    have h5 : c * n * b ≤ w * d * b := Int.mul_le_mul_of_nonneg_right w2 (Int.le_of_lt hb)
    have h6 : a * d * n ≤ c * b * n := Int.mul_le_mul_of_nonneg_right h hn
    have e1 : w * b * d = w * d * b := by grind
    have e2 : a * n * d = a * d * n := by grind
    have e3 : c * n * b = c * b * n := by grind
    omega
  · exact h1
theorem spot_mono {a b c d n : Int} (hb : 0 < b) (hd : 0 < d) (hn : 0 ≤ n) (h : a * d ≤ c * b) : n * a / b ≤ n * c / d := by
  rw [Int.le_ediv_iff_mul_le hd]
  have h1 : n * a / b * b ≤ n * a := Int.ediv_mul_le _ (Int.ne_of_gt hb)
  have h2 := Int.mul_le_mul_of_nonneg_right h1 (Int.le_of_lt hd)
  have h3 := Int.mul_le_mul_of_nonneg_left h hn
  refine Int.le_of_mul_le_mul_right (a := b) ?_ hb
  have e1 : n * a / b * d * b = n * a / b * b * d := by grind
  have e2 : n * c * b = n * (c * b) := by grind
  have e3 : n * a * d = n * (a * d) := by grind
  omega
set_option maxHeartbeats 4000000 in
theorem RankBounds_c (a b c d n : Int) (ha : 0 ≤ a ∧ a < 18446744073709551616) (hb : 0 ≤ b ∧ b < 18446744073709551616) (hc : 0 ≤ c ∧ c < 18446744073709551616) (hd : 0 ≤ d ∧ d < 18446744073709551616) (hn : 0 ≤ n ∧ n < 18446744073709551616) (w0 : World) :
    Calls Try.prog 6 #[.int .u64 a, .int .u64 b, .int .u64 c, .int .u64 d, .int .u64 n] w0 fun e w' => e = .returned (.bool true) ∧ RowKit.Below w0.heap.size w0 w' := by
  refine enter (vs := [.int .u64 a, .int .u64 b, .int .u64 c, .int .u64 d, .int .u64 n]) Try.func6 rfl rfl rfl (St.start w0) ?_
  repeat (first | (apply gJO; first | (apply kS; refine aK ?_) | (apply kX; refine JO_box rfl rfl rfl ?_; intro _) | (apply kA; refine JO_alloc (tb := tb) rfl rfl ?_; intro _) | (apply kBs; refine JO_buildSlice (tb := tb) rfl rfl rfl rfl rfl rfl rfl rfl rfl ?_; intro _) | (apply kM; refine JO_make (tb := tb) rfl rfl rfl rfl rfl rfl (by omega) rfl ?_; intro _) | refine aO ?_) | (apply gJR; first | apply JR_un | apply JR_nil | refine JR_yes rfl rfl ?_ | refine JR_no rfl rfl rfl rfl ?_ | refine JR_noU rfl rfl rfl ?_) | (apply gJS; first | apply JS_seq | apply JS_region | apply JS_skip | apply JS_block | apply JS_inBlock | apply JS_label | refine JS_exit rfl ?_ | refine JS_condT rfl ?_ | refine JS_condF rfl ?_ | refine JS_draw [0] (by kernel_rfl) (by kernel_rfl) (by decide +kernel) ?_ | refine JS_draw [] (by kernel_rfl) (by kernel_rfl) (by decide +kernel) ?_ | refine JS_cond_T rfl (by omega) ?_ | refine JS_cond_F rfl (by omega) ?_) | (apply gQR; first | apply QR_un | apply QR_nil | refine QR_yes rfl rfl ?_ | refine QR_no rfl rfl rfl rfl ?_ | refine QR_noU rfl rfl rfl ?_) | (apply gQO; first | refine aQ ?_ | refine aQK rfl ?_))
  refine JO_call Try.call9 rfl rfl fun w hw => (alive_c w hw).mono ?_
  rintro e w' ⟨rfl, hw'⟩
  refine ⟨_, rfl, _, hw', ?_⟩
  clear hw' hw w w'
  repeat (first | (apply gJO; first | (apply kS; refine aK ?_) | (apply kX; refine JO_box rfl rfl rfl ?_; intro _) | (apply kA; refine JO_alloc (tb := tb) rfl rfl ?_; intro _) | (apply kBs; refine JO_buildSlice (tb := tb) rfl rfl rfl rfl rfl rfl rfl rfl rfl ?_; intro _) | (apply kM; refine JO_make (tb := tb) rfl rfl rfl rfl rfl rfl (by omega) rfl ?_; intro _) | refine aO ?_) | (apply gJR; first | apply JR_un | apply JR_nil | refine JR_yes rfl rfl ?_ | refine JR_no rfl rfl rfl rfl ?_ | refine JR_noU rfl rfl rfl ?_) | (apply gJS; first | apply JS_seq | apply JS_region | apply JS_skip | apply JS_block | apply JS_inBlock | apply JS_label | refine JS_exit rfl ?_ | refine JS_condT rfl ?_ | refine JS_condF rfl ?_ | refine JS_draw [0] (by kernel_rfl) (by kernel_rfl) (by decide +kernel) ?_ | refine JS_draw [] (by kernel_rfl) (by kernel_rfl) (by decide +kernel) ?_ | refine JS_cond_T rfl (by omega) ?_ | refine JS_cond_F rfl (by omega) ?_) | (apply gQR; first | apply QR_un | apply QR_nil | refine QR_yes rfl rfl ?_ | refine QR_no rfl rfl rfl rfl ?_ | refine QR_noU rfl rfl rfl ?_) | (apply gQO; first | refine aQ ?_ | refine aQK rfl ?_))
  refine JO_call Try.call10 rfl rfl fun w hw => (Rank_c a b n ha hb hn w hw).mono ?_
  rintro e w' ⟨v, r, rfl, hw', h1⟩
  refine ⟨_, rfl, _, hw', ?_⟩
  clear hw' hw w w'
  repeat (first | (apply gJO; first | (apply kS; refine aK ?_) | (apply kX; refine JO_box rfl rfl rfl ?_; intro _) | (apply kA; refine JO_alloc (tb := tb) rfl rfl ?_; intro _) | (apply kBs; refine JO_buildSlice (tb := tb) rfl rfl rfl rfl rfl rfl rfl rfl rfl ?_; intro _) | (apply kM; refine JO_make (tb := tb) rfl rfl rfl rfl rfl rfl (by omega) rfl ?_; intro _) | refine aO ?_) | (apply gJR; first | apply JR_un | apply JR_nil | refine JR_yes rfl rfl ?_ | refine JR_no rfl rfl rfl rfl ?_ | refine JR_noU rfl rfl rfl ?_) | (apply gJS; first | apply JS_seq | apply JS_region | apply JS_skip | apply JS_block | apply JS_inBlock | apply JS_label | refine JS_exit rfl ?_ | refine JS_condT rfl ?_ | refine JS_condF rfl ?_ | refine JS_draw [0] (by kernel_rfl) (by kernel_rfl) (by decide +kernel) ?_ | refine JS_draw [] (by kernel_rfl) (by kernel_rfl) (by decide +kernel) ?_ | refine JS_cond_T rfl (by omega) ?_ | refine JS_cond_F rfl (by omega) ?_) | (apply gQR; first | apply QR_un | apply QR_nil | refine QR_yes rfl rfl ?_ | refine QR_no rfl rfl rfl rfl ?_ | refine QR_noU rfl rfl rfl ?_) | (apply gQO; first | refine aQ ?_ | refine aQK rfl ?_))
  refine JO_call Try.call10 rfl rfl fun w hw => (Rank_c c d n hc hd hn w hw).mono ?_
  rintro e w' ⟨s, t, rfl, hw', h2⟩
  refine ⟨_, rfl, _, hw', ?_⟩
  clear hw' hw w w'
  by_cases hr : r = 0
  case' neg =>
    have hv : v = 0 := by unfold RK at h1; omega
    have hs : t ≠ 0 → s = 0 := by unfold RK at h2; omega
    clear h1 h2
    by_cases ht : t = 0
    · repeat (first | (apply gJO; first | (apply kS; refine aK ?_) | (apply kX; refine JO_box rfl rfl rfl ?_; intro _) | (apply kA; refine JO_alloc (tb := tb) rfl rfl ?_; intro _) | (apply kBs; refine JO_buildSlice (tb := tb) rfl rfl rfl rfl rfl rfl rfl rfl rfl ?_; intro _) | (apply kM; refine JO_make (tb := tb) rfl rfl rfl rfl rfl rfl (by omega) rfl ?_; intro _) | refine aO ?_) | (apply gJR; first | apply JR_un | apply JR_nil | refine JR_yes rfl rfl ?_ | refine JR_no rfl rfl rfl rfl ?_ | refine JR_noU rfl rfl rfl ?_) | (apply gJS; first | apply JS_seq | apply JS_region | apply JS_skip | apply JS_block | apply JS_inBlock | apply JS_label | refine JS_exit rfl ?_ | refine JS_condT rfl ?_ | refine JS_condF rfl ?_ | refine JS_draw [0] (by kernel_rfl) (by kernel_rfl) (by decide +kernel) ?_ | refine JS_draw [] (by kernel_rfl) (by kernel_rfl) (by decide +kernel) ?_ | refine JS_cond_T rfl (by omega) ?_ | refine JS_cond_F rfl (by omega) ?_) | (apply gQR; first | apply QR_un | apply QR_nil | refine QR_yes rfl rfl ?_ | refine QR_no rfl rfl rfl rfl ?_ | refine QR_noU rfl rfl rfl ?_) | (apply gQO; first | refine aQ ?_ | refine aQK rfl ?_))
      refine JS_ret Try.func6 rfl rfl ?_
      intro w hw
      exact ⟨rfl, hw.grown⟩
    · have hs' := hs ht
      repeat (first | (apply gJO; first | (apply kS; refine aK ?_) | (apply kX; refine JO_box rfl rfl rfl ?_; intro _) | (apply kA; refine JO_alloc (tb := tb) rfl rfl ?_; intro _) | (apply kBs; refine JO_buildSlice (tb := tb) rfl rfl rfl rfl rfl rfl rfl rfl rfl ?_; intro _) | (apply kM; refine JO_make (tb := tb) rfl rfl rfl rfl rfl rfl (by omega) rfl ?_; intro _) | refine aO ?_) | (apply gJR; first | apply JR_un | apply JR_nil | refine JR_yes rfl rfl ?_ | refine JR_no rfl rfl rfl rfl ?_ | refine JR_noU rfl rfl rfl ?_) | (apply gJS; first | apply JS_seq | apply JS_region | apply JS_skip | apply JS_block | apply JS_inBlock | apply JS_label | refine JS_exit rfl ?_ | refine JS_condT rfl ?_ | refine JS_condF rfl ?_ | refine JS_draw [0] (by kernel_rfl) (by kernel_rfl) (by decide +kernel) ?_ | refine JS_draw [] (by kernel_rfl) (by kernel_rfl) (by decide +kernel) ?_ | refine JS_cond_T rfl (by omega) ?_ | refine JS_cond_F rfl (by omega) ?_) | (apply gQR; first | apply QR_un | apply QR_nil | refine QR_yes rfl rfl ?_ | refine QR_no rfl rfl rfl rfl ?_ | refine QR_noU rfl rfl rfl ?_) | (apply gQO; first | refine aQ ?_ | refine aQK rfl ?_))
      refine JS_ret Try.func6 rfl rfl ?_
      intro w hw
      exact ⟨rfl, hw.grown⟩
  by_cases ht : t = 0
  case' neg =>
    have hs : s = 0 := by unfold RK at h2; omega
    clear h1 h2
    repeat (first | (apply gJO; first | (apply kS; refine aK ?_) | (apply kX; refine JO_box rfl rfl rfl ?_; intro _) | (apply kA; refine JO_alloc (tb := tb) rfl rfl ?_; intro _) | (apply kBs; refine JO_buildSlice (tb := tb) rfl rfl rfl rfl rfl rfl rfl rfl rfl ?_; intro _) | (apply kM; refine JO_make (tb := tb) rfl rfl rfl rfl rfl rfl (by omega) rfl ?_; intro _) | refine aO ?_) | (apply gJR; first | apply JR_un | apply JR_nil | refine JR_yes rfl rfl ?_ | refine JR_no rfl rfl rfl rfl ?_ | refine JR_noU rfl rfl rfl ?_) | (apply gJS; first | apply JS_seq | apply JS_region | apply JS_skip | apply JS_block | apply JS_inBlock | apply JS_label | refine JS_exit rfl ?_ | refine JS_condT rfl ?_ | refine JS_condF rfl ?_ | refine JS_draw [0] (by kernel_rfl) (by kernel_rfl) (by decide +kernel) ?_ | refine JS_draw [] (by kernel_rfl) (by kernel_rfl) (by decide +kernel) ?_ | refine JS_cond_T rfl (by omega) ?_ | refine JS_cond_F rfl (by omega) ?_) | (apply gQR; first | apply QR_un | apply QR_nil | refine QR_yes rfl rfl ?_ | refine QR_no rfl rfl rfl rfl ?_ | refine QR_noU rfl rfl rfl ?_) | (apply gQO; first | refine aQ ?_ | refine aQK rfl ?_))
    refine JS_ret Try.func6 rfl rfl ?_
    intro w hw
    exact ⟨rfl, hw.grown⟩
  obtain ⟨hb0, hab, hn0, hv⟩ : 0 < b ∧ a ≤ b ∧ n ≠ 0 ∧ RV (a * n / b) (a * n % b) v := by
    rcases h1 with h | h | ⟨h3, h4, h5, _, h6⟩
    · omega
    · omega
    · exact ⟨h3, h4, h5, h6⟩
  obtain ⟨hd0, hcd, hs⟩ : 0 < d ∧ c ≤ d ∧ RV (c * n / d) (c * n % d) s := by
    rcases h2 with h | h | ⟨h3, h4, h5, _, h6⟩
    · omega
    · omega
    · exact ⟨h3, h4, h6⟩
  clear h1 h2
  have hm1 := fun h => rank_mono hb0 hd0 ha.1 hc.1 hn.1 hv hs h
  have hm2 := fun h => rank_mono hd0 hb0 hc.1 ha.1 hn.1 hs hv h
  have hsp1 := fun h => spot_mono (n := 2 * n) hb0 hd0 (by omega) (a := a) (c := c) h
  have hsp2 := fun h => spot_mono (n := 2 * n) hd0 hb0 (by omega) (a := c) (c := a) h
  obtain ⟨p1, p2, p3⟩ := part_bd (n := 2 * n) ha.1 hb0 hab (by omega)
  rw [Int.mul_comm a] at p1 p2 p3
  obtain ⟨p4, p5, p6⟩ := part_bd (n := n) ha.1 hb0 hab (by omega)
  have hv1 : 1 ≤ v ∧ v ≤ n := by unfold RV at hv; omega
  clear hv hs p3 p4 p5 p6
  repeat (first | (apply gJO; first | (apply kS; refine aK ?_) | (apply kX; refine JO_box rfl rfl rfl ?_; intro _) | (apply kA; refine JO_alloc (tb := tb) rfl rfl ?_; intro _) | (apply kBs; refine JO_buildSlice (tb := tb) rfl rfl rfl rfl rfl rfl rfl rfl rfl ?_; intro _) | (apply kM; refine JO_make (tb := tb) rfl rfl rfl rfl rfl rfl (by omega) rfl ?_; intro _) | refine aO ?_) | (apply gJR; first | apply JR_un | apply JR_nil | refine JR_yes rfl rfl ?_ | refine JR_no rfl rfl rfl rfl ?_ | refine JR_noU rfl rfl rfl ?_) | (apply gJS; first | apply JS_seq | apply JS_region | apply JS_skip | apply JS_block | apply JS_inBlock | apply JS_label | refine JS_exit rfl ?_ | refine JS_condT rfl ?_ | refine JS_condF rfl ?_ | refine JS_draw [0] (by kernel_rfl) (by kernel_rfl) (by decide +kernel) ?_ | refine JS_draw [] (by kernel_rfl) (by kernel_rfl) (by decide +kernel) ?_ | refine JS_cond_T rfl (by omega) ?_ | refine JS_cond_F rfl (by omega) ?_) | (apply gQR; first | apply QR_un | apply QR_nil | refine QR_yes rfl rfl ?_ | refine QR_no rfl rfl rfl rfl ?_ | refine QR_noU rfl rfl rfl ?_) | (apply gQO; first | refine aQ ?_ | refine aQK rfl ?_))
  refine JO_call Try.call10 rfl rfl fun w hw => (Rank_c 0 b n (by omega) hb hn w hw).mono ?_
  rintro e w' ⟨v3, r3, rfl, hw', h1⟩
  refine ⟨_, rfl, _, hw', ?_⟩
  clear hw' hw w w'
  obtain rfl : v3 = 1 := by
    rcases h1 with h | h | ⟨_, _, _, _, h6⟩
    · omega
    · omega
    · rw [Int.zero_mul, Int.zero_ediv, Int.zero_emod] at h6; unfold RV at h6; omega
  clear h1
  repeat (first | (apply gJO; first | (apply kS; refine aK ?_) | (apply kX; refine JO_box rfl rfl rfl ?_; intro _) | (apply kA; refine JO_alloc (tb := tb) rfl rfl ?_; intro _) | (apply kBs; refine JO_buildSlice (tb := tb) rfl rfl rfl rfl rfl rfl rfl rfl rfl ?_; intro _) | (apply kM; refine JO_make (tb := tb) rfl rfl rfl rfl rfl rfl (by omega) rfl ?_; intro _) | refine aO ?_) | (apply gJR; first | apply JR_un | apply JR_nil | refine JR_yes rfl rfl ?_ | refine JR_no rfl rfl rfl rfl ?_ | refine JR_noU rfl rfl rfl ?_) | (apply gJS; first | apply JS_seq | apply JS_region | apply JS_skip | apply JS_block | apply JS_inBlock | apply JS_label | refine JS_exit rfl ?_ | refine JS_condT rfl ?_ | refine JS_condF rfl ?_ | refine JS_draw [0] (by kernel_rfl) (by kernel_rfl) (by decide +kernel) ?_ | refine JS_draw [] (by kernel_rfl) (by kernel_rfl) (by decide +kernel) ?_ | refine JS_cond_T rfl (by omega) ?_ | refine JS_cond_F rfl (by omega) ?_) | (apply gQR; first | apply QR_un | apply QR_nil | refine QR_yes rfl rfl ?_ | refine QR_no rfl rfl rfl rfl ?_ | refine QR_noU rfl rfl rfl ?_) | (apply gQO; first | refine aQ ?_ | refine aQK rfl ?_))
  refine JO_call Try.call10 rfl rfl fun w hw => (Rank_c b b n hb hb hn w hw).mono ?_
  rintro e w' ⟨v4, r4, rfl, hw', h1⟩
  refine ⟨_, rfl, _, hw', ?_⟩
  clear hw' hw w w'
  obtain rfl : v4 = n := by
    rcases h1 with h | h | ⟨_, _, _, _, h6⟩
    · omega
    · omega
    · rw [Int.mul_ediv_cancel_left _ (by omega), Int.mul_emod_right] at h6; unfold RV at h6; omega
  clear h1
  repeat (first | (apply gJO; first | (apply kS; refine aK ?_) | (apply kX; refine JO_box rfl rfl rfl ?_; intro _) | (apply kA; refine JO_alloc (tb := tb) rfl rfl ?_; intro _) | (apply kBs; refine JO_buildSlice (tb := tb) rfl rfl rfl rfl rfl rfl rfl rfl rfl ?_; intro _) | (apply kM; refine JO_make (tb := tb) rfl rfl rfl rfl rfl rfl (by omega) rfl ?_; intro _) | refine aO ?_) | (apply gJR; first | apply JR_un | apply JR_nil | refine JR_yes rfl rfl ?_ | refine JR_no rfl rfl rfl rfl ?_ | refine JR_noU rfl rfl rfl ?_) | (apply gJS; first | apply JS_seq | apply JS_region | apply JS_skip | apply JS_block | apply JS_inBlock | apply JS_label | refine JS_exit rfl ?_ | refine JS_condT rfl ?_ | refine JS_condF rfl ?_ | refine JS_draw [0] (by kernel_rfl) (by kernel_rfl) (by decide +kernel) ?_ | refine JS_draw [] (by kernel_rfl) (by kernel_rfl) (by decide +kernel) ?_ | refine JS_cond_T rfl (by omega) ?_ | refine JS_cond_F rfl (by omega) ?_) | (apply gQR; first | apply QR_un | apply QR_nil | refine QR_yes rfl rfl ?_ | refine QR_no rfl rfl rfl rfl ?_ | refine QR_noU rfl rfl rfl ?_) | (apply gQO; first | refine aQ ?_ | refine aQK rfl ?_))
  refine JO_call Try.call20 rfl rfl fun w hw => (Cmp11_c a b c d ha hb hc hd w hw).mono ?_
  rintro e w' ⟨o, rfl, hw', h1⟩
  refine ⟨_, rfl, _, hw', ?_⟩
  clear hw' hw w w'
  have ho : (o ≤ 0 → a * d ≤ c * b) ∧ (0 ≤ o → c * b ≤ a * d) ∧ -1 ≤ o ∧ o ≤ 1 := by unfold CM at h1; omega
  obtain ⟨o1, o2, o3⟩ := ho
  have hm3 := fun h => hm1 (o1 h)
  have hm4 := fun h => hm2 (o2 h)
  have hs3 := fun h => hsp1 (o1 h)
  have hs4 := fun h => hsp2 (o2 h)
  clear h1 hm1 hm2 hsp1 hsp2 o1 o2
  obtain ⟨P, hP⟩ : ∃ P, P = 2 * v4 * a / b := ⟨_, rfl⟩
  obtain ⟨Q, hQ⟩ : ∃ Q, Q = 2 * v4 * c / d := ⟨_, rfl⟩
  rw [← hP] at hs3 hs4 p1 p2
  rw [← hQ] at hs3 hs4
  have hcase : (o = -1 ∧ v ≤ s ∧ P ≤ Q) ∨ (o = 0 ∧ v = s ∧ P = Q) ∨ (o = 1 ∧ s ≤ v ∧ Q ≤ P) := by omega
  clear hm3 hm4 hs3 hs4 o3
  rcases hcase with ⟨rfl, hvs, hpq⟩ | ⟨rfl, hvs, hpq⟩ | ⟨rfl, hvs, hpq⟩
  all_goals
    repeat (first | (apply gJO; first | (apply kS; refine aK ?_) | (apply kX; refine JO_box rfl rfl rfl ?_; intro _) | (apply kA; refine JO_alloc (tb := tb) rfl rfl ?_; intro _) | (apply kBs; refine JO_buildSlice (tb := tb) rfl rfl rfl rfl rfl rfl rfl rfl rfl ?_; intro _) | (apply kM; refine JO_make (tb := tb) rfl rfl rfl rfl rfl rfl (by omega) rfl ?_; intro _) | refine aO ?_) | (apply gJR; first | apply JR_un | apply JR_nil | refine JR_yes rfl rfl ?_ | refine JR_no rfl rfl rfl rfl ?_ | refine JR_noU rfl rfl rfl ?_) | (apply gJS; first | apply JS_seq | apply JS_region | apply JS_skip | apply JS_block | apply JS_inBlock | apply JS_label | refine JS_exit rfl ?_ | refine JS_condT rfl ?_ | refine JS_condF rfl ?_ | refine JS_draw [0] (by kernel_rfl) (by kernel_rfl) (by decide +kernel) ?_ | refine JS_draw [] (by kernel_rfl) (by kernel_rfl) (by decide +kernel) ?_ | refine JS_cond_T rfl (by omega) ?_ | refine JS_cond_F rfl (by omega) ?_) | (apply gQR; first | apply QR_un | apply QR_nil | refine QR_yes rfl rfl ?_ | refine QR_no rfl rfl rfl rfl ?_ | refine QR_noU rfl rfl rfl ?_) | (apply gQO; first | refine aQ ?_ | refine aQK rfl ?_))
    refine JO_call Try.call12 rfl rfl fun w hw => (Spot_c a b v4 ha hb hn w hw).mono ?_
    rintro e w' ⟨v5, r5, rfl, hw', h1⟩
    refine ⟨_, rfl, _, hw', ?_⟩
    clear hw' hw w w'
    repeat (first | (apply gJO; first | (apply kS; refine aK ?_) | (apply kX; refine JO_box rfl rfl rfl ?_; intro _) | (apply kA; refine JO_alloc (tb := tb) rfl rfl ?_; intro _) | (apply kBs; refine JO_buildSlice (tb := tb) rfl rfl rfl rfl rfl rfl rfl rfl rfl ?_; intro _) | (apply kM; refine JO_make (tb := tb) rfl rfl rfl rfl rfl rfl (by omega) rfl ?_; intro _) | refine aO ?_) | (apply gJR; first | apply JR_un | apply JR_nil | refine JR_yes rfl rfl ?_ | refine JR_no rfl rfl rfl rfl ?_ | refine JR_noU rfl rfl rfl ?_) | (apply gJS; first | apply JS_seq | apply JS_region | apply JS_skip | apply JS_block | apply JS_inBlock | apply JS_label | refine JS_exit rfl ?_ | refine JS_condT rfl ?_ | refine JS_condF rfl ?_ | refine JS_draw [0] (by kernel_rfl) (by kernel_rfl) (by decide +kernel) ?_ | refine JS_draw [] (by kernel_rfl) (by kernel_rfl) (by decide +kernel) ?_ | refine JS_cond_T rfl (by omega) ?_ | refine JS_cond_F rfl (by omega) ?_) | (apply gQR; first | apply QR_un | apply QR_nil | refine QR_yes rfl rfl ?_ | refine QR_no rfl rfl rfl rfl ?_ | refine QR_noU rfl rfl rfl ?_) | (apply gQO; first | refine aQ ?_ | refine aQK rfl ?_))
    refine JO_call Try.call12 rfl rfl fun w hw => (Spot_c c d v4 hc hd hn w hw).mono ?_
    rintro e w' ⟨v6, r6, rfl, hw', h2⟩
    refine ⟨_, rfl, _, hw', ?_⟩
    clear hw' hw w w'
    by_cases hbig : 4611686018427387904 < v4
    · obtain rfl : r5 = 6 := by unfold SP at h1; omega
      obtain rfl : r6 = 6 := by unfold SP at h2; omega
      clear h1 h2
      repeat (first | (apply gJO; first | (apply kS; refine aK ?_) | (apply kX; refine JO_box rfl rfl rfl ?_; intro _) | (apply kA; refine JO_alloc (tb := tb) rfl rfl ?_; intro _) | (apply kBs; refine JO_buildSlice (tb := tb) rfl rfl rfl rfl rfl rfl rfl rfl rfl ?_; intro _) | (apply kM; refine JO_make (tb := tb) rfl rfl rfl rfl rfl rfl (by omega) rfl ?_; intro _) | refine aO ?_) | (apply gJR; first | apply JR_un | apply JR_nil | refine JR_yes rfl rfl ?_ | refine JR_no rfl rfl rfl rfl ?_ | refine JR_noU rfl rfl rfl ?_) | (apply gJS; first | apply JS_seq | apply JS_region | apply JS_skip | apply JS_block | apply JS_inBlock | apply JS_label | refine JS_exit rfl ?_ | refine JS_condT rfl ?_ | refine JS_condF rfl ?_ | refine JS_draw [0] (by kernel_rfl) (by kernel_rfl) (by decide +kernel) ?_ | refine JS_draw [] (by kernel_rfl) (by kernel_rfl) (by decide +kernel) ?_ | refine JS_cond_T rfl (by omega) ?_ | refine JS_cond_F rfl (by omega) ?_) | (apply gQR; first | apply QR_un | apply QR_nil | refine QR_yes rfl rfl ?_ | refine QR_no rfl rfl rfl rfl ?_ | refine QR_noU rfl rfl rfl ?_) | (apply gQO; first | refine aQ ?_ | refine aQK rfl ?_))
      refine JS_ret Try.func6 rfl rfl ?_
      intro w hw
      exact ⟨rfl, hw.grown⟩
    · obtain ⟨rfl, h3⟩ : r5 = 0 ∧ v5 = 2 * v4 * a / b := by unfold SP at h1; omega
      obtain ⟨rfl, h4⟩ : r6 = 0 ∧ v6 = 2 * v4 * c / d := by unfold SP at h2; omega
      clear h1 h2
      obtain rfl : v5 = P := by rw [h3, hP]
      obtain rfl : v6 = Q := by rw [h4, hQ]
      clear h3 h4 hP hQ
      repeat (first | (apply gJO; first | (apply kS; refine aK ?_) | (apply kX; refine JO_box rfl rfl rfl ?_; intro _) | (apply kA; refine JO_alloc (tb := tb) rfl rfl ?_; intro _) | (apply kBs; refine JO_buildSlice (tb := tb) rfl rfl rfl rfl rfl rfl rfl rfl rfl ?_; intro _) | (apply kM; refine JO_make (tb := tb) rfl rfl rfl rfl rfl rfl (by omega) rfl ?_; intro _) | refine aO ?_) | (apply gJR; first | apply JR_un | apply JR_nil | refine JR_yes rfl rfl ?_ | refine JR_no rfl rfl rfl rfl ?_ | refine JR_noU rfl rfl rfl ?_) | (apply gJS; first | apply JS_seq | apply JS_region | apply JS_skip | apply JS_block | apply JS_inBlock | apply JS_label | refine JS_exit rfl ?_ | refine JS_condT rfl ?_ | refine JS_condF rfl ?_ | refine JS_draw [0] (by kernel_rfl) (by kernel_rfl) (by decide +kernel) ?_ | refine JS_draw [] (by kernel_rfl) (by kernel_rfl) (by decide +kernel) ?_ | refine JS_cond_T rfl (by omega) ?_ | refine JS_cond_F rfl (by omega) ?_) | (apply gQR; first | apply QR_un | apply QR_nil | refine QR_yes rfl rfl ?_ | refine QR_no rfl rfl rfl rfl ?_ | refine QR_noU rfl rfl rfl ?_) | (apply gQO; first | refine aQ ?_ | refine aQK rfl ?_))
      refine JS_ret Try.func6 rfl rfl ?_
      intro w hw
      exact ⟨rfl, hw.grown⟩
end Go.Proofs.Ytcbcapaifiliiaa
