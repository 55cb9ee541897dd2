import Derived.Test.YtjadcaoobnklcaaV1
namespace Go.Proofs.Ytjadcaoobnklcaa
open Sx Go
set_option linter.unusedVariables false
set_option linter.unusedSimpArgs false
theorem ceil_char {a b n v : Int} (hb : 0 < b) (h0 : 0 ≤ a * n) (h : RV (a * n / b) (a * n % b) v) : 1 ≤ v ∧ a * n ≤ v * b ∧ (v = 1 ∨ v * b - b < a * n) := by
  have e := Int.mul_ediv_add_emod (a * n) b
  have l0 := Int.emod_nonneg (a * n) (Int.ne_of_gt hb)
  have l1 := Int.emod_lt_of_pos (a * n) hb
  have q0 := Int.ediv_nonneg h0 (Int.le_of_lt hb)
  generalize a * n / b = q at *
  generalize a * n % b = l at *
  generalize a * n = N at *
  have e1 : q * b = b * q := Int.mul_comm _ _
  have e2 : (q + 1) * b = b * q + b := by grind
  unfold RV at h
  rcases h with ⟨rfl, rfl, rfl⟩ | ⟨rfl, h, rfl⟩ | ⟨h, rfl⟩
  · omega
  · omega
  · omega
theorem rank_mono {a b c d n v w : Int} (hb : 0 < b) (hd : 0 < d) (ha : 0 ≤ a) (hc : 0 ≤ c) (hn : 0 ≤ n) (hv : RV (a * n / b) (a * n % b) v) (hw : RV (c * n / d) (c * n % d) w) (h : a * d ≤ c * b) : v ≤ w := by
  obtain ⟨v1, v2, v3⟩ := ceil_char hb (Int.mul_nonneg ha hn) hv
  obtain ⟨w1, w2, w3⟩ := ceil_char hd (Int.mul_nonneg hc hn) hw
  rcases Int.lt_or_le w v with h1 | h1
  · exfalso
    have h2 : v * b - b < a * n := by omega
    have h3 : w * b ≤ v * b - b := by
      have := Int.mul_le_mul_of_nonneg_right (show w ≤ v - 1 by omega) (Int.le_of_lt hb)
      rw [Int.sub_mul, Int.one_mul] at this
      exact this
    have h4 : w * b * d < a * n * d := Int.mul_lt_mul_of_pos_right (by omega) hd
    have h5 : c * n * b ≤ w * d * b := Int.mul_le_mul_of_nonneg_right w2 (Int.le_of_lt hb)
    have h6 : a * d * n ≤ c * b * n := Int.mul_le_mul_of_nonneg_right h hn
    have e1 : w * b * d = w * d * b := by grind
    have e2 : a * n * d = a * d * n := by grind
    have e3 : c * n * b = c * b * n := by grind
    omega
  · exact h1
end Go.Proofs.Ytjadcaoobnklcaa
