import Derived.Test.YtjadcaoobnklcaaV4
namespace Go.Proofs.Ytjadcaoobnklcaa
open Sx Go
set_option linter.unusedVariables false
set_option linter.unusedSimpArgs false
theorem coprime_of {a b g p : Int} (hg : g = (Int.gcd a b : Int)) (hg0 : 0 < g) (hp : 2 ≤ p) (h1 : a / g % p = 0) (h2 : b / g % p = 0) : False := by
  have d1 : g ∣ a := by rw [hg]; exact Int.gcd_dvd_left a b
  have d2 : g ∣ b := by rw [hg]; exact Int.gcd_dvd_right a b
  have e1 : p * g ∣ a := by
    have := Int.mul_dvd_mul (Int.dvd_of_emod_eq_zero h1) (Int.dvd_refl g)
    rwa [Int.ediv_mul_cancel d1] at this
  have e2 : p * g ∣ b := by
    have := Int.mul_dvd_mul (Int.dvd_of_emod_eq_zero h2) (Int.dvd_refl g)
    rwa [Int.ediv_mul_cancel d2] at this
  have h3 := Int.dvd_coe_gcd e1 e2
  rw [← hg] at h3
  have h4 := Int.le_of_dvd hg0 h3
  have h5 := Int.mul_le_mul_of_nonneg_right hp (Int.le_of_lt hg0)
  omega
end Go.Proofs.Ytjadcaoobnklcaa
