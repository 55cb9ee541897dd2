/- Plain facts on numbers of 64 and 128 bits, for the walks of math/bits and wide: the length in bits, the long division of 128 by 64 bits. -/
import Derived.Laws.MathBits
namespace Go.Proofs.Ytjadcaoobnklcaa
/-- the length in bits -/
def BL (x L : Int) : Prop := 0 ≤ L ∧ L ≤ 64 ∧ (x = 0 → L = 0) ∧ (x ≠ 0 → 1 ≤ L ∧ 2 ^ (L - 1).toNat ≤ x.toNat ∧ x.toNat < 2 ^ L.toNat)
theorem pow_split (a b : Nat) : (2 : Nat) ^ (a + b) = 2 ^ a * 2 ^ b := Nat.pow_add 2 a b
theorem BL_of {x : Int} (h0 : 0 ≤ x) (h : x < 18446744073709551616) : BL x (bitLen x.toNat) := by
  obtain ⟨h1, h2⟩ := bitLen_spec x.toNat
  have h3 : bitLen x.toNat ≤ 64 := by
    by_cases hx : x.toNat = 0
    · simp [bitLen, hx]
    · have := h2 hx
      rcases Nat.lt_or_ge 64 (bitLen x.toNat) with h4 | h4
      · have : (2 : Nat) ^ 64 ≤ 2 ^ (bitLen x.toNat - 1) := Nat.pow_le_pow_right (by omega) (by omega)
        omega
      · exact h4
  refine ⟨by omega, by omega, fun hx => by subst hx; rfl, fun hx => ?_⟩
  have hx' : x.toNat ≠ 0 := by omega
  have h4 : 1 ≤ bitLen x.toNat := by
    rcases Nat.eq_zero_or_pos (bitLen x.toNat) with h5 | h5
    · rw [h5] at h1; omega
    · exact h5
  refine ⟨by omega, ?_, by simpa using h1⟩
  rw [show (((bitLen x.toNat : Nat) : Int) - 1).toNat = bitLen x.toNat - 1 from by omega]
  exact h2 hx'
/-- a shift by whole bytes takes its bits off the length -/
theorem bitLen_cut (x : Int) (b : Nat) (h0 : 0 ≤ x) (h : (2 : Int) ^ b ≤ x) : (bitLen x.toNat : Int) = b + bitLen (x / 2 ^ b).toNat := by
  have e : (x / 2 ^ b).toNat = x.toNat / 2 ^ b := by
    obtain ⟨n, rfl⟩ := Int.eq_ofNat_of_zero_le h0
    rw [show ((2 : Int) ^ b) = ((2 ^ b : Nat) : Int) from by simp, ← Int.natCast_ediv]; rfl
  have hp : 0 < 2 ^ b := Nat.two_pow_pos b
  have : x.toNat / 2 ^ b ≠ 0 := by
    have : 2 ^ b ≤ x.toNat := by
      have h' : ((2 ^ b : Nat) : Int) ≤ x := by simpa using h
      omega
    have := (Nat.le_div_iff_mul_le hp).2 (by simpa using this : 1 * 2 ^ b ≤ x.toNat)
    omega
  rw [bitLen_shift x.toNat b this, e]
  omega

/-! the long division -/
/-- a step's trial quotient: it is not too small, and what is left fits -/
theorem div_start {u y1 : Int} (hy : 0 < y1) : u = u / y1 * y1 + (u - u / y1 * y1) ∧ 0 ≤ u - u / y1 * y1 ∧ u - u / y1 * y1 < y1 := by
  have h1 := Int.emod_nonneg u (Int.ne_of_gt hy)
  have h2 := Int.emod_lt_of_pos u hy
  have h3 := Int.mul_ediv_add_emod u y1
  rw [Int.mul_comm] at h3
  refine ⟨by omega, by omega, by omega⟩
/-- the trial quotient is not below the true one -/
theorem div_over {u y1 y0 u1 q r : Int} (hy0 : 0 ≤ y0) (hu1 : u1 < 4294967296) (hu : u = q * y1 + r) (hr : r < y1) (hq : 0 ≤ q) :
    u * 4294967296 + u1 < (q + 1) * (y1 * 4294967296 + y0) := by
  have h1 : 0 ≤ (q + 1) * y0 := Int.mul_nonneg (by omega) hy0
  have e : (q + 1) * (y1 * 4294967296 + y0) = q * y1 * 4294967296 + y1 * 4294967296 + (q + 1) * y0 := by grind
  rw [e, hu]
  generalize q * y1 = A at *
  omega
/-- the trial quotient is at most two too great -/
theorem div_top {u y1 y0 q r : Int} (hy0 : 0 ≤ y0) (hy0' : y0 < 4294967296) (hy1 : 2147483648 ≤ y1) (hlt : u < y1 * 4294967296 + y0) (hu : u = q * y1 + r) (hr : 0 ≤ r) : q ≤ 4294967297 := by
  refine Int.not_lt.1 fun h => ?_
  have h1 : 4294967298 * y1 ≤ q * y1 := Int.mul_le_mul_of_nonneg_right (by omega) (by omega)
  omega
theorem mul_bd {a b A B : Int} (ha : 0 ≤ a) (hb : 0 ≤ b) (hA : a ≤ A) (hB : b ≤ B) (hA0 : 0 ≤ A) : 0 ≤ a * b ∧ a * b ≤ A * B :=
  ⟨Int.mul_nonneg ha hb, Int.mul_le_mul hA hB hb hA0⟩
/-- the test that ends the loop -/
theorem div_test {u y1 y0 u1 q r : Int} (hu : u = q * y1 + r) : (q * (y1 * 4294967296 + y0) ≤ u * 4294967296 + u1) ↔ q * y0 ≤ 4294967296 * r + u1 := by
  have e : q * (y1 * 4294967296 + y0) = q * y1 * 4294967296 + q * y0 := by grind
  rw [e, hu]
  generalize q * y1 = A at *
  generalize q * y0 = B at *
  omega
/-- the true quotient is below 2^32 -/
theorem div_big {u Y u1 q : Int} (hu : 0 ≤ u ∧ u < Y) (hu1 : u1 < 4294967296) (hq : 4294967296 ≤ q) : u * 4294967296 + u1 < q * Y := by
  have h1 : 4294967296 * Y ≤ q * Y := Int.mul_le_mul_of_nonneg_right hq (by omega)
  omega
theorem div_over' {u y1 y0 u1 q r : Int} (hu : u = q * y1 + r) (h : 4294967296 * r + u1 < q * y0) : u * 4294967296 + u1 < q * (y1 * 4294967296 + y0) := by
  have := (div_test (y0 := y0) (u1 := u1) hu).1
  omega
theorem div_top2 {u Y u1 q : Int} (hu : 0 ≤ u ∧ u < Y) (hu1 : u1 < 4294967296) (h : q * Y ≤ u * 4294967296 + u1) : q < 4294967296 := by
  rcases Int.lt_or_le q 4294967296 with h1 | h1
  · exact h1
  · have := div_big hu hu1 h1
    omega
/-- one less -/
theorem div_less {u y1 q r : Int} (hu : u = q * y1 + r) : u = (q - 1) * y1 + (r + y1) := by
  rw [hu]; grind
theorem div_done {N Y q : Int} (h1 : q * Y ≤ N) (h2 : N < (q + 1) * Y) (hY : 0 < Y) : q = N / Y ∧ N - q * Y = N % Y := by
  have h3 : N / Y = q := by
    have a1 : q ≤ N / Y := Int.le_ediv_of_mul_le hY h1
    have a2 : N / Y < q + 1 := Int.ediv_lt_of_lt_mul hY h2
    omega
  refine ⟨h3.symm, ?_⟩
  have := Int.mul_ediv_add_emod N Y
  rw [h3, Int.mul_comm] at this
  omega
/-- both halves together -/
theorem div_join {U Y un32 un1 un0 q1 q0 : Int} (hU : U = un32 * 18446744073709551616 + un1 * 4294967296 + un0) (h1 : q1 = (un32 * 4294967296 + un1) / Y) (hq0 : q0 = ((un32 * 4294967296 + un1) % Y * 4294967296 + un0) / Y) (hY : 0 < Y) :
    q1 * 4294967296 + q0 = U / Y ∧ ((un32 * 4294967296 + un1) % Y * 4294967296 + un0) % Y = U % Y := by
  have e1 := Int.mul_ediv_add_emod (un32 * 4294967296 + un1) Y
  rw [← h1] at e1
  have e : U = ((un32 * 4294967296 + un1) % Y * 4294967296 + un0) + Y * (q1 * 4294967296) := by
    rw [hU]
    generalize (un32 * 4294967296 + un1) % Y = m at *
    have : un32 * 18446744073709551616 + un1 * 4294967296 + un0 = (un32 * 4294967296 + un1) * 4294967296 + un0 := by omega
    rw [this, ← e1]; grind
  constructor
  · rw [e, Int.add_mul_ediv_left _ _ (Int.ne_of_gt hY), ← hq0]; omega
  · rw [e, Int.add_mul_emod_self_left]
theorem scale_div {a b c : Int} (hc : 0 < c) : a * c / (b * c) = a / b := Int.mul_ediv_mul_of_pos_left a b hc
theorem scale_mod {a b c : Int} (hc : 0 < c) : a * c % (b * c) / c = a % b := by
  rw [Int.mul_comm a c, Int.mul_comm b c, Int.mul_emod_mul_of_pos a b hc, Int.mul_comm]
  exact Int.mul_ediv_cancel _ (Int.ne_of_gt hc)
/-- a number shifted left, with the next one's upper bits -/
theorem or_add {a b : Nat} {s : Nat} (h : b < 2 ^ s) : a * 2 ^ s ||| b = a * 2 ^ s + b := by
  rw [Nat.mul_comm]; exact (Nat.two_pow_add_eq_or_of_lt h a).symm
end Go.Proofs.Ytjadcaoobnklcaa
