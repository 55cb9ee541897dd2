/- Bit by bit division: plain facts. -/
import Derived.Test.YtjadcaoobnklcaaP1
import Derived.Test.YtjadcaoobnklcaaP2
namespace Go.Proofs.Ytjadcaoobnklcaa
theorem getD_val : ∀ {L : List Int}, D16 L → ∀ j, L.getD j 0 = val L / 65536 ^ j % 65536
  | [], _, j => by simp [val]
  | x :: r, h, 0 => by
    have h0 := h 0
    simp only [List.getD_cons_zero] at h0
    simp only [List.getD_cons_zero, val, Int.pow_zero, Int.ediv_one]; omega
  | x :: r, h, j + 1 => by
    have h0 := h 0
    simp only [List.getD_cons_zero] at h0
    rw [List.getD_cons_succ, getD_val (D16_tail h) j, Int.pow_succ, Int.mul_comm, ← Int.ediv_ediv_of_nonneg (by decide)]
    congr 2
    simp only [val]; omega
theorem pow16 (i : Nat) : (2 : Int) ^ i = 65536 ^ (i / 16) * 2 ^ (i % 16) := by
  conv => lhs; rw [← Nat.div_add_mod i 16, Int.pow_add, Int.pow_mul]
  rfl
theorem sixteen {s : Nat} (h : s < 16) (P : Nat → Prop) (h0 : P 0) (h1 : P 1) (h2 : P 2) (h3 : P 3) (h4 : P 4) (h5 : P 5) (h6 : P 6) (h7 : P 7) (h8 : P 8) (h9 : P 9) (ha : P 10) (hb : P 11) (hc : P 12) (hd : P 13) (he : P 14) (hf : P 15) : P s := by
  match s, h with
  | 0, _ => exact h0 | 1, _ => exact h1 | 2, _ => exact h2 | 3, _ => exact h3 | 4, _ => exact h4 | 5, _ => exact h5 | 6, _ => exact h6 | 7, _ => exact h7
  | 8, _ => exact h8 | 9, _ => exact h9 | 10, _ => exact ha | 11, _ => exact hb | 12, _ => exact hc | 13, _ => exact hd | 14, _ => exact he | 15, _ => exact hf
  | s + 16, h => exact absurd h (by omega)
theorem val_bit {L : List Int} (h : D16 L) (i : Nat) : L.getD (i / 16) 0 / 2 ^ (i % 16) % 2 = val L / 2 ^ i % 2 := by
  rw [getD_val h, pow16 i, ← Int.ediv_ediv_of_nonneg (Int.pow_nonneg (by decide))]
  generalize val L / 65536 ^ (i / 16) = W
  exact sixteen (Nat.mod_lt i (by decide)) (fun s => W % 65536 / 2 ^ s % 2 = W / 2 ^ s % 2) (by omega) (by omega) (by omega) (by omega) (by omega) (by omega) (by omega) (by omega) (by omega) (by omega) (by omega) (by omega) (by omega) (by omega) (by omega) (by omega)
theorem pow_pos2 (i : Nat) : (0 : Int) < 2 ^ i := Int.pow_pos (by decide)
theorem val_low {L : List Int} (h : D16 L) (i : Nat) {m : Int} (hm : val L = m * 2 ^ (i + 1)) : L.getD (i / 16) 0 + 2 ^ (i % 16) < 65536 := by
  rw [getD_val h, hm, Int.pow_succ, pow16 i]
  rw [show m * (65536 ^ (i / 16) * 2 ^ (i % 16) * 2) = (m * 2 ^ (i % 16) * 2) * 65536 ^ (i / 16) by grind, Int.mul_ediv_cancel _ (Int.ne_of_gt (Int.pow_pos (by decide)))]
  exact sixteen (Nat.mod_lt i (by decide)) (fun s => m * 2 ^ s * 2 % 65536 + 2 ^ s < 65536) (by omega) (by omega) (by omega) (by omega) (by omega) (by omega) (by omega) (by omega) (by omega) (by omega) (by omega) (by omega) (by omega) (by omega) (by omega) (by omega)
theorem pow_lt16 (i : Nat) : (2 : Int) ^ (i % 16) ≤ 32768 := 
  sixteen (Nat.mod_lt i (by decide)) (fun s => (2 : Int) ^ s ≤ 32768) (by omega) (by omega) (by omega) (by omega) (by omega) (by omega) (by omega) (by omega) (by omega) (by omega) (by omega) (by omega) (by omega) (by omega) (by omega) (by omega)
theorem half_pow (V : Int) (i : Nat) : V / 2 ^ (i + 1) = V / 2 ^ i / 2 := by
  rw [Int.pow_succ, Int.ediv_ediv_of_nonneg (Int.le_of_lt (pow_pos2 i))]
theorem div_bit {W d : Int} (hd : 0 < d) : (d ≤ 2 * (W / 2 % d) + W % 2 → W / d = 2 * (W / 2 / d) + 1 ∧ W % d = 2 * (W / 2 % d) + W % 2 - d) ∧ (2 * (W / 2 % d) + W % 2 < d → W / d = 2 * (W / 2 / d) ∧ W % d = 2 * (W / 2 % d) + W % 2) := by
  have e := Int.mul_ediv_add_emod (W / 2) d
  have l1 := Int.emod_nonneg (W / 2) (Int.ne_of_gt hd)
  have l2 := Int.emod_lt_of_pos (W / 2) hd
  generalize W / 2 / d = q at *
  generalize W / 2 % d = l at *
  have e2 : d * q * 2 = (2 * q) * d := by grind
  have e3 : (2 * q + 1) * d = (2 * q) * d + d := by grind
  have e4 : (2 * q + 1 + 1) * d = (2 * q) * d + d + d := by grind
  generalize d * q = dq at *
  generalize hz : (2 * q) * d = z at *
  constructor
  · intro h
    have := div_done (N := W) (Y := d) (q := 2 * q + 1) (by omega) (by omega) hd
    omega
  · intro h
    have := div_done (N := W) (Y := d) (q := 2 * q) (by omega) (by omega) hd
    omega
theorem bit_no {V d m l x : Int} {i : Nat} (hd : 0 < d) (hl : l = V / 2 ^ (i + 1) % d) (hx : x = V / 2 ^ i % 2) (hv : m = V / 2 ^ (i + 1) / d * 2 ^ (i + 1)) (h : 2 * l + x < d) : m = V / 2 ^ i / d * 2 ^ i ∧ 2 * l + x = V / 2 ^ i % d := by
  rw [half_pow] at hl hv
  subst hl hx hv
  obtain ⟨h1, h2⟩ := (div_bit hd).2 h
  rw [h1, h2]
  exact ⟨by rw [Int.pow_succ]; grind, rfl⟩
theorem bit_yes {V d m l x p : Int} {i : Nat} (hd : 0 < d) (hl : l = V / 2 ^ (i + 1) % d) (hx : x = V / 2 ^ i % 2) (hv : m = V / 2 ^ (i + 1) / d * 2 ^ (i + 1)) (h : d ≤ 2 * l + x) (hp : p = 2 ^ i) : m + p = V / 2 ^ i / d * 2 ^ i ∧ 2 * l + x - d = V / 2 ^ i % d := by
  rw [half_pow] at hl hv
  subst hl hx hv hp
  obtain ⟨h1, h2⟩ := (div_bit hd).1 h
  rw [h1, h2]
  exact ⟨by rw [Int.pow_succ]; grind, rfl⟩
end Go.Proofs.Ytjadcaoobnklcaa
