import Derived.Test.YtjgjppgocheklaaX12
namespace Go.Proofs.Ytjgjppgocheklaa
open Sx Go
set_option linter.unusedVariables false
set_option linter.unusedSimpArgs false
attribute [local irreducible] syA
/-! what is read by a set's codes -/
theorem cn_app (l : List Int) (x : Int) (n : Nat) : cn (l ++ [x]) n = cn l n + (if 0 < n ∧ x = (n : Int) then 1 else 0) := by
  unfold cn
  rw [List.countP_append]
  by_cases h0 : n = 0
  · simp [h0]
  · rw [if_neg h0, if_neg h0]
    by_cases hx : x = (n : Int)
    · rw [if_pos ⟨by omega, hx⟩]; simp [hx]
    · rw [if_neg (fun h => hx h.2)]
      have : ¬ (x == (n : Int)) = true := by simpa using hx
      simp [this]
theorem fc_app (l : List Int) (k : Nat) : ∀ n, fc (l ++ [(k : Int)]) n = fc l n + (if 0 < k ∧ k < n then 2 ^ (n - k) else 0)
  | 0 => by simp [fc]
  | n + 1 => by
    simp only [fc, fc_app l k n, cn_app]
    by_cases h0 : 0 < k
    · rcases Nat.lt_trichotomy k n with h | h | h
      · rw [if_pos ⟨h0, h⟩, if_neg (by omega), if_pos ⟨h0, by omega⟩, show n + 1 - k = (n - k) + 1 by omega, Int.pow_succ]; omega
      · subst h
        rw [if_neg (by omega), if_pos ⟨h0, rfl⟩, if_pos ⟨h0, by omega⟩, show k + 1 - k = 1 by omega]; omega
      · rw [if_neg (by omega), if_neg (by omega), if_neg (by omega)]; omega
    · rw [if_neg (by omega), if_neg (by omega), if_neg (by omega)]; omega
theorem fc_tk (B : List Int) (hB : OKB B) (h15 : ∀ j, B.getD j 0 ≤ 15) : ∀ i, i ≤ B.length → fc (B.take i) 15 + cn (B.take i) 15 = tk (B.take i)
  | 0, _ => by rw [List.take_zero]; decide
  | i + 1, h => by
    obtain ⟨n, hn⟩ := Int.eq_ofNat_of_zero_le (hB i).1
    have h1 := h15 i
    rw [tk_step B i (by omega) n hn, btake B i (by omega), hn, fc_app, cn_app, ← fc_tk B hB h15 i (by omega)]
    by_cases h0 : 0 < n
    · rw [if_pos h0]
      by_cases h2 : n = 15
      · subst h2; simp; omega
      · rw [if_pos ⟨h0, by omega⟩, if_neg (by omega)]; omega
    · rw [if_neg h0, if_neg (by omega), if_neg (by omega)]; omega
theorem fc_nn (B : List Int) : ∀ n, 0 ≤ fc B n
  | 0 => Int.le_refl _
  | n + 1 => by
    have := fc_nn B n
    have := cn_nonneg B n
    show 0 ≤ 2 * (fc B n + cn B n); omega
theorem FINE_tk (B : List Int) (hB : OKB B) (h15 : ∀ j, B.getD j 0 ≤ 15) (hF : FINE B) : tk B ≤ 32768 := by
  rcases hF with h | h | h
  · omega
  · have : ∀ i, i ≤ B.length → sm (B.take i) = 0 → tk (B.take i) = 0 := by
      intro i
      induction i with
      | zero => intro _ _; rfl
      | succ i ih =>
        intro hi hs
        rw [sm_step B i (by omega)] at hs
        obtain ⟨n, hn⟩ := Int.eq_ofNat_of_zero_le (hB i).1
        rw [tk_step B i (by omega) n hn]
        by_cases h0 : 0 < n
        · rw [if_pos (by omega)] at hs; omega
        · rw [if_neg h0, ih (by omega) (by omega)]; rfl
    have := this B.length (Nat.le_refl _) (by rw [List.take_length]; exact h)
    rw [List.take_length] at this; omega
  · have : ∀ i, i ≤ B.length → tk (B.take i) ≤ 32768 * sm (B.take i) := by
      intro i
      induction i with
      | zero => intro _; simp [tk, sm]
      | succ i ih =>
        intro hi
        rw [sm_step B i (by omega)]
        obtain ⟨n, hn⟩ := Int.eq_ofNat_of_zero_le (hB i).1
        rw [tk_step B i (by omega) n hn]
        have := ih (by omega)
        have h2 := h15 i
        have := p2_bd n (by omega)
        by_cases h0 : 0 < n
        · rw [if_pos h0, if_pos (by omega)]; omega
        · rw [if_neg h0, if_neg (by omega)]; omega
    have := this B.length (Nat.le_refl _)
    rw [List.take_length] at this; omega
theorem fc_le (B : List Int) (hB : OKB B) (h15 : ∀ j, B.getD j 0 ≤ 15) (hF : FINE B) : ∀ d, d ≤ 15 → fc B (15 - d) + cn B (15 - d) ≤ 2 ^ (15 - d)
  | 0, _ => by
    have h := fc_tk B hB h15 B.length (Nat.le_refl _)
    rw [List.take_length] at h
    have := FINE_tk B hB h15 hF
    show fc B 15 + cn B 15 ≤ 32768; omega
  | d + 1, hd => by
    have h := fc_le B hB h15 hF d (by omega)
    have e : 15 - d = (15 - (d + 1)) + 1 := by omega
    rw [e, Int.pow_succ] at h
    have h2 : fc B (15 - (d + 1) + 1) = 2 * (fc B (15 - (d + 1)) + cn B (15 - (d + 1))) := rfl
    have := cn_nonneg B (15 - (d + 1) + 1)
    omega
theorem fc_bd (B : List Int) (hB : OKB B) (h15 : ∀ j, B.getD j 0 ≤ 15) (hF : FINE B) (n : Nat) (hn : n ≤ 15) : fc B n + cn B n ≤ 2 ^ n := by
  have := fc_le B hB h15 hF (15 - n) (by omega)
  rwa [show 15 - (15 - n) = n by omega] at this
theorem p15 (n : Nat) (h : n ≤ 15) : (1 : Int) ≤ 2 ^ n ∧ (2 : Int) ^ n ≤ 32768 := by
  have := p2_bd (15 - n) (by omega)
  rwa [show 15 - (15 - n) = n by omega] at this
/-- a number of bits, the first one the highest -/
def bval (b : Nat → Int) : Nat → Int
  | 0 => 0
  | n + 1 => 2 * bval b n + b n
/-- the symbol i is what the bits begin with -/
def DEC (B : List Int) (b : Nat → Int) (left : Nat) (i : Nat) : Prop :=
  ∃ n : Nat, i < B.length ∧ 0 < n ∧ B.getD i 0 = (n : Int) ∧ n ≤ left ∧ bval b n = cd B i
theorem cd_eq (B : List Int) (hB : OKB B) (h15 : ∀ j, B.getD j 0 ≤ 15) (hF : FINE B) (i n : Nat) (hi : i < B.length) (h0 : 0 < n) (hn : B.getD i 0 = (n : Int)) : cd B i = fc B n + cn (B.take i) n ∧ cn (B.take i) n < cn B n := by
  have h1 := cn_yes B i n hi hn h0
  have h2 : ∀ d, i + 1 + d ≤ B.length → cn (B.take (i + 1)) n ≤ cn (B.take (i + 1 + d)) n := by
    intro d
    induction d with
    | zero => intro _; exact Int.le_refl _
    | succ d ih =>
      intro hd
      have := ih (by omega)
      rw [show i + 1 + (d + 1) = (i + 1 + d) + 1 from rfl, btake B (i + 1 + d) (by omega), cn_app]
      split <;> omega
  have h3 := h2 (B.length - (i + 1)) (by omega)
  rw [show i + 1 + (B.length - (i + 1)) = B.length by omega, List.take_length] at h3
  have h4 := fc_nn B n
  have h5 := cn_nonneg (B.take i) n
  have h15i := h15 i
  have h6 := fc_bd B hB h15 hF n (by omega)
  have h7 := p15 n (by omega)
  refine ⟨?_, by omega⟩
  unfold cd
  rw [hn, Int.toNat_natCast]; omega
theorem cn_mono (B : List Int) (n i j : Nat) (hij : i ≤ j) (hj : j ≤ B.length) : cn (B.take i) n ≤ cn (B.take j) n := by
  obtain ⟨d, rfl⟩ : ∃ d, j = i + d := ⟨j - i, by omega⟩
  clear hij
  induction d with
  | zero => exact Int.le_refl _
  | succ d ih =>
    have := ih (by omega)
    rw [show i + (d + 1) = (i + d) + 1 from rfl, btake B (i + d) (by omega), cn_app]
    split <;> omega
/-- once read, always behind -/
theorem val_behind (B : List Int) (b : Nat → Int) (hb : ∀ j, b j = 0 ∨ b j = 1) (n : Nat) (h : bval b n < fc B n + cn B n) : ∀ d, 0 < d → bval b (n + d) < fc B (n + d)
  | 0, h0 => absurd h0 (by omega)
  | 1, _ => by
    have := hb n
    show 2 * bval b n + b n < 2 * (fc B n + cn B n); omega
  | d + 2, _ => by
    have h1 := val_behind B b hb n h (d + 1) (by omega)
    have := hb (n + (d + 1))
    have := cn_nonneg B (n + (d + 1))
    show 2 * bval b (n + (d + 1)) + b (n + (d + 1)) < 2 * (fc B (n + (d + 1)) + cn B (n + (d + 1))); omega
/-- no code begins with another one -/
theorem DEC_one (B : List Int) (hB : OKB B) (h15 : ∀ j, B.getD j 0 ≤ 15) (hF : FINE B) (b : Nat → Int) (hb : ∀ j, b j = 0 ∨ b j = 1) (left i j : Nat) (h1 : DEC B b left i) (h2 : DEC B b left j) : i = j := by
  obtain ⟨n, hi, hn0, hn, hnl, hv⟩ := h1
  obtain ⟨k, hj, hk0, hk, hkl, hu⟩ := h2
  obtain ⟨c1, c2⟩ := cd_eq B hB h15 hF i n hi hn0 hn
  obtain ⟨c3, c4⟩ := cd_eq B hB h15 hF j k hj hk0 hk
  have z1 := cn_nonneg (B.take i) n
  have z2 := cn_nonneg (B.take j) k
  rcases Nat.lt_trichotomy n k with h | h | h
  · have := val_behind B b hb n (by omega) (k - n) (by omega)
    rw [show n + (k - n) = k by omega] at this; omega
  · subst h
    rcases Nat.lt_trichotomy i j with h | h | h
    · have a1 := cn_yes B i n hi hn hn0
      have a2 := cn_mono B n (i + 1) j (by omega) (by omega)
      omega
    · exact h
    · have a1 := cn_yes B j n hj hk hk0
      have a2 := cn_mono B n (j + 1) i (by omega) (by omega)
      omega
  · have := val_behind B b hb k (by omega) (n - k) (by omega)
    rw [show k + (n - k) = n by omega] at this; omega
/-- the symbol at a place of the codes of one length -/
theorem sym_at (B : List Int) (hB : OKB B) (h15 : ∀ j, B.getD j 0 ≤ 15) (hF : FINE B) (n : Nat) (h0 : 0 < n) (hn : n ≤ 15) (k : Nat) (hk : (k : Int) < cn B n) :
    ∃ i : Nat, psum B n + k < ((syA B 15).length : Int) ∧ (syA B 15).getD (psum B n + k).toNat 0 = (i : Int) ∧ i < B.length ∧ B.getD i 0 = (n : Int) ∧ cd B i = fc B n + k := by
  have hp : 0 ≤ psum B n := by
    have := psum_mono B 0 n
    rw [Nat.zero_add] at this
    exact this
  have hl : psum B n + k < ((syA B 15).length : Int) := by
    have h1 := psum_syA B hB 15
    have h2 := psum_mono B (n + 1) (15 - n)
    rw [show n + 1 + (15 - n) = 16 by omega] at h2
    have : psum B (n + 1) = psum B n + cn B n := rfl
    have : psum B (15 + 1) = psum B 16 := rfl
    omega
  obtain ⟨n', r, i, g1, g2, g3, g4, g5, g6, g7⟩ := syA_get B 15 (psum B n + k).toNat (by omega)
  have e1 := psum_syA B hB n'
  have e2 := cn_sy1 B hB (n' + 1) (by omega) i (by omega)
  have e3 := cn_sy1 B hB (n' + 1) (by omega) B.length (Nat.le_refl _)
  rw [List.take_length] at e3
  have e4 : psum B (n' + 1 + 1) = psum B (n' + 1) + cn B (n' + 1) := rfl
  have e5 : psum B (n + 1) = psum B n + cn B n := rfl
  have hnn : n' + 1 = n := by
    rcases Nat.lt_trichotomy (n' + 1) n with h | h | h
    · have := psum_mono B (n' + 1 + 1) (n - (n' + 2))
      rw [show n' + 1 + 1 + (n - (n' + 2)) = n by omega] at this; omega
    · exact h
    · have := psum_mono B (n + 1) (n' + 1 - (n + 1))
      rw [show n + 1 + (n' + 1 - (n + 1)) = n' + 1 by omega] at this; omega
  subst hnn
  refine ⟨i, hl, g5, g4, g6, ?_⟩
  rw [(cd_eq B hB h15 hF i (n' + 1) g4 (by omega) g6).1]; omega
end Go.Proofs.Ytjgjppgocheklaa
