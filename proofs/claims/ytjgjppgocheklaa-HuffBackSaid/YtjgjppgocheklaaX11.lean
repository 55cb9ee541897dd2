import Derived.Test.YtjgjppgocheklaaX10
namespace Go.Proofs.Ytjgjppgocheklaa
set_option linter.unusedVariables false
set_option linter.unusedSimpArgs false
/-- how many symbols have a length below n -/
def psum (B : List Int) : Nat → Int
  | 0 => 0
  | n + 1 => psum B n + cn B n
theorem cn_nonneg (B : List Int) (n : Nat) : 0 ≤ cn B n := by
  unfold cn; split
  · exact Int.le_refl _
  · omega
theorem psum_mono (B : List Int) (n : Nat) : ∀ d, psum B n ≤ psum B (n + d)
  | 0 => Int.le_refl _
  | d + 1 => by
    have := psum_mono B n d
    have := cn_nonneg B (n + d)
    show psum B n ≤ psum B (n + d) + cn B (n + d)
    omega
theorem psum_syA (B : List Int) (hB : OKB B) : ∀ n, psum B (n + 1) = ((syA B n).length : Int)
  | 0 => by simp [psum, syA, cn]
  | n + 1 => by
    have h1 := psum_syA B hB n
    have h2 := syA_sumc B hB (n + 1)
    have h3 := syA_sumc B hB n
    simp only [sumc] at h2
    show psum B (n + 1) + cn B (n + 1) = _
    omega
/-- from one code to the next one, over lengths that have none -/
theorem shift_code (B : List Int) (n : Nat) (c : Int) (hc : c ≤ cn B n) : ∀ d, 0 < d → psum B (n + d) ≤ psum B n + c → psum B n + c = psum B (n + d) ∧ fc B (n + d) = (fc B n + c) * 2 ^ d
  | 0, h, _ => absurd h (by omega)
  | 1, _, h => by
    have h' : psum B n + cn B n ≤ psum B n + c := h
    have : c = cn B n := by omega
    subst this
    exact ⟨rfl, by show 2 * (fc B n + cn B n) = _; omega⟩
  | d + 2, _, h => by
    have h' : psum B (n + (d + 1)) + cn B (n + (d + 1)) ≤ psum B n + c := h
    have h0 := cn_nonneg B (n + (d + 1))
    obtain ⟨h1, h2⟩ := shift_code B n c hc (d + 1) (by omega) (by omega)
    have hz : cn B (n + (d + 1)) = 0 := by omega
    refine ⟨?_, ?_⟩
    · show psum B n + c = psum B (n + (d + 1)) + cn B (n + (d + 1)); omega
    · show 2 * (fc B (n + (d + 1)) + cn B (n + (d + 1))) = _
      rw [hz, h2, Int.pow_succ 2 (d + 1)]
      generalize (2 : Int) ^ (d + 1) = P
      grind
theorem sy1_get (B : List Int) (n : Nat) : ∀ j r, r < (sy1 B n j).length → ∃ i, i < j ∧ (sy1 B n j).getD r 0 = (i : Int) ∧ B.getD i 0 = (n : Int) ∧ (sy1 B n i).length = r
  | 0, r, h => by simp [sy1] at h
  | j + 1, r, h => by
    by_cases he : B.getD j 0 = (n : Int)
    · rw [sy1_yes he] at h ⊢
      rcases Nat.lt_or_ge r (sy1 B n j).length with h1 | h1
      · obtain ⟨i, hi, h2, h3⟩ := sy1_get B n j r h1
        refine ⟨i, by omega, ?_, h3⟩
        rw [List.getD_eq_getElem?_getD, List.getElem?_append_left h1, ← List.getD_eq_getElem?_getD]; exact h2
      · have hr : r = (sy1 B n j).length := by simp at h; omega
        subst hr
        exact ⟨j, by omega, by simp, he, rfl⟩
    · rw [sy1_no he] at h ⊢
      obtain ⟨i, hi, h2⟩ := sy1_get B n j r h
      exact ⟨i, by omega, h2⟩
/-- the symbol at a place: its length, and which one of that length it is -/
theorem syA_get (B : List Int) : ∀ N t, t < (syA B N).length → ∃ n r i, n < N ∧ t = (syA B n).length + r ∧ r < (sy1 B (n + 1) B.length).length ∧ i < B.length ∧ (syA B N).getD t 0 = (i : Int) ∧ B.getD i 0 = ((n + 1 : Nat) : Int) ∧ (sy1 B (n + 1) i).length = r
  | 0, t, h => by simp [syA] at h
  | N + 1, t, h => by
    simp only [syA] at h ⊢
    rcases Nat.lt_or_ge t (syA B N).length with h1 | h1
    · obtain ⟨n, r, i, h2, h3, h4, h5, h6, h7⟩ := syA_get B N t h1
      refine ⟨n, r, i, by omega, h3, h4, h5, ?_, h7⟩
      rw [List.getD_eq_getElem?_getD, List.getElem?_append_left h1, ← List.getD_eq_getElem?_getD]; exact h6
    · have hr : t - (syA B N).length < (sy1 B (N + 1) B.length).length := by rw [List.length_append] at h; omega
      obtain ⟨i, h2, h3, h4, h5⟩ := sy1_get B (N + 1) B.length (t - (syA B N).length) hr
      refine ⟨N, t - (syA B N).length, i, by omega, by omega, hr, h2, ?_, h4, h5⟩
      rw [List.getD_eq_getElem?_getD, List.getElem?_append_right h1, ← List.getD_eq_getElem?_getD]; exact h3
end Go.Proofs.Ytjgjppgocheklaa
