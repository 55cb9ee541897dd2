import Derived.Test.YtjgjppgocheklaaX5
import Derived.Test.YtjgjppgocheklaaX8
import Derived.Test.YtjgjppgocheklaaX9
namespace Go.Proofs.Ytjgjppgocheklaa
set_option linter.unusedVariables false
set_option linter.unusedSimpArgs false
theorem cn_sy1 (B : List Int) (hB : OKB B) (n : Nat) (h0 : 0 < n) : ∀ j, j ≤ B.length → ((sy1 B n j).length : Int) = cn (B.take j) n := by
  intro j
  induction j with
  | zero => intro _; simp [sy1, cn]
  | succ j ih =>
    intro hj
    have ih := ih (by omega)
    by_cases h : B.getD j 0 = (n : Int)
    · rw [sy1_yes h, cn_yes B j n (by omega) h h0]; simp; omega
    · rw [sy1_no h, cn_no B hB j n (by omega) h]; exact ih
def sumc (f : Nat → Int) : Nat → Int
  | 0 => 0
  | n + 1 => sumc f n + f (n + 1)
theorem sumc_upd (f : Nat → Int) (k : Nat) (h0 : 0 < k) : ∀ n, sumc (fun j => if j = k then f k + 1 else f j) n = sumc f n + (if k ≤ n then 1 else 0)
  | 0 => by simp [sumc]; omega
  | n + 1 => by
    simp only [sumc, sumc_upd f k h0 n]
    by_cases h : n + 1 = k
    · subst h
      rw [if_pos rfl, if_neg (by omega), if_pos (by omega)]; omega
    · rw [if_neg h]
      by_cases h1 : k ≤ n
      · rw [if_pos h1, if_pos (by omega)]; omega
      · rw [if_neg h1, if_neg (by omega)]; omega
theorem sumc_zero (n : Nat) : sumc (cn []) n = 0 := by
  induction n with
  | zero => rfl
  | succ n ih => simp [sumc, ih, cn]
theorem sm_sumc (B : List Int) (hB : OKB B) (h15 : ∀ j, B.getD j 0 ≤ 15) : ∀ i, i ≤ B.length → (sm (B.take i) : Int) = sumc (cn (B.take i)) 15 := by
  intro i
  induction i with
  | zero => intro _; rw [List.take_zero, sumc_zero]; rfl
  | succ i ih =>
    intro hi
    have ih := ih (by omega)
    obtain ⟨x, hx⟩ := Int.eq_ofNat_of_zero_le (hB i).1
    have h := h15 i
    rw [sm_step B i (by omega), hx]
    by_cases h0 : 0 < x
    · rw [if_pos (by omega), cn_step B i (by omega) x hx h0, sumc_upd _ x h0, if_pos (by omega)]; omega
    · have : x = 0 := by omega
      subst this
      rw [if_neg (by omega), cn_zero B i (by omega) hx]; omega
theorem syA_sumc (B : List Int) (hB : OKB B) : ∀ n, ((syA B n).length : Int) = sumc (cn B) n
  | 0 => rfl
  | n + 1 => by
    have h1 := syA_sumc B hB n
    have h2 := cn_sy1 B hB (n + 1) (by omega) B.length (by omega)
    rw [List.take_of_length_le (by omega)] at h2
    simp only [syA, List.length_append, sumc]; omega
/-- the symbols are as many as have a code -/
theorem sm_syA (B : List Int) (hB : OKB B) (h15 : ∀ j, B.getD j 0 ≤ 15) : (syA B 15).length = sm B := by
  have h1 := sm_sumc B hB h15 B.length (by omega)
  rw [List.take_of_length_le (by omega)] at h1
  have h2 := syA_sumc B hB 15
  omega
theorem fine_iff (B : List Int) (hB : OKB B) (h15 : ∀ j, B.getD j 0 ≤ 15) : (tk B = 32768 ∨ (syA B 15).length = 0 ∨ ((syA B 15).length = 1 ∧ cn B 1 = 1)) ↔ FINE B := by
  rw [sm_syA B hB h15]; exact Iff.rfl
end Go.Proofs.Ytjgjppgocheklaa
