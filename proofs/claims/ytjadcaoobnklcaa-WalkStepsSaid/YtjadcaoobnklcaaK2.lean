import Derived.Test.YtjadcaoobnklcaaA
namespace Go.Proofs.Ytjadcaoobnklcaa
open Sx Go
set_option linter.unusedVariables false
set_option linter.unusedSimpArgs false
theorem ints_app1 {K : IntKind} {l : List Int} {x : Int} : ints K l ++ [.int K x] = ints K (l ++ [x]) := by simp [ints]
/-- a table by its places -/
def tab (n : Nat) (f : Nat → Int) : List Int := (List.range n).map f
theorem tab_len (n : Nat) (f : Nat → Int) : (tab n f).length = n := by simp [tab]
theorem tab_set (n : Nat) (f : Nat → Int) (i : Nat) (v : Int) : (tab n f).set i v = tab n fun j => if j = i then v else f j := by
  apply List.ext_getElem?
  intro j
  unfold tab
  rw [List.getElem?_set]
  by_cases hj : j < n
  · by_cases hij : i = j
    · subst hij; simp [hj]
    · rw [if_neg hij]; simp [hj, Ne.symm hij, show ¬ j = i from fun h => hij h.symm]
  · rw [List.getElem?_eq_none (l := (List.range n).map _) (by simp; omega)]
    by_cases hij : i = j
    · subst hij; simp [hj]
    · simp [hij, hj]
theorem tab_congr {n : Nat} {f g : Nat → Int} (h : ∀ j, j < n → f j = g j) : tab n f = tab n g := by
  unfold tab
  apply List.map_congr_left
  intro j hj
  exact h j (by simpa using hj)
theorem tab_succ (n : Nat) (f : Nat → Int) : tab (n + 1) f = tab n f ++ [f n] := by simp [tab, List.range_succ]
theorem tab_const (n : Nat) (x : Int) : List.replicate n x = tab n fun _ => x := by
  unfold tab
  rw [show (fun _ : Nat => x) = Function.const _ x from rfl, List.map_const, List.length_range]
theorem tab_get {n : Nat} {f : Nat → Int} {j : Nat} (h : j < n) : (tab n f).getD j 0 = f j := by simp [tab, List.getD_eq_getElem?_getD, h]
theorem tab_out {n : Nat} {f : Nat → Int} {j : Nat} (h : n ≤ j) : (tab n f).getD j 0 = 0 := by
  rw [List.getD_eq_getElem?_getD, List.getElem?_eq_none (by rw [tab_len]; exact h)]; rfl
end Go.Proofs.Ytjadcaoobnklcaa
