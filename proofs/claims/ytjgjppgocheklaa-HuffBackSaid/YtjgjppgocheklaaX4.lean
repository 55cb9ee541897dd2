import Derived.Test.YtjgjppgocheklaaX3
namespace Go.Proofs.Ytjgjppgocheklaa
open Sx Go
set_option linter.unusedVariables false
set_option linter.unusedSimpArgs false
theorem set_nth' {pl : Value} {f : Nat → Int} {ps : Value} {full : Bool} {i : Nat} (h : i < 16) : nth (setCells pl f ps full) (0 + 1 + (i : Int).toNat * 1) = some (.int .i64 (f i)) := by
  rw [show 0 + 1 + (i : Int).toNat * 1 = 1 + i by omega]; exact set_nth h
theorem set_upd {pl : Value} {f : Nat → Int} {ps : Value} {full : Bool} {i : Nat} {v : Int} (h : i < 16) : setSeg (setCells pl f ps full) (0 + 1 + (i : Int).toNat * 1) [.int .i64 v] = some (setCells pl (fun j => if j = i then v else f j) ps full) := by
  match i, h with
  | 0, _ | 1, _ | 2, _ | 3, _ | 4, _ | 5, _ | 6, _ | 7, _ | 8, _ | 9, _ | 10, _ | 11, _ | 12, _ | 13, _ | 14, _ | 15, _ => rfl
  | i + 16, h => exact absurd h (by omega)
/-- how many lengths are k -/
def cn (l : List Int) (k : Nat) : Int := if k = 0 then 0 else (l.countP (fun x => x == (k : Int)) : Nat)
/-- what codes take, of 32768 -/
def tk : List Int → Int
  | [] => 0
  | x :: r => (if 0 < x then 2 ^ (15 - x.toNat) else 0) + tk r
theorem tk_app (A B : List Int) : tk (A ++ B) = tk A + tk B := by
  induction A with
  | nil => simp [tk]
  | cons x r ih => simp only [List.cons_append, tk, ih]; omega
theorem btake (B : List Int) (i : Nat) (h : i < B.length) : B.take (i + 1) = B.take i ++ [B.getD i 0] := by
  rw [List.take_succ_eq_append_getElem h]; simp [h]
theorem cn_step (B : List Int) (i : Nat) (h : i < B.length) (n : Nat) (hn : B.getD i 0 = (n : Int)) (h0 : 0 < n) : cn (B.take (i + 1)) = fun j => if j = n then cn (B.take i) n + 1 else cn (B.take i) j := by
  funext j
  unfold cn
  rw [btake B i h, List.countP_append, hn]
  by_cases hj : j = n
  · subst hj
    have : ¬ j = 0 := by omega
    simp [this]
  · rw [if_neg hj]
    have : ¬ ((n : Int) == (j : Int)) = true := by simp; omega
    simp [this]
theorem cn_zero (B : List Int) (i : Nat) (h : i < B.length) (hn : B.getD i 0 = 0) : cn (B.take (i + 1)) = cn (B.take i) := by
  funext j
  unfold cn
  rw [btake B i h, List.countP_append, hn]
  by_cases hj : j = 0
  · simp [hj]
  · have : ¬ ((0 : Int) == (j : Int)) = true := by simp; omega
    simp [hj, this]
theorem p2_bd (n : Nat) (h : n ≤ 15) : (1 : Int) ≤ 2 ^ (15 - n) ∧ (2 : Int) ^ (15 - n) ≤ 32768 := by
  have : ∀ k : Fin 16, (1 : Int) ≤ 2 ^ k.val ∧ (2 : Int) ^ k.val ≤ 32768 := by decide +kernel
  exact this ⟨15 - n, by omega⟩
theorem tk_step (B : List Int) (i : Nat) (h : i < B.length) (n : Nat) (hn : B.getD i 0 = (n : Int)) : tk (B.take (i + 1)) = tk (B.take i) + (if 0 < n then 2 ^ (15 - n) else 0) := by
  rw [btake B i h, tk_app, hn]
  simp only [tk, Int.add_zero, Int.toNat_natCast]
  by_cases h0 : 0 < n
  · simp [h0]
  · have : n = 0 := by omega
    subst this; simp
end Go.Proofs.Ytjgjppgocheklaa
