/- Numbers with weights: plain facts. -/
import Derived.Test.YtjadcaoobnklcaaSxG
namespace Go.Proofs.Ytjadcaoobnklcaa
open Sx Go
def flat : List (Int × Int) → List Value
  | [] => []
  | t :: r => .int .i64 t.1 :: .int .u64 t.2 :: flat r
theorem flat_len : ∀ T, (flat T).length = T.length * 2
  | [] => rfl
  | t :: r => by simp only [flat, List.length_cons, flat_len r]; omega
theorem flat_app : ∀ A B, flat (A ++ B) = flat A ++ flat B
  | [], B => rfl
  | t :: r, B => by simp only [List.cons_append, flat, flat_app r B]
theorem flat_get0 : ∀ (T : List (Int × Int)) (i : Nat), i < T.length → (flat T)[i * 2]? = some (.int .i64 (T.getD i (0, 0)).1)
  | [], i, h => by simp at h
  | t :: r, 0, h => by simp [flat]
  | t :: r, i + 1, h => by
    rw [show (i + 1) * 2 = i * 2 + 1 + 1 by omega]
    simp only [flat, List.getElem?_cons_succ, List.getD_cons_succ]
    exact flat_get0 r i (by simpa using h)
theorem flat_get1 : ∀ (T : List (Int × Int)) (i : Nat), i < T.length → (flat T)[i * 2 + 1]? = some (.int .u64 (T.getD i (0, 0)).2)
  | [], i, h => by simp at h
  | t :: r, 0, h => by simp [flat]
  | t :: r, i + 1, h => by
    rw [show (i + 1) * 2 + 1 = i * 2 + 1 + 1 + 1 by omega]
    simp only [flat, List.getElem?_cons_succ, List.getD_cons_succ]
    exact flat_get1 r i (by simpa using h)
theorem flat_seg : ∀ (T : List (Int × Int)) (i : Nat), i < T.length → ((flat T).drop (i * 2)).take 2 = [.int .i64 (T.getD i (0, 0)).1, .int .u64 (T.getD i (0, 0)).2]
  | [], i, h => by simp at h
  | t :: r, 0, h => by simp [flat]
  | t :: r, i + 1, h => by
    rw [show (i + 1) * 2 = i * 2 + 1 + 1 by omega]
    simp only [flat, List.drop_succ_cons, List.getD_cons_succ]
    exact flat_seg r i (by simpa using h)
def sw : List (Int × Int) → Int
  | [] => 0
  | t :: r => t.2 + sw r
def sp (low : Int) : List (Int × Int) → Int
  | [] => 0
  | t :: r => (t.1 - low) * t.2 + sp low r
theorem sw_app : ∀ A B, sw (A ++ B) = sw A + sw B
  | [], B => by simp [sw]
  | t :: r, B => by simp only [List.cons_append, sw, sw_app r B]; omega
theorem sp_app (low : Int) : ∀ A B, sp low (A ++ B) = sp low A + sp low B
  | [], B => by simp [sp]
  | t :: r, B => by simp only [List.cons_append, sp, sp_app low r B]; omega
theorem sw_rev : ∀ A, sw A.reverse = sw A
  | [] => rfl
  | t :: r => by rw [List.reverse_cons, sw_app, sw_rev r]; simp only [sw]; omega
theorem sp_rev (low : Int) : ∀ A, sp low A.reverse = sp low A
  | [] => rfl
  | t :: r => by rw [List.reverse_cons, sp_app, sp_rev low r]; simp only [sp]; omega
theorem take_step (T : List (Int × Int)) (i : Nat) (h : i < T.length) : T.take (i + 1) = T.take i ++ [T.getD i (0, 0)] := by
  rw [List.take_succ_eq_append_getElem h]; simp [h]
theorem sw_take (T : List (Int × Int)) (i : Nat) (h : i < T.length) : sw (T.take (i + 1)) = sw (T.take i) + (T.getD i (0, 0)).2 := by
  rw [take_step T i h, sw_app]; simp [sw]
theorem sp_take (low : Int) (T : List (Int × Int)) (i : Nat) (h : i < T.length) : sp low (T.take (i + 1)) = sp low (T.take i) + ((T.getD i (0, 0)).1 - low) * (T.getD i (0, 0)).2 := by
  rw [take_step T i h, sp_app]; simp [sp]
/-- in bounds -/
def OKT (T : List (Int × Int)) : Prop := ∀ t ∈ T, (-9223372036854775808 ≤ t.1 ∧ t.1 < 9223372036854775808) ∧ (0 ≤ t.2 ∧ t.2 < 18446744073709551616)
theorem OKT.get {T : List (Int × Int)} (h : OKT T) (i : Nat) (hi : i < T.length) : (-9223372036854775808 ≤ (T.getD i (0, 0)).1 ∧ (T.getD i (0, 0)).1 < 9223372036854775808) ∧ (0 ≤ (T.getD i (0, 0)).2 ∧ (T.getD i (0, 0)).2 < 18446744073709551616) := by
  have : T.getD i (0, 0) = T[i] := by simp [hi]
  rw [this]; exact h _ (List.getElem_mem hi)
theorem mem_get {T : List (Int × Int)} (i : Nat) (hi : i < T.length) : T.getD i (0, 0) ∈ T := by
  have : T.getD i (0, 0) = T[i] := by simp [hi]
  rw [this]; exact List.getElem_mem hi
theorem sw_nonneg : ∀ {T : List (Int × Int)}, OKT T → 0 ≤ sw T
  | [], _ => Int.le_refl _
  | t :: r, h => by
    have h1 := (h t (List.mem_cons_self ..)).2
    have h2 := sw_nonneg (T := r) fun u hu => h u (List.mem_cons_of_mem _ hu)
    simp only [sw]; omega
theorem OKT.take {T : List (Int × Int)} (h : OKT T) (i : Nat) : OKT (T.take i) := fun t ht => h t (List.mem_of_mem_take ht)
theorem OKT.drop {T : List (Int × Int)} (h : OKT T) (i : Nat) : OKT (T.drop i) := fun t ht => h t (List.mem_of_mem_drop ht)
theorem sw_le {T : List (Int × Int)} (h : OKT T) (i : Nat) : sw (T.take i) ≤ sw T := by
  have := sw_app (T.take i) (T.drop i)
  rw [List.take_append_drop] at this
  have := sw_nonneg (h.drop i)
  omega
/-- what lies between: the sum of products is no more than the greatest distance, times the weights -/
theorem sp_bd {low M : Int} : ∀ {T : List (Int × Int)}, (∀ t ∈ T, low ≤ t.1 ∧ t.1 - low ≤ M ∧ 0 ≤ t.2) → 0 ≤ sp low T ∧ sp low T ≤ M * sw T
  | [], _ => by simp [sp, sw]
  | t :: r, h => by
    obtain ⟨h1, h2, h3⟩ := h t (List.mem_cons_self ..)
    have ih := sp_bd (T := r) fun u hu => h u (List.mem_cons_of_mem _ hu)
    have h4 := Int.mul_nonneg (show 0 ≤ t.1 - low by omega) h3
    have h5 := Int.mul_le_mul_of_nonneg_right h2 h3
    simp only [sp, sw, Int.mul_add]
    omega
end Go.Proofs.Ytjadcaoobnklcaa
