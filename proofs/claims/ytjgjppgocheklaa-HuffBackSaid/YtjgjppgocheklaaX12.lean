import Derived.Test.YtjgjppgocheklaaX3
import Derived.Test.YtjgjppgocheklaaX11
namespace Go.Proofs.Ytjgjppgocheklaa
open Sx Go
set_option linter.unusedVariables false
set_option linter.unusedSimpArgs false
theorem mem_sy1 (B : List Int) (n j i : Nat) : (i : Int) ∈ sy1 B n j ↔ i < j ∧ B.getD i 0 = (n : Int) := by
  unfold sy1
  simp only [List.mem_map, List.mem_filter, List.mem_range, beq_iff_eq]
  constructor
  · rintro ⟨a, ⟨h1, h2⟩, h3⟩
    obtain rfl : a = i := by omega
    exact ⟨h1, h2⟩
  · rintro ⟨h1, h2⟩
    exact ⟨i, ⟨h1, h2⟩, rfl⟩
theorem mem_syA (B : List Int) (i : Nat) : ∀ N, (i : Int) ∈ syA B N ↔ i < B.length ∧ 0 < B.getD i 0 ∧ B.getD i 0 ≤ (N : Int)
  | 0 => by simp only [syA, List.not_mem_nil, false_iff]; omega
  | N + 1 => by
    simp only [syA, List.mem_append, mem_syA B i N, mem_sy1]
    omega
attribute [local irreducible] syA
def outC (B : List Int) (t : Nat) : List Int := (List.range B.length).map fun (i : Nat) => if decide ((i : Int) ∈ (syA B 15).take t) then cd B i else 0
theorem outC_len (B : List Int) (t : Nat) : (outC B t).length = B.length := by simp [outC]
theorem outC_zero (B : List Int) : outC B 0 = List.replicate B.length 0 := by
  unfold outC
  rw [List.eq_replicate_iff]
  refine ⟨by simp, fun b hb => ?_⟩
  simp at hb
  exact hb.2.symm
theorem outC_set {B : List Int} {t i : Nat} (ht : t < (syA B 15).length) (hi : (syA B 15).getD t 0 = (i : Int)) : (outC B t).set i (cd B i) = outC B (t + 1) := by
  have hts : (syA B 15).take (t + 1) = (syA B 15).take t ++ [(i : Int)] := by rw [btake _ _ ht, hi]
  apply List.ext_getElem?
  intro j
  rw [List.getElem?_set]
  by_cases hij : i = j
  · subst hij
    by_cases hl : i < B.length
    · simp [outC, hl, hts]
    · simp [outC, hl]
  · rw [if_neg hij]
    simp only [outC, List.getElem?_map]
    cases h : (List.range B.length)[j]? with
    | none => rfl
    | some x =>
      have hx : x = j := by
        obtain ⟨h1, h2⟩ := List.getElem?_eq_some_iff.1 h
        simp at h2; exact h2.symm
      subst hx
      have : ((x : Int) ∈ (syA B 15).take (t + 1)) ↔ ((x : Int) ∈ (syA B 15).take t) := by
        rw [hts, List.mem_append]
        simp; omega
      simp [this]
theorem outC_end {B : List Int} (h15 : ∀ j, B.getD j 0 ≤ 15) : outC B (syA B 15).length = cds B 16 0 := by
  unfold outC cds
  apply List.map_congr_left
  intro i hi
  have hi' : i < B.length := by simpa using hi
  rw [List.take_of_length_le (by omega)]
  have : decide ((i : Int) ∈ syA B 15) = told B 16 0 i := by
    unfold told
    refine decide_eq_decide.2 ?_
    rw [mem_syA]
    have := h15 i
    omega
  rw [this]
end Go.Proofs.Ytjgjppgocheklaa
