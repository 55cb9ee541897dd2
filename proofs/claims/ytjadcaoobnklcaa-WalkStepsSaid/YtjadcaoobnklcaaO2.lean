import Derived.WalkKit
import Derived.ProofKit
import Derived.OpenShut
import Derived.Deep.SlicePairs
import Derived.Test.YtjadcaoobnklcaaO1
import Derived.Test.YtjadcaoobnklcaaP5
namespace Go.Proofs.Ytjadcaoobnklcaa
open Sx Go Go.ChangeShapes Go.WideShapes Go.Deep
set_option linter.unusedVariables false
set_option linter.unusedSimpArgs false
theorem und58 : Try.prog.underlying 58 = some (.struct #[⟨"Key", 3, 0, false, "", "", 0⟩, ⟨"N", 29, 1, false, "", "", 8⟩]) := by kernel_rfl
theorem cells58 : Try.prog.cellsOf 58 = 2 := by kernel_rfl
theorem cells3p : Try.prog.cellsOf 3 = 1 := by kernel_rfl
theorem cells29 : Try.prog.cellsOf 29 = 1 := by kernel_rfl
theorem flat_inv (T : List (Int × Int)) (j : Nat) (v : Value) (h : (flat T)[j]? = some v) : (∃ i, i < T.length ∧ j = i * 2 ∧ v = .int .i64 (T.getD i (0, 0)).1) ∨ (∃ i, i < T.length ∧ j = i * 2 + 1 ∧ v = .int .u64 (T.getD i (0, 0)).2) := by
  have hj : j < T.length * 2 := by rw [← flat_len]; exact (List.getElem?_eq_some_iff.1 h).1
  rcases Nat.mod_two_eq_zero_or_one j with h2 | h2
  · left
    refine ⟨j / 2, by omega, by omega, ?_⟩
    have := flat_get0 T (j / 2) (by omega)
    rw [show j / 2 * 2 = j by omega, h] at this
    exact Option.some.inj this
  · right
    refine ⟨j / 2, by omega, by omega, ?_⟩
    have := flat_get1 T (j / 2) (by omega)
    rw [show j / 2 * 2 + 1 = j by omega, h] at this
    exact Option.some.inj this
set_option maxRecDepth 100000 in
/-- a slice of pairs that came in -/
theorem open_pairs {H : Type} {enc : TypeId × Value → H} {W : World} {base : Nat} {v : Value} {d : DataW H} {p : List MemPlace} (hval : Value.okWide Try.prog W .any base 22 v) (h : DataW.Trod enc Try.prog W 0 (fun _ => true) true 22 v d p) :
    ∃ (b : Option Addr) (c m : Nat) (T : List (Int × Int)), v = .slice b m c ∧ ArgRd W (.slice b m c) m (flat T) ∧ T.length = m ∧ OKT T := by
  obtain ⟨b, m, c, rfl⟩ := okWide_slice Try.underlying22 hval
  obtain ⟨fuel, hf⟩ := h
  rcases open_slice_pairs Try.underlying22 und58 cells58 rfl rfl cells3p cells29 hf with ⟨hc, _⟩ | ⟨a, len, cap, m', k, V0, V1, D0, D1, P0, P1, hc, _, hl, _, hmm, _, hall⟩
  · simp [Value.cells] at hc
    obtain ⟨rfl, rfl, rfl⟩ := hc
    exact ⟨none, 0, 0, [], rfl, argRd_mk ⟨none, 0, rfl, fun _ => rfl, Nat.le_refl _⟩ (fun j v h => by simp [flat] at h), rfl, fun t h => by simp at h⟩
  · simp [Value.cells] at hc
    obtain ⟨rfl, rfl, rfl⟩ := hc
    simp only [if_true] at hmm
    have e0 : ∀ i, i < m → V0 i = .int .i64 (iv (V0 i)) ∧ (Lit.int .i64 (iv (V0 i))).wf = true := fun i hi => by
      obtain ⟨x, h1, _, h3⟩ := DataW.trod_int Try.underlying3 (hall i (by omega)).2.2.1
      simp only [List.cons.injEq, and_true] at h1
      rw [h1]; exact ⟨rfl, h3⟩
    have e1 : ∀ i, i < m → V1 i = .int .u64 (iv (V1 i)) ∧ (Lit.int .u64 (iv (V1 i))).wf = true := fun i hi => by
      obtain ⟨x, h1, _, h3⟩ := DataW.trod_int Try.underlying29 (hall i (by omega)).2.2.2
      simp only [List.cons.injEq, and_true] at h1
      rw [h1]; exact ⟨rfl, h3⟩
    have hget : ∀ i, i < m → ((List.range m).map fun i => (iv (V0 i), iv (V1 i))).getD i (0, 0) = (iv (V0 i), iv (V1 i)) := fun i hi => by simp [hi]
    refine ⟨some a, c, m, (List.range m).map fun i => (iv (V0 i), iv (V1 i)), rfl, argRd_mk ⟨some a, c, rfl, (fun h => by cases h), hl⟩ (fun j v hv => ?_), by simp, fun t ht => ?_⟩
    · refine ⟨a.add j, cellPtr_eq a m c j, ?_⟩
      have hcell : W.cell? (a.add j) = some v := by
        rcases flat_inv _ j v hv with ⟨i, hi, rfl, rfl⟩ | ⟨i, hi, rfl, rfl⟩
        · have hi' : i < m := by simpa using hi
          rw [hget i hi', (hall i (by omega)).1, ← (e0 i hi').1]
        · have hi' : i < m := by simpa using hi
          rw [hget i hi', (hall i (by omega)).2.1, ← (e1 i hi').1]
      exact ⟨by simpa using cell_lt hcell, hcell⟩
    · simp only [List.mem_map, List.mem_range] at ht
      obtain ⟨i, hi, rfl⟩ := ht
      exact ⟨wf64 (e0 i hi).2, wfu64 (e1 i hi).2⟩
end Go.Proofs.Ytjadcaoobnklcaa
