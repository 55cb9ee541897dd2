import Derived.Test.YtakgoflfcgofdaaP6
import Derived.Deep.Matrix
namespace Go.Proofs.Ytakgoflfcgofdaa
open Sx Go Go.ChangeShapes Go.WideShapes
set_option linter.unusedVariables false
set_option linter.unusedSimpArgs false
set_option maxRecDepth 100000 in
/-- a slice of slices of bytes that came in -/
theorem open_brows {H : Type} {enc : TypeId × Value → H} {W : World} {base : Nat} {v : Value} {d : DataW H} {p : List MemPlace} (hval : Value.okWide Try.prog W .any base 43 v) (h : DataW.Trod enc Try.prog W 0 (fun _ => true) true 43 v d p) :
    ∃ (b : Option Addr) (c m : Nat) (F : (Nat → Option Addr) × (Nat → Nat) × (Nat → Nat) × (Nat → List Int)), v = .slice b m c ∧ ArgRd W (.slice b m c) m ((List.range m).map fun r => .slice (F.1 r) (F.2.1 r) (F.2.2.1 r)) ∧
      (∀ r, r < m → ArgRd W (.slice (F.1 r) (F.2.1 r) (F.2.2.1 r)) (F.2.1 r) (ints .u8 (F.2.2.2 r)) ∧ (F.2.2.2 r).length = F.2.1 r ∧ OKB (F.2.2.2 r)) := by
  obtain ⟨b, m, c, rfl⟩ := okWide_slice Try.underlying43 hval
  obtain ⟨fuel, hf⟩ := h
  have ce : Try.prog.cellsOf 22 = 1 := by kernel_rfl
  rcases Go.Deep.open_int_rows Try.underlying43 Try.underlying22 Try.underlying5 ce cells5 hf with ⟨hcs, _⟩ | ⟨a, len', cap', A, L, C, Z, hcs, _, hl, hm, hx, hrow⟩
  · simp [Value.cells] at hcs
    obtain ⟨rfl, rfl, rfl⟩ := hcs
    exact ⟨none, 0, 0, (fun _ => none, fun _ => 0, fun _ => 0, fun _ => []), rfl, argRd_mk ⟨none, 0, rfl, fun _ => rfl, Nat.le_refl _⟩ (fun j v h => by simp at h), fun r hr => absurd hr (by omega)⟩
  · simp [Value.cells] at hcs
    obtain ⟨rfl, rfl, rfl⟩ := hcs
    refine ⟨some a, c, m, (A, L, C, fun r => (Z r).take (L r)), rfl, argRd_mk ⟨some a, c, rfl, (fun h => by cases h), hl⟩ (fun j v hv => ?_), fun r hr => ?_⟩
    · have hj : j < m := by
        have := (List.getElem?_eq_some_iff.1 hv).1
        simp at this; omega
      simp [List.getElem?_map, List.getElem?_range hj] at hv
      subst hv
      have hc := (hrow j (by omega)).1
      exact ⟨a.add j, cellPtr_eq a m c j, by simpa using cell_lt hc, hc⟩
    · obtain ⟨_, hLC, hC, hZ, hw, hnone, hsome⟩ := hrow r (by omega)
      show ArgRd W (.slice (A r) (L r) (C r)) (L r) (ints .u8 ((Z r).take (L r))) ∧ ((Z r).take (L r)).length = L r ∧ OKB ((Z r).take (L r))
      refine ⟨argRd_mk ?_ (fun j v hv => ?_), by simp; omega, fun j => ?_⟩
      · exact ⟨A r, C r, rfl, fun h => by have := hnone h; omega, hLC⟩
      · have hj : j < L r := by
          have := (List.getElem?_eq_some_iff.1 hv).1
          simp [ints] at this; omega
        obtain ⟨a', hA⟩ : ∃ a', A r = some a' := by
          cases hA : A r with
          | none => have := hnone hA; omega
          | some a' => exact ⟨a', rfl⟩
        have hcell := ((hsome a' hA).2 j (by omega))
        have e : (ints .u8 ((Z r).take (L r)))[j]? = some (.int .u8 ((Z r).getD j 0)) := by
          have := ints_get (K := .u8) (l := (Z r).take (L r)) (j := j) (by simp; omega)
          rw [this]
          congr 2
          simp [List.getD_eq_getElem?_getD, List.getElem?_take, hj]
        rw [e] at hv
        obtain rfl := Option.some.inj hv
        exact ⟨a'.add j, by rw [hA]; exact cellPtr_eq a' (L r) (C r) j, by simpa using cell_lt hcell, hcell⟩
      · rcases Nat.lt_or_ge j (L r) with hj | hj
        · have : ((Z r).take (L r)).getD j 0 = (Z r)[j]'(by omega) := by simp [List.getD_eq_getElem?_getD, List.getElem?_take, hj, show j < (Z r).length by omega]
          show 0 ≤ ((Z r).take (L r)).getD j 0 ∧ ((Z r).take (L r)).getD j 0 < 256
          rw [this]
          exact wfu8 (hw _ (List.getElem_mem _))
        · have : ((Z r).take (L r)).getD j 0 = 0 := by
            rw [List.getD_eq_getElem?_getD, List.getElem?_eq_none (by simp; omega)]; rfl
          show 0 ≤ ((Z r).take (L r)).getD j 0 ∧ ((Z r).take (L r)).getD j 0 < 256
          rw [this]; decide
end Go.Proofs.Ytakgoflfcgofdaa
