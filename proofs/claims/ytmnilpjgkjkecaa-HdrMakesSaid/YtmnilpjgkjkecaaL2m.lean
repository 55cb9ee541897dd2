/- HdrMakes answers true at every input: no condition. -/
import Derived.Test.YtmnilpjgkjkecaaRows
import Derived.WalkKit
import Derived.ProofKit
import Derived.OpenShut
import Derived.Lib.SmallJoins
import Derived.SizedLaws
import Derived.Test.YtmnilpjgkjkecaaG3
namespace Go.Proofs.Ytmnilpjgkjkecaa.hdrMakes
open Go.ChangeShapes Go.WideShapes Go.ChangeAt Go.RowKit Go.Joins
set_option linter.unusedVariables false
set_option linter.unusedSimpArgs false
theorem own : ownKnob Try.prog.godebug = none := by kernel_rfl
theorem wf_i64 {a : Int} (h : (Lit.int .i64 a).wf = true) : -9223372036854775808 ≤ a ∧ a < 9223372036854775808 := by
  simp only [Lit.wf, Bool.and_eq_true, decide_eq_true_eq] at h
  have h1 : IntKind.i64.min = -9223372036854775808 := by decide
  have h2 : IntKind.i64.max = 9223372036854775808 - 1 := by decide
  omega
theorem cellsHdr : Try.prog.cellsOf 27 = 3 := by kernel_rfl
theorem undHdr : Try.prog.underlying 27 = some (.struct #[⟨"Lowest", 2, 0, false, "", "", 0⟩, ⟨"Highest", 2, 1, false, "", "", 8⟩, ⟨"Digits", 3, 2, false, "", "", 16⟩]) := by kernel_rfl
set_option maxRecDepth 100000 in
theorem lifted (os : Os) (started : os.Started) (H : Type) (enc : TypeId × Value → H) :
    ReturnsInHanded {} Try.checked os 4 .any (Rows.hdrMakesSpec.pre6 enc Try.prog Try.f4 Rows.hdrMakesRow.domain false) (Rows.hdrMakesSpec.post enc Try.prog Try.f4 false true false false) := by
  refine returnsInHanded_of_change_sized (C := Try.checked) own started (by kernel_rfl) Try.func4
    (ChangeSpec.witness6 (enc := enc) (C := Try.checked) false ⟨#[], #[.agg #[.int .i64 0, .int .i64 0, .int .i64 0], .agg #[.int .i64 0, .int .i64 0, .int .i64 0], .bool false, .bool false], []⟩ 8 (by kernel_rfl) (by kernel_rfl) (by kernel_rfl) (by kernel_rfl)) ?_
  intro W base args ds gs before hval0 hW hcnd hz _
  have hval : ∀ (j : Nat) t v, Try.f4.params[j]? = some t → args[j]? = some v → Value.okWide Try.prog W .any base t v := hval0
  have hW' := hW
  obtain ⟨p, q, hA0, hV, rfl, hfz, hnd⟩ := hW
  have hA : DataW.TrodAll enc Try.prog W 0 (fun _ => true) true Try.f4.params.toList args.toList ds p := hA0
  rw [Try.params4] at hA hval
  obtain ⟨v0, vs0, d0, ds0, p0, q0, hargs, rfl, rfl, h0, r0⟩ := trodAll_cons hA
  obtain ⟨v1, vs1, d1, ds1, p1, q1, rfl, rfl, rfl, h1, r1⟩ := trodAll_cons r0
  obtain ⟨v2, vs2, d2, ds2, p2, q2, rfl, rfl, rfl, h2, r2⟩ := trodAll_cons r1
  obtain ⟨v3, vs3, d3, ds3, p3, q3, rfl, rfl, rfl, h3, r3⟩ := trodAll_cons r2
  obtain ⟨rfl, rfl, rfl⟩ := trodAll_nil r3
  obtain rfl : args = #[v0, v1, v2, v3] := by cases args; simp_all
  obtain ⟨rfl, rfl⟩ := trodVars_none hV
  obtain ⟨p0a, p0b, p0c, y0a, y0b, y0c, n0, rfl, rfl, rfl, hy0a, hy0b, hy0c⟩ := open_agg3 undHdr (by kernel_rfl) cellsHdr (hval 0 27 v0 rfl rfl) h0
  obtain ⟨a0a, ea0a, rfl, w0a⟩ := DataW.trod_int Try.underlying2 hy0a
  simp at ea0a
  subst ea0a
  obtain ⟨a0b, ea0b, rfl, w0b⟩ := DataW.trod_int Try.underlying2 hy0b
  simp at ea0b
  subst ea0b
  obtain ⟨a0c, ea0c, rfl, w0c⟩ := DataW.trod_int Try.underlying3 hy0c
  simp at ea0c
  subst ea0c
  obtain ⟨p1a, p1b, p1c, y1a, y1b, y1c, n1, rfl, rfl, rfl, hy1a, hy1b, hy1c⟩ := open_agg3 undHdr (by kernel_rfl) cellsHdr (hval 1 27 v1 rfl rfl) h1
  obtain ⟨a1a, ea1a, rfl, w1a⟩ := DataW.trod_int Try.underlying2 hy1a
  simp at ea1a
  subst ea1a
  obtain ⟨a1b, ea1b, rfl, w1b⟩ := DataW.trod_int Try.underlying2 hy1b
  simp at ea1b
  subst ea1b
  obtain ⟨a1c, ea1c, rfl, w1c⟩ := DataW.trod_int Try.underlying3 hy1c
  simp at ea1c
  subst ea1c
  obtain ⟨a2, rfl, rfl, rfl⟩ := open_bool Try.underlying4 (hval 2 4 v2 rfl rfl) h2
  obtain ⟨a3, rfl, rfl, rfl⟩ := open_bool Try.underlying4 (hval 3 4 v3 rfl rfl) h3
  clear hA0 hval0
  simp only [List.append_nil] at hW'
  refine (Go.Proofs.Ytmnilpjgkjkecaa.HdrMakes_l a0a a0b a0c a1a a1b a1c a2 a3 (wf_i64 w0a) (wf_i64 w0b) (wf_i64 w0c) (wf_i64 w1a) (wf_i64 w1b) (wf_i64 w1c) W).mono fun e W' ⟨he, hg⟩ => ?_
  subst he
  have s0 : ∀ (sp : Nat → Bool), DataW.Trod enc Try.prog _ 0 sp true 27 (.agg #[.int .i64 a0a, .int .i64 a0b, .int .i64 a0c]) (.agg [.lit (.int .i64 a0a), .lit (.int .i64 a0b), .lit (.int .i64 a0c)]) [] := fun sp =>
    shut_agg3 (w := W') (y0 := (.lit (.int .i64 a0a), [])) (y1 := (.lit (.int .i64 a0b), [])) (y2 := (.lit (.int .i64 a0c), [])) undHdr (by kernel_rfl) cellsHdr ⟨1, by simp [DataW.trod, Try.underlying2, w0a]⟩ ⟨1, by simp [DataW.trod, Try.underlying2, w0b]⟩ ⟨1, by simp [DataW.trod, Try.underlying3, w0c]⟩
  have s1 : ∀ (sp : Nat → Bool), DataW.Trod enc Try.prog _ 0 sp true 27 (.agg #[.int .i64 a1a, .int .i64 a1b, .int .i64 a1c]) (.agg [.lit (.int .i64 a1a), .lit (.int .i64 a1b), .lit (.int .i64 a1c)]) [] := fun sp =>
    shut_agg3 (w := W') (y0 := (.lit (.int .i64 a1a), [])) (y1 := (.lit (.int .i64 a1b), [])) (y2 := (.lit (.int .i64 a1c), [])) undHdr (by kernel_rfl) cellsHdr ⟨1, by simp [DataW.trod, Try.underlying2, w1a]⟩ ⟨1, by simp [DataW.trod, Try.underlying2, w1b]⟩ ⟨1, by simp [DataW.trod, Try.underlying3, w1c]⟩
  exact ⟨_, rfl, _, _, _, [], _, [], hW', trodAll_mk1 (shut_bool Try.underlying4 _), (trodAll_cons_mk (s0 _) (trodAll_cons_mk (s1 _) (trodAll_cons_mk (shut_bool Try.underlying4 a2) (trodAll_cons_mk (shut_bool Try.underlying4 a3) trodAll_mk0)))), rfl, hg.frame _, fun h => by cases h⟩

theorem over : Rows.hdrMakesRow.holds Try.pinned (OpenSpec.ofChange Rows.hdrMakesSpec) :=
  OpenClaim.holds_of_wide 4 Try.f4 rfl rfl rfl rfl rfl rfl rfl ⟨rfl, rfl, rfl, rfl, rfl⟩ rfl rfl rfl rfl rfl (by kernel_rfl) Try.func4 (by kernel_rfl)
    (of_decide_eq_true (by kernel_rfl)) (by unfold Func.isWrapper; first | (rw [if_pos (by decide +kernel)]; kernel_rfl) | (rw [if_neg (by decide +kernel)]; exact ⟨rfl, rfl⟩))
    (fun os started H enc _ => lifted os started H enc)

theorem proved : Rows.HdrMakesSaid :=
  over
#print axioms proved
end Go.Proofs.Ytmnilpjgkjkecaa.hdrMakes
