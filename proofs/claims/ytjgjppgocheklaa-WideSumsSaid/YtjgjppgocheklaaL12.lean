/- The statement WideSums holds of the given program, for every input, without conditions. -/
import Derived.Test.YtjgjppgocheklaaRows
import Derived.WalkKit
import Derived.ProofKit
import Derived.OpenShut
import Derived.Lib.SmallJoins
import Derived.Test.YtjgjppgocheklaaW16
namespace Go.Proofs.Ytjgjppgocheklaa.wideSums
open Go.ChangeShapes Go.WideShapes Go.ChangeAt Go.RowKit Go.Joins
set_option linter.unusedVariables false
set_option linter.unusedSimpArgs false
theorem own : ownKnob Try.prog.godebug = none := by kernel_rfl
theorem wf_u64 {a : Int} (h : (Lit.int .u64 a).wf = true) : 0 ≤ a ∧ a < 18446744073709551616 := by
  simp only [Lit.wf, Bool.and_eq_true, decide_eq_true_eq] at h
  have h1 : IntKind.u64.min = 0 := by decide
  have h2 : IntKind.u64.max = 18446744073709551616 - 1 := by decide
  omega
theorem cellsNum : Try.prog.cellsOf 59 = 2 := by kernel_rfl
theorem undNum : Try.prog.underlying 59 = some (.struct #[⟨"Hi", 45, 0, false, "", "", 0⟩, ⟨"Lo", 45, 1, false, "", "", 8⟩]) := by kernel_rfl
set_option maxRecDepth 100000 in
theorem lifted (os : Os) (started : os.Started) (H : Type) (enc : TypeId × Value → H) :
    ReturnsInHanded {} Try.checked os 12 .any (Rows.wideSumsSpec.pre6 enc Try.prog Try.f12 Rows.wideSumsRow.domain false) (Rows.wideSumsSpec.post enc Try.prog Try.f12 false true false false) := by
  refine returnsInHanded_of_change (C := Try.checked) own started (by kernel_rfl) Try.func12
    (ChangeSpec.witness6 (enc := enc) (C := Try.checked) false ⟨#[], #[.int .u64 0, .int .u64 0, .agg #[.int .u64 0, .int .u64 0], .agg #[.int .u64 0, .int .u64 0]], []⟩ 8 (by kernel_rfl) (by kernel_rfl) (by kernel_rfl) (by kernel_rfl)) ?_
  intro W base args ds gs before hval0 hW hcnd _
  have hval : ∀ (j : Nat) t v, Try.f12.params[j]? = some t → args[j]? = some v → Value.okWide Try.prog W .any base t v := hval0
  have hW' := hW
  obtain ⟨p, q, hA0, hV, rfl, hfz, hnd⟩ := hW
  have hA : DataW.TrodAll enc Try.prog W 0 (fun _ => true) true Try.f12.params.toList args.toList ds p := hA0
  rw [Try.params12] at hA hval
  obtain ⟨v0, vs0, d0, ds0, p0, q0, hargs, rfl, rfl, h0, r0⟩ := trodAll_cons hA
  obtain ⟨v1, vs1, d1, ds1, p1, q1, rfl, rfl, rfl, h1, r1⟩ := trodAll_cons r0
  obtain ⟨v2, vs2, d2, ds2, p2, q2, rfl, rfl, rfl, h2, r2⟩ := trodAll_cons r1
  obtain ⟨v3, vs3, d3, ds3, p3, q3, rfl, rfl, rfl, h3, r3⟩ := trodAll_cons r2
  obtain ⟨rfl, rfl, rfl⟩ := trodAll_nil r3
  obtain rfl : args = #[v0, v1, v2, v3] := by cases args; simp_all
  obtain ⟨rfl, rfl⟩ := trodVars_none hV
  obtain ⟨a0, rfl, rfl, rfl, w0⟩ := open_int Try.underlying45 (hval 0 45 v0 rfl rfl) h0
  obtain ⟨a1, rfl, rfl, rfl, w1⟩ := open_int Try.underlying45 (hval 1 45 v1 rfl rfl) h1
  obtain ⟨c2, e2, y2, z2, m2, rfl, rfl, rfl, hy2, hz2⟩ := open_agg2 undNum (by kernel_rfl) cellsNum (hval 2 59 v2 rfl rfl) h2
  obtain ⟨a2, ea2, rfl, w2⟩ := DataW.trod_int Try.underlying45 hy2
  obtain ⟨b2, eb2, rfl, x2⟩ := DataW.trod_int Try.underlying45 hz2
  simp at ea2 eb2
  subst ea2 eb2
  obtain ⟨c3, e3, y3, z3, m3, rfl, rfl, rfl, hy3, hz3⟩ := open_agg2 undNum (by kernel_rfl) cellsNum (hval 3 59 v3 rfl rfl) h3
  obtain ⟨a3, ea3, rfl, w3⟩ := DataW.trod_int Try.underlying45 hy3
  obtain ⟨b3, eb3, rfl, x3⟩ := DataW.trod_int Try.underlying45 hz3
  simp at ea3 eb3
  subst ea3 eb3
  clear hA0 hval0
  simp only [List.append_nil] at hW'
  refine (Go.Proofs.Ytjgjppgocheklaa.WideSums_c a0 a1 a2 b2 a3 b3 (wf_u64 w0) (wf_u64 w1) (wf_u64 w2) (wf_u64 x2) (wf_u64 w3) (wf_u64 x3) W).mono fun e W' ⟨he, hg⟩ => ?_
  subst he
  have s2 : ∀ (sp : Nat → Bool), DataW.Trod enc Try.prog _ 0 sp true 59 (.agg #[.int .u64 a2, .int .u64 b2]) (.agg [.lit (.int .u64 a2), .lit (.int .u64 b2)]) [] := fun sp =>
    shut_agg2 (w := W') (y0 := (.lit (.int .u64 a2), [])) (y1 := (.lit (.int .u64 b2), [])) undNum (by kernel_rfl) cellsNum ⟨1, by simp [DataW.trod, Try.underlying45, w2]⟩ ⟨1, by simp [DataW.trod, Try.underlying45, x2]⟩
  have s3 : ∀ (sp : Nat → Bool), DataW.Trod enc Try.prog _ 0 sp true 59 (.agg #[.int .u64 a3, .int .u64 b3]) (.agg [.lit (.int .u64 a3), .lit (.int .u64 b3)]) [] := fun sp =>
    shut_agg2 (w := W') (y0 := (.lit (.int .u64 a3), [])) (y1 := (.lit (.int .u64 b3), [])) undNum (by kernel_rfl) cellsNum ⟨1, by simp [DataW.trod, Try.underlying45, w3]⟩ ⟨1, by simp [DataW.trod, Try.underlying45, x3]⟩
  exact ⟨_, rfl, _, _, _, [], _, [], hW', trodAll_mk1 (shut_bool Try.underlying4 _), (trodAll_cons_mk (shut_int Try.underlying45 w0) (trodAll_cons_mk (shut_int Try.underlying45 w1) (trodAll_cons_mk (s2 _) (trodAll_cons_mk (s3 _) trodAll_mk0)))), rfl, hg.frame _, fun h => by cases h⟩

theorem over : Rows.wideSumsRow.holds Try.pinned (OpenSpec.ofChange Rows.wideSumsSpec) :=
  OpenClaim.holds_of_wide 12 Try.f12 rfl rfl rfl rfl rfl rfl rfl ⟨rfl, rfl, rfl, rfl, rfl⟩ rfl rfl rfl rfl rfl (by kernel_rfl) Try.func12 (by kernel_rfl)
    (of_decide_eq_true (by kernel_rfl)) (by unfold Func.isWrapper; first | (rw [if_pos (by decide +kernel)]; kernel_rfl) | (rw [if_neg (by decide +kernel)]; exact ⟨rfl, rfl⟩))
    (fun os started H enc _ => lifted os started H enc)

theorem proved : Rows.WideSumsSaid :=
  over
#print axioms proved
end Go.Proofs.Ytjgjppgocheklaa.wideSums
