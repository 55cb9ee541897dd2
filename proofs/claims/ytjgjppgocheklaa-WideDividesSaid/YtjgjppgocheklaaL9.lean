/- The statement WideDivides holds of the given program, for every input, without conditions. -/
import Derived.Test.YtjgjppgocheklaaRows
import Derived.WalkKit
import Derived.ProofKit
import Derived.OpenShut
import Derived.Lib.SmallJoins
import Derived.Test.YtjgjppgocheklaaW17
namespace Go.Proofs.Ytjgjppgocheklaa.wideDivides
open Go.ChangeShapes Go.WideShapes Go.ChangeAt Go.RowKit Go.Joins
set_option linter.unusedVariables false
set_option linter.unusedSimpArgs false
theorem own : ownKnob Try.prog.godebug = none := by kernel_rfl
theorem wf_u64 {a : Int} (h : (Lit.int .u64 a).wf = true) : 0 ≤ a ∧ a < 18446744073709551616 := by
  simp only [Lit.wf, Bool.and_eq_true, decide_eq_true_eq] at h
  have h1 : IntKind.u64.min = 0 := by decide
  have h2 : IntKind.u64.max = 18446744073709551616 - 1 := by decide
  omega
theorem cellsNum : Try.prog.cellsOf 59 = 2 := by kernel_rfl
theorem undNum : Try.prog.underlying 59 = some (.struct #[⟨"Hi", 45, 0, false, "", "", 0⟩, ⟨"Lo", 45, 1, false, "", "", 8⟩]) := by kernel_rfl
set_option maxRecDepth 100000 in
theorem lifted (os : Os) (started : os.Started) (H : Type) (enc : TypeId × Value → H) :
    ReturnsInHanded {} Try.checked os 9 .any (Rows.wideDividesSpec.pre6 enc Try.prog Try.f9 Rows.wideDividesRow.domain false) (Rows.wideDividesSpec.post enc Try.prog Try.f9 false true false false) := by
  refine returnsInHanded_of_change (C := Try.checked) own started (by kernel_rfl) Try.func9
    (ChangeSpec.witness6 (enc := enc) (C := Try.checked) false ⟨#[], #[.agg #[.int .u64 0, .int .u64 0], .int .u64 0], []⟩ 8 (by kernel_rfl) (by kernel_rfl) (by kernel_rfl) (by kernel_rfl)) ?_
  intro W base args ds gs before hval0 hW hcnd _
  have hval : ∀ (j : Nat) t v, Try.f9.params[j]? = some t → args[j]? = some v → Value.okWide Try.prog W .any base t v := hval0
  have hW' := hW
  obtain ⟨p, q, hA0, hV, rfl, hfz, hnd⟩ := hW
  have hA : DataW.TrodAll enc Try.prog W 0 (fun _ => true) true Try.f9.params.toList args.toList ds p := hA0
  rw [Try.params9] at hA hval
  obtain ⟨v0, vs0, d0, ds0, p0, q0, hargs, rfl, rfl, h0, r0⟩ := trodAll_cons hA
  obtain ⟨v1, vs1, d1, ds1, p1, q1, rfl, rfl, rfl, h1, r1⟩ := trodAll_cons r0
  obtain ⟨rfl, rfl, rfl⟩ := trodAll_nil r1
  obtain rfl : args = #[v0, v1] := by cases args; simp_all
  obtain ⟨rfl, rfl⟩ := trodVars_none hV
  obtain ⟨c0, e0, y0, z0, m0, rfl, rfl, rfl, hy0, hz0⟩ := open_agg2 undNum (by kernel_rfl) cellsNum (hval 0 59 v0 rfl rfl) h0
  obtain ⟨a0, ea0, rfl, w0⟩ := DataW.trod_int Try.underlying45 hy0
  obtain ⟨b0, eb0, rfl, x0⟩ := DataW.trod_int Try.underlying45 hz0
  simp at ea0 eb0
  subst ea0 eb0
  obtain ⟨a1, rfl, rfl, rfl, w1⟩ := open_int Try.underlying45 (hval 1 45 v1 rfl rfl) h1
  clear hA0 hval0
  simp only [List.append_nil] at hW'
  refine (Go.Proofs.Ytjgjppgocheklaa.WideDivides_c a0 b0 a1 (wf_u64 w0) (wf_u64 x0) (wf_u64 w1) W).mono fun e W' ⟨he, hg⟩ => ?_
  subst he
  have s0 : ∀ (sp : Nat → Bool), DataW.Trod enc Try.prog _ 0 sp true 59 (.agg #[.int .u64 a0, .int .u64 b0]) (.agg [.lit (.int .u64 a0), .lit (.int .u64 b0)]) [] := fun sp =>
    shut_agg2 (w := W') (y0 := (.lit (.int .u64 a0), [])) (y1 := (.lit (.int .u64 b0), [])) undNum (by kernel_rfl) cellsNum ⟨1, by simp [DataW.trod, Try.underlying45, w0]⟩ ⟨1, by simp [DataW.trod, Try.underlying45, x0]⟩
  exact ⟨_, rfl, _, _, _, [], _, [], hW', trodAll_mk1 (shut_bool Try.underlying4 _), (trodAll_cons_mk (s0 _) (trodAll_cons_mk (shut_int Try.underlying45 w1) trodAll_mk0)), rfl, hg.frame _, fun h => by cases h⟩

theorem over : Rows.wideDividesRow.holds Try.pinned (OpenSpec.ofChange Rows.wideDividesSpec) :=
  OpenClaim.holds_of_wide 9 Try.f9 rfl rfl rfl rfl rfl rfl rfl ⟨rfl, rfl, rfl, rfl, rfl⟩ rfl rfl rfl rfl rfl (by kernel_rfl) Try.func9 (by kernel_rfl)
    (of_decide_eq_true (by kernel_rfl)) (by unfold Func.isWrapper; first | (rw [if_pos (by decide +kernel)]; kernel_rfl) | (rw [if_neg (by decide +kernel)]; exact ⟨rfl, rfl⟩))
    (fun os started H enc _ => lifted os started H enc)

theorem proved : Rows.WideDividesSaid :=
  over
#print axioms proved
end Go.Proofs.Ytjgjppgocheklaa.wideDivides
