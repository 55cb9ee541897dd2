/- No other lengths that may be cost less; for all numbers, other lengths and bounds. -/
import Derived.Test.YtbiocgenbgbfpaaRows
import Derived.WalkKit
import Derived.ProofKit
import Derived.OpenShut
import Derived.Lib.SmallJoins
import Derived.SizedLaws
import Derived.Test.YtbiocgenbgbfpaaJ2
namespace Go.Proofs.Ytbiocgenbgbfpaa.squeezeBest
open Go.ChangeShapes Go.WideShapes Go.ChangeAt Go.RowKit Go.Joins
set_option linter.unusedVariables false
set_option linter.unusedSimpArgs false
theorem own : ownKnob Try.prog.godebug = none := by kernel_rfl
theorem laidOut : laidOutB Try.prog = true := by kernel_rfl
theorem wf_u8 {a : Int} (h : (Lit.int .u8 a).wf = true) : 0 ≤ a ∧ a < 256 := by
  simp only [Lit.wf, Bool.and_eq_true, decide_eq_true_eq] at h
  have h1 : IntKind.u8.min = 0 := by decide
  have h2 : IntKind.u8.max = 256 - 1 := by decide
  omega
set_option maxRecDepth 100000 in
theorem lifted (os : Os) (started : os.Started) (H : Type) (enc : TypeId × Value → H) :
    ReturnsInHanded {} Try.checked os 3 .any (Rows.squeezeBestSpec.pre6 enc Try.prog Try.f3 Rows.squeezeBestRow.domain false) (Rows.squeezeBestSpec.post enc Try.prog Try.f3 false true false false) := by
  refine returnsInHanded_of_change_sized (C := Try.checked) own started (by kernel_rfl) Try.func3
    (ChangeSpec.witness6 (enc := enc) (C := Try.checked) false ⟨#[], #[.slice none 0 0, .slice none 0 0, .int .u8 0], []⟩ 8 (by kernel_rfl) (by kernel_rfl) (by kernel_rfl) (by kernel_rfl)) ?_
  intro W base args ds gs before hval0 hW hcnd hz _
  have hval : ∀ (j : Nat) t v, Try.f3.params[j]? = some t → args[j]? = some v → Value.okWide Try.prog W .any base t v := hval0
  have hW' := hW
  obtain ⟨p, q, hA0, hV, rfl, hfz, hnd⟩ := hW
  have hA : DataW.TrodAll enc Try.prog W 0 (fun _ => true) true Try.f3.params.toList args.toList ds p := hA0
  rw [Try.params3] at hA hval
  obtain ⟨v0, vs0, d0, ds0, p0, q0, hargs, rfl, rfl, h0, r0⟩ := trodAll_cons hA
  obtain ⟨v1, vs1, d1, ds1, p1, q1, rfl, rfl, rfl, h1, r1⟩ := trodAll_cons r0
  obtain ⟨v2, vs2, d2, ds2, p2, q2, rfl, rfl, rfl, h2, r2⟩ := trodAll_cons r1
  obtain ⟨rfl, rfl, rfl⟩ := trodAll_nil r2
  obtain rfl : args = #[v0, v1, v2] := by cases args; simp_all
  obtain ⟨rfl, rfl⟩ := trodVars_none hV
  have k0 := h0
  obtain ⟨b0, c0, m0, T0, rfl, A0, L0, O0, E0⟩ := Go.Proofs.Ytbiocgenbgbfpaa.open_u64s (hval 0 22 v0 rfl rfl) h0
  have z0 : m0 ≤ 17592186043904 := by
    rcases E0 with h | ⟨E, S, h, hl⟩
    · omega
    · have := sized_slice hz (j := 0) rfl (by rw [h]; rfl) Try.underlying22
      rw [hl, show Try.checked.prog.bytesOf 31 = 8 from by kernel_rfl, show reachBytes = 140737488351232 from rfl] at this
      omega
  have k1 := h1
  obtain ⟨b1, c1, m1, T1, rfl, A1, L1, O1, E1⟩ := Go.Proofs.Ytbiocgenbgbfpaa.open_bytes (hval 1 23 v1 rfl rfl) h1
  have z1 : m1 ≤ 140737488351232 := by
    rcases E1 with h | ⟨E, S, h, hl⟩
    · omega
    · have := sized_slice hz (j := 1) rfl (by rw [h]; rfl) Try.underlying23
      rw [hl, show Try.checked.prog.bytesOf 5 = 1 from by kernel_rfl, show reachBytes = 140737488351232 from rfl] at this
      omega
  obtain ⟨a2, rfl, rfl, rfl, w2⟩ := open_int Try.underlying5 (hval 2 5 v2 rfl rfl) h2
  clear hA0 hval0
  simp only [List.append_nil] at hW'
  have hlt := hW'.lt
  refine (Go.Proofs.Ytbiocgenbgbfpaa.SqueezeBest_l b0 c0 m0 T0 b1 c1 m1 T1 a2 W A0 L0 ⟨O0.1, O0.2, z0⟩ A1 L1 ⟨O1.1, O1.2, z1⟩ (wf_u8 w2)).mono fun e W' ⟨he, hg⟩ => ?_
  subst he
  exact ⟨_, rfl, _, _, _, [], _, [], hW', trodAll_mk1 (shut_bool Try.underlying4 _), (trodAll_cons_mk (Below.trod laidOut (by kernel_rfl) (of_decide_eq_true (by kernel_rfl)) k0 hg (fun x hx => by simpa using hlt x (by simp [hx]))) (trodAll_cons_mk (Below.trod laidOut (by kernel_rfl) (of_decide_eq_true (by kernel_rfl)) k1 hg (fun x hx => by simpa using hlt x (by simp [hx]))) (trodAll_cons_mk (shut_int Try.underlying5 w2) trodAll_mk0))), rfl, hg.frame _, fun h => by cases h⟩

theorem over : Rows.squeezeBestRow.holds Try.pinned (OpenSpec.ofChange Rows.squeezeBestSpec) :=
  OpenClaim.holds_of_wide 3 Try.f3 rfl rfl rfl rfl rfl rfl rfl ⟨rfl, rfl, rfl, rfl, rfl⟩ rfl rfl rfl rfl rfl (by kernel_rfl) Try.func3 (by kernel_rfl)
    (of_decide_eq_true (by kernel_rfl)) (by unfold Func.isWrapper; first | (rw [if_pos (by decide +kernel)]; kernel_rfl) | (rw [if_neg (by decide +kernel)]; exact ⟨rfl, rfl⟩))
    (fun os started H enc _ => lifted os started H enc)

theorem proved : Rows.SqueezeBestSaid :=
  over
#print axioms proved
end Go.Proofs.Ytbiocgenbgbfpaa.squeezeBest
