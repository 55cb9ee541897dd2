/- An envelope that is cut off is none; nor is one with more behind it. -/
import Derived.Test.YteelffkghidpfaaGreatRows
import Derived.WalkKit
import Derived.ProofKit
import Derived.OpenShut
import Derived.Lib.SmallJoins
import Derived.SizedLaws
import Derived.Test.YteelffkghidpfaaGreatF5
namespace Go.Proofs.YteelffkghidpfaaGreat.envelopeAlone
open Go.ChangeShapes Go.WideShapes Go.ChangeAt Go.RowKit Go.Joins
set_option linter.unusedVariables false
set_option linter.unusedSimpArgs false
theorem own : ownKnob Tryz.prog.godebug = none := by kernel_rfl
theorem laidOut : laidOutB Tryz.prog = true := by kernel_rfl
theorem wf_i64 {a : Int} (h : (Lit.int .i64 a).wf = true) : -9223372036854775808 ≤ a ∧ a < 9223372036854775808 := by
  simp only [Lit.wf, Bool.and_eq_true, decide_eq_true_eq] at h
  have h1 : IntKind.i64.min = -9223372036854775808 := by decide
  have h2 : IntKind.i64.max = 9223372036854775808 - 1 := by decide
  omega
theorem wf_u8 {a : Int} (h : (Lit.int .u8 a).wf = true) : 0 ≤ a ∧ a < 256 := by
  simp only [Lit.wf, Bool.and_eq_true, decide_eq_true_eq] at h
  have h1 : IntKind.u8.min = 0 := by decide
  have h2 : IntKind.u8.max = 256 - 1 := by decide
  omega
set_option maxRecDepth 100000 in
theorem lifted (os : Os) (started : os.Started) (H : Type) (enc : TypeId × Value → H) :
    ReturnsInHanded {} Tryz.checked os 6 .any (Rows.envelopeAloneSpec.pre6 enc Tryz.prog Tryz.f6 Rows.envelopeAloneRow.domain false) (Rows.envelopeAloneSpec.post enc Tryz.prog Tryz.f6 false true false false) := by
  refine returnsInHanded_of_change_sized (C := Tryz.checked) own started (by kernel_rfl) Tryz.func6
    (ChangeSpec.witness6 (enc := enc) (C := Tryz.checked) false ⟨#[], #[.int .u8 0, .int .u8 0, .slice none 0 0, .int .i64 0, .slice none 0 0], []⟩ 8 (by kernel_rfl) (by kernel_rfl) (by kernel_rfl) (by kernel_rfl)) ?_
  intro W base args ds gs before hval0 hW hcnd hz _
  have hval : ∀ (j : Nat) t v, Tryz.f6.params[j]? = some t → args[j]? = some v → Value.okWide Tryz.prog W .any base t v := hval0
  have hW' := hW
  obtain ⟨p, q, hA0, hV, rfl, hfz, hnd⟩ := hW
  have hA : DataW.TrodAll enc Tryz.prog W 0 (fun _ => true) true Tryz.f6.params.toList args.toList ds p := hA0
  rw [Tryz.params6] at hA hval
  obtain ⟨v0, vs0, d0, ds0, p0, q0, hargs, rfl, rfl, h0, r0⟩ := trodAll_cons hA
  obtain ⟨v1, vs1, d1, ds1, p1, q1, rfl, rfl, rfl, h1, r1⟩ := trodAll_cons r0
  obtain ⟨v2, vs2, d2, ds2, p2, q2, rfl, rfl, rfl, h2, r2⟩ := trodAll_cons r1
  obtain ⟨v3, vs3, d3, ds3, p3, q3, rfl, rfl, rfl, h3, r3⟩ := trodAll_cons r2
  obtain ⟨v4, vs4, d4, ds4, p4, q4, rfl, rfl, rfl, h4, r4⟩ := trodAll_cons r3
  obtain ⟨rfl, rfl, rfl⟩ := trodAll_nil r4
  obtain rfl : args = #[v0, v1, v2, v3, v4] := by cases args; simp_all
  obtain ⟨rfl, rfl⟩ := trodVars_none hV
  obtain ⟨a0, rfl, rfl, rfl, w0⟩ := open_int Tryz.underlying5 (hval 0 5 v0 rfl rfl) h0
  obtain ⟨a1, rfl, rfl, rfl, w1⟩ := open_int Tryz.underlying5 (hval 1 5 v1 rfl rfl) h1
  have k2 := h2
  obtain ⟨b2, c2, m2, T2, rfl, A2, L2, O2, E2⟩ := Go.Proofs.YteelffkghidpfaaGreat.open_bytes (hval 2 22 v2 rfl rfl) h2
  have z2 : m2 ≤ 140737488351232 := by
    rcases E2 with h | ⟨E, S, h, hl⟩
    · omega
    · have := sized_slice hz (j := 2) rfl (by rw [h]; rfl) Tryz.underlying22
      rw [hl, show Tryz.checked.prog.bytesOf 5 = 1 from by kernel_rfl, show reachBytes = 140737488351232 from rfl] at this
      omega
  obtain ⟨a3, rfl, rfl, rfl, w3⟩ := open_int Tryz.underlying3 (hval 3 3 v3 rfl rfl) h3
  have k4 := h4
  obtain ⟨b4, c4, m4, T4, rfl, A4, L4, O4, E4⟩ := Go.Proofs.YteelffkghidpfaaGreat.open_bytes (hval 4 22 v4 rfl rfl) h4
  have z4 : m4 ≤ 140737488351232 := by
    rcases E4 with h | ⟨E, S, h, hl⟩
    · omega
    · have := sized_slice hz (j := 4) rfl (by rw [h]; rfl) Tryz.underlying22
      rw [hl, show Tryz.checked.prog.bytesOf 5 = 1 from by kernel_rfl, show reachBytes = 140737488351232 from rfl] at this
      omega
  clear hA0 hval0
  simp only [List.append_nil] at hW'
  have hlt := hW'.lt
  refine (Go.Proofs.YteelffkghidpfaaGreat.EnvelopeAlone_l a0 a1 b2 c2 m2 T2 a3 b4 c4 m4 T4 W (wf_u8 w0) (wf_u8 w1) A2 L2 ⟨O2.1, O2.2, z2⟩ (wf_i64 w3) A4 L4 ⟨O4.1, O4.2, z4⟩).mono fun e W' ⟨he, hg⟩ => ?_
  subst he
  exact ⟨_, rfl, _, _, _, [], _, [], hW', trodAll_mk1 (shut_bool Tryz.underlying4 _), (trodAll_cons_mk (shut_int Tryz.underlying5 w0) (trodAll_cons_mk (shut_int Tryz.underlying5 w1) (trodAll_cons_mk (Below.trod laidOut (by kernel_rfl) (of_decide_eq_true (by kernel_rfl)) k2 hg (fun x hx => by simpa using hlt x (by simp [hx]))) (trodAll_cons_mk (shut_int Tryz.underlying3 w3) (trodAll_cons_mk (Below.trod laidOut (by kernel_rfl) (of_decide_eq_true (by kernel_rfl)) k4 hg (fun x hx => by simpa using hlt x (by simp [hx]))) trodAll_mk0))))), rfl, hg.frame _, fun h => by cases h⟩

theorem cl1 : Tryz.pinned.checked.prog.funcNamed Rows.envelopeAloneRow.func = some 6 := by kernel_rfl
theorem ci1 : (Rows.envelopeAloneRow.inPlace == Tryz.pinned.checked.prog.inPlace 6) = true := by kernel_rfl
theorem ci2 : (Rows.envelopeAloneRow.unfollowed == Tryz.pinned.checked.prog.unfollowed 6) = true := by kernel_rfl
theorem ci3 : (Rows.envelopeAloneRow.recurses == Tryz.pinned.checked.prog.recurses 6) = true := by kernel_rfl
theorem ci4 : (Rows.envelopeAloneRow.named == Tryz.pinned.checked.prog.varsNamed 6) = true := by kernel_rfl
theorem cl2 : joinedFacts Tryz.pinned.checked.prog 6 Tryz.f6 Rows.envelopeAloneSpec Rows.envelopeAloneRow = true := by
  unfold joinedFacts; rw [ci1, ci2, ci3, ci4]; kernel_rfl
theorem over : Rows.envelopeAloneRow.holds Tryz.pinned (OpenSpec.ofChange Rows.envelopeAloneSpec) :=
  OpenClaim.holds_of_wide 6 Tryz.f6 rfl rfl rfl rfl rfl rfl rfl ⟨rfl, rfl, rfl, rfl, rfl⟩ rfl rfl rfl rfl rfl cl1 Tryz.func6 cl2
    (of_decide_eq_true (by kernel_rfl)) (by unfold Func.isWrapper; first | (rw [if_pos (by decide +kernel)]; kernel_rfl) | (rw [if_neg (by decide +kernel)]; exact ⟨rfl, rfl⟩))
    (fun os started H enc _ => lifted os started H enc)

theorem proved : Rows.EnvelopeAloneSaid :=
  over
#print axioms proved
end Go.Proofs.YteelffkghidpfaaGreat.envelopeAlone
