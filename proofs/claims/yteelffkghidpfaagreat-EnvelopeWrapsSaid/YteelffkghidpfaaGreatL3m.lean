/- Of any kind and text the envelopes of both versions, packed and not, are the document's, byte by byte. -/
import Derived.Test.YteelffkghidpfaaGreatRows
import Derived.WalkKit
import Derived.ProofKit
import Derived.OpenShut
import Derived.Lib.SmallJoins
import Derived.SizedLaws
import Derived.Test.YteelffkghidpfaaGreatG5
namespace Go.Proofs.YteelffkghidpfaaGreat.envelopeWraps
open Go.ChangeShapes Go.WideShapes Go.ChangeAt Go.RowKit Go.Joins
set_option linter.unusedVariables false
set_option linter.unusedSimpArgs false
theorem own : ownKnob Tryz.prog.godebug = none := by kernel_rfl
theorem laidOut : laidOutB Tryz.prog = true := by kernel_rfl
theorem wf_u8 {a : Int} (h : (Lit.int .u8 a).wf = true) : 0 ≤ a ∧ a < 256 := by
  simp only [Lit.wf, Bool.and_eq_true, decide_eq_true_eq] at h
  have h1 : IntKind.u8.min = 0 := by decide
  have h2 : IntKind.u8.max = 256 - 1 := by decide
  omega
set_option maxRecDepth 100000 in
theorem lifted (os : Os) (started : os.Started) (H : Type) (enc : TypeId × Value → H) :
    ReturnsInHanded {} Tryz.checked os 3 .any (Rows.envelopeWrapsSpec.pre6 enc Tryz.prog Tryz.f3 Rows.envelopeWrapsRow.domain false) (Rows.envelopeWrapsSpec.post enc Tryz.prog Tryz.f3 false true false false) := by
  refine returnsInHanded_of_change_sized (C := Tryz.checked) own started (by kernel_rfl) Tryz.func3
    (ChangeSpec.witness6 (enc := enc) (C := Tryz.checked) false ⟨#[], #[.int .u8 0, .slice none 0 0], []⟩ 8 (by kernel_rfl) (by kernel_rfl) (by kernel_rfl) (by kernel_rfl)) ?_
  intro W base args ds gs before hval0 hW hcnd hz _
  have hval : ∀ (j : Nat) t v, Tryz.f3.params[j]? = some t → args[j]? = some v → Value.okWide Tryz.prog W .any base t v := hval0
  have hW' := hW
  obtain ⟨p, q, hA0, hV, rfl, hfz, hnd⟩ := hW
  have hA : DataW.TrodAll enc Tryz.prog W 0 (fun _ => true) true Tryz.f3.params.toList args.toList ds p := hA0
  rw [Tryz.params3] at hA hval
  obtain ⟨v0, vs0, d0, ds0, p0, q0, hargs, rfl, rfl, h0, r0⟩ := trodAll_cons hA
  obtain ⟨v1, vs1, d1, ds1, p1, q1, rfl, rfl, rfl, h1, r1⟩ := trodAll_cons r0
  obtain ⟨rfl, rfl, rfl⟩ := trodAll_nil r1
  obtain rfl : args = #[v0, v1] := by cases args; simp_all
  obtain ⟨rfl, rfl⟩ := trodVars_none hV
  obtain ⟨a0, rfl, rfl, rfl, w0⟩ := open_int Tryz.underlying5 (hval 0 5 v0 rfl rfl) h0
  have k1 := h1
  obtain ⟨b1, c1, m1, T1, rfl, A1, L1, O1, E1⟩ := Go.Proofs.YteelffkghidpfaaGreat.open_bytes (hval 1 22 v1 rfl rfl) h1
  have z1 : m1 ≤ 140737488351232 := by
    rcases E1 with h | ⟨E, S, h, hl⟩
    · omega
    · have := sized_slice hz (j := 1) rfl (by rw [h]; rfl) Tryz.underlying22
      rw [hl, show Tryz.checked.prog.bytesOf 5 = 1 from by kernel_rfl, show reachBytes = 140737488351232 from rfl] at this
      omega
  clear hA0 hval0
  simp only [List.append_nil] at hW'
  have hlt := hW'.lt
  refine (Go.Proofs.YteelffkghidpfaaGreat.EnvelopeWraps_l a0 b1 c1 m1 T1 W (wf_u8 w0) A1 L1 ⟨O1.1, O1.2, z1⟩).mono fun e W' ⟨he, hg⟩ => ?_
  subst he
  exact ⟨_, rfl, _, _, _, [], _, [], hW', trodAll_mk1 (shut_bool Tryz.underlying4 _), (trodAll_cons_mk (shut_int Tryz.underlying5 w0) (trodAll_cons_mk (Below.trod laidOut (by kernel_rfl) (of_decide_eq_true (by kernel_rfl)) k1 hg (fun x hx => by simpa using hlt x (by simp [hx]))) trodAll_mk0)), rfl, hg.frame _, fun h => by cases h⟩

theorem cl1 : Tryz.pinned.checked.prog.funcNamed Rows.envelopeWrapsRow.func = some 3 := by kernel_rfl
theorem ci1 : (Rows.envelopeWrapsRow.inPlace == Tryz.pinned.checked.prog.inPlace 3) = true := by kernel_rfl
theorem ci2 : (Rows.envelopeWrapsRow.unfollowed == Tryz.pinned.checked.prog.unfollowed 3) = true := by kernel_rfl
theorem ci3 : (Rows.envelopeWrapsRow.recurses == Tryz.pinned.checked.prog.recurses 3) = true := by kernel_rfl
theorem ci4 : (Rows.envelopeWrapsRow.named == Tryz.pinned.checked.prog.varsNamed 3) = true := by kernel_rfl
theorem cl2 : joinedFacts Tryz.pinned.checked.prog 3 Tryz.f3 Rows.envelopeWrapsSpec Rows.envelopeWrapsRow = true := by
  unfold joinedFacts; rw [ci1, ci2, ci3, ci4]; kernel_rfl
theorem over : Rows.envelopeWrapsRow.holds Tryz.pinned (OpenSpec.ofChange Rows.envelopeWrapsSpec) :=
  OpenClaim.holds_of_wide 3 Tryz.f3 rfl rfl rfl rfl rfl rfl rfl ⟨rfl, rfl, rfl, rfl, rfl⟩ rfl rfl rfl rfl rfl cl1 Tryz.func3 cl2
    (of_decide_eq_true (by kernel_rfl)) (by unfold Func.isWrapper; first | (rw [if_pos (by decide +kernel)]; kernel_rfl) | (rw [if_neg (by decide +kernel)]; exact ⟨rfl, rfl⟩))
    (fun os started H enc _ => lifted os started H enc)

theorem proved : Rows.EnvelopeWrapsSaid :=
  over
#print axioms proved
end Go.Proofs.YteelffkghidpfaaGreat.envelopeWraps
