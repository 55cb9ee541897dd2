/- Which bytes are envelopes, of what, is the document's. -/
import Derived.Test.YteelffkghidpfaaGreatRows
import Derived.WalkKit
import Derived.ProofKit
import Derived.OpenShut
import Derived.Lib.SmallJoins
import Derived.SizedLaws
import Derived.Test.YteelffkghidpfaaGreatF5
namespace Go.Proofs.YteelffkghidpfaaGreat.envelopeReads
open Go.ChangeShapes Go.WideShapes Go.ChangeAt Go.RowKit Go.Joins
set_option linter.unusedVariables false
set_option linter.unusedSimpArgs false
theorem own : ownKnob Tryz.prog.godebug = none := by kernel_rfl
theorem laidOut : laidOutB Tryz.prog = true := by kernel_rfl
set_option maxRecDepth 100000 in
theorem lifted (os : Os) (started : os.Started) (H : Type) (enc : TypeId × Value → H) :
    ReturnsInHanded {} Tryz.checked os 8 .any (Rows.envelopeReadsSpec.pre6 enc Tryz.prog Tryz.f8 Rows.envelopeReadsRow.domain false) (Rows.envelopeReadsSpec.post enc Tryz.prog Tryz.f8 false true false false) := by
  refine returnsInHanded_of_change_sized (C := Tryz.checked) own started (by kernel_rfl) Tryz.func8
    (ChangeSpec.witness6 (enc := enc) (C := Tryz.checked) false ⟨#[], #[.slice none 0 0, .bool false], []⟩ 8 (by kernel_rfl) (by kernel_rfl) (by kernel_rfl) (by kernel_rfl)) ?_
  intro W base args ds gs before hval0 hW hcnd hz _
  have hval : ∀ (j : Nat) t v, Tryz.f8.params[j]? = some t → args[j]? = some v → Value.okWide Tryz.prog W .any base t v := hval0
  have hW' := hW
  obtain ⟨p, q, hA0, hV, rfl, hfz, hnd⟩ := hW
  have hA : DataW.TrodAll enc Tryz.prog W 0 (fun _ => true) true Tryz.f8.params.toList args.toList ds p := hA0
  rw [Tryz.params8] at hA hval
  obtain ⟨v0, vs0, d0, ds0, p0, q0, hargs, rfl, rfl, h0, r0⟩ := trodAll_cons hA
  obtain ⟨v1, vs1, d1, ds1, p1, q1, rfl, rfl, rfl, h1, r1⟩ := trodAll_cons r0
  obtain ⟨rfl, rfl, rfl⟩ := trodAll_nil r1
  obtain rfl : args = #[v0, v1] := by cases args; simp_all
  obtain ⟨rfl, rfl⟩ := trodVars_none hV
  have k0 := h0
  obtain ⟨b0, c0, m0, T0, rfl, A0, L0, O0, E0⟩ := Go.Proofs.YteelffkghidpfaaGreat.open_bytes (hval 0 22 v0 rfl rfl) h0
  have z0 : m0 ≤ 140737488351232 := by
    rcases E0 with h | ⟨E, S, h, hl⟩
    · omega
    · have := sized_slice hz (j := 0) rfl (by rw [h]; rfl) Tryz.underlying22
      rw [hl, show Tryz.checked.prog.bytesOf 5 = 1 from by kernel_rfl, show reachBytes = 140737488351232 from rfl] at this
      omega
  obtain ⟨a1, rfl, rfl, rfl⟩ := open_bool Tryz.underlying4 (hval 1 4 v1 rfl rfl) h1
  clear hA0 hval0
  simp only [List.append_nil] at hW'
  have hlt := hW'.lt
  refine (Go.Proofs.YteelffkghidpfaaGreat.EnvelopeReads_l b0 c0 m0 T0 a1 W A0 L0 ⟨O0.1, O0.2, z0⟩).mono fun e W' ⟨he, hg⟩ => ?_
  subst he
  exact ⟨_, rfl, _, _, _, [], _, [], hW', trodAll_mk1 (shut_bool Tryz.underlying4 _), (trodAll_cons_mk (Below.trod laidOut (by kernel_rfl) (of_decide_eq_true (by kernel_rfl)) k0 hg (fun x hx => by simpa using hlt x (by simp [hx]))) (trodAll_cons_mk (shut_bool Tryz.underlying4 a1) trodAll_mk0)), rfl, hg.frame _, fun h => by cases h⟩

theorem cl1 : Tryz.pinned.checked.prog.funcNamed Rows.envelopeReadsRow.func = some 8 := by kernel_rfl
theorem ci1 : (Rows.envelopeReadsRow.inPlace == Tryz.pinned.checked.prog.inPlace 8) = true := by kernel_rfl
theorem ci2 : (Rows.envelopeReadsRow.unfollowed == Tryz.pinned.checked.prog.unfollowed 8) = true := by kernel_rfl
theorem ci3 : (Rows.envelopeReadsRow.recurses == Tryz.pinned.checked.prog.recurses 8) = true := by kernel_rfl
theorem ci4 : (Rows.envelopeReadsRow.named == Tryz.pinned.checked.prog.varsNamed 8) = true := by kernel_rfl
theorem cl2 : joinedFacts Tryz.pinned.checked.prog 8 Tryz.f8 Rows.envelopeReadsSpec Rows.envelopeReadsRow = true := by
  unfold joinedFacts; rw [ci1, ci2, ci3, ci4]; kernel_rfl
theorem over : Rows.envelopeReadsRow.holds Tryz.pinned (OpenSpec.ofChange Rows.envelopeReadsSpec) :=
  OpenClaim.holds_of_wide 8 Tryz.f8 rfl rfl rfl rfl rfl rfl rfl ⟨rfl, rfl, rfl, rfl, rfl⟩ rfl rfl rfl rfl rfl cl1 Tryz.func8 cl2
    (of_decide_eq_true (by kernel_rfl)) (by unfold Func.isWrapper; first | (rw [if_pos (by decide +kernel)]; kernel_rfl) | (rw [if_neg (by decide +kernel)]; exact ⟨rfl, rfl⟩))
    (fun os started H enc _ => lifted os started H enc)

theorem proved : Rows.EnvelopeReadsSaid :=
  over
#print axioms proved
end Go.Proofs.YteelffkghidpfaaGreat.envelopeReads
