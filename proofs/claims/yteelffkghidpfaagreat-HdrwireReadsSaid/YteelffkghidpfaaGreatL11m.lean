/- Whatever bytes are read: if they are a histogram's, they are just its plain form; the compressed form of bytes is opened just if they are read. -/
import Derived.Test.YteelffkghidpfaaGreatRows
import Derived.WalkKit
import Derived.ProofKit
import Derived.OpenShut
import Derived.Lib.SmallJoins
import Derived.SizedLaws
import Derived.Test.YteelffkghidpfaaGreatN6
namespace Go.Proofs.YteelffkghidpfaaGreat.hdrwireReads
open Go.ChangeShapes Go.WideShapes Go.ChangeAt Go.RowKit Go.Joins
set_option linter.unusedVariables false
set_option linter.unusedSimpArgs false
theorem own : ownKnob Tryz.prog.godebug = none := by kernel_rfl
theorem laidOut : laidOutB Tryz.prog = true := by kernel_rfl
set_option maxRecDepth 100000 in
theorem lifted (os : Os) (started : os.Started) (H : Type) (enc : TypeId × Value → H) :
    ReturnsInHanded {} Tryz.checked os 11 .any (Rows.hdrwireReadsSpec.pre6 enc Tryz.prog Tryz.f11 Rows.hdrwireReadsRow.domain false) (Rows.hdrwireReadsSpec.post enc Tryz.prog Tryz.f11 false true false false) := by
  refine returnsInHanded_of_change_sized (C := Tryz.checked) own started (by kernel_rfl) Tryz.func11
    (ChangeSpec.witness6 (enc := enc) (C := Tryz.checked) false ⟨#[], #[.slice none 0 0], []⟩ 8 (by kernel_rfl) (by kernel_rfl) (by kernel_rfl) (by kernel_rfl)) ?_
  intro W base args ds gs before hval0 hW hcnd hz _
  have hval : ∀ (j : Nat) t v, Tryz.f11.params[j]? = some t → args[j]? = some v → Value.okWide Tryz.prog W .any base t v := hval0
  have hW' := hW
  obtain ⟨p, q, hA0, hV, rfl, hfz, hnd⟩ := hW
  have hA : DataW.TrodAll enc Tryz.prog W 0 (fun _ => true) true Tryz.f11.params.toList args.toList ds p := hA0
  rw [Tryz.params11] at hA hval
  obtain ⟨v0, vs0, d0, ds0, p0, q0, hargs, rfl, rfl, h0, r0⟩ := trodAll_cons hA
  obtain ⟨rfl, rfl, rfl⟩ := trodAll_nil r0
  obtain rfl : args = #[v0] := by cases args; simp_all
  obtain ⟨rfl, rfl⟩ := trodVars_none hV
  have k0 := h0
  obtain ⟨b0, c0, m0, T0, rfl, A0, L0, O0, E0⟩ := Go.Proofs.YteelffkghidpfaaGreat.open_bytes (hval 0 22 v0 rfl rfl) h0
  have z0 : m0 ≤ 140737488351232 := by
    rcases E0 with h | ⟨E, S, h, hl⟩
    · omega
    · have := sized_slice hz (j := 0) rfl (by rw [h]; rfl) Tryz.underlying22
      rw [hl, show Tryz.checked.prog.bytesOf 5 = 1 from by kernel_rfl, show reachBytes = 140737488351232 from rfl] at this
      omega
  clear hA0 hval0
  simp only [List.append_nil] at hW'
  have hlt := hW'.lt
  refine (Go.Proofs.YteelffkghidpfaaGreat.HdrwireReads_l b0 c0 m0 T0 W A0 L0 ⟨O0.1, O0.2, z0⟩).mono fun e W' ⟨he, hg⟩ => ?_
  subst he
  exact ⟨_, rfl, _, _, _, [], _, [], hW', trodAll_mk1 (shut_bool Tryz.underlying4 _), (trodAll_cons_mk (Below.trod laidOut (by kernel_rfl) (of_decide_eq_true (by kernel_rfl)) k0 hg (fun x hx => by simpa using hlt x (by simp [hx]))) trodAll_mk0), rfl, hg.frame _, fun h => by cases h⟩

theorem cl1 : Tryz.pinned.checked.prog.funcNamed Rows.hdrwireReadsRow.func = some 11 := by kernel_rfl
theorem ci1 : (Rows.hdrwireReadsRow.inPlace == Tryz.pinned.checked.prog.inPlace 11) = true := by kernel_rfl
theorem ci2 : (Rows.hdrwireReadsRow.unfollowed == Tryz.pinned.checked.prog.unfollowed 11) = true := by kernel_rfl
theorem ci3 : (Rows.hdrwireReadsRow.recurses == Tryz.pinned.checked.prog.recurses 11) = true := by kernel_rfl
theorem ci4 : (Rows.hdrwireReadsRow.named == Tryz.pinned.checked.prog.varsNamed 11) = true := by kernel_rfl
theorem cl2 : joinedFacts Tryz.pinned.checked.prog 11 Tryz.f11 Rows.hdrwireReadsSpec Rows.hdrwireReadsRow = true := by
  unfold joinedFacts; rw [ci1, ci2, ci3, ci4]; kernel_rfl
theorem over : Rows.hdrwireReadsRow.holds Tryz.pinned (OpenSpec.ofChange Rows.hdrwireReadsSpec) :=
  OpenClaim.holds_of_wide 11 Tryz.f11 rfl rfl rfl rfl rfl rfl rfl ⟨rfl, rfl, rfl, rfl, rfl⟩ rfl rfl rfl rfl rfl cl1 Tryz.func11 cl2
    (of_decide_eq_true (by kernel_rfl)) (by unfold Func.isWrapper; first | (rw [if_pos (by decide +kernel)]; kernel_rfl) | (rw [if_neg (by decide +kernel)]; exact ⟨rfl, rfl⟩))
    (fun os started H enc _ => lifted os started H enc)

theorem proved : Rows.HdrwireReadsSaid :=
  over
#print axioms proved
end Go.Proofs.YteelffkghidpfaaGreat.hdrwireReads
