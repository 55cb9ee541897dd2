/- What was written, plain or compressed, is read with the same cells and the same reach, and written as it was. -/
import Derived.Test.YteelffkghidpfaaGreatRows
import Derived.WalkKit
import Derived.ProofKit
import Derived.OpenShut
import Derived.Lib.SmallJoins
import Derived.SizedLaws
import Derived.Test.YteelffkghidpfaaGreatJ6
namespace Go.Proofs.YteelffkghidpfaaGreat.hdrwireBack
open Go.ChangeShapes Go.WideShapes Go.ChangeAt Go.RowKit Go.Joins
set_option linter.unusedVariables false
set_option linter.unusedSimpArgs false
theorem own : ownKnob Tryz.prog.godebug = none := by kernel_rfl
theorem laidOut : laidOutB Tryz.prog = true := by kernel_rfl
theorem wf_u64 {a : Int} (h : (Lit.int .u64 a).wf = true) : 0 ≤ a ∧ a < 18446744073709551616 := by
  simp only [Lit.wf, Bool.and_eq_true, decide_eq_true_eq] at h
  have h1 : IntKind.u64.min = 0 := by decide
  have h2 : IntKind.u64.max = 18446744073709551616 - 1 := by decide
  omega
theorem wf_u8 {a : Int} (h : (Lit.int .u8 a).wf = true) : 0 ≤ a ∧ a < 256 := by
  simp only [Lit.wf, Bool.and_eq_true, decide_eq_true_eq] at h
  have h1 : IntKind.u8.min = 0 := by decide
  have h2 : IntKind.u8.max = 256 - 1 := by decide
  omega
set_option maxRecDepth 100000 in
theorem lifted (os : Os) (started : os.Started) (H : Type) (enc : TypeId × Value → H) :
    ReturnsInHanded {} Tryz.checked os 12 .any (Rows.hdrwireBackSpec.pre6 enc Tryz.prog Tryz.f12 Rows.hdrwireBackRow.domain false) (Rows.hdrwireBackSpec.post enc Tryz.prog Tryz.f12 false true false false) := by
  refine returnsInHanded_of_change_sized (C := Tryz.checked) own started (by kernel_rfl) Tryz.func12
    (ChangeSpec.witness6 (enc := enc) (C := Tryz.checked) false ⟨#[], #[.int .u64 0, .int .u8 0, .int .u64 0, .bool false, .slice none 0 0, .slice none 0 0], []⟩ 8 (by kernel_rfl) (by kernel_rfl) (by kernel_rfl) (by kernel_rfl)) ?_
  intro W base args ds gs before hval0 hW hcnd hz _
  have hval : ∀ (j : Nat) t v, Tryz.f12.params[j]? = some t → args[j]? = some v → Value.okWide Tryz.prog W .any base t v := hval0
  have hW' := hW
  obtain ⟨p, q, hA0, hV, rfl, hfz, hnd⟩ := hW
  have hA : DataW.TrodAll enc Tryz.prog W 0 (fun _ => true) true Tryz.f12.params.toList args.toList ds p := hA0
  rw [Tryz.params12] at hA hval
  obtain ⟨v0, vs0, d0, ds0, p0, q0, hargs, rfl, rfl, h0, r0⟩ := trodAll_cons hA
  obtain ⟨v1, vs1, d1, ds1, p1, q1, rfl, rfl, rfl, h1, r1⟩ := trodAll_cons r0
  obtain ⟨v2, vs2, d2, ds2, p2, q2, rfl, rfl, rfl, h2, r2⟩ := trodAll_cons r1
  obtain ⟨v3, vs3, d3, ds3, p3, q3, rfl, rfl, rfl, h3, r3⟩ := trodAll_cons r2
  obtain ⟨v4, vs4, d4, ds4, p4, q4, rfl, rfl, rfl, h4, r4⟩ := trodAll_cons r3
  obtain ⟨v5, vs5, d5, ds5, p5, q5, rfl, rfl, rfl, h5, r5⟩ := trodAll_cons r4
  obtain ⟨rfl, rfl, rfl⟩ := trodAll_nil r5
  obtain rfl : args = #[v0, v1, v2, v3, v4, v5] := by cases args; simp_all
  obtain ⟨rfl, rfl⟩ := trodVars_none hV
  obtain ⟨a0, rfl, rfl, rfl, w0⟩ := open_int Tryz.underlying48 (hval 0 48 v0 rfl rfl) h0
  obtain ⟨a1, rfl, rfl, rfl, w1⟩ := open_int Tryz.underlying5 (hval 1 5 v1 rfl rfl) h1
  obtain ⟨a2, rfl, rfl, rfl, w2⟩ := open_int Tryz.underlying48 (hval 2 48 v2 rfl rfl) h2
  obtain ⟨a3, rfl, rfl, rfl⟩ := open_bool Tryz.underlying4 (hval 3 4 v3 rfl rfl) h3
  have k4 := h4
  obtain ⟨b4, c4, m4, T4, rfl, A4, L4, O4, E4⟩ := Go.Proofs.YteelffkghidpfaaGreat.open_i64s (hval 4 49 v4 rfl rfl) h4
  have z4 : m4 ≤ 17592186043904 := by
    rcases E4 with h | ⟨E, S, h, hl⟩
    · omega
    · have := sized_slice hz (j := 4) rfl (by rw [h]; rfl) Tryz.underlying49
      rw [hl, show Tryz.checked.prog.bytesOf 2 = 8 from by kernel_rfl, show reachBytes = 140737488351232 from rfl] at this
      omega
  have k5 := h5
  obtain ⟨b5, c5, m5, T5, rfl, A5, L5, O5, E5⟩ := Go.Proofs.YteelffkghidpfaaGreat.open_u32s (hval 5 50 v5 rfl rfl) h5
  have z5 : m5 ≤ 35184372087808 := by
    rcases E5 with h | ⟨E, S, h, hl⟩
    · omega
    · have := sized_slice hz (j := 5) rfl (by rw [h]; rfl) Tryz.underlying50
      rw [hl, show Tryz.checked.prog.bytesOf 31 = 4 from by kernel_rfl, show reachBytes = 140737488351232 from rfl] at this
      omega
  clear hA0 hval0
  simp only [List.append_nil] at hW'
  have hlt := hW'.lt
  refine (Go.Proofs.YteelffkghidpfaaGreat.HdrwireBack_l a0 a1 a2 a3 b4 c4 m4 T4 b5 c5 m5 T5 W (wf_u64 w0) (wf_u8 w1) (wf_u64 w2) A4 L4 ⟨O4.1, O4.2, z4⟩ A5 L5 ⟨O5.1, O5.2, z5⟩).mono fun e W' ⟨he, hg⟩ => ?_
  subst he
  exact ⟨_, rfl, _, _, _, [], _, [], hW', trodAll_mk1 (shut_bool Tryz.underlying4 _), (trodAll_cons_mk (shut_int Tryz.underlying48 w0) (trodAll_cons_mk (shut_int Tryz.underlying5 w1) (trodAll_cons_mk (shut_int Tryz.underlying48 w2) (trodAll_cons_mk (shut_bool Tryz.underlying4 a3) (trodAll_cons_mk (Below.trod laidOut (by kernel_rfl) (of_decide_eq_true (by kernel_rfl)) k4 hg (fun x hx => by simpa using hlt x (by simp [hx]))) (trodAll_cons_mk (Below.trod laidOut (by kernel_rfl) (of_decide_eq_true (by kernel_rfl)) k5 hg (fun x hx => by simpa using hlt x (by simp [hx]))) trodAll_mk0)))))), rfl, hg.frame _, fun h => by cases h⟩

theorem cl1 : Tryz.pinned.checked.prog.funcNamed Rows.hdrwireBackRow.func = some 12 := by kernel_rfl
theorem ci1 : (Rows.hdrwireBackRow.inPlace == Tryz.pinned.checked.prog.inPlace 12) = true := by kernel_rfl
theorem ci2 : (Rows.hdrwireBackRow.unfollowed == Tryz.pinned.checked.prog.unfollowed 12) = true := by kernel_rfl
theorem ci3 : (Rows.hdrwireBackRow.recurses == Tryz.pinned.checked.prog.recurses 12) = true := by kernel_rfl
theorem ci4 : (Rows.hdrwireBackRow.named == Tryz.pinned.checked.prog.varsNamed 12) = true := by kernel_rfl
theorem cl2 : joinedFacts Tryz.pinned.checked.prog 12 Tryz.f12 Rows.hdrwireBackSpec Rows.hdrwireBackRow = true := by
  unfold joinedFacts; rw [ci1, ci2, ci3, ci4]; kernel_rfl
theorem over : Rows.hdrwireBackRow.holds Tryz.pinned (OpenSpec.ofChange Rows.hdrwireBackSpec) :=
  OpenClaim.holds_of_wide 12 Tryz.f12 rfl rfl rfl rfl rfl rfl rfl ⟨rfl, rfl, rfl, rfl, rfl⟩ rfl rfl rfl rfl rfl cl1 Tryz.func12 cl2
    (of_decide_eq_true (by kernel_rfl)) (by unfold Func.isWrapper; first | (rw [if_pos (by decide +kernel)]; kernel_rfl) | (rw [if_neg (by decide +kernel)]; exact ⟨rfl, rfl⟩))
    (fun os started H enc _ => lifted os started H enc)

theorem proved : Rows.HdrwireBackSaid :=
  over
#print axioms proved
end Go.Proofs.YteelffkghidpfaaGreat.hdrwireBack
