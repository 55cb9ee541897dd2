import Derived.Test.YtjgjppgocheklaaW6
import Derived.Test.YtjgjppgocheklaaW10b
namespace Go.Proofs.Ytjgjppgocheklaa
open Sx Go
set_option linter.unusedVariables false
set_option linter.unusedSimpArgs false
theorem fields59 : (Try.prog.fieldsOf 59).toList = [⟨"Hi", 45, 0, false, "", "", 0⟩, ⟨"Lo", 45, 1, false, "", "", 8⟩] := by kernel_rfl
theorem eqNum (a b c d : Int) (w : World) : (Op.eqFields 9999 [Value.int .u64 a, .int .u64 b].toArray [Value.int .u64 c, .int .u64 d].toArray (Try.prog.fieldsOf 59).toList).run Try.prog w = .ok (decide (a = c) && decide (b = d)) w := by
  have e0 := und_int (tb := tb) (t := 45) rfl
  have e1 : (Op.equalIn 9999 45 (.int .u64 a) (.int .u64 c)).run Try.prog w = .ok (a == c) w := run_equalIn_int (P := Try.prog) w 9998 45 .u64 .u64 a c e0
  have e2 : (Op.equalIn 9999 45 (.int .u64 b) (.int .u64 d)).run Try.prog w = .ok (b == d) w := run_equalIn_int (P := Try.prog) w 9998 45 .u64 .u64 b d e0
  rw [fields59]
  have p1 : (part 45 [Value.int .u64 a, .int .u64 b].toArray 0).run Try.prog w = .ok (Value.int .u64 a) w := run_part_plain (P := Try.prog) (w := w) (e := 45) (by kernel_rfl) (xs := [Value.int .u64 a, .int .u64 b].toArray) (off := 0) rfl
  have p2 : (part 45 [Value.int .u64 a, .int .u64 b].toArray 1).run Try.prog w = .ok (Value.int .u64 b) w := run_part_plain (P := Try.prog) (w := w) (e := 45) (by kernel_rfl) (xs := [Value.int .u64 a, .int .u64 b].toArray) (off := 1) rfl
  have p3 : (part 45 [Value.int .u64 c, .int .u64 d].toArray 0).run Try.prog w = .ok (Value.int .u64 c) w := run_part_plain (P := Try.prog) (w := w) (e := 45) (by kernel_rfl) (xs := [Value.int .u64 c, .int .u64 d].toArray) (off := 0) rfl
  have p4 : (part 45 [Value.int .u64 c, .int .u64 d].toArray 1).run Try.prog w = .ok (Value.int .u64 d) w := run_part_plain (P := Try.prog) (w := w) (e := 45) (by kernel_rfl) (xs := [Value.int .u64 c, .int .u64 d].toArray) (off := 1) rfl
  have n1 : ("Hi" : String) ≠ "_" := by decide
  have n2 : ("Lo" : String) ≠ "_" := by decide
  simp only [Op.eqFields, n1, n2, ne_eq, not_false_eq_true, if_true, Sem.run_bind, p1, p2, p3, p4, e1, e2, Result.andThen_ok, Sem.run_ite, Sem.run_pure]
  by_cases h1 : a = c <;> by_cases h2 : b = d <;> simp [h1, h2]
theorem u59 : Try.prog.underlying 59 = some (.struct (Try.prog.fieldsOf 59)) := by kernel_rfl
theorem h59 : Try.prog.stoodInHeld 59 = false := by kernel_rfl
theorem m59 : Try.prog.eqGuardType Try.prog.depth 59 = false := by kernel_rfl
section
variable {D : List Deferred} {w0 : World} {H : List Asn} {ov : Ov} {n : Nat} {d : Option Nat} {x y : Operand} {T T2 : Nat} {pos : String} {af : Array Edge} {g : Option (Nat × Bool)}
theorem V_eqNum {a b a' b' : Int} {r : Bool} (hx : ev ov x = some (.agg #[.int .u64 a, .int .u64 b])) (hy : ev ov y = some (.agg #[.int .u64 a', .int .u64 b'])) (hr : (decide (a = a') && decide (b = b')) = r) (hd : dOk d n = true) :
    OpV Try.prog n D w0 ov H ⟨d, .binOp .eql 59 x y T2, T, pos, af, g⟩ (.bool r) := by
  have := V_eqS (P := Try.prog) (w0 := w0) (D := D) (H := H) (T := T) (T2 := T2) (pos := pos) (af := af) (g := g) (.inl rfl) hx hy u59 h59 m59 (eqNum a b a' b') hd
  rw [hr] at this; exact this
theorem V_neNum {a b a' b' : Int} {r : Bool} (hx : ev ov x = some (.agg #[.int .u64 a, .int .u64 b])) (hy : ev ov y = some (.agg #[.int .u64 a', .int .u64 b'])) (hr : (!(decide (a = a') && decide (b = b'))) = r) (hd : dOk d n = true) :
    OpV Try.prog n D w0 ov H ⟨d, .binOp .neq 59 x y T2, T, pos, af, g⟩ (.bool r) := by
  have := V_eqS (P := Try.prog) (w0 := w0) (D := D) (H := H) (T := T) (T2 := T2) (pos := pos) (af := af) (g := g) (.inr rfl) hx hy u59 h59 m59 (eqNum a b a' b') hd
  simp only [hr] at this; exact this
end
set_option maxHeartbeats 1000000 in
theorem alive_c {w0 : World} {H : List Asn} (w : World) (hw : St w0 H w) :
    Calls Try.prog 26 #[] w fun e w' => e = .returned (.bool true) ∧ St w0 H w' := by
  refine enter (vs := []) Try.func26 rfl rfl rfl hw ?_
  repeat (first | (apply gJO; first | (apply kS; refine aK ?_) | (apply kX; refine JO_box rfl rfl rfl ?_; intro _) | (apply kA; refine JO_alloc (tb := tb) rfl rfl ?_; intro _) | (apply kBs; refine JO_buildSlice (tb := tb) rfl rfl rfl rfl rfl rfl rfl rfl rfl ?_; intro _) | (apply kM; refine JO_make (tb := tb) rfl rfl rfl rfl rfl rfl (by omega) rfl ?_; intro _) | refine aO ?_) | (apply gJR; first | apply JR_un | apply JR_nil | refine JR_yes rfl rfl ?_ | refine JR_no rfl rfl rfl rfl ?_ | refine JR_noU rfl rfl rfl ?_) | (apply gJS; first | apply JS_seq | apply JS_region | apply JS_skip | apply JS_block | apply JS_inBlock | apply JS_label | refine JS_exit rfl ?_ | refine JS_condT rfl ?_ | refine JS_condF rfl ?_ | refine JS_draw [0] (by kernel_rfl) (by kernel_rfl) (by decide +kernel) ?_ | refine JS_draw [] (by kernel_rfl) (by kernel_rfl) (by decide +kernel) ?_) | (apply gQR; first | apply QR_un | apply QR_nil | refine QR_yes rfl rfl ?_ | refine QR_no rfl rfl rfl rfl ?_ | refine QR_noU rfl rfl rfl ?_) | (apply gQO; first | refine aQ ?_ | refine aQK rfl ?_))
  refine JO_call Try.call27 rfl rfl fun w hw => (MulDiv_c 9223372036854775808 4 8 (by omega) (by omega) (by omega) w hw).mono ?_
  rintro e w' ⟨q, l, r, rfl, hw', h⟩
  obtain ⟨rfl, rfl, rfl⟩ : q = 4611686018427387904 ∧ l = 0 ∧ r = 0 := by unfold MD at h; omega
  refine ⟨_, rfl, _, hw', ?_⟩
  clear h hw' hw w w'
  repeat (first | (apply gJO; first | (apply kS; refine aK ?_) | (apply kX; refine JO_box rfl rfl rfl ?_; intro _) | (apply kA; refine JO_alloc (tb := tb) rfl rfl ?_; intro _) | (apply kBs; refine JO_buildSlice (tb := tb) rfl rfl rfl rfl rfl rfl rfl rfl rfl ?_; intro _) | (apply kM; refine JO_make (tb := tb) rfl rfl rfl rfl rfl rfl (by omega) rfl ?_; intro _) | refine aO ?_) | (apply gJR; first | apply JR_un | apply JR_nil | refine JR_yes rfl rfl ?_ | refine JR_no rfl rfl rfl rfl ?_ | refine JR_noU rfl rfl rfl ?_) | (apply gJS; first | apply JS_seq | apply JS_region | apply JS_skip | apply JS_block | apply JS_inBlock | apply JS_label | refine JS_exit rfl ?_ | refine JS_condT rfl ?_ | refine JS_condF rfl ?_ | refine JS_draw [0] (by kernel_rfl) (by kernel_rfl) (by decide +kernel) ?_ | refine JS_draw [] (by kernel_rfl) (by kernel_rfl) (by decide +kernel) ?_) | (apply gQR; first | apply QR_un | apply QR_nil | refine QR_yes rfl rfl ?_ | refine QR_no rfl rfl rfl rfl ?_ | refine QR_noU rfl rfl rfl ?_) | (apply gQO; first | refine aQ ?_ | refine aQK rfl ?_))
  refine JO_call Try.call29 rfl rfl fun w hw => (Ceil_c 7 1 2 (by omega) (by omega) (by omega) w hw).mono ?_
  rintro e w' ⟨q, r, rfl, hw', h⟩
  obtain ⟨rfl, rfl⟩ : q = 4 ∧ r = 0 := by omega
  refine ⟨_, rfl, _, hw', ?_⟩
  clear h hw' hw w w'
  repeat (first | (apply gJO; first | (apply kS; refine aK ?_) | (apply kX; refine JO_box rfl rfl rfl ?_; intro _) | (apply kA; refine JO_alloc (tb := tb) rfl rfl ?_; intro _) | (apply kBs; refine JO_buildSlice (tb := tb) rfl rfl rfl rfl rfl rfl rfl rfl rfl ?_; intro _) | (apply kM; refine JO_make (tb := tb) rfl rfl rfl rfl rfl rfl (by omega) rfl ?_; intro _) | refine aO ?_) | (apply gJR; first | apply JR_un | apply JR_nil | refine JR_yes rfl rfl ?_ | refine JR_no rfl rfl rfl rfl ?_ | refine JR_noU rfl rfl rfl ?_) | (apply gJS; first | apply JS_seq | apply JS_region | apply JS_skip | apply JS_block | apply JS_inBlock | apply JS_label | refine JS_exit rfl ?_ | refine JS_condT rfl ?_ | refine JS_condF rfl ?_ | refine JS_draw [0] (by kernel_rfl) (by kernel_rfl) (by decide +kernel) ?_ | refine JS_draw [] (by kernel_rfl) (by kernel_rfl) (by decide +kernel) ?_) | (apply gQR; first | apply QR_un | apply QR_nil | refine QR_yes rfl rfl ?_ | refine QR_no rfl rfl rfl rfl ?_ | refine QR_noU rfl rfl rfl ?_) | (apply gQO; first | refine aQ ?_ | refine aQK rfl ?_))
  refine JO_call Try.call30 rfl rfl fun w hw => (Avg_c (-3) 1 0 1 (by omega) (by omega) (by omega) (by omega) w hw).mono ?_
  rintro e w' ⟨q, r, rfl, hw', h⟩
  obtain ⟨rfl, rfl⟩ : q = -2 ∧ r = 0 := by omega
  refine ⟨_, rfl, _, hw', ?_⟩
  clear h hw' hw w w'
  repeat (first | (apply gJO; first | (apply kS; refine aK ?_) | (apply kX; refine JO_box rfl rfl rfl ?_; intro _) | (apply kA; refine JO_alloc (tb := tb) rfl rfl ?_; intro _) | (apply kBs; refine JO_buildSlice (tb := tb) rfl rfl rfl rfl rfl rfl rfl rfl rfl ?_; intro _) | (apply kM; refine JO_make (tb := tb) rfl rfl rfl rfl rfl rfl (by omega) rfl ?_; intro _) | refine aO ?_) | (apply gJR; first | apply JR_un | apply JR_nil | refine JR_yes rfl rfl ?_ | refine JR_no rfl rfl rfl rfl ?_ | refine JR_noU rfl rfl rfl ?_) | (apply gJS; first | apply JS_seq | apply JS_region | apply JS_skip | apply JS_block | apply JS_inBlock | apply JS_label | refine JS_exit rfl ?_ | refine JS_condT rfl ?_ | refine JS_condF rfl ?_ | refine JS_draw [0] (by kernel_rfl) (by kernel_rfl) (by decide +kernel) ?_ | refine JS_draw [] (by kernel_rfl) (by kernel_rfl) (by decide +kernel) ?_) | (apply gQR; first | apply QR_un | apply QR_nil | refine QR_yes rfl rfl ?_ | refine QR_no rfl rfl rfl rfl ?_ | refine QR_noU rfl rfl rfl ?_) | (apply gQO; first | refine aQ ?_ | refine aQK rfl ?_))
  refine JO_call Try.call31 rfl rfl fun w hw => (Lerp_c (-10) 10 1 3 (by omega) (by omega) (by omega) (by omega) w hw).mono ?_
  rintro e w' ⟨q, r, rfl, hw', h⟩
  obtain ⟨rfl, rfl⟩ : q = -4 ∧ r = 0 := by omega
  refine ⟨_, rfl, _, hw', ?_⟩
  clear h hw' hw w w'
  repeat (first | (apply gJO; first | (apply kS; refine aK ?_) | (apply kX; refine JO_box rfl rfl rfl ?_; intro _) | (apply kA; refine JO_alloc (tb := tb) rfl rfl ?_; intro _) | (apply kBs; refine JO_buildSlice (tb := tb) rfl rfl rfl rfl rfl rfl rfl rfl rfl ?_; intro _) | (apply kM; refine JO_make (tb := tb) rfl rfl rfl rfl rfl rfl (by omega) rfl ?_; intro _) | refine aO ?_) | (apply gJR; first | apply JR_un | apply JR_nil | refine JR_yes rfl rfl ?_ | refine JR_no rfl rfl rfl rfl ?_ | refine JR_noU rfl rfl rfl ?_) | (apply gJS; first | apply JS_seq | apply JS_region | apply JS_skip | apply JS_block | apply JS_inBlock | apply JS_label | refine JS_exit rfl ?_ | refine JS_condT rfl ?_ | refine JS_condF rfl ?_ | refine JS_draw [0] (by kernel_rfl) (by kernel_rfl) (by decide +kernel) ?_ | refine JS_draw [] (by kernel_rfl) (by kernel_rfl) (by decide +kernel) ?_) | (apply gQR; first | apply QR_un | apply QR_nil | refine QR_yes rfl rfl ?_ | refine QR_no rfl rfl rfl rfl ?_ | refine QR_noU rfl rfl rfl ?_) | (apply gQO; first | refine aQ ?_ | refine aQK rfl ?_))
  refine JO_call Try.call36 rfl rfl fun w hw => (Mul_c 9223372036854775808 4 (by omega) (by omega) w hw).mono ?_
  rintro e w' ⟨rfl, hw'⟩
  refine ⟨_, rfl, _, hw', ?_⟩
  clear hw' hw w w'
  repeat (first | (apply gJO; first | (apply kS; refine aK ?_) | (apply kX; refine JO_box rfl rfl rfl ?_; intro _) | (apply kA; refine JO_alloc (tb := tb) rfl rfl ?_; intro _) | (apply kBs; refine JO_buildSlice (tb := tb) rfl rfl rfl rfl rfl rfl rfl rfl rfl ?_; intro _) | (apply kM; refine JO_make (tb := tb) rfl rfl rfl rfl rfl rfl (by omega) rfl ?_; intro _) | refine aO ?_) | (apply gJR; first | apply JR_un | apply JR_nil | refine JR_yes rfl rfl ?_ | refine JR_no rfl rfl rfl rfl ?_ | refine JR_noU rfl rfl rfl ?_) | (apply gJS; first | apply JS_seq | apply JS_region | apply JS_skip | apply JS_block | apply JS_inBlock | apply JS_label | refine JS_exit rfl ?_ | refine JS_condT rfl ?_ | refine JS_condF rfl ?_ | refine JS_draw [0] (by kernel_rfl) (by kernel_rfl) (by decide +kernel) ?_ | refine JS_draw [] (by kernel_rfl) (by kernel_rfl) (by decide +kernel) ?_) | (apply gQR; first | apply QR_un | apply QR_nil | refine QR_yes rfl rfl ?_ | refine QR_no rfl rfl rfl rfl ?_ | refine QR_noU rfl rfl rfl ?_) | (apply gQO; first | refine aQ ?_ | refine aQK rfl ?_))
  refine JO_v (V_eqNum (r := true) rfl rfl rfl rfl) ?_
  repeat (first | (apply gJO; first | (apply kS; refine aK ?_) | (apply kX; refine JO_box rfl rfl rfl ?_; intro _) | (apply kA; refine JO_alloc (tb := tb) rfl rfl ?_; intro _) | (apply kBs; refine JO_buildSlice (tb := tb) rfl rfl rfl rfl rfl rfl rfl rfl rfl ?_; intro _) | (apply kM; refine JO_make (tb := tb) rfl rfl rfl rfl rfl rfl (by omega) rfl ?_; intro _) | refine aO ?_) | (apply gJR; first | apply JR_un | apply JR_nil | refine JR_yes rfl rfl ?_ | refine JR_no rfl rfl rfl rfl ?_ | refine JR_noU rfl rfl rfl ?_) | (apply gJS; first | apply JS_seq | apply JS_region | apply JS_skip | apply JS_block | apply JS_inBlock | apply JS_label | refine JS_exit rfl ?_ | refine JS_condT rfl ?_ | refine JS_condF rfl ?_ | refine JS_draw [0] (by kernel_rfl) (by kernel_rfl) (by decide +kernel) ?_ | refine JS_draw [] (by kernel_rfl) (by kernel_rfl) (by decide +kernel) ?_ | refine JS_cond_T rfl (by omega) ?_ | refine JS_cond_F rfl (by omega) ?_) | (apply gQR; first | apply QR_un | apply QR_nil | refine QR_yes rfl rfl ?_ | refine QR_no rfl rfl rfl rfl ?_ | refine QR_noU rfl rfl rfl ?_) | (apply gQO; first | refine aQ ?_ | refine aQK rfl ?_))
  refine JS_ret Try.func26 rfl rfl ?_
  intro w hw
  exact ⟨rfl, hw⟩
end Go.Proofs.Ytjgjppgocheklaa
