import Derived.Test.YtjgjppgocheklaaA
namespace Go.Proofs.Ytjgjppgocheklaa
open Sx Go
set_option linter.unusedVariables false
set_option linter.unusedSimpArgs false
theorem fields59 : (Try.prog.fieldsOf 59).toList = [⟨"Hi", 45, 0, false, "", "", 0⟩, ⟨"Lo", 45, 1, false, "", "", 8⟩] := by kernel_rfl
theorem eqNum (a b c d : Int) (w : World) : (Op.eqFields 9999 [Value.int .u64 a, .int .u64 b].toArray [Value.int .u64 c, .int .u64 d].toArray (Try.prog.fieldsOf 59).toList).run Try.prog w = .ok (decide (a = c) && decide (b = d)) w := by
  have e0 := und_int (tb := tb) (t := 45) rfl
  have e1 : (Op.equalIn 9999 45 (.int .u64 a) (.int .u64 c)).run Try.prog w = .ok (a == c) w := run_equalIn_int (P := Try.prog) w 9998 45 .u64 .u64 a c e0
  have e2 : (Op.equalIn 9999 45 (.int .u64 b) (.int .u64 d)).run Try.prog w = .ok (b == d) w := run_equalIn_int (P := Try.prog) w 9998 45 .u64 .u64 b d e0
  rw [fields59]
  have p1 : (part 45 [Value.int .u64 a, .int .u64 b].toArray 0).run Try.prog w = .ok (Value.int .u64 a) w := run_part_plain (P := Try.prog) (w := w) (e := 45) (by kernel_rfl) (xs := [Value.int .u64 a, .int .u64 b].toArray) (off := 0) rfl
  have p2 : (part 45 [Value.int .u64 a, .int .u64 b].toArray 1).run Try.prog w = .ok (Value.int .u64 b) w := run_part_plain (P := Try.prog) (w := w) (e := 45) (by kernel_rfl) (xs := [Value.int .u64 a, .int .u64 b].toArray) (off := 1) rfl
  have p3 : (part 45 [Value.int .u64 c, .int .u64 d].toArray 0).run Try.prog w = .ok (Value.int .u64 c) w := run_part_plain (P := Try.prog) (w := w) (e := 45) (by kernel_rfl) (xs := [Value.int .u64 c, .int .u64 d].toArray) (off := 0) rfl
  have p4 : (part 45 [Value.int .u64 c, .int .u64 d].toArray 1).run Try.prog w = .ok (Value.int .u64 d) w := run_part_plain (P := Try.prog) (w := w) (e := 45) (by kernel_rfl) (xs := [Value.int .u64 c, .int .u64 d].toArray) (off := 1) rfl
  have n1 : ("Hi" : String) ≠ "_" := by decide
  have n2 : ("Lo" : String) ≠ "_" := by decide
  simp only [Op.eqFields, n1, n2, ne_eq, not_false_eq_true, if_true, Sem.run_bind, p1, p2, p3, p4, e1, e2, Result.andThen_ok, Sem.run_ite, Sem.run_pure]
  by_cases h1 : a = c <;> by_cases h2 : b = d <;> simp [h1, h2]
theorem u59 : Try.prog.underlying 59 = some (.struct (Try.prog.fieldsOf 59)) := by kernel_rfl
theorem h59 : Try.prog.stoodInHeld 59 = false := by kernel_rfl
theorem m59 : Try.prog.eqGuardType Try.prog.depth 59 = false := by kernel_rfl
section
variable {D : List Deferred} {w0 : World} {H : List Asn} {ov : Ov} {n : Nat} {d : Option Nat} {x y : Operand} {T T2 : Nat} {pos : String} {af : Array Edge} {g : Option (Nat × Bool)}
theorem V_eqNum {a b a' b' : Int} {r : Bool} (hx : ev ov x = some (.agg #[.int .u64 a, .int .u64 b])) (hy : ev ov y = some (.agg #[.int .u64 a', .int .u64 b'])) (hr : (decide (a = a') && decide (b = b')) = r) (hd : dOk d n = true) :
    OpV Try.prog n D w0 ov H ⟨d, .binOp .eql 59 x y T2, T, pos, af, g⟩ (.bool r) := by
  have := V_eqS (P := Try.prog) (w0 := w0) (D := D) (H := H) (T := T) (T2 := T2) (pos := pos) (af := af) (g := g) (.inl rfl) hx hy u59 h59 m59 (eqNum a b a' b') hd
  rw [hr] at this; exact this
theorem V_neNum {a b a' b' : Int} {r : Bool} (hx : ev ov x = some (.agg #[.int .u64 a, .int .u64 b])) (hy : ev ov y = some (.agg #[.int .u64 a', .int .u64 b'])) (hr : (!(decide (a = a') && decide (b = b'))) = r) (hd : dOk d n = true) :
    OpV Try.prog n D w0 ov H ⟨d, .binOp .neq 59 x y T2, T, pos, af, g⟩ (.bool r) := by
  have := V_eqS (P := Try.prog) (w0 := w0) (D := D) (H := H) (T := T) (T2 := T2) (pos := pos) (af := af) (g := g) (.inr rfl) hx hy u59 h59 m59 (eqNum a b a' b') hd
  simp only [hr] at this; exact this
end
end Go.Proofs.Ytjgjppgocheklaa
