import Derived.Test.YteelffkghidpfaaGreatTb
import Derived.Test.YteelffkghidpfaaGreatSxG
import Derived.Laws.MathBits
import Derived.Carry
import Derived.Maps.Keyed
import Derived.WideKeyEntry
/- Steps whose side goals are sought by a default tactic: one word an operation. -/
namespace Go.Proofs.YteelffkghidpfaaGreat
open Sx Go
section
variable {f n : Nat} {R : Ending → World → Prop} {D : List Deferred} {w0 : World} {k : List Item} {ov : Ov} {H H' : List Asn} {K : KC} {Z : Array Oper × List Nat}
  {ops : Array Oper} {l : List Oper} {d : Option Nat} {T T1 T2 : Nat} {pos : String} {af : Array Edge} {g : Option (Nat × Bool)} {x y z : Operand} {v u : Value} {op : Op} {bop : BinOp} {c : Call}
theorem oB (h : OpV Tryz.prog n D w0 ov H ⟨d, .binOp bop T1 x y T2, T, pos, af, g⟩ v) : OpV Tryz.prog n D w0 ov H ⟨d, .binOp bop T1 x y T2, T, pos, af, g⟩ v := h
theorem oK (h : OpV Tryz.prog n D w0 ov H ⟨d, .binOp bop T1 x (.const u) T2, T, pos, af, g⟩ v) : OpV Tryz.prog n D w0 ov H ⟨d, .binOp bop T1 x (.const u) T2, T, pos, af, g⟩ v := h
theorem ob_add (h : OpV Tryz.prog n D w0 ov H ⟨d, .binOp .add T1 x y T2, T, pos, af, g⟩ v) : OpV Tryz.prog n D w0 ov H ⟨d, .binOp .add T1 x y T2, T, pos, af, g⟩ v := h
theorem ob_sub (h : OpV Tryz.prog n D w0 ov H ⟨d, .binOp .sub T1 x y T2, T, pos, af, g⟩ v) : OpV Tryz.prog n D w0 ov H ⟨d, .binOp .sub T1 x y T2, T, pos, af, g⟩ v := h
theorem ob_mul (h : OpV Tryz.prog n D w0 ov H ⟨d, .binOp .mul T1 x y T2, T, pos, af, g⟩ v) : OpV Tryz.prog n D w0 ov H ⟨d, .binOp .mul T1 x y T2, T, pos, af, g⟩ v := h
theorem ob_quo (h : OpV Tryz.prog n D w0 ov H ⟨d, .binOp .quo T1 x y T2, T, pos, af, g⟩ v) : OpV Tryz.prog n D w0 ov H ⟨d, .binOp .quo T1 x y T2, T, pos, af, g⟩ v := h
theorem ob_rem (h : OpV Tryz.prog n D w0 ov H ⟨d, .binOp .rem T1 x y T2, T, pos, af, g⟩ v) : OpV Tryz.prog n D w0 ov H ⟨d, .binOp .rem T1 x y T2, T, pos, af, g⟩ v := h
theorem ob_and (h : OpV Tryz.prog n D w0 ov H ⟨d, .binOp .and T1 x y T2, T, pos, af, g⟩ v) : OpV Tryz.prog n D w0 ov H ⟨d, .binOp .and T1 x y T2, T, pos, af, g⟩ v := h
theorem ob_shl (h : OpV Tryz.prog n D w0 ov H ⟨d, .binOp .shl T1 x y T2, T, pos, af, g⟩ v) : OpV Tryz.prog n D w0 ov H ⟨d, .binOp .shl T1 x y T2, T, pos, af, g⟩ v := h
theorem ob_shr (h : OpV Tryz.prog n D w0 ov H ⟨d, .binOp .shr T1 x y T2, T, pos, af, g⟩ v) : OpV Tryz.prog n D w0 ov H ⟨d, .binOp .shr T1 x y T2, T, pos, af, g⟩ v := h
theorem ob_eql (h : OpV Tryz.prog n D w0 ov H ⟨d, .binOp .eql T1 x y T2, T, pos, af, g⟩ v) : OpV Tryz.prog n D w0 ov H ⟨d, .binOp .eql T1 x y T2, T, pos, af, g⟩ v := h
theorem ob_neq (h : OpV Tryz.prog n D w0 ov H ⟨d, .binOp .neq T1 x y T2, T, pos, af, g⟩ v) : OpV Tryz.prog n D w0 ov H ⟨d, .binOp .neq T1 x y T2, T, pos, af, g⟩ v := h
theorem ob_lss (h : OpV Tryz.prog n D w0 ov H ⟨d, .binOp .lss T1 x y T2, T, pos, af, g⟩ v) : OpV Tryz.prog n D w0 ov H ⟨d, .binOp .lss T1 x y T2, T, pos, af, g⟩ v := h
theorem ob_leq (h : OpV Tryz.prog n D w0 ov H ⟨d, .binOp .leq T1 x y T2, T, pos, af, g⟩ v) : OpV Tryz.prog n D w0 ov H ⟨d, .binOp .leq T1 x y T2, T, pos, af, g⟩ v := h
theorem ob_gtr (h : OpV Tryz.prog n D w0 ov H ⟨d, .binOp .gtr T1 x y T2, T, pos, af, g⟩ v) : OpV Tryz.prog n D w0 ov H ⟨d, .binOp .gtr T1 x y T2, T, pos, af, g⟩ v := h
theorem ob_geq (h : OpV Tryz.prog n D w0 ov H ⟨d, .binOp .geq T1 x y T2, T, pos, af, g⟩ v) : OpV Tryz.prog n D w0 ov H ⟨d, .binOp .geq T1 x y T2, T, pos, af, g⟩ v := h
theorem oc_len {xs : Array Operand} {ts : Array Nat} (h : OpV Tryz.prog n D w0 ov H ⟨d, .call ⟨.builtin .len, xs, ts⟩, T, pos, af, g⟩ v) : OpV Tryz.prog n D w0 ov H ⟨d, .call ⟨.builtin .len, xs, ts⟩, T, pos, af, g⟩ v := h
theorem oc_min {xs : Array Operand} {ts : Array Nat} (h : OpV Tryz.prog n D w0 ov H ⟨d, .call ⟨.builtin .min, xs, ts⟩, T, pos, af, g⟩ v) : OpV Tryz.prog n D w0 ov H ⟨d, .call ⟨.builtin .min, xs, ts⟩, T, pos, af, g⟩ v := h
theorem oc_max {xs : Array Operand} {ts : Array Nat} (h : OpV Tryz.prog n D w0 ov H ⟨d, .call ⟨.builtin .max, xs, ts⟩, T, pos, af, g⟩ v) : OpV Tryz.prog n D w0 ov H ⟨d, .call ⟨.builtin .max, xs, ts⟩, T, pos, af, g⟩ v := h
theorem oMv (h : OpV Tryz.prog n D w0 ov H ⟨d, .move x, T, pos, af, g⟩ v) : OpV Tryz.prog n D w0 ov H ⟨d, .move x, T, pos, af, g⟩ v := h
theorem oAs (h : OpV Tryz.prog n D w0 ov H ⟨d, .assign x, T, pos, af, g⟩ v) : OpV Tryz.prog n D w0 ov H ⟨d, .assign x, T, pos, af, g⟩ v := h
theorem oL (h : OpV Tryz.prog n D w0 ov H ⟨d, .load T1 x, T, pos, af, g⟩ v) : OpV Tryz.prog n D w0 ov H ⟨d, .load T1 x, T, pos, af, g⟩ v := h
theorem oE (h : OpV Tryz.prog n D w0 ov H ⟨d, .extract x T1, T, pos, af, g⟩ v) : OpV Tryz.prog n D w0 ov H ⟨d, .extract x T1, T, pos, af, g⟩ v := h
theorem oCv (h : OpV Tryz.prog n D w0 ov H ⟨d, .convert T1 T2 x, T, pos, af, g⟩ v) : OpV Tryz.prog n D w0 ov H ⟨d, .convert T1 T2 x, T, pos, af, g⟩ v := h
theorem oP (h : OpV Tryz.prog n D w0 ov H ⟨d, .pick x y z, T, pos, af, g⟩ v) : OpV Tryz.prog n D w0 ov H ⟨d, .pick x y z, T, pos, af, g⟩ v := h
theorem oN (h : OpV Tryz.prog n D w0 ov H ⟨d, .nilCheck x, T, pos, af, g⟩ v) : OpV Tryz.prog n D w0 ov H ⟨d, .nilCheck x, T, pos, af, g⟩ v := h
theorem oFA (h : OpV Tryz.prog n D w0 ov H ⟨d, .fieldAddr T1 x T2, T, pos, af, g⟩ v) : OpV Tryz.prog n D w0 ov H ⟨d, .fieldAddr T1 x T2, T, pos, af, g⟩ v := h
theorem oIA (h : OpV Tryz.prog n D w0 ov H ⟨d, .indexAddr T1 x y, T, pos, af, g⟩ v) : OpV Tryz.prog n D w0 ov H ⟨d, .indexAddr T1 x y, T, pos, af, g⟩ v := h
theorem oU {uop : UnOp} (h : OpV Tryz.prog n D w0 ov H ⟨d, .unOp uop T1 x, T, pos, af, g⟩ v) : OpV Tryz.prog n D w0 ov H ⟨d, .unOp uop T1 x, T, pos, af, g⟩ v := h
theorem oBd {ps : Array (Nat × Operand)} (h : OpV Tryz.prog n D w0 ov H ⟨d, .build T1 ps, T, pos, af, g⟩ v) : OpV Tryz.prog n D w0 ov H ⟨d, .build T1 ps, T, pos, af, g⟩ v := h
theorem oF {fn : Fn} {xs ys : Array Operand} (h : OpV Tryz.prog n D w0 ov H ⟨d, .makeFunc fn xs ys, T, pos, af, g⟩ v) : OpV Tryz.prog n D w0 ov H ⟨d, .makeFunc fn xs ys, T, pos, af, g⟩ v := h
theorem kS (h : JO Tryz.prog f n R D w0 ops ⟨d, .store T1 x y, T, pos, af, g⟩ l k ov H) : JO Tryz.prog f n R D w0 ops ⟨d, .store T1 x y, T, pos, af, g⟩ l k ov H := h
end
end Go.Proofs.YteelffkghidpfaaGreat

set_option linter.unusedVariables false
set_option linter.unusedSimpArgs false
namespace Go.Proofs.YteelffkghidpfaaGreat
open Sx Go
/-! one step of a walk, as a lemma: the goal behind it is found by the default tactic -/
section
variable {f n : Nat} {R : Ending → World → Prop} {D : List Deferred} {w0 : World} {k : List Item} {ov : Ov} {H H' : List Asn} {K : KC} {Z : Array Oper × List Nat} {G' : Prop}
  {ops : Array Oper} {l : List Oper} {d : Option Nat} {T T1 T2 : Nat} {pos : String} {af : Array Edge} {g : Option (Nat × Bool)} {x y : Operand} {v : Value} {op : Op} {o : Oper}
theorem igJS (h : G' → JS Tryz.prog f n R D w0 k ov H) : G' → JS Tryz.prog f n R D w0 k ov H := h
theorem igJR (h : G' → JR Tryz.prog f n R D w0 ops l k ov H) : G' → JR Tryz.prog f n R D w0 ops l k ov H := h
theorem igQR (h : G' → QR Tryz.prog n D w0 Z l ov H K) : G' → QR Tryz.prog n D w0 Z l ov H K := h
theorem igQO (h : G' → QO Tryz.prog n D w0 Z o l ov H K) : G' → QO Tryz.prog n D w0 Z o l ov H K := h
theorem igJO (h : G' → JO Tryz.prog f n R D w0 ops o l k ov H) : G' → JO Tryz.prog f n R D w0 ops o l k ov H := h
theorem ikS (h : G' → JO Tryz.prog f n R D w0 ops ⟨d, .store T1 x y, T, pos, af, g⟩ l k ov H) : G' → JO Tryz.prog f n R D w0 ops ⟨d, .store T1 x y, T, pos, af, g⟩ l k ov H := h
theorem ikX (h : G' → JO Tryz.prog f n R D w0 ops ⟨d, .box T1 x, T, pos, af, g⟩ l k ov H) : G' → JO Tryz.prog f n R D w0 ops ⟨d, .box T1 x, T, pos, af, g⟩ l k ov H := h
theorem ikA (h : G' → JO Tryz.prog f n R D w0 ops ⟨d, .alloc T1, T, pos, af, g⟩ l k ov H) : G' → JO Tryz.prog f n R D w0 ops ⟨d, .alloc T1, T, pos, af, g⟩ l k ov H := h
theorem ikBs {ps : Array (Nat × Operand)} (h : G' → JO Tryz.prog f n R D w0 ops ⟨d, .buildSlice T1 T2 ps, T, pos, af, g⟩ l k ov H) : G' → JO Tryz.prog f n R D w0 ops ⟨d, .buildSlice T1 T2 ps, T, pos, af, g⟩ l k ov H := h
theorem ikM (h : G' → JO Tryz.prog f n R D w0 ops ⟨d, .makeSlice T1 x y, T, pos, af, g⟩ l k ov H) : G' → JO Tryz.prog f n R D w0 ops ⟨d, .makeSlice T1 x y, T, pos, af, g⟩ l k ov H := h
theorem iO (h : OpV Tryz.prog n D w0 ov H ⟨d, op, T, pos, af, g⟩ v := by first | (apply oMv; exact V_move rfl rfl) | (apply oAs; exact V_assign rfl rfl) | (apply oL; first | exact V_load (tb := tb) rfl (by repeat (first | apply List.Mem.head | apply List.Mem.tail)) rfl rfl rfl rfl | exact V_loadC (tb := tb) rfl (by first | exact vec_rd (by repeat (first | apply List.Mem.head | apply List.Mem.tail)) | assumption | exact ArgRd.rd (by assumption) _ | (apply Rd_weak; assumption; intro _ hx; exact St.sub (by repeat (first | exact List.Sublist.refl _ | apply List.Sublist.cons_cons | apply List.Sublist.cons)) hx)) rfl rfl (by first | exact ints_get (by omega) | exact rfl) rfl | exact V_loadA (tb := tb) rfl (by repeat (first | apply List.Mem.head | apply List.Mem.tail)) rfl rfl rfl rfl) | (apply oB; first | (apply ob_add; first | exact V_add rfl rfl (by first | exact wi64 (by omega) | exact wu64 (by omega) | exact wu32 (by omega) | exact wu8 (by omega) | exact mu64 _ | exact mu32 _ | exact mu8 _ | exact mi64 _ | exact rfl) rfl) | (apply ob_sub; first | exact V_sub rfl rfl (by first | exact wi64 (by omega) | exact wu64 (by omega) | exact wu32 (by omega) | exact wu8 (by omega) | exact mu64 _ | exact mu32 _ | exact mu8 _ | exact mi64 _ | exact rfl) rfl) | (apply ob_mul; first | exact V_mul rfl rfl (by first | exact wi64 (by omega) | exact wu64 (by omega) | exact wu32 (by omega) | exact wu8 (by omega) | exact mu64 _ | exact mu32 _ | exact mu8 _ | exact mi64 _ | exact rfl) rfl) | (apply ob_eql; first | exact V_eqlT rfl rfl (by omega) rfl | exact V_eqlF rfl rfl (by omega) rfl | exact V_eql rfl rfl rfl) | (apply ob_neq; first | exact V_neqT rfl rfl (by omega) rfl | exact V_neqF rfl rfl (by omega) rfl | exact V_neq rfl rfl rfl) | (apply ob_lss; first | exact V_lssT rfl rfl (by omega) rfl | exact V_lssF rfl rfl (by omega) rfl | exact V_lss rfl rfl rfl) | (apply ob_leq; first | exact V_leqT rfl rfl (by omega) rfl | exact V_leqF rfl rfl (by omega) rfl | exact V_leq rfl rfl rfl) | (apply ob_gtr; first | exact V_gtrT rfl rfl (by omega) rfl | exact V_gtrF rfl rfl (by omega) rfl | exact V_gtr rfl rfl rfl) | (apply ob_geq; first | exact V_geqT rfl rfl (by omega) rfl | exact V_geqF rfl rfl (by omega) rfl | exact V_geq rfl rfl rfl) | (apply ob_quo; first | exact V_quo rfl rfl (by omega) (by first | exact IntWalk.i64_quo _ _ (by omega) | exact IntWalk.u64_quo _ _ (by omega) | exact IntWalk.u32_quo _ _ (by omega) | exact IntWalk.u8_quo _ _ (by omega)) rfl) | (apply ob_rem; first | exact V_rem rfl rfl (by omega) (Int.tmod_eq_emod_of_nonneg (by omega)) rfl) | (apply ob_and; first | exact V_and rfl rfl (by first | exact mask32_u64 (by omega) | exact mask_u64 8 (by decide) (by omega) rfl | exact mask_u64 16 (by decide) (by omega) rfl) rfl) | (apply ob_eql; first | exact V_eqP (tb := tb) rfl rfl rfl rfl | exact V_eqBB (tb := tb) rfl rfl rfl rfl | exact V_eqB (tb := tb) rfl rfl rfl rfl | exact V_eqNil (tb := tb) rfl rfl rfl rfl | exact V_eqStr rfl rfl (by assumption) (by assumption) rfl) | (apply ob_neq; first | exact V_neP (tb := tb) rfl rfl rfl rfl | exact V_neBB (tb := tb) rfl rfl rfl rfl | exact V_neB (tb := tb) rfl rfl rfl rfl | exact V_neStr rfl rfl (by assumption) (by assumption) rfl) | (apply oK; first | (apply ob_shr; exact V_shr (m := _) rfl rfl (by omega) (by simp only [IntKind.bits, Int.reduceToNat, Nat.reduceLeDiff, Nat.min_eq_left]; exact rfl) (by first | (simp only [Int.reducePow]; exact rfl) | exact rfl) rfl) | (apply ob_shl; exact V_shl (m := _) rfl rfl (by omega) (by simp only [IntKind.bits, Int.reduceToNat, Nat.reduceLeDiff, Nat.min_eq_left]; exact rfl) (by (try simp only [Int.reducePow]); first | exact wi64 (by omega) | exact wu64 (by omega) | exact wu32 (by omega) | exact wu8 (by omega) | exact mu64 _ | exact mu32 _ | exact mu8 _ | exact mi64 _ | exact rfl) rfl))) | (apply oE; first | exact V_extract rfl rfl rfl) | (apply oc_len; exact V_len (tb := tb) rfl rfl rfl) | (apply oc_len; exact V_lenS (tb := tb) rfl rfl rfl) | (apply oc_min; exact V_min rfl rfl rfl rfl) | (apply oc_max; exact V_max rfl rfl rfl rfl) | (apply oCv; first | exact V_conv (tb := tb) rfl rfl rfl (by first | exact wi64 (by omega) | exact wu64 (by omega) | exact wu32 (by omega) | exact wu8 (by omega) | exact mu64 _ | exact mu32 _ | exact mu8 _ | exact mi64 _ | exact rfl) rfl | exact V_str (tb := tb) rfl (by first | exact vec_rd (by repeat (first | apply List.Mem.head | apply List.Mem.tail)) | assumption | exact ArgRd.rd (by assumption) _ | (apply Rd_weak; assumption; intro _ hx; exact St.sub (by repeat (first | exact List.Sublist.refl _ | apply List.Sublist.cons_cons | apply List.Sublist.cons)) hx)) (by first | assumption | rfl | omega) rfl rfl rfl rfl) | (apply oP; first | exact V_pickT rfl rfl rfl | exact V_pickF rfl rfl rfl | exact V_pickB rfl rfl rfl rfl) | (apply oU; first | exact V_notD rfl rfl | exact V_not rfl rfl | exact V_neg rfl (by first | exact wi64 (by omega) | exact wu64 (by omega) | exact wu32 (by omega) | exact wu8 (by omega) | exact mu64 _ | exact mu32 _ | exact mu8 _ | exact mi64 _ | exact rfl) rfl) | (apply oN; first | exact V_nilCheck rfl rfl) | (apply oFA; first | exact V_field (tb := tb) rfl rfl rfl rfl rfl rfl | exact V_fieldC (tb := tb) rfl (by first | exact Rd.sl (vec_rd (by repeat (first | apply List.Mem.head | apply List.Mem.tail))) | exact Rd.sl (by assumption) | exact Rd.sl (ArgRd.rd (by assumption) _) | (apply Rd.sl; (apply Rd_weak; assumption; intro _ hx; exact St.sub (by repeat (first | exact List.Sublist.refl _ | apply List.Sublist.cons_cons | apply List.Sublist.cons)) hx))) (by omega) rfl rfl rfl rfl rfl) | (apply oIA; first | exact V_index (tb := tb) rfl rfl rfl rfl (by first | exact Rd.sl (vec_rd (by repeat (first | apply List.Mem.head | apply List.Mem.tail))) | exact Rd.sl (by assumption) | exact Rd.sl (ArgRd.rd (by assumption) _) | (apply Rd.sl; (apply Rd_weak; assumption; intro _ hx; exact St.sub (by repeat (first | exact List.Sublist.refl _ | apply List.Sublist.cons_cons | apply List.Sublist.cons)) hx))) (by omega) (by (try simp only [tn, tna, tn1, tn2, tn3, tn4, tnd16, tnd8, Int.reduceToNat]); first | exact Nat.mul_one _ | exact rfl) rfl | exact V_indexA (tb := tb) rfl rfl rfl rfl (by omega) rfl) | (apply oBd; first | exact V_build (tb := tb) rfl rfl rfl rfl rfl) | (apply oF; first | exact V_makeFunc rfl rfl rfl)) : JR Tryz.prog f n R D w0 ops l k (put d v ov) H → JO Tryz.prog f n R D w0 ops ⟨d, op, T, pos, af, g⟩ l k ov H := fun hn => JO_v h hn
theorem iU (h : OpV Tryz.prog n D w0 ov H ⟨d, op, T, pos, af, g⟩ v := by first | (apply oMv; exact V_move rfl rfl) | (apply oAs; exact V_assign rfl rfl) | (apply oL; first | exact V_load (tb := tb) rfl (by repeat (first | apply List.Mem.head | apply List.Mem.tail)) rfl rfl rfl rfl | exact V_loadC (tb := tb) rfl (by first | exact vec_rd (by repeat (first | apply List.Mem.head | apply List.Mem.tail)) | assumption | exact ArgRd.rd (by assumption) _ | (apply Rd_weak; assumption; intro _ hx; exact St.sub (by repeat (first | exact List.Sublist.refl _ | apply List.Sublist.cons_cons | apply List.Sublist.cons)) hx)) rfl rfl (by first | exact ints_get (by omega) | exact rfl) rfl | exact V_loadA (tb := tb) rfl (by repeat (first | apply List.Mem.head | apply List.Mem.tail)) rfl rfl rfl rfl) | (apply oB; first | (apply ob_add; first | exact V_add rfl rfl (by first | exact mu64 _ | exact mu32 _ | exact mu8 _ | exact rfl) rfl) | (apply ob_sub; first | exact V_sub rfl rfl (by first | exact mu64 _ | exact mu32 _ | exact mu8 _ | exact rfl) rfl) | (apply ob_mul; first | exact V_mul rfl rfl (by first | exact mu64 _ | exact mu32 _ | exact mu8 _ | exact rfl) rfl) | (apply ob_eql; first | exact V_eqlT rfl rfl (by omega) rfl | exact V_eqlF rfl rfl (by omega) rfl | exact V_eql rfl rfl rfl) | (apply ob_neq; first | exact V_neqT rfl rfl (by omega) rfl | exact V_neqF rfl rfl (by omega) rfl | exact V_neq rfl rfl rfl) | (apply ob_lss; first | exact V_lssT rfl rfl (by omega) rfl | exact V_lssF rfl rfl (by omega) rfl | exact V_lss rfl rfl rfl) | (apply ob_leq; first | exact V_leqT rfl rfl (by omega) rfl | exact V_leqF rfl rfl (by omega) rfl | exact V_leq rfl rfl rfl) | (apply ob_gtr; first | exact V_gtrT rfl rfl (by omega) rfl | exact V_gtrF rfl rfl (by omega) rfl | exact V_gtr rfl rfl rfl) | (apply ob_geq; first | exact V_geqT rfl rfl (by omega) rfl | exact V_geqF rfl rfl (by omega) rfl | exact V_geq rfl rfl rfl) | (apply ob_quo; first | exact V_quo rfl rfl (by omega) (by first | exact IntWalk.i64_quo _ _ (by omega) | exact IntWalk.u64_quo _ _ (by omega) | exact IntWalk.u32_quo _ _ (by omega) | exact IntWalk.u8_quo _ _ (by omega)) rfl) | (apply ob_rem; first | exact V_rem rfl rfl (by omega) (Int.tmod_eq_emod_of_nonneg (by omega)) rfl) | (apply ob_and; first | exact V_and rfl rfl (by first | exact mask32_u64 (by omega) | exact mask_u64 8 (by decide) (by omega) rfl | exact mask_u64 16 (by decide) (by omega) rfl) rfl) | (apply ob_eql; first | exact V_eqP (tb := tb) rfl rfl rfl rfl | exact V_eqBB (tb := tb) rfl rfl rfl rfl | exact V_eqB (tb := tb) rfl rfl rfl rfl | exact V_eqNil (tb := tb) rfl rfl rfl rfl | exact V_eqStr rfl rfl (by assumption) (by assumption) rfl) | (apply ob_neq; first | exact V_neP (tb := tb) rfl rfl rfl rfl | exact V_neBB (tb := tb) rfl rfl rfl rfl | exact V_neB (tb := tb) rfl rfl rfl rfl | exact V_neStr rfl rfl (by assumption) (by assumption) rfl) | (apply oK; first | (apply ob_shr; exact V_shr (m := _) rfl rfl (by omega) (by simp only [IntKind.bits, Int.reduceToNat, Nat.reduceLeDiff, Nat.min_eq_left]; exact rfl) (by first | (simp only [Int.reducePow]; exact rfl) | exact rfl) rfl) | (apply ob_shl; exact V_shl (m := _) rfl rfl (by omega) (by simp only [IntKind.bits, Int.reduceToNat, Nat.reduceLeDiff, Nat.min_eq_left]; exact rfl) (by (try simp only [Int.reducePow]); first | exact mu64 _ | exact mu32 _ | exact mu8 _ | exact rfl) rfl))) | (apply oE; first | exact V_extract rfl rfl rfl) | (apply oc_len; exact V_len (tb := tb) rfl rfl rfl) | (apply oc_len; exact V_lenS (tb := tb) rfl rfl rfl) | (apply oc_min; exact V_min rfl rfl rfl rfl) | (apply oc_max; exact V_max rfl rfl rfl rfl) | (apply oCv; first | exact V_conv (tb := tb) rfl rfl rfl (by first | exact mu64 _ | exact mu32 _ | exact mu8 _ | exact rfl) rfl | exact V_str (tb := tb) rfl (by first | exact vec_rd (by repeat (first | apply List.Mem.head | apply List.Mem.tail)) | assumption | exact ArgRd.rd (by assumption) _ | (apply Rd_weak; assumption; intro _ hx; exact St.sub (by repeat (first | exact List.Sublist.refl _ | apply List.Sublist.cons_cons | apply List.Sublist.cons)) hx)) (by first | assumption | rfl | omega) rfl rfl rfl rfl) | (apply oP; first | exact V_pickT rfl rfl rfl | exact V_pickF rfl rfl rfl | exact V_pickB rfl rfl rfl rfl) | (apply oU; first | exact V_notD rfl rfl | exact V_not rfl rfl | exact V_neg rfl (by first | exact mu64 _ | exact mu32 _ | exact mu8 _ | exact rfl) rfl) | (apply oN; first | exact V_nilCheck rfl rfl) | (apply oFA; first | exact V_field (tb := tb) rfl rfl rfl rfl rfl rfl | exact V_fieldC (tb := tb) rfl (by first | exact Rd.sl (vec_rd (by repeat (first | apply List.Mem.head | apply List.Mem.tail))) | exact Rd.sl (by assumption) | exact Rd.sl (ArgRd.rd (by assumption) _) | (apply Rd.sl; (apply Rd_weak; assumption; intro _ hx; exact St.sub (by repeat (first | exact List.Sublist.refl _ | apply List.Sublist.cons_cons | apply List.Sublist.cons)) hx))) (by omega) rfl rfl rfl rfl rfl) | (apply oIA; first | exact V_index (tb := tb) rfl rfl rfl rfl (by first | exact Rd.sl (vec_rd (by repeat (first | apply List.Mem.head | apply List.Mem.tail))) | exact Rd.sl (by assumption) | exact Rd.sl (ArgRd.rd (by assumption) _) | (apply Rd.sl; (apply Rd_weak; assumption; intro _ hx; exact St.sub (by repeat (first | exact List.Sublist.refl _ | apply List.Sublist.cons_cons | apply List.Sublist.cons)) hx))) (by omega) (by (try simp only [tn, tna, tn1, tn2, tn3, tn4, tnd16, tnd8, Int.reduceToNat]); first | exact Nat.mul_one _ | exact rfl) rfl | exact V_indexA (tb := tb) rfl rfl rfl rfl (by omega) rfl) | (apply oBd; first | exact V_build (tb := tb) rfl rfl rfl rfl rfl) | (apply oF; first | exact V_makeFunc rfl rfl rfl)) : JR Tryz.prog f n R D w0 ops l k (put d v ov) H → JO Tryz.prog f n R D w0 ops ⟨d, op, T, pos, af, g⟩ l k ov H := fun hn => JO_v h hn
theorem iK (h : OpK Tryz.prog n D w0 ov H ⟨d, op, T, pos, af, g⟩ H' := by first | exact K_store (tb := tb) rfl rfl (by repeat (first | apply Upd.here | apply Upd.there)) rfl rfl rfl (by repeat (first | exact trivial | refine ⟨rfl, ?_⟩)) rfl rfl | exact K_storeC1 (tb := tb) rfl rfl ints_set (by repeat (first | apply Upd.here | apply Upd.there)) rfl rfl (by rw [ints_len]; omega) rfl) : JR Tryz.prog f n R D w0 ops l k (put d undef ov) H' → JO Tryz.prog f n R D w0 ops ⟨d, op, T, pos, af, g⟩ l k ov H := fun hn => JO_k h hn
theorem iQ (h : OpV Tryz.prog n D w0 ov H ⟨d, op, T, pos, af, g⟩ v := by first | (apply oMv; exact V_move rfl rfl) | (apply oAs; exact V_assign rfl rfl) | (apply oL; first | exact V_load (tb := tb) rfl (by repeat (first | apply List.Mem.head | apply List.Mem.tail)) rfl rfl rfl rfl | exact V_loadC (tb := tb) rfl (by first | exact vec_rd (by repeat (first | apply List.Mem.head | apply List.Mem.tail)) | assumption | exact ArgRd.rd (by assumption) _ | (apply Rd_weak; assumption; intro _ hx; exact St.sub (by repeat (first | exact List.Sublist.refl _ | apply List.Sublist.cons_cons | apply List.Sublist.cons)) hx)) rfl rfl (by first | exact ints_get (by omega) | exact rfl) rfl | exact V_loadA (tb := tb) rfl (by repeat (first | apply List.Mem.head | apply List.Mem.tail)) rfl rfl rfl rfl) | (apply oB; first | (apply ob_add; first | exact V_add rfl rfl (by first | exact wi64 (by omega) | exact wu64 (by omega) | exact wu32 (by omega) | exact wu8 (by omega) | exact mu64 _ | exact mu32 _ | exact mu8 _ | exact mi64 _ | exact rfl) rfl) | (apply ob_sub; first | exact V_sub rfl rfl (by first | exact wi64 (by omega) | exact wu64 (by omega) | exact wu32 (by omega) | exact wu8 (by omega) | exact mu64 _ | exact mu32 _ | exact mu8 _ | exact mi64 _ | exact rfl) rfl) | (apply ob_mul; first | exact V_mul rfl rfl (by first | exact wi64 (by omega) | exact wu64 (by omega) | exact wu32 (by omega) | exact wu8 (by omega) | exact mu64 _ | exact mu32 _ | exact mu8 _ | exact mi64 _ | exact rfl) rfl) | (apply ob_eql; first | exact V_eqlT rfl rfl (by omega) rfl | exact V_eqlF rfl rfl (by omega) rfl | exact V_eql rfl rfl rfl) | (apply ob_neq; first | exact V_neqT rfl rfl (by omega) rfl | exact V_neqF rfl rfl (by omega) rfl | exact V_neq rfl rfl rfl) | (apply ob_lss; first | exact V_lssT rfl rfl (by omega) rfl | exact V_lssF rfl rfl (by omega) rfl | exact V_lss rfl rfl rfl) | (apply ob_leq; first | exact V_leqT rfl rfl (by omega) rfl | exact V_leqF rfl rfl (by omega) rfl | exact V_leq rfl rfl rfl) | (apply ob_gtr; first | exact V_gtrT rfl rfl (by omega) rfl | exact V_gtrF rfl rfl (by omega) rfl | exact V_gtr rfl rfl rfl) | (apply ob_geq; first | exact V_geqT rfl rfl (by omega) rfl | exact V_geqF rfl rfl (by omega) rfl | exact V_geq rfl rfl rfl) | (apply ob_quo; first | exact V_quo rfl rfl (by omega) (by first | exact IntWalk.i64_quo _ _ (by omega) | exact IntWalk.u64_quo _ _ (by omega) | exact IntWalk.u32_quo _ _ (by omega) | exact IntWalk.u8_quo _ _ (by omega)) rfl) | (apply ob_rem; first | exact V_rem rfl rfl (by omega) (Int.tmod_eq_emod_of_nonneg (by omega)) rfl) | (apply ob_and; first | exact V_and rfl rfl (by first | exact mask32_u64 (by omega) | exact mask_u64 8 (by decide) (by omega) rfl | exact mask_u64 16 (by decide) (by omega) rfl) rfl) | (apply ob_eql; first | exact V_eqP (tb := tb) rfl rfl rfl rfl | exact V_eqBB (tb := tb) rfl rfl rfl rfl | exact V_eqB (tb := tb) rfl rfl rfl rfl | exact V_eqNil (tb := tb) rfl rfl rfl rfl | exact V_eqStr rfl rfl (by assumption) (by assumption) rfl) | (apply ob_neq; first | exact V_neP (tb := tb) rfl rfl rfl rfl | exact V_neBB (tb := tb) rfl rfl rfl rfl | exact V_neB (tb := tb) rfl rfl rfl rfl | exact V_neStr rfl rfl (by assumption) (by assumption) rfl) | (apply oK; first | (apply ob_shr; exact V_shr (m := _) rfl rfl (by omega) (by simp only [IntKind.bits, Int.reduceToNat, Nat.reduceLeDiff, Nat.min_eq_left]; exact rfl) (by first | (simp only [Int.reducePow]; exact rfl) | exact rfl) rfl) | (apply ob_shl; exact V_shl (m := _) rfl rfl (by omega) (by simp only [IntKind.bits, Int.reduceToNat, Nat.reduceLeDiff, Nat.min_eq_left]; exact rfl) (by (try simp only [Int.reducePow]); first | exact wi64 (by omega) | exact wu64 (by omega) | exact wu32 (by omega) | exact wu8 (by omega) | exact mu64 _ | exact mu32 _ | exact mu8 _ | exact mi64 _ | exact rfl) rfl))) | (apply oE; first | exact V_extract rfl rfl rfl) | (apply oc_len; exact V_len (tb := tb) rfl rfl rfl) | (apply oc_len; exact V_lenS (tb := tb) rfl rfl rfl) | (apply oc_min; exact V_min rfl rfl rfl rfl) | (apply oc_max; exact V_max rfl rfl rfl rfl) | (apply oCv; first | exact V_conv (tb := tb) rfl rfl rfl (by first | exact wi64 (by omega) | exact wu64 (by omega) | exact wu32 (by omega) | exact wu8 (by omega) | exact mu64 _ | exact mu32 _ | exact mu8 _ | exact mi64 _ | exact rfl) rfl | exact V_str (tb := tb) rfl (by first | exact vec_rd (by repeat (first | apply List.Mem.head | apply List.Mem.tail)) | assumption | exact ArgRd.rd (by assumption) _ | (apply Rd_weak; assumption; intro _ hx; exact St.sub (by repeat (first | exact List.Sublist.refl _ | apply List.Sublist.cons_cons | apply List.Sublist.cons)) hx)) (by first | assumption | rfl | omega) rfl rfl rfl rfl) | (apply oP; first | exact V_pickT rfl rfl rfl | exact V_pickF rfl rfl rfl | exact V_pickB rfl rfl rfl rfl) | (apply oU; first | exact V_notD rfl rfl | exact V_not rfl rfl | exact V_neg rfl (by first | exact wi64 (by omega) | exact wu64 (by omega) | exact wu32 (by omega) | exact wu8 (by omega) | exact mu64 _ | exact mu32 _ | exact mu8 _ | exact mi64 _ | exact rfl) rfl) | (apply oN; first | exact V_nilCheck rfl rfl) | (apply oFA; first | exact V_field (tb := tb) rfl rfl rfl rfl rfl rfl | exact V_fieldC (tb := tb) rfl (by first | exact Rd.sl (vec_rd (by repeat (first | apply List.Mem.head | apply List.Mem.tail))) | exact Rd.sl (by assumption) | exact Rd.sl (ArgRd.rd (by assumption) _) | (apply Rd.sl; (apply Rd_weak; assumption; intro _ hx; exact St.sub (by repeat (first | exact List.Sublist.refl _ | apply List.Sublist.cons_cons | apply List.Sublist.cons)) hx))) (by omega) rfl rfl rfl rfl rfl) | (apply oIA; first | exact V_index (tb := tb) rfl rfl rfl rfl (by first | exact Rd.sl (vec_rd (by repeat (first | apply List.Mem.head | apply List.Mem.tail))) | exact Rd.sl (by assumption) | exact Rd.sl (ArgRd.rd (by assumption) _) | (apply Rd.sl; (apply Rd_weak; assumption; intro _ hx; exact St.sub (by repeat (first | exact List.Sublist.refl _ | apply List.Sublist.cons_cons | apply List.Sublist.cons)) hx))) (by omega) (by (try simp only [tn, tna, tn1, tn2, tn3, tn4, tnd16, tnd8, Int.reduceToNat]); first | exact Nat.mul_one _ | exact rfl) rfl | exact V_indexA (tb := tb) rfl rfl rfl rfl (by omega) rfl) | (apply oBd; first | exact V_build (tb := tb) rfl rfl rfl rfl rfl) | (apply oF; first | exact V_makeFunc rfl rfl rfl)) (hlo : loud op = false := by rfl) : QR Tryz.prog n D w0 Z l (put d v ov) H K → QO Tryz.prog n D w0 Z ⟨d, op, T, pos, af, g⟩ l ov H K := fun hn => QO_v hlo h hn
theorem iQK (hs : Z.2.contains l.length = true) (h : OpK Tryz.prog n D w0 ov H ⟨d, op, T, pos, af, g⟩ H' := by first | exact K_store (tb := tb) rfl rfl (by repeat (first | apply Upd.here | apply Upd.there)) rfl rfl rfl (by repeat (first | exact trivial | refine ⟨rfl, ?_⟩)) rfl rfl | exact K_storeC1 (tb := tb) rfl rfl ints_set (by repeat (first | apply Upd.here | apply Upd.there)) rfl rfl (by rw [ints_len]; omega) rfl) (hlo : loud op = true := by rfl) : QR Tryz.prog n D w0 Z l (put d undef ov) H' K → QO Tryz.prog n D w0 Z ⟨d, op, T, pos, af, g⟩ l ov H K := fun hn => QO_k hlo h hs hn
end
theorem dS {w0 : World} {H H' : List Asn} {w : World} (hw : St w0 H w) (h : H'.Sublist H := by repeat (first | exact List.Sublist.refl _ | apply List.Sublist.cons_cons | apply List.Sublist.cons)) : St w0 H' w := St.sub h hw
theorem sx {G G' : Prop} (h : G') (t : G' → G := by first | (apply igJO; first | (apply ikS; exact iK) | (apply ikX; exact JO_box rfl rfl rfl) | (apply ikA; exact JO_alloc (tb := tb) rfl rfl) | (apply ikBs; exact JO_buildSlice (tb := tb) rfl rfl rfl rfl rfl rfl rfl rfl rfl) | (apply ikM; exact JO_make (tb := tb) rfl rfl rfl rfl rfl rfl (by omega) rfl) | exact iO) | (apply igJR; first | exact JR_un | exact JR_nil | exact JR_yes rfl rfl | exact JR_no rfl rfl rfl rfl | exact JR_noU rfl rfl rfl) | (apply igJS; first | exact JS_seq | exact JS_region | exact JS_skip | exact JS_block | exact JS_inBlock | exact JS_label | exact JS_exit rfl | exact JS_condT rfl | exact JS_condF rfl | exact JS_draw [0] (by kernel_rfl) (by kernel_rfl) (by decide +kernel) | exact JS_draw [] (by kernel_rfl) (by kernel_rfl) (by decide +kernel) | exact JS_cond_T rfl (by omega) | exact JS_cond_F rfl (by omega)) | (apply igQR; first | exact QR_un | exact QR_nil | exact QR_yes rfl rfl | exact QR_no rfl rfl rfl rfl | exact QR_noU rfl rfl rfl) | (apply igQO; first | exact iQ | exact iQK rfl)) : G := t h
theorem sy {G G' : Prop} (h : G') (t : G' → G := by first | (apply igJO; first | (apply ikS; exact iK) | (apply ikX; exact JO_box rfl rfl rfl) | (apply ikA; exact JO_alloc (tb := tb) rfl rfl) | (apply ikBs; exact JO_buildSlice (tb := tb) rfl rfl rfl rfl rfl rfl rfl rfl rfl) | (apply ikM; exact JO_make (tb := tb) rfl rfl rfl rfl rfl rfl (by omega) rfl) | exact iO) | (apply igJR; first | exact JR_un | exact JR_nil | exact JR_yes rfl rfl | exact JR_no rfl rfl rfl rfl | exact JR_noU rfl rfl rfl) | (apply igJS; first | exact JS_seq | exact JS_region | exact JS_skip | exact JS_block | exact JS_inBlock | exact JS_label | exact JS_exit rfl | exact JS_condT rfl | exact JS_condF rfl | exact JS_draw [0] (by kernel_rfl) (by kernel_rfl) (by decide +kernel) | exact JS_draw [] (by kernel_rfl) (by kernel_rfl) (by decide +kernel)) | (apply igQR; first | exact QR_un | exact QR_nil | exact QR_yes rfl rfl | exact QR_no rfl rfl rfl rfl | exact QR_noU rfl rfl rfl) | (apply igQO; first | exact iQ | exact iQK rfl)) : G := t h
theorem su {G G' : Prop} (h : G') (t : G' → G := by first | (apply igJO; first | (apply ikS; exact iK) | (apply ikX; exact JO_box rfl rfl rfl) | (apply ikA; exact JO_alloc (tb := tb) rfl rfl) | (apply ikBs; exact JO_buildSlice (tb := tb) rfl rfl rfl rfl rfl rfl rfl rfl rfl) | (apply ikM; exact JO_make (tb := tb) rfl rfl rfl rfl rfl rfl (by omega) rfl) | exact iU) | (apply igJR; first | exact JR_un | exact JR_nil | exact JR_yes rfl rfl | exact JR_no rfl rfl rfl rfl | exact JR_noU rfl rfl rfl) | (apply igJS; first | exact JS_seq | exact JS_region | exact JS_skip | exact JS_block | exact JS_inBlock | exact JS_label | exact JS_exit rfl | exact JS_condT rfl | exact JS_condF rfl | exact JS_draw [0] (by kernel_rfl) (by kernel_rfl) (by decide +kernel) | exact JS_draw [] (by kernel_rfl) (by kernel_rfl) (by decide +kernel)) | (apply igQR; first | exact QR_un | exact QR_nil | exact QR_yes rfl rfl | exact QR_no rfl rfl rfl rfl | exact QR_noU rfl rfl rfl) | (apply igQO; first | exact iQ | exact iQK rfl)) : G := t h
end Go.Proofs.YteelffkghidpfaaGreat

set_option linter.unusedVariables false
namespace Sx
open Go
/-! arrays: built, sliced, read -/
section
variable {P : Program} {f n : Nat} {R : Ending → World → Prop} {D : List Deferred} {w0 : World} {k : List Item} {ov : Ov} {H H' : List Asn}
  {ops : Array Oper} {l : List Oper} {d : Option Nat} {T : Nat} {pos : String} {af : Array Edge} {g : Option (Nat × Bool)} {x y : Operand} {v : Value} {tb : Tb P}
section
variable {t e s1 b1 s2 b2 m : Nat} {z1 z2 : Option (List Value)} {ty2 : Ty}
theorem V_buildA {xs : List (Nat × Operand)} {vs : List (Nat × Value)} {z cs : List Value} (h : tlook tb.l t = some ⟨.arr m e, s1, b1, some z⟩) (h2 : tlook tb.l e = some ⟨ty2, s2, b2, z2⟩)
    (hx : pevs ov xs = some vs) (hc : fillL (fun i => some (i * s2, s2)) z vs = some cs) (hd : dOk d n = true) : OpV P n D w0 ov H ⟨d, .build t xs.toArray, T, pos, af, g⟩ (.agg cs.toArray) := by
  unfold OpV
  exact ⟨hd, (fun a w ha _ => by
    have e1 := run_underlying (und_arr h) w
    obtain ⟨zv, hz, e3⟩ := Tb.run_zero w h
    have hfill := fill_eq _ hc
    have hx' := ha.pevs hx
    simp only [execOp, Instr.build, Sem.run_bind, e3, Result.andThen_ok, e1, cellsL_eq, hz, Tb.run_size w h2, List.map_toArray, hx']
    simp [hfill])⟩
/-- an array behind a pointer, sliced -/
theorem V_sliceP {b c lo hi : Nat} {il ih : Int} {ol oh : Option Operand} (hx : ev ov x = some (.pointer (some ⟨b, 0, none⟩))) (h : tlook tb.l t = some ⟨.arr c e, s1, b1, z1⟩) (h2 : tlook tb.l e = some ⟨ty2, s2, b2, z2⟩)
    (hlo : evb ov ol 0 = some il) (hhi : evb ov oh c = some ih) (el : il = (lo : Int)) (eh : ih = (hi : Int)) (hb : lo ≤ hi ∧ hi ≤ c) (hd : dOk d n = true) :
    OpV P n D w0 ov H ⟨d, .slice t x ol oh none, T, pos, af, g⟩ (.slice (subB (some ⟨b, 0, none⟩) lo c s2) (hi - lo) (c - lo)) := by
  unfold OpV
  exact ⟨hd, (fun A w ha hw => by
    obtain ⟨hb1, hb2⟩ := hb
    have e1 := run_underlying (und_arr h) w
    have hL : (match ol.map A.eval with | some v => Instr.sliceBound v hi .sliceB | none => pure 0 : Sem Nat).run P w = .ok lo w := by
      cases ol with
      | none => simp only [evb, Option.some.injEq] at hlo; simp; omega
      | some y =>
        simp only [evb] at hlo
        split at hlo
        · rename_i K i hy
          cases hlo
          simp only [Option.map_some, ha.ev hy]
          rw [run_sliceBound w (by omega)]; congr 1; omega
        · cases hlo
    have hH : (match oh.map A.eval with | some v => Instr.sliceBound v c .sliceAlen | none => pure c : Sem Nat).run P w = .ok hi w := by
      cases oh with
      | none => simp only [evb, Option.some.injEq] at hhi; simp; omega
      | some y =>
        simp only [evb] at hhi
        split at hhi
        · rename_i K i hy
          cases hhi
          simp only [Option.map_some, ha.ev hy]
          rw [run_sliceBound w (by omega)]; congr 1; omega
        · cases hhi
    have hS : (Instr.sliceBounds false c c (ol.map A.eval) (oh.map A.eval) none).run P w = .ok (lo, hi, c) w := by
      cases ol <;> cases oh <;> simp_all [Instr.sliceBounds]
    have e4 : (if c = lo then (⟨b, 0, none⟩ : Addr) else (⟨b, 0, none⟩ : Addr).add (lo * s2)) = (if c = lo then (⟨b, 0, none⟩ : Addr) else (⟨b, 0, none⟩ : Addr).add (lo * s2)) := rfl
    by_cases hcl : c = lo
    · subst hcl; simp [execOp, ha.ev hx, Instr.sliceAt, Instr.sureAddr, e1, hS, Tb.run_size w h2, subB]
    · simp [execOp, ha.ev hx, Instr.sliceAt, Instr.sureAddr, e1, hS, Tb.run_size w h2, subB, hcl])⟩
end
theorem subB_0 {a : Option Addr} {c sz : Nat} : subB a 0 c sz = a := by
  unfold subB
  split
  · rfl
  · cases a with
    | none => rfl
    | some a => simp only [Option.map_some, Nat.zero_mul]; unfold Addr.add; simp
/-- a block, read as a slice -/
theorem blk_rd {b m c : Nat} {cs : List Value} (h : blk b cs ∈ H) (hm : m ≤ c) : Rd w0 H (.slice (some ⟨b, 0, none⟩) m c) m cs := by
  unfold Rd
  intro w hw
  obtain ⟨E, hE⟩ := blk_heap h hw
  refine ⟨⟨_, c, rfl, (fun h => nomatch h), hm⟩, fun j v hv => ⟨⟨b, 0 + j, none⟩, by rw [cellPtr_eq, add_blk], ?_⟩⟩
  rw [cell_row hE]
  simpa using hv
theorem setSeg_set : ∀ {cs : List Value} {i : Nat} {v : Value}, i < cs.length → setSeg cs i [v] = some (cs.set i v)
  | [], i, v, h => by simp at h
  | c :: cs, 0, v, h => by simp [setSeg, over]
  | c :: cs, i + 1, v, h => by
    simp only [setSeg]
    rw [setSeg_set (by simpa using h)]
    simp
theorem setSeg_ints {K : IntKind} {l : List Int} {i : Nat} {a : Int} (h : i < l.length) : setSeg (ints K l) i [.int K a] = some (ints K (l.set i a)) := by
  rw [setSeg_set (by rw [ints_len]; exact h), ints_set]
end
end Sx

set_option linter.unusedVariables false
set_option linter.unusedSimpArgs false
namespace Sx
open Go
/-! letters of a pattern -/
theorem bstr_get {B : List Int} {j : Nat} (h : j < B.length) : (bstr B)[j]? = some (UInt8.ofNat (B.getD j 0).toNat) := by
  have hs := bstr_size B
  have hd := bstr_data B
  have h1 : (bstr B).data.toList[j]? = some (UInt8.ofNat (B.getD j 0).toNat) := by
    rw [hd, List.getElem?_map, List.getD_eq_getElem?_getD, List.getElem?_eq_getElem h]; rfl
  rw [getElem?_pos (bstr B) j (by omega)]
  rw [Array.getElem?_toList, Array.getElem?_eq_getElem (by have : (bstr B).data.size = (bstr B).size := rfl; omega)] at h1
  exact h1
section
variable {P : Program} {n : Nat} {D : List Deferred} {w0 : World} {ov : Ov} {H : List Asn}
  {d : Option Nat} {T : Nat} {pos : String} {af : Array Edge} {g : Option (Nat × Bool)} {x y : Operand} {tb : Tb P} {t s1 b1 : Nat} {z1 : Option (List Value)}
theorem V_indexP {B : List Int} {K : IntKind} {i : Int} {r : Int} (hx : ev ov x = some (.string (bstr B))) (hy : ev ov y = some (.int K i)) (h : tlook tb.l t = some ⟨.str, s1, b1, z1⟩) (hB : Byt B) (hi : 0 ≤ i ∧ i < B.length) (hr : B.getD i.toNat 0 = r) (hd : dOk d n = true) :
    OpV P n D w0 ov H ⟨d, .index t x y, T, pos, af, g⟩ (.int .u8 r) := by
  have := V_indexS (P := P) (D := D) (w0 := w0) (H := H) (d := d) (T := T) (pos := pos) (af := af) (g := g) (fun j => (B.getD j 0).toNat) B.length hx hy h (by
    rw [List.all_eq_true]
    intro j hj
    rw [List.mem_range] at hj
    have hb := hB j
    rw [bstr_get hj, Option.map_some]
    simp only [beq_iff_eq, Option.some.injEq, UInt8.toNat_ofNat']
    omega) hi hd
  have hb := hB i.toNat
  rw [show (((B.getD i.toNat 0).toNat : Nat) : Int) = r by rw [← hr]; omega] at this
  exact this
end
end Sx
namespace Go.Proofs.YteelffkghidpfaaGreat
open Sx Go
/-- the letters, how many bytes each has, and its functions -/
def ltA : Nat → Int
  | 0 => 98 | 1 => 104 | 2 => 72 | 3 => 119 | 4 => 87 | 5 => 113 | 6 => 81 | 7 => 118 | 8 => 122 | _ => 110
def szA : Nat → Int
  | 0 => 1 | 1 => 2 | 2 => 2 | 3 => 4 | 4 => 4 | 5 => 8 | 6 => 8 | _ => 0
def putA : Nat → Value
  | 0 => .func (.func 193) #[] #[]
  | 1 => .func (.func 193) #[] #[]
  | 2 => .func (.func 195) #[] #[]
  | 3 => .func (.func 193) #[] #[]
  | 4 => .func (.func 195) #[] #[]
  | 5 => .func (.func 193) #[] #[]
  | 6 => .func (.func 195) #[] #[]
  | 7 => .func (.func 197) #[] #[]
  | 8 => .func (.func 199) #[] #[]
  | _ => .func (.func 201) #[] #[]
def getA : Nat → Value
  | 0 => .func (.func 194) #[] #[]
  | 1 => .func (.func 194) #[] #[]
  | 2 => .func (.func 196) #[] #[]
  | 3 => .func (.func 194) #[] #[]
  | 4 => .func (.func 196) #[] #[]
  | 5 => .func (.func 194) #[] #[]
  | 6 => .func (.func 196) #[] #[]
  | 7 => .func (.func 198) #[] #[]
  | 8 => .func (.func 200) #[] #[]
  | _ => .func (.func 202) #[] #[]
def fnOf : Value → Nat
  | .func (.func q) _ _ => q
  | _ => 0
abbrev fmA (k : Nat) : List Value := [.int .u8 (ltA k), .int .i64 (szA k), putA k, getA k]
abbrev fmsA : List Value := fmA 0 ++ fmA 1 ++ fmA 2 ++ fmA 3 ++ fmA 4 ++ fmA 5 ++ fmA 6 ++ fmA 7 ++ fmA 8 ++ fmA 9
theorem fmsA_seg : ∀ {k : Nat}, k < 10 → (fmsA.drop (k * 4)).take 4 = fmA k
  | 0, _ => rfl | 1, _ => rfl | 2, _ => rfl | 3, _ => rfl | 4, _ => rfl | 5, _ => rfl | 6, _ => rfl | 7, _ => rfl | 8, _ => rfl | 9, _ => rfl
  | k + 10, h => absurd h (by omega)
theorem ltA_ne {k j : Nat} (hk : k < 10) (hj : j < k) : ltA j ≠ ltA k := by
  have : ∀ k, k < 10 → ∀ j, j < k → ltA j ≠ ltA k := by decide
  exact this k hk j hj
theorem ltA_bd (k : Nat) : 0 ≤ ltA k ∧ ltA k < 256 := by unfold ltA; split <;> omega
theorem szA_bd (k : Nat) : 0 ≤ szA k ∧ szA k ≤ 8 := by unfold szA; split <;> omega
theorem fm_all (k : Nat) : All1 (fmA k) := by
  have h1 : Sx.one (putA k) := by unfold putA; split <;> rfl
  have h2 : Sx.one (getA k) := by unfold getA; split <;> rfl
  exact ⟨rfl, rfl, h1, h2, trivial⟩
section
variable {w0 : World} {H : List Asn}
set_option maxRecDepth 10000 in
set_option maxHeartbeats 4000000 in
theorem Forms_c (w : World) (hw : St w0 H w) : Calls Tryz.prog 148 #[] w fun e w' => e = .returned (.agg fmsA.toArray) ∧ St w0 H w' := by
  refine enter (vs := []) Tryz.func148 rfl rfl rfl hw ?_
  clear hw w
  repeat (first | (apply gJO; refine JO_v (oBd (V_buildA (tb := tb) rfl rfl rfl rfl rfl)) ?_) | first | (refine sx ?_; try intro _))
  refine JS_retC Tryz.func148 rfl (by first | exact ResV.agg (tb := tb) rfl (by repeat (first | apply List.Mem.head | apply List.Mem.tail)) rfl rfl rfl ResV.nil | exact ResV.agg (tb := tb) rfl (by repeat (first | apply List.Mem.head | apply List.Mem.tail)) rfl rfl rfl (ResV.tmp rfl ResV.nil) | exact ResV.agg (tb := tb) rfl (by repeat (first | apply List.Mem.head | apply List.Mem.tail)) rfl rfl rfl (ResV.tmp rfl (ResV.tmp rfl ResV.nil)) | exact ResV.one (tb := tb) rfl (by repeat (first | apply List.Mem.head | apply List.Mem.tail)) rfl rfl rfl ResV.nil | exact ResV.one (tb := tb) rfl (by repeat (first | apply List.Mem.head | apply List.Mem.tail)) rfl rfl rfl (ResV.tmp rfl ResV.nil) | exact ResV.one (tb := tb) rfl (by repeat (first | apply List.Mem.head | apply List.Mem.tail)) rfl rfl rfl (ResV.one (tb := tb) rfl (by repeat (first | apply List.Mem.head | apply List.Mem.tail)) rfl rfl rfl ResV.nil) | exact ResV.tmp rfl (ResV.agg (tb := tb) rfl (by repeat (first | apply List.Mem.head | apply List.Mem.tail)) rfl rfl rfl ResV.nil) | exact ResV.tmp rfl (ResV.one (tb := tb) rfl (by repeat (first | apply List.Mem.head | apply List.Mem.tail)) rfl rfl rfl ResV.nil)) ?_
  intro w hw
  exact ⟨rfl, dS hw⟩
set_option maxRecDepth 10000 in
theorem FormIs_c (k i lb : Nat) (hl : blk lb [.int .u8 (ltA k)] ∈ H) (w : World) (hw : St w0 H w) : Calls Tryz.prog 150 #[.agg (fmA i).toArray, .pointer (some ⟨lb, 0, none⟩)] w fun e w' => e = .returned (.bool (decide (ltA i = ltA k))) ∧ St w0 H w' := by
  refine enter (vs := [.agg (fmA i).toArray, .pointer (some ⟨lb, 0, none⟩)]) Tryz.func150 rfl rfl rfl hw ?_
  clear hw w
  repeat (first | (apply gJO; first | refine JO_v (oL (V_load (tb := tb) rfl (List.Mem.tail _ hl) rfl rfl rfl rfl)) ?_) | first | (refine sx ?_; try intro _))
  exact JS_ret Tryz.func150 rfl rfl fun w hw => ⟨rfl, hw.drop⟩
set_option maxRecDepth 10000 in
theorem IndexF_c (k b lb : Nat) (hk : k < 10) (hb : blk b fmsA ∈ H) (hl : blk lb [.int .u8 (ltA k)] ∈ H) (w : World) (hw : St w0 H w) :
    Calls Tryz.prog 149 #[.slice (some ⟨b, 0, none⟩) 10 10, .func (.func 150) #[] #[.pointer (some ⟨lb, 0, none⟩)]] w fun e w' => e = .returned (.int .i64 k) ∧ St w0 H w' := by
  have hr : Rd w0 H (.slice (some ⟨b, 0, none⟩) 10 10) 10 fmsA := blk_rd hb (by omega)
  refine enter (vs := [.slice (some ⟨b, 0, none⟩) 10 10, .func (.func 150) #[] #[.pointer (some ⟨lb, 0, none⟩)]]) Tryz.func149 rfl rfl rfl hw ?_
  clear hw w
  repeat (first | (apply gJR; first | (refine sx ?_; try intro _)) | (apply gJO; first | (refine sx ?_; try intro _)) | apply JS_seq | apply JS_region)
  refine JS_block ?_
  refine JS_loop1 (fun (i : Nat) => [(0, .slice (some ⟨b, 0, none⟩) 10 10), (1, .func (.func 150) #[] #[.pointer (some ⟨lb, 0, none⟩)]), (7, .int .i64 10), (8, .int .i64 i)]) (fun _ => H) (fun i => i ≤ k) (fun i => k - i) 0 (Nat.zero_le _) (by repeat (first | exact trivial | refine ⟨rfl, ?_⟩ | refine ⟨lookI rfl (by omega), ?_⟩)) (fun w hw => hw) ?_
  intro i hi again
  have hseg := fmsA_seg (k := i) (by omega)
  generalize hfm : fmsA = F at *
  have hF := fun {H} (hl : blk lb [.int .u8 (ltA k)] ∈ H) w hw => FormIs_c (w0 := w0) k i lb hl w hw
  by_cases hik : i < k
  · have hne := ltA_ne hk hik
    repeat (first | (apply gJO; first | refine JO_v (oIA (V_index (tb := tb) rfl rfl rfl rfl (Rd.sl hr) (by omega) rfl rfl)) ?_ | refine JO_v (oL (V_loadCA (tb := tb) rfl hr rfl rfl rfl (by decide) hseg rfl)) ?_) | first | (refine sx ?_; try intro _))
    refine JO_callv (us := []) (cs := [.pointer (some ⟨lb, 0, none⟩)]) rfl Tryz.call150 rfl rfl fun w hw => (hF hl w hw).mono ?_
    rintro e w' ⟨rfl, hw'⟩
    (refine ⟨_, rfl, _, hw', ?_⟩; clear hw' hw w w')
    rw [decide_eq_false hne]
    repeat (first | (refine sx ?_; try intro _))
    exact JS_again1 again (i + 1) (by omega) (by omega) (by repeat (first | exact trivial | refine ⟨rfl, ?_⟩ | refine ⟨lookI rfl (by omega), ?_⟩)) (fun w hw => hw)
  · obtain rfl : i = k := by omega
    repeat (first | (apply gJO; first | refine JO_v (oIA (V_index (tb := tb) rfl rfl rfl rfl (Rd.sl hr) (by omega) rfl rfl)) ?_ | refine JO_v (oL (V_loadCA (tb := tb) rfl hr rfl rfl rfl (by decide) hseg rfl)) ?_) | first | (refine sx ?_; try intro _))
    refine JO_callv (us := []) (cs := [.pointer (some ⟨lb, 0, none⟩)]) rfl Tryz.call150 rfl rfl fun w hw => (hF hl w hw).mono ?_
    rintro e w' ⟨rfl, hw'⟩
    (refine ⟨_, rfl, _, hw', ?_⟩; clear hw' hw w w')
    rw [decide_eq_true rfl]
    repeat (first | (refine sx ?_; try intro _))
    exact JS_ret Tryz.func149 rfl rfl fun w hw => ⟨rfl, hw⟩
set_option maxRecDepth 10000 in
theorem FormOf_c (k : Nat) (hk : k < 10) (w : World) (hw : St w0 H w) :
    Calls Tryz.prog 105 #[.int .u8 (ltA k)] w fun e w' => e = .returned (.tuple #[.agg (fmA k).toArray, .bool true]) ∧ St w0 H w' := by
  have hseg := fmsA_seg (k := k) hk
  refine enter (vs := [.int .u8 (ltA k)]) Tryz.func105 rfl rfl rfl hw ?_
  clear hw w
  repeat (first | (refine sx ?_; try intro _))
  refine JO_call Tryz.call148 rfl rfl fun w hw => (Forms_c w hw).mono ?_
  rintro e w' ⟨rfl, hw'⟩
  (refine ⟨_, rfl, _, hw', ?_⟩; clear hw' hw w w')
  repeat (first | (apply gJO; first | refine JO_v (V_sliceP (tb := tb) (lo := 0) (hi := 10) rfl rfl rfl rfl rfl rfl rfl (by omega) rfl) ?_) | first | (refine sx ?_; try intro _))
  rw [subB_0]
  refine JO_call Tryz.call149 rfl rfl fun w hw => (IndexF_c k _ _ hk (by repeat (first | apply List.Mem.head | apply List.Mem.tail)) (by repeat (first | apply List.Mem.head | apply List.Mem.tail)) w hw).mono ?_
  rintro e w' ⟨rfl, hw'⟩
  (refine ⟨_, rfl, _, hw', ?_⟩; clear hw' hw w w')
  have hsg : seg fmsA (0 + ((k : Nat) : Int).toNat * 4) 4 = some (fmA k) := by
    rw [Int.toNat_natCast, Nat.zero_add]
    have : ∀ k, k < 10 → seg fmsA (k * 4) 4 = some (fmA k) := fun k h => by
      match k, h with
      | 0, _ => rfl | 1, _ => rfl | 2, _ => rfl | 3, _ => rfl | 4, _ => rfl | 5, _ => rfl | 6, _ => rfl | 7, _ => rfl | 8, _ => rfl | 9, _ => rfl
      | k + 10, h => exact absurd h (by omega)
    exact this k hk
  have hall := fm_all k
  repeat (first | (apply gJO; first | refine JO_v (oL (V_loadA (tb := tb) rfl (List.Mem.head _) rfl rfl hsg rfl)) ?_ | refine JO_k (K_store (tb := tb) rfl rfl (by repeat (first | apply Upd.here | apply Upd.there)) rfl rfl rfl hall rfl rfl) ?_) | first | (refine sx ?_; try intro _))
  refine JS_retC Tryz.func105 rfl (by first | exact ResV.agg (tb := tb) rfl (by repeat (first | apply List.Mem.head | apply List.Mem.tail)) rfl rfl rfl ResV.nil | exact ResV.agg (tb := tb) rfl (by repeat (first | apply List.Mem.head | apply List.Mem.tail)) rfl rfl rfl (ResV.tmp rfl ResV.nil) | exact ResV.agg (tb := tb) rfl (by repeat (first | apply List.Mem.head | apply List.Mem.tail)) rfl rfl rfl (ResV.tmp rfl (ResV.tmp rfl ResV.nil)) | exact ResV.one (tb := tb) rfl (by repeat (first | apply List.Mem.head | apply List.Mem.tail)) rfl rfl rfl ResV.nil | exact ResV.one (tb := tb) rfl (by repeat (first | apply List.Mem.head | apply List.Mem.tail)) rfl rfl rfl (ResV.tmp rfl ResV.nil) | exact ResV.one (tb := tb) rfl (by repeat (first | apply List.Mem.head | apply List.Mem.tail)) rfl rfl rfl (ResV.one (tb := tb) rfl (by repeat (first | apply List.Mem.head | apply List.Mem.tail)) rfl rfl rfl ResV.nil) | exact ResV.tmp rfl (ResV.agg (tb := tb) rfl (by repeat (first | apply List.Mem.head | apply List.Mem.tail)) rfl rfl rfl ResV.nil) | exact ResV.tmp rfl (ResV.one (tb := tb) rfl (by repeat (first | apply List.Mem.head | apply List.Mem.tail)) rfl rfl rfl ResV.nil)) ?_
  intro w hw
  exact ⟨rfl, dS hw⟩
/-- letters that are -/
def LTS (L : List Int) : Prop := ∀ j, j < L.length → ∃ k, k < 10 ∧ L.getD j 0 = ltA k
theorem LTS.byt {L : List Int} (h : LTS L) : Byt L := fun j => by
  rcases Nat.lt_or_ge j L.length with h1 | h1
  · obtain ⟨k, _, e⟩ := h j h1
    rw [e]; exact ltA_bd k
  · rw [List.getD_eq_getElem?_getD, List.getElem?_eq_none h1]; decide
set_option maxRecDepth 10000 in
theorem Right_c (L : List Int) (hL : LTS L) (hm : L.length ≤ 64) (w : World) (hw : St w0 H w) :
    Calls Tryz.prog 104 #[.string (bstr L)] w fun e w' => e = .returned (.bool true) ∧ St w0 H w' := by
  have hsz : ((bstr L).size : Int) = L.length := by rw [bstr_size]
  refine enter (vs := [.string (bstr L)]) Tryz.func104 rfl rfl rfl hw ?_
  clear hw w
  repeat (first | (apply gJR; first | (refine sx ?_; try intro _)) | (apply gJO; first | (refine sx ?_; try intro _)) | (apply gJS; refine JS_condF rfl ?_) | (apply gJS; refine JS_cond_F rfl (by omega) ?_) | apply JS_skip | apply JS_seq | apply JS_region)
  refine JS_block ?_
  refine JS_loop1 (fun (i : Nat) => [(0, .string (bstr L)), (10, .int .i64 L.length), (11, .int .i64 i)]) (fun _ => H) (fun i => i ≤ L.length) (fun i => L.length - i) 0 (Nat.zero_le _) (by exact ⟨rfl, lookI rfl hsz, rfl, trivial⟩) (fun w hw => hw) ?_
  intro i hi again
  by_cases hil : i < L.length
  · obtain ⟨k, hk, e⟩ := hL i hil
    have hall := fm_all k
    repeat (first | (apply gJO; refine JO_v (V_indexP (tb := tb) (B := L) (r := ltA k) rfl rfl rfl hL.byt (by omega) (by rw [Int.toNat_natCast]; exact e) rfl) ?_) | first | (refine sx ?_; try intro _))
    refine JO_call Tryz.call105 rfl rfl fun w hw => (FormOf_c k hk w hw).mono ?_
    rintro e w' ⟨rfl, hw'⟩
    (refine ⟨_, rfl, _, hw', ?_⟩; clear hw' hw w w')
    repeat (first | (apply gJO; refine JO_k (K_store (tb := tb) rfl rfl (by repeat (first | apply Upd.here | apply Upd.there)) rfl rfl rfl hall rfl rfl) ?_) | first | (refine sx ?_; try intro _))
    exact JS_again1 again (i + 1) (by omega) (by omega) (by repeat (first | exact trivial | refine ⟨rfl, ?_⟩ | refine ⟨lookI rfl (by omega), ?_⟩)) (fun w hw => dS hw)
  · repeat (first | (refine sx ?_; try intro _))
    exact JS_ret Tryz.func104 rfl rfl fun w hw => ⟨rfl, hw⟩
end
end Go.Proofs.YteelffkghidpfaaGreat

namespace Go.Proofs.YteelffkghidpfaaGreat
open Sx Go
set_option linter.unusedVariables false
set_option linter.unusedSimpArgs false
theorem ints_app1 {K : IntKind} {l : List Int} {x : Int} : ints K l ++ [.int K x] = ints K (l ++ [x]) := by simp [ints]
/-- a table by its places -/
def tab (n : Nat) (f : Nat → Int) : List Int := (List.range n).map f
theorem tab_len (n : Nat) (f : Nat → Int) : (tab n f).length = n := by simp [tab]
theorem tab_set (n : Nat) (f : Nat → Int) (i : Nat) (v : Int) : (tab n f).set i v = tab n fun j => if j = i then v else f j := by
  apply List.ext_getElem?
  intro j
  unfold tab
  rw [List.getElem?_set]
  by_cases hj : j < n
  · by_cases hij : i = j
    · subst hij; simp [hj]
    · rw [if_neg hij]; simp [hj, Ne.symm hij, show ¬ j = i from fun h => hij h.symm]
  · rw [List.getElem?_eq_none (l := (List.range n).map _) (by simp; omega)]
    by_cases hij : i = j
    · subst hij; simp [hj]
    · simp [hij, hj]
theorem tab_congr {n : Nat} {f g : Nat → Int} (h : ∀ j, j < n → f j = g j) : tab n f = tab n g := by
  unfold tab
  apply List.map_congr_left
  intro j hj
  exact h j (by simpa using hj)
theorem tab_succ (n : Nat) (f : Nat → Int) : tab (n + 1) f = tab n f ++ [f n] := by simp [tab, List.range_succ]
theorem tab_const (n : Nat) (x : Int) : List.replicate n x = tab n fun _ => x := by
  unfold tab
  rw [show (fun _ : Nat => x) = Function.const _ x from rfl, List.map_const, List.length_range]
theorem tab_get {n : Nat} {f : Nat → Int} {j : Nat} (h : j < n) : (tab n f).getD j 0 = f j := by simp [tab, List.getD_eq_getElem?_getD, h]
end Go.Proofs.YteelffkghidpfaaGreat

namespace Sx
open Go
/-! operations that hand back a value and change memory -/
section
variable {P : Program} {f n : Nat} {R : Ending → World → Prop} {D : List Deferred} {w0 : World} {k : List Item} {ov : Ov} {H : List Asn} {K : KC} {Z : Array Oper × List Nat}
  {ops : Array Oper} {l : List Oper} {d : Option Nat} {T : Nat} {pos : String} {af : Array Edge} {g : Option (Nat × Bool)} {x y : Operand} {op : Op} {tb : Tb P}
/-- operation o yields v c, for some c, and the assertions become H' c -/
def OpE {ι : Type} (P : Program) (n : Nat) (D : List Deferred) (w0 : World) (ov : Ov) (H : List Asn) (o : Oper) (v : ι → Value) (H' : ι → List Asn) : Prop :=
  dOk o.dst n = true ∧ ∀ a w, Rep n D ov a → St w0 H w → ∃ c w', (execOp a.eval o).run P w = .ok (.value (v c)) w' ∧ St w0 (H' c) w'
theorem JO_e {ι : Type} {v : ι → Value} {H' : ι → List Asn} (h : OpE P n D w0 ov H ⟨d, op, T, pos, af, g⟩ v H') (hn : ∀ c, JR P f n R D w0 ops l k (put d (v c) ov) (H' c)) : JO P f n R D w0 ops ⟨d, op, T, pos, af, g⟩ l k ov H :=
  JO_step fun a w ha hw => let ⟨c, w', h1, h2⟩ := h.2 a w ha hw; ⟨v c, w', h1, h.1, H' c, h2, hn c⟩
theorem QO_e {ι : Type} {v : ι → Value} {H' : ι → List Asn} (h : OpE P n D w0 ov H ⟨d, op, T, pos, af, g⟩ v H') (hlo : loud op = true) (hs : Z.2.contains l.length = true ∨ ∀ c w, St w0 (H' c) w → St w0 H w) (hn : ∀ c, QR P n D w0 Z l (put d (v c) ov) (H' c) K) : QO P n D w0 Z ⟨d, op, T, pos, af, g⟩ l ov H K := by
  unfold QO
  intro a ha
  refine .inr ⟨hlo, fun w hw => ?_⟩
  obtain ⟨c, w', hrun, hw'⟩ := h.2 a w ha hw
  simp only [Oper.wpN, hrun, Oper.upN]
  exact ⟨St w0 (H' c), hw', hs.symm.imp (fun h => h c) id, by have := hn c; unfold QR at this; exact this _ (ha.put h.1 _)⟩
theorem Rd.nil {p : Option Addr} {m c m' : Nat} {cs : List Value} {w : World} (h : Rd w0 H (.slice p m c) m' cs) (hw : St w0 H w) : p = none → m = 0 := by
  unfold Rd at h
  obtain ⟨⟨b, c', e, hn, _⟩, _⟩ := h w hw
  cases e
  exact hn
theorem Sel.self {H a F} (h : Sel H a F) : F a = H := by
  induction h with
  | here a r => rfl
  | there y a r F _ ih => simp [ih]
theorem Sel.mem {H a F} (h : Sel H a F) : a ∈ H := by
  induction h with
  | here a r => exact List.Mem.head _
  | there y a r F _ ih => exact List.Mem.tail _ ih
theorem add_zero' (a : Addr) : a.add 0 = a := by unfold Addr.add; simp
theorem run_storeSeg {e size m j : Nat} {u : Value} {cs vs : List Value} {w : World} {F : Asn → List Asn} (hu : Sel H (vec e size u m cs) F) (hw : St w0 H w) (hp : 0 < vs.length) (h1 : All1 vs) (hf : j + vs.length ≤ cs.length) :
    ∃ b c w', u = .slice (some ⟨b, 0, none⟩) m c ∧ (storeCells ⟨b, j, none⟩ vs).run P w = .ok () w' ∧ St w0 (F (vec e size u m (cs.take j ++ vs ++ cs.drop (j + vs.length)))) w' := by
  obtain ⟨fp, hfp⟩ := hw.mem hu.mem
  rw [vec_holds] at hfp
  rcases hfp.2 with ⟨base, rfl, rfl, _⟩ | ⟨gb, cap, cur, rfl, _, hg, hn, hcm, hsz, ht⟩
  · have := hfp.1; rw [Nat.zero_mul] at this; omega
  · have hcl := hfp.1
    have hlen : cs.length ≤ cur.size := by rw [hcl, hsz]; exact Nat.mul_le_mul_right _ hn
    have hst := run_storeCells_at P gb j e vs 0 cur w hg (by omega) h1.mem
    simp only [Nat.add_zero] at hst
    refine ⟨gb, cap, _, rfl, hst, ?_⟩
    refine hw.row (hu.upd _) (cs := cur.toList) (by simpa using hg) (fun fq hq2 => ?_) fun w' h' => ?_
    · rw [vec_holds] at hq2
      rcases hq2.2 with ⟨base, hb, _⟩ | ⟨g', cap', cur', hv', hfq, _⟩
      · simp at hb; rw [hb.2.1, Nat.zero_mul] at hcl; omega
      · simp at hv'; rw [hfq, hv'.1]
    · rw [vec_holds]
      refine ⟨by rw [← hcl]; simp; omega, .inr ⟨gb, cap, _, rfl, rfl, h', hn, hcm, by simp; omega, ?_⟩⟩
      have hcs : cs = cur.toList.take cs.length := by rw [hcl]; exact ht.symm
      rw [← hcl]
      have e1 : cs.take j = cur.toList.take j := by rw [hcs, List.take_take]; congr 1; omega
      rw [e1, List.take_append, List.take_append]
      congr 1
      · congr 1
        · rw [List.take_take]; congr 1; omega
        · simp
          rw [List.take_of_length_le (by omega)]
      · have e2 : cs.drop (j + vs.length) = (cur.toList.drop (j + vs.length)).take (cs.length - (j + vs.length)) := by
          conv => lhs; rw [hcs]
          rw [List.drop_take]
        rw [e2]
        congr 1
        simp
        omega
theorem All1.take {l : List Value} (h : All1 l) (n : Nat) : All1 (l.take n) := All1.of fun v hv => h.mem v (List.mem_of_mem_take hv)
/-- copy into a slice, or a slice's part -/
theorem E_copy {t e sz by' m q lo kk c cd sz1 by1 : Nat} {ty2 : Ty} {z1 z2 : Option (List Value)} {a pd : Option Addr} {ux : Value} {cs news : List Value} {F : Asn → List Asn}
    (hx : ev ov x = some (.slice pd kk cd)) (hy : ev ov y = some ux) (h : tlook tb.l t = some ⟨.slice e, sz1, by1, z1⟩) (h2 : tlook tb.l e = some ⟨ty2, sz, by', z2⟩) (hsz : Nat.blt 0 sz = true)
    (hu : Sel H (vec e sz (.slice a m c) m cs) F) (hp : 0 < kk → pd = a.map (·.add (lo * sz))) (hk : lo + kk ≤ m) (hr : Rd w0 H ux q news) (hl : news.length = q * sz) (h1 : All1 news) (hd : dOk d n = true) :
    OpE (ι := Unit) P n D w0 ov H ⟨d, .call ⟨.builtin .copy, #[x, y], #[t, t]⟩, T, pos, af, g⟩ (fun _ => .int .i64 (min q kk : Nat)) (fun _ => F (vec e sz (.slice a m c) m (cs.take (lo * sz) ++ news.take (min q kk * sz) ++ cs.drop (lo * sz + min q kk * sz)))) :=
  ⟨hd, fun A w ha hw => by
    unfold Rd at hr
    obtain ⟨⟨bx, cx, rfl, hbx, _⟩, hrd⟩ := hr w hw
    have hsz' : 0 < sz := by simpa [Nat.blt_eq] using hsz
    have hcl := vec_len hu.mem hw
    have e0 := run_underlying (und_slice h) w
    have hlen : (news.take (min q kk * sz)).length = min q kk * sz := by
      rw [List.length_take, hl]
      have : min q kk * sz ≤ q * sz := Nat.mul_le_mul_right _ (Nat.min_le_left _ _)
      omega
    have hfirst : (Builtin.firstCells sz (min q kk) (.slice bx q cx)).run P w = .ok (news.take (min q kk * sz)).toArray w := by
      cases bx with
      | none =>
        have : q = 0 := hbx rfl
        subst this
        have : news = [] := List.eq_nil_of_length_eq_zero (by simpa using hl)
        subst this
        simp [Builtin.firstCells]
      | some b =>
        have := run_loadCells_list (P := P) w b (news.take (min q kk * sz)) (fun j v hv => by
          rw [List.getElem?_take] at hv
          split at hv
          · exact reads_some hrd j v hv
          · cases hv)
        rw [hlen] at this
        simpa [Builtin.firstCells] using this
    by_cases hn0 : min q kk = 0
    · refine ⟨(), w, ?_, ?_⟩
      · simp only [hn0, Nat.zero_mul, List.take_zero] at hfirst
        cases pd <;> simp [execOp, resolve, invoke, builtin, ha.ev hx, ha.ev hy, Builtin.copy_, e0, Builtin.lenOf, Tb.run_size w h2, hn0, hfirst, storeCells, goInt] <;> simp_all
      · simp only [hn0, Nat.zero_mul, List.take_zero, List.append_nil, Nat.add_zero, List.take_append_drop]
        rw [hu.self]; exact hw
    · have hmul : lo * sz + min q kk * sz ≤ m * sz := by
        rw [← Nat.add_mul]; exact Nat.mul_le_mul_right _ (by omega)
      obtain ⟨b, cc, w', hb, hst, hw'⟩ := run_storeSeg (P := P) (vs := news.take (min q kk * sz)) (j := lo * sz) hu hw (by rw [hlen]; exact Nat.mul_pos (by omega) hsz') (h1.take _) (by rw [hlen, hcl]; exact hmul)
      cases hb
      have hpd := hp (by omega)
      rw [Option.map_some, add_blk, Nat.zero_add] at hpd
      subst hpd
      rw [hlen] at hw'
      refine ⟨(), w', ?_, hw'⟩
      simp [execOp, resolve, invoke, builtin, ha.ev hx, ha.ev hy, Builtin.copy_, e0, Builtin.lenOf, Tb.run_size w h2, hfirst, hst, goInt]⟩
end
end Sx

set_option linter.unusedVariables false
namespace Sx
open Go
/-! a slice, and what it became by an append: both still stand -/
@[irreducible] def vecB (e size : Nat) (v : Value) (n : Nat) (cs : List Value) (v' : Value) (n' : Nat) (cs' : List Value) : Asn where
  holds w fp := ∃ f1 f2, VecIn e size v n cs w f1 ∧ VecIn e size v' n' cs' w f2 ∧ (∀ b, b ∈ fp ↔ b ∈ f1 ∨ b ∈ f2)
  frame w w' fp h hk := by
    obtain ⟨f1, f2, h1, h2, h3⟩ := h
    have e1 := (vec_holds (e := e) (size := size) (v := v) (n := n) (cs := cs) (w := w') (fp := f1)).1 ((vec e size v n cs).frame w w' f1 (vec_holds.2 h1) fun b hb => hk b ((h3 b).2 (.inl hb)))
    have e2 := (vec_holds (e := e) (size := size) (v := v') (n := n') (cs := cs') (w := w') (fp := f2)).1 ((vec e size v' n' cs').frame w w' f2 (vec_holds.2 h2) fun b hb => hk b ((h3 b).2 (.inr hb)))
    exact ⟨f1, f2, e1, e2, h3⟩
  live w fp h b hb := by
    obtain ⟨f1, f2, h1, h2, h3⟩ := h
    rcases (h3 b).1 hb with h | h
    · exact (vec e size v n cs).live w f1 (vec_holds.2 h1) b h
    · exact (vec e size v' n' cs').live w f2 (vec_holds.2 h2) b h
theorem vecB_holds {e size v n cs v' n' cs' w fp} : (vecB e size v n cs v' n' cs').holds w fp ↔ ∃ f1 f2, VecIn e size v n cs w f1 ∧ VecIn e size v' n' cs' w f2 ∧ (∀ b, b ∈ fp ↔ b ∈ f1 ∨ b ∈ f2) := by
  unfold vecB; exact Iff.rfl
theorem VecIn.nodup {e size v n cs w fp} (h : VecIn e size v n cs w fp) : fp.Nodup := by
  rcases h.2 with ⟨_, _, _, rfl⟩ | ⟨_, _, _, _, rfl, _⟩ <;> simp
section
variable {P : Program} {n : Nat} {D : List Deferred} {w0 : World} {ov : Ov} {H : List Asn} {d : Option Nat} {T : Nat} {pos : String} {af : Array Edge} {g : Option (Nat × Bool)} {x y : Operand} {tb : Tb P} {w : World}
theorem Sel.back {H : List Asn} {a : Asn} {F : Asn → List Asn} (h : Sel H a F) (a' : Asn) : Upd (F a') a' a H := by
  induction h with
  | here a r => exact Upd.here _ _ _
  | there y a r F _ ih => exact Upd.there _ _ _ _ _ ih
theorem vecB_back {e size v m cs v' m' cs'} {F : Asn → List Asn} (hs : Sel H (vec e size v m cs) F) (h : St w0 (F (vecB e size v m cs v' m' cs')) w) : St w0 H w :=
  h.upd (hs.back _) rfl rfl rfl (Nat.le_refl _) fun f1 h1 => by
    obtain ⟨g1, g2, ha, hb, hc⟩ := vecB_holds.1 h1
    exact ⟨fun _ _ _ => rfl, g1, ha.nodup, fun b hb' => .inl ((hc b).2 (.inl hb')), vec_holds.2 ha⟩
theorem vecB_fwd {e size v m cs v' m' cs'} {F : Asn → List Asn} (hs : Sel H (vecB e size v m cs v' m' cs') F) (h : St w0 H w) : St w0 (F (vec e size v' m' cs')) w :=
  h.upd (hs.upd _) rfl rfl rfl (Nat.le_refl _) fun f1 h1 => by
    obtain ⟨g1, g2, ha, hb, hc⟩ := vecB_holds.1 h1
    exact ⟨fun _ _ _ => rfl, g2, hb.nodup, fun b hb' => .inl ((hc b).2 (.inr hb')), vec_holds.2 hb⟩
theorem run_appendB {t ty e size bytes : Nat} {i : TypeInfo} {z : Value} {u ux : Value} {m q : Nat} {cs news : List Value} {F : Asn → List Asn} (hw : St w0 H w)
    (ht : P.underlying t = some (.slice e)) (hi : P.info? e = some i) (hz : i.zero = some z) (hsize : i.size = size) (hby : i.bytes = bytes) (hzs : z.cells.size = size) (hsz : 0 < size)
    (hu : Sel H (vec e size u m cs) F) (hr : Rd w0 H ux q news) (hl : news.length = q * size) (h1 : All1 news) (hq0 : 0 < q) (hb : (m + q) * bytes ≤ 140737488355328) (hq : m + q ≤ 140737488355328) :
    ∃ p c w', (Builtin.append_ #[t, t] ty #[u, ux]).run P w = .ok (.slice p (m + q) c) w' ∧ St w0 (F (vecB e size u m cs (.slice p (m + q) c) (m + q) (cs ++ news))) w' := by
  obtain ⟨fp, hfp⟩ := hw.mem hu.mem
  rw [vec_holds] at hfp
  unfold Rd at hr
  obtain ⟨⟨bx, cx, rfl, hbx, _⟩, hrd⟩ := hr w hw
  subst hsize; subst hby
  have h63 : ((m + q : Nat) : Int) ≤ 9223372036854775807 := by omega
  cases bx with
  | none => exact absurd (hbx rfl) (by omega)
  | some a =>
    have hnews := reads_some hrd
    have hgrow : ∀ (old cap2 : Nat), cap2 = grownCap w (m + q) old e → (cs.length = m * i.size) →
        ∀ f1, (vec e i.size u m cs).holds w f1 → (∀ b, b < w.heap.size → b ∉ f1 → (w.drew.alloc (.cells (cs.toArray ++ news.toArray ++ Builtin.zeroCells z.cells (cap2 - (m + q))) e)).heap[b]? = w.heap[b]?) ∧
        ∃ f1' : List Nat, f1'.Nodup ∧ (∀ b ∈ f1', b ∈ f1 ∨ w.heap.size ≤ b) ∧ (vecB e i.size u m cs (.slice (some ⟨w.heap.size, 0, none⟩) (m + q) cap2) (m + q) (cs ++ news)).holds (w.drew.alloc (.cells (cs.toArray ++ news.toArray ++ Builtin.zeroCells z.cells (cap2 - (m + q))) e)) f1' := by
      intro old cap2 hcap hcl f1 hf1
      have hge := grownCap_ge w (m + q) old e
      have hle := grownCap_le_maxLen w (m + q) old e (by unfold maxLen; omega)
      have hlive := (vec e i.size u m cs).live w f1 hf1
      have hkeep : ∀ b, b < w.heap.size → (w.drew.alloc (.cells (cs.toArray ++ news.toArray ++ Builtin.zeroCells z.cells (cap2 - (m + q))) e)).heap[b]? = w.heap[b]? := fun b hb => heap_alloc_old w.drew _ hb
      have hold := (vec e i.size u m cs).frame w _ f1 hf1 fun b hb => hkeep b (hlive b hb)
      refine ⟨fun b hb _ => hkeep b hb, f1 ++ [w.heap.size], ?_, ?_, ?_⟩
      · refine List.nodup_append.2 ⟨(vec_holds.1 hf1).nodup, by simp, ?_⟩
        intro b hb c hc
        have := hlive b hb
        simp only [List.mem_singleton] at hc
        omega
      · intro b hb
        rcases List.mem_append.1 hb with h | h
        · exact .inl h
        · right; simp at h; omega
      · rw [vecB_holds]
        have hlen : (cs ++ news).length = (m + q) * i.size := by rw [List.length_append, hcl, hl, Nat.add_mul]
        refine ⟨f1, [w.heap.size], vec_holds.1 hold, ⟨hlen, .inr ⟨w.heap.size, cap2, _, rfl, rfl, heap_alloc_new w.drew _, by omega, by omega, ?_, ?_⟩⟩, by simp⟩
        · simp only [Array.size_append, List.size_toArray, size_zeroCells, hzs, hcl, hl, ← Nat.add_mul]
          congr 1; omega
        · simp only [Array.toList_append, List.append_assoc]
          rw [← List.append_assoc, ← hlen]
          exact List.take_left
    rcases hfp.2 with ⟨base, rfl, rfl, rfl⟩ | ⟨gb, cap, cur, rfl, _, hg, hn, hcm, hsz2, htk⟩
    · have hcs : cs = [] := List.eq_nil_of_length_eq_zero (by have := hfp.1; simpa using this)
      subst hcs
      cases base with
      | none =>
        have hrr := run_append_nil (P := P) w t ty e i z ht hi hz a q cx news hl hnews (by omega) (by omega) (by simp only [Nat.zero_add] at hb; omega)
        have hg := hgrow 0 _ rfl (by simp)
        simp only [Nat.zero_add, Array.empty_append] at hg ⊢
        exact ⟨_, _, _, hrr, hw.upd (hu.upd _) rfl rfl rfl (by simp) hg⟩
      | some b0 =>
        have hrr := run_append_grow (P := P) w t ty e i z ht hi hz b0 0 0 [] (by simp) (by simp) a q cx news hl hnews (by omega) (by omega) (growslice_fits (by omega) hb)
        exact ⟨_, _, _, hrr, hw.upd (hu.upd _) rfl rfl rfl (by simp) (hgrow 0 _ rfl (by simp))⟩
    · by_cases hroom : m + q ≤ cap
      · have hcl := hfp.1
        have hfit : m * i.size + news.length ≤ cur.size := by rw [hl, hsz2, ← Nat.add_mul]; exact Nat.mul_le_mul_right _ hroom
        have hrr := run_append_room (P := P) w t ty e i ht hi gb m cap cur hg a q cx news hl hnews h1.mem hroom hfit
        refine ⟨_, _, _, hrr, hw.upd (hu.upd _) rfl rfl rfl (by simp [World.setRow]) fun f1 h => ?_⟩
        have hf1 : f1 = [gb] ∨ (f1 = [] ∧ m = 0 ∧ cap = 0) := by
          rw [vec_holds] at h
          rcases h.2 with ⟨base, hb', h0, hf⟩ | ⟨g', cap', cur', hv', hf, _⟩
          · simp at hb'; exact .inr ⟨hf, h0, hb'.2.2⟩
          · simp at hv'; left; rw [hf, hv'.1]
        have hf1' : f1 = [gb] := by
          rcases hf1 with h | h
          · exact h
          · omega
        subst hf1'
        refine ⟨fun c hc hne => setRow_other w gb c _ (by simpa using hne), [gb], by simp, fun c hc => .inl hc, ?_⟩
        rw [vecB_holds]
        have hlen : (cs ++ news).length = (m + q) * i.size := by rw [List.length_append, hcl, hl, Nat.add_mul]
        have hsz3 : (cur.toList.take (m * i.size) ++ news ++ cur.toList.drop (m * i.size + news.length)).length = cap * i.size := by
          simp only [List.length_append, List.length_take, List.length_drop, Array.length_toList]
          omega
        refine ⟨[gb], [gb], ⟨hcl, .inr ⟨gb, cap, _, rfl, rfl, setRow_heap w gb cur _ e _ hg, hn, hcm, by simpa using hsz3, ?_⟩⟩, ⟨hlen, .inr ⟨gb, cap, _, rfl, rfl, setRow_heap w gb cur _ e _ hg, hroom, hcm, by simpa using hsz3, ?_⟩⟩, by simp⟩
        · simp only []
          rw [htk, ← hcl, List.append_assoc]
          exact List.take_left
        · simp only []
          rw [htk, ← hlen]
          exact List.take_left
      · have hcl := hfp.1
        have holds : ∀ j u', cs[j]? = some u' → w.cell? ((⟨gb, 0, none⟩ : Addr).add j) = some u' := reads_some hfp.reads
        have hrr := run_append_grow (P := P) w t ty e i z ht hi hz ⟨gb, 0, none⟩ m cap cs hcl holds a q cx news hl hnews (by omega) (by omega) (growslice_fits (by omega) hb)
        exact ⟨_, _, _, hrr, hw.upd (hu.upd _) rfl rfl rfl (by simp) (hgrow cap _ rfl hcl)⟩
theorem E_appendB {t e sz by' m q sz1 by1 : Nat} {ty2 : Ty} {z1 : Option (List Value)} {z : List Value} {u ux : Value} {cs news : List Value} {F : Asn → List Asn}
    (hx : ev ov x = some u) (hy : ev ov y = some ux) (h : tlook tb.l t = some ⟨.slice e, sz1, by1, z1⟩) (h2 : tlook tb.l e = some ⟨ty2, sz, by', some z⟩) (hzl : Nat.beq z.length sz = true) (hsz : Nat.blt 0 sz = true)
    (hu : Sel H (vec e sz u m cs) F) (hr : Rd w0 H ux q news) (hl : news.length = q * sz) (h1 : All1 news) (hq0 : 0 < q) (hb : (m + q) * by' ≤ 140737488355328 ∧ m + q ≤ 140737488355328) (hd : dOk d n = true) :
    OpE (ι := Option Addr × Nat) P n D w0 ov H ⟨d, .call ⟨.builtin .append, #[x, y], #[t, t]⟩, T, pos, af, g⟩ (fun pc => .slice pc.1 (m + q) pc.2) (fun pc => F (vecB e sz u m cs (.slice pc.1 (m + q) pc.2) (m + q) (cs ++ news))) :=
  ⟨hd, fun A w ha hw => by
    obtain ⟨i, zv, hi, e1, e2, e3, e4⟩ := Tb.inf' h2
    obtain ⟨p, c, w', hr', hw'⟩ := run_appendB (ty := T) hw (und_slice h) hi e3 e1 e2 (by have := Nat.eq_of_beq_eq_true hzl; rw [cellsL_eq, e4]; simpa using this) (by simpa [Nat.blt_eq] using hsz) hu hr hl h1 hq0 hb.1 hb.2
    exact ⟨(p, c), w', by simp [execOp, resolve, invoke, builtin, ha.ev hx, ha.ev hy, hr'], hw'⟩⟩
/-- a new slice of given values -/
theorem E_buildSlice {t e sz by' s1 b1 m : Nat} {ty2 : Ty} {z1 : Option (List Value)} {z : List Value} {xs : List (Nat × Operand)} {vs : List (Nat × Value)} {cs : List Value} (h : tlook tb.l t = some ⟨.slice e, s1, b1, z1⟩) (h2 : tlook tb.l e = some ⟨ty2, sz, by', some z⟩) (hzl : Nat.beq z.length sz = true) (hsz : Nat.blt 0 sz = true)
    (hm : Nat.ble (m * sz) 16777216 = true) (hx : pevs ov xs = some vs) (hc : fillL (fun i => some (i * sz, sz)) (rep m z) vs = some cs) (hcl : Nat.beq cs.length (m * sz) = true) (hd : dOk d n = true) :
    OpE (ι := Addr) P n D w0 ov H ⟨d, .buildSlice t m xs.toArray, T, pos, af, g⟩ (fun p => .slice (some p) m m) (fun p => vec e sz (.slice (some p) m m) m cs :: H) :=
  ⟨hd, fun a w ha hw => by
    have e1 := run_underlying (und_slice h) w
    obtain ⟨zv, hz, e3⟩ := Tb.run_zero w h2
    have hsz' : 0 < sz := by rw [Nat.blt_eq] at hsz; exact hsz
    have hzl' := Nat.eq_of_beq_eq_true hzl
    have hm' : m * sz ≤ 16777216 := Nat.le_of_ble_eq_true hm
    have hfill := fill_eq _ hc
    have hx' := ha.pevs hx
    have hmr := made_rep z (by omega) m
    rw [hzl'] at hmr
    have hma : madeCells z.toArray (m * sz) = (rep m z).toArray := by rw [← hmr]
    refine ⟨⟨w.heap.size, 0, none⟩, w.alloc (.cells cs.toArray e), ?_, hw.new cs e _ fun w' h' => ?_⟩
    · simp only [execOp, Instr.buildSlice, Sem.run_bind, e1, Result.andThen_ok, Tb.run_size w h2]
      rw [if_neg (by omega)]
      simp only [Sem.run_pure, pure_bind, Sem.run_ite, List.map_toArray, hx']
      by_cases h0 : m * sz = 0
      · have hm0 : m = 0 := by
          rcases Nat.mul_eq_zero.1 h0 with h | h <;> omega
        subst hm0
        simp only [h0, ↓reduceIte]
        rw [show (Array.range 0).map (fun i => (#[] : Array Value)[i % (#[] : Array Value).size]!) = ([] : List Value).toArray from by simp]
        rw [show fillL (fun i => some (i * sz, sz)) (rep 0 z) vs = fillL (fun i => some (i * sz, sz)) [] vs from rfl] at hc
        have hfill := fill_eq _ hc
        simp [hfill, newRow]
      · simp only [h0, ↓reduceIte, Sem.run_bind, e3, Result.andThen_ok, cellsL_eq, hz]
        rw [show (Array.range (m * sz)).map (fun i => z.toArray[i % z.toArray.size]!) = madeCells z.toArray (m * sz) from rfl, hma]
        simp [hfill, newRow]
    · rw [vec_holds]
      have hcl' := Nat.eq_of_beq_eq_true hcl
      refine ⟨hcl', .inr ⟨_, m, _, rfl, rfl, h', Nat.le_refl _, ?_, by simp [hcl'], by simp [← hcl']⟩⟩
      have : m ≤ m * sz := Nat.le_mul_of_pos_right m hsz'
      unfold maxLen; omega⟩
end
end Sx

namespace Go.Proofs.YteelffkghidpfaaGreat
open Sx Go
set_option linter.unusedVariables false
set_option linter.unusedSimpArgs false
/-! ## numbers as bytes (plain) -/
def lowF (n : Int) (i : Nat) : Int := n / 256 ^ i % 256
def lowB (s : Nat) (n : Int) : List Int := tab s (lowF n)
def hiB (s : Nat) (n : Int) : List Int := tab s fun i => lowF n (s - 1 - i)
def varB : Nat → Int → List Int
  | 0, m => [m]
  | f + 1, m => if m ≤ 127 then [m] else (m % 128 + 128) :: varB f (m / 128)
def sgn (a : Int) : Int := if a < 9223372036854775808 then 2 * a else 36893488147419103231 - 2 * a
def uns (m : Int) : Int := if m % 2 = 0 then m / 2 else 18446744073709551615 - m / 2
theorem sgn_bd {a : Int} (h : 0 ≤ a ∧ a < 18446744073709551616) : 0 ≤ sgn a ∧ sgn a < 18446744073709551616 := by unfold sgn; split <;> omega
theorem uns_bd {a : Int} (h : 0 ≤ a ∧ a < 18446744073709551616) : 0 ≤ uns a ∧ uns a < 18446744073709551616 := by unfold uns; split <;> omega
theorem uns_sgn {a : Int} (h : 0 ≤ a ∧ a < 18446744073709551616) : uns (sgn a) = a := by unfold sgn; split <;> (unfold uns; split <;> omega)
/-- a number by a letter -/
def encN : Nat → Int → List Int
  | 0, n => lowB 1 n
  | 1, n => lowB 2 n
  | 2, n => hiB 2 n
  | 3, n => lowB 4 n
  | 4, n => hiB 4 n
  | 5, n => lowB 8 n
  | 6, n => hiB 8 n
  | 7, n => varB 9 n
  | 8, n => varB 9 (sgn n)
  | _, n => varB 8 (sgn n)
theorem varB_len : ∀ (f : Nat) (m : Int), 1 ≤ (varB f m).length ∧ (varB f m).length ≤ f + 1
  | 0, m => by simp [varB]
  | f + 1, m => by
    have := varB_len f (m / 128)
    unfold varB; split <;> simp <;> omega
theorem encN_len (k : Nat) (n : Int) : 1 ≤ (encN k n).length ∧ (encN k n).length ≤ 10 := by
  have h9 := fun m => varB_len 9 m
  have h8 := fun m => varB_len 8 m
  unfold encN
  split
  all_goals first
    | (unfold lowB; rw [tab_len]; omega)
    | (unfold hiB; rw [tab_len]; omega)
    | (have := h9 n; omega)
    | (have := h9 (sgn n); omega)
    | (have := h8 (sgn n); omega)
theorem lowF_bd (n : Int) (i : Nat) : 0 ≤ lowF n i ∧ lowF n i < 256 := by unfold lowF; omega
theorem varB_byt : ∀ (f : Nat) (m : Int), 0 ≤ m → m < 256 * 128 ^ f → ∀ x ∈ varB f m, 0 ≤ x ∧ x < 256 := fun f => by
  induction f with
  | zero => intro m h0 h1 x hx; simp [varB] at hx h1; omega
  | succ f ih =>
    intro m h0 h1 x hx
    unfold varB at hx
    split at hx
    · simp at hx; omega
    · rcases List.mem_cons.1 hx with rfl | hx
      · omega
      · refine ih (m / 128) (by omega) ?_ x hx
        rw [Int.pow_succ] at h1
        generalize (128 : Int) ^ f = z at *
        omega
theorem tab_mem {n : Nat} {f : Nat → Int} {x : Int} (h : x ∈ tab n f) : ∃ i, i < n ∧ x = f i := by
  unfold tab at h
  obtain ⟨i, hi, rfl⟩ := List.mem_map.1 h
  exact ⟨i, List.mem_range.1 hi, rfl⟩
theorem encN_byt (k : Nat) {n : Int} (hn : 0 ≤ n ∧ n < 18446744073709551616) : ∀ x ∈ encN k n, 0 ≤ x ∧ x < 256 := by
  have h9 := fun m => varB_byt 9 m
  have h8 := fun m => varB_byt 8 m
  have hs := sgn_bd hn
  intro x hx
  unfold encN at hx
  split at hx
  all_goals first
    | (obtain ⟨i, _, rfl⟩ := tab_mem hx; exact lowF_bd _ _)
    | (exact h9 n hn.1 (Int.lt_of_lt_of_le hn.2 (by decide)) x hx)
    | (exact h9 (sgn n) hs.1 (Int.lt_of_lt_of_le hs.2 (by decide)) x hx)
    | (exact h8 (sgn n) hs.1 (Int.lt_of_lt_of_le hs.2 (by decide)) x hx)
/-- the gathered bytes -/
abbrev WRt (b : Nat) (p : Option Addr) (c : Nat) (B : List Int) (H : List Asn) : List Asn := blk b [.slice p B.length c] :: vec 5 1 (.slice p B.length c) B.length (ints .u8 B) :: H
theorem WR_app {w0 : World} {H : List Asn} {b : Nat} {p : Option Addr} {c : Nat} {X : List Int} {x : Int} {w : World} (h : St w0 (blk b [.slice p (X.length + 1) c] :: vec 5 1 (.slice p (X.length + 1) c) (X.length + 1) (ints .u8 X ++ [.int .u8 x]) :: H) w) : St w0 (WRt b p c (X ++ [x]) H) w := by
  have e : ints .u8 X ++ [.int .u8 x] = ints .u8 (X ++ [x]) := by rw [← ints_app]; rfl
  rw [e] at h
  show St w0 (blk b [.slice p (X ++ [x]).length c] :: vec 5 1 (.slice p (X ++ [x]).length c) (X ++ [x]).length (ints .u8 (X ++ [x])) :: H) w
  rw [List.length_append]
  exact h
section
variable {w0 : World} {H : List Asn}
theorem pow256 (n : Int) (i : Nat) : n / 2 ^ (8 * i) = n / 256 ^ i := by
  rw [Int.pow_mul]; rfl
set_option maxRecDepth 10000 in
set_option maxHeartbeats 2000000 in
theorem WLow_c (s : Nat) (hs : s ≤ 8) (b : Nat) (p : Option Addr) (c : Nat) (B : List Int) (hB : B.length ≤ 1000000000) (n : Int) (hn : 0 ≤ n ∧ n < 18446744073709551616) (w : World) (hw : St w0 (WRt b p c B H) w) :
    Calls Tryz.prog 193 #[.pointer (some ⟨b, 0, none⟩), .int .u64 n, .int .i64 s] w fun e w' => e = .returned (.tuple #[]) ∧ ∃ p c, St w0 (WRt b p c (B ++ lowB s n) H) w' := by
  refine enter (vs := [.pointer (some ⟨b, 0, none⟩), .int .u64 n, .int .i64 s]) Tryz.func193 rfl rfl rfl hw ?_
  clear hw w
  repeat (first | (apply gJR; first | (refine sx ?_; try intro _)) | (apply gJO; first | (refine sx ?_; try intro _)) | apply JS_seq | apply JS_region)
  refine JS_block ?_
  refine JS_loop3 (fun (i : Nat) (p : Option Addr) (c : Nat) => [(0, .pointer (some ⟨b, 0, none⟩)), (1, .int .u64 n), (7, .int .i64 s), (8, .int .i64 i)]) (fun i p c => WRt b p c (B ++ lowB i n) H) (fun i _ _ => i ≤ s) (fun i _ _ => s - i) 0 p c (Nat.zero_le _) (by repeat (first | exact trivial | refine ⟨rfl, ?_⟩ | refine ⟨lookI rfl (by omega), ?_⟩)) (fun w hw => by rw [show B ++ lowB 0 n = B from List.append_nil B]; exact hw) ?_
  intro i p c hi again
  by_cases his : i < s
  · have eX : B ++ lowB (i + 1) n = (B ++ lowB i n) ++ [lowF n i] := by unfold lowB; rw [tab_succ, List.append_assoc]
    have hl : (B ++ lowB i n).length ≤ 1000000008 := by rw [List.length_append]; unfold lowB; rw [tab_len]; omega
    have ej : min (8 * (i : Int)).toNat IntKind.u64.bits = 8 * i := by
      rw [show IntKind.u64.bits = 64 from rfl]; omega
    have ec := pow256 n i
    have again' := again (i + 1)
    clear again
    rw [eX] at again'
    have ef : n / 256 ^ i % 256 = lowF n i := rfl
    generalize B ++ lowB i n = X at *
    generalize lowF n i = z at *
    have c8 : IntKind.u8.wrap (n / 256 ^ i) = z := by rw [mu8]; exact ef
    repeat (first | (apply gQO; first | refine QO_v rfl (V_shr rfl rfl (by omega) ej ec rfl) ?_ | refine QO_v rfl (V_conv (tb := tb) rfl rfl rfl c8 rfl) ?_ | (refine QO_e (E_buildSlice (tb := tb) rfl rfl rfl rfl rfl rfl rfl rfl rfl) rfl (.inr fun _ _ hw => dS hw) ?_; intro _) | (refine QO_e (E_appendB (tb := tb) rfl rfl rfl rfl rfl rfl (by repeat (first | exact Sel.here _ _ | apply Sel.there)) (by first | exact vec_rd (by repeat (first | apply List.Mem.head | apply List.Mem.tail)) | assumption | exact ArgRd.rd (by assumption) _ | (apply Rd_weak; assumption; intro _ hx; exact dS hx)) (by simp only [ints_len, List.length_cons, List.length_nil]; first | omega | rfl) (by first | exact ints_one | (repeat (first | exact trivial | refine ⟨rfl, ?_⟩))) (by omega) (by omega) rfl) rfl (.inr fun _ _ hw => vecB_back (by repeat (first | exact Sel.here _ _ | apply Sel.there)) hw) ?_; intro _)) | first | (refine sx ?_; try intro _))
    exact JS_weak (again' _ _ (by omega) (by omega)) (by repeat (first | exact trivial | refine ⟨rfl, ?_⟩ | refine ⟨lookI rfl (by omega), ?_⟩)) (fun w hw => WR_app (dS (vecB_fwd (Sel.there _ _ _ _ (Sel.there _ _ _ _ (Sel.here _ _))) hw)))
  · obtain rfl : i = s := by omega
    repeat (first | (refine sx ?_; try intro _))
    exact JS_fin Tryz.func193 rfl rfl fun w hw => ⟨rfl, p, c, hw⟩
set_option maxRecDepth 10000 in
set_option maxHeartbeats 2000000 in
theorem WHigh_c (s : Nat) (hs : s ≤ 8) (b : Nat) (p : Option Addr) (c : Nat) (B : List Int) (hB : B.length ≤ 1000000000) (n : Int) (hn : 0 ≤ n ∧ n < 18446744073709551616) (w : World) (hw : St w0 (WRt b p c B H) w) :
    Calls Tryz.prog 195 #[.pointer (some ⟨b, 0, none⟩), .int .u64 n, .int .i64 s] w fun e w' => e = .returned (.tuple #[]) ∧ ∃ p c, St w0 (WRt b p c (B ++ hiB s n) H) w' := by
  refine enter (vs := [.pointer (some ⟨b, 0, none⟩), .int .u64 n, .int .i64 s]) Tryz.func195 rfl rfl rfl hw ?_
  clear hw w
  repeat (first | (apply gJR; first | (refine sx ?_; try intro _)) | (apply gJO; first | (refine sx ?_; try intro _)) | apply JS_seq | apply JS_region)
  refine JS_block ?_
  refine JS_loop3 (fun (i : Nat) (p : Option Addr) (c : Nat) => [(0, .pointer (some ⟨b, 0, none⟩)), (1, .int .u64 n), (6, .int .i64 ((s : Int) - 1 - i))]) (fun i p c => WRt b p c (B ++ tab i fun i => lowF n (s - 1 - i)) H) (fun i _ _ => i ≤ s) (fun i _ _ => s - i) 0 p c (Nat.zero_le _) (by exact ⟨rfl, rfl, lookI rfl (by omega), trivial⟩) (fun w hw => by rw [show (B ++ tab 0 fun i => lowF n (s - 1 - i)) = B from List.append_nil B]; exact hw) ?_
  intro i p c hi again
  by_cases his : i < s
  · have eX : (B ++ tab (i + 1) fun i => lowF n (s - 1 - i)) = (B ++ tab i fun i => lowF n (s - 1 - i)) ++ [lowF n (s - 1 - i)] := by rw [tab_succ, List.append_assoc]
    have hl : (B ++ tab i fun i => lowF n (s - 1 - i)).length ≤ 1000000008 := by rw [List.length_append, tab_len]; omega
    have ej : min (8 * ((s : Int) - 1 - i)).toNat IntKind.u64.bits = 8 * (s - 1 - i) := by
      rw [show IntKind.u64.bits = 64 from rfl]; omega
    have ec := pow256 n (s - 1 - i)
    have again' := again (i + 1)
    clear again
    rw [eX] at again'
    have ef : n / 256 ^ (s - 1 - i) % 256 = lowF n (s - 1 - i) := rfl
    generalize (B ++ tab i fun i => lowF n (s - 1 - i)) = X at *
    generalize lowF n (s - 1 - i) = z at *
    have c8 : IntKind.u8.wrap (n / 256 ^ (s - 1 - i)) = z := by rw [mu8]; exact ef
    have hge : (0 : Int) ≤ (s : Int) - 1 - i := by omega
    repeat (first | (apply gQO; first | refine QO_v rfl (V_shr rfl rfl (by omega) ej ec rfl) ?_ | refine QO_v rfl (V_conv (tb := tb) rfl rfl rfl c8 rfl) ?_ | (refine QO_e (E_buildSlice (tb := tb) rfl rfl rfl rfl rfl rfl rfl rfl rfl) rfl (.inr fun _ _ hw => dS hw) ?_; intro _) | (refine QO_e (E_appendB (tb := tb) rfl rfl rfl rfl rfl rfl (by repeat (first | exact Sel.here _ _ | apply Sel.there)) (by first | exact vec_rd (by repeat (first | apply List.Mem.head | apply List.Mem.tail)) | assumption | exact ArgRd.rd (by assumption) _ | (apply Rd_weak; assumption; intro _ hx; exact dS hx)) (by simp only [ints_len, List.length_cons, List.length_nil]; first | omega | rfl) (by first | exact ints_one | (repeat (first | exact trivial | refine ⟨rfl, ?_⟩))) (by omega) (by omega) rfl) rfl (.inr fun _ _ hw => vecB_back (by repeat (first | exact Sel.here _ _ | apply Sel.there)) hw) ?_; intro _)) | first | (refine sx ?_; try intro _))
    exact JS_weak (again' _ _ (by omega) (by omega)) (by exact ⟨rfl, rfl, lookI rfl (by omega), trivial⟩) (fun w hw => WR_app (dS (vecB_fwd (Sel.there _ _ _ _ (Sel.there _ _ _ _ (Sel.here _ _))) hw)))
  · obtain rfl : i = s := by omega
    repeat (first | (refine sx ?_; try intro _))
    exact JS_fin Tryz.func195 rfl rfl fun w hw => ⟨rfl, p, c, hw⟩
set_option maxRecDepth 100000 in
theorem or128 {a : Int} : IntKind.u8.wrap ((BitVec.ofInt IntKind.u8.bits (a % 256) ||| BitVec.ofInt IntKind.u8.bits 128).toNat) = a % 128 + 128 := by
  have h : ∀ b : Fin 256, b.val ||| 128 = b.val % 128 + 128 := by decide
  have h1 := or_nat .u8 (a := a % 256) (b := 128) (by rw [show IntKind.u8.bits = 8 from rfl]; omega) (by decide)
  rw [h1]
  have h2 := h ⟨(a % 256).toNat, by omega⟩
  simp only [] at h2
  rw [show ((128 : Int).toNat) = 128 from rfl, h2, mu8]
  omega
/-- seven bits at a time: one step -/
theorem varB_step {f : Nat} {m : Int} (h : ¬ m ≤ 127) : varB (f + 1) m = (m % 128 + 128) :: varB f (m / 128) := by
  show (if m ≤ 127 then [m] else _) = _
  rw [if_neg h]
theorem varB_last {f : Nat} {m : Int} (h : m ≤ 127) : varB f m = [m] := by
  cases f with
  | zero => rfl
  | succ f => show (if m ≤ 127 then [m] else _) = _; rw [if_pos h]
set_option maxRecDepth 10000 in
set_option maxHeartbeats 2000000 in
theorem WLeb_c (b : Nat) (p : Option Addr) (c : Nat) (B : List Int) (hB : B.length ≤ 1000000000) (n : Int) (hn : 0 ≤ n ∧ n < 18446744073709551616) (s : Int) (w : World) (hw : St w0 (WRt b p c B H) w) :
    Calls Tryz.prog 197 #[.pointer (some ⟨b, 0, none⟩), .int .u64 n, .int .i64 s] w fun e w' => e = .returned (.tuple #[]) ∧ ∃ p c, St w0 (WRt b p c (B ++ varB 9 n) H) w' := by
  refine enter (vs := [.pointer (some ⟨b, 0, none⟩), .int .u64 n, .int .i64 s]) Tryz.func197 rfl rfl rfl hw ?_
  clear hw w
  repeat (first | (apply gJR; first | (refine sx ?_; try intro _)) | (apply gJO; first | (refine sx ?_; try intro _)) | apply JS_seq | apply JS_region)
  refine JS_block ?_
  refine JS_loop5 (fun (f : Nat) (m : Int) (X : List Int) (p : Option Addr) (c : Nat) => [(0, .pointer (some ⟨b, 0, none⟩)), (1, .int .u64 m)]) (fun f m X p c => WRt b p c X H) (fun f m X _ _ => X ++ varB f m = B ++ varB 9 n ∧ f ≤ 9 ∧ X.length + f = B.length + 9 ∧ 0 ≤ m ∧ m < 18446744073709551616 ∧ m < 2 * 128 ^ f) (fun f _ _ _ _ => f) 9 n B p c ⟨rfl, by omega, rfl, hn.1, hn.2, Int.lt_of_lt_of_le hn.2 (by decide)⟩ (by repeat (first | exact trivial | refine ⟨rfl, ?_⟩ | refine ⟨lookI rfl (by omega), ?_⟩)) (fun w hw => hw) ?_
  intro f m X p c ⟨he, hf, hl, hm0, hm1, hm2⟩ again
  by_cases h7 : m ≤ 127
  · rw [varB_last h7] at he
    have c8 : IntKind.u8.wrap m = m := wu8 (by omega)
    repeat (first | (apply gJO; first | refine JO_v (V_conv (tb := tb) rfl rfl rfl c8 rfl) ?_ | (refine JO_app (tb := tb) rfl rfl rfl rfl rfl rfl (by repeat (first | exact Sel.here _ _ | apply Sel.there)) (by first | exact vec_rd (by repeat (first | apply List.Mem.head | apply List.Mem.tail)) | assumption | exact ArgRd.rd (by assumption) _ | (apply Rd_weak; assumption; intro _ hx; exact dS hx)) (by simp only [ints_len, List.length_cons, List.length_nil]; first | omega | rfl) (by first | exact ints_one | (repeat (first | exact trivial | refine ⟨rfl, ?_⟩))) (by omega) rfl ?_; intro _ _)) | first | (refine sx ?_; try intro _))
    refine JS_fin Tryz.func197 rfl rfl fun w hw => ⟨rfl, ?_⟩
    rw [← he]
    exact ⟨_, _, WR_app (dS hw)⟩
  · have h127 : 127 < m := by omega
    cases f with
    | zero => exfalso; simp at hm2; omega
    | succ f =>
      have hst := varB_step (f := f) h7
      have c8 : IntKind.u8.wrap m = m % 256 := mu8 m
      repeat (first | (apply gJO; first | refine JO_v (V_conv (tb := tb) rfl rfl rfl c8 rfl) ?_ | refine JO_v (V_or rfl rfl or128 rfl) ?_ | (refine JO_app (tb := tb) rfl rfl rfl rfl rfl rfl (by repeat (first | exact Sel.here _ _ | apply Sel.there)) (by first | exact vec_rd (by repeat (first | apply List.Mem.head | apply List.Mem.tail)) | assumption | exact ArgRd.rd (by assumption) _ | (apply Rd_weak; assumption; intro _ hx; exact dS hx)) (by simp only [ints_len, List.length_cons, List.length_nil]; first | omega | rfl) (by first | exact ints_one | (repeat (first | exact trivial | refine ⟨rfl, ?_⟩))) (by omega) rfl ?_; intro _ _)) | first | (refine sx ?_; try intro _))
      refine JS_weak (again f (m / 128) (X ++ [m % 128 + 128]) _ _ ⟨?_, by omega, by rw [List.length_append, List.length_singleton]; omega, by omega, by omega, ?_⟩ (by omega)) (by repeat (first | exact trivial | refine ⟨rfl, ?_⟩ | refine ⟨lookI rfl (by omega), ?_⟩)) (fun w hw => WR_app (dS hw))
      · rw [← he, hst, List.append_assoc]; rfl
      · rw [Int.pow_succ] at hm2
        generalize (128 : Int) ^ f = z at *
        omega
/-- a number with a sign, as one without -/
theorem xor_ones {a : Int} (h : 0 ≤ a ∧ a < 18446744073709551616) : IntKind.u64.wrap ((BitVec.ofInt IntKind.u64.bits a ^^^ BitVec.ofInt IntKind.u64.bits 18446744073709551615).toNat) = 18446744073709551615 - a := by
  have e : BitVec.ofInt 64 18446744073709551615 = BitVec.allOnes 64 := by rfl
  have key : ((BitVec.ofInt 64 a ^^^ BitVec.ofInt 64 18446744073709551615).toNat : Int) = 18446744073709551615 - a := by
    rw [e, BitVec.xor_allOnes, BitVec.toNat_not, BitVec.toNat_ofInt]; omega
  show IntKind.u64.wrap ((BitVec.ofInt 64 a ^^^ BitVec.ofInt 64 18446744073709551615).toNat : Int) = _
  rw [key, mu64]; omega
theorem xor_zero64 {a : Int} (h : 0 ≤ a ∧ a < 18446744073709551616) : IntKind.u64.wrap ((BitVec.ofInt IntKind.u64.bits a ^^^ BitVec.ofInt IntKind.u64.bits 0).toNat) = a := by
  have h1 := xor_nat .u64 (a := a) (b := 0) (by rw [show IntKind.u64.bits = 64 from rfl]; omega) (by decide)
  rw [h1, show (0 : Int).toNat = 0 from rfl, Nat.xor_zero, mu64]; omega
/-- what a number without a sign means with one -/
def i64v (a : Int) : Int := if a < 9223372036854775808 then a else a - 18446744073709551616
theorem i64v_wrap {a : Int} (h : 0 ≤ a ∧ a < 18446744073709551616) : IntKind.i64.wrap a = i64v a := by rw [mi64]; unfold i64v; split <;> omega
set_option maxRecDepth 10000 in
theorem Sign_c (a : Int) (ha : 0 ≤ a ∧ a < 18446744073709551616) (w : World) (hw : St w0 H w) :
    Calls Tryz.prog 227 #[.int .i64 (i64v a)] w fun e w' => e = .returned (.int .u64 (sgn a)) ∧ St w0 H w' := by
  refine enter (vs := [.int .i64 (i64v a)]) Tryz.func227 rfl rfl rfl hw ?_
  clear hw w
  unfold i64v sgn
  by_cases h : a < 9223372036854775808
  · rw [if_pos h, if_pos h]
    have c1 : IntKind.u64.wrap a = a := wu64 (by omega)
    have c2 : IntKind.u64.wrap (a * 2 ^ 1) = 2 * a := (wu64 (by omega)).trans (by omega)
    have c3 : a / 2 ^ 63 = 0 := by omega
    repeat (first | (apply gJO; first | refine JO_v (V_conv (tb := tb) rfl rfl rfl c1 rfl) ?_ | refine JO_v (V_shl (m := 1) rfl rfl (by decide) rfl c2 rfl) ?_ | refine JO_v (V_shr (m := 63) rfl rfl (by decide) rfl c3 rfl) ?_ | refine JO_v (V_xor rfl rfl (xor_zero64 (by omega)) rfl) ?_) | first | (refine sx ?_; try intro _))
    exact JS_ret Tryz.func227 rfl rfl fun w hw => ⟨rfl, hw⟩
  · rw [if_neg h, if_neg h]
    have c1 : IntKind.u64.wrap (a - 18446744073709551616) = a := by rw [mu64]; omega
    have c2 : IntKind.u64.wrap (a * 2 ^ 1) = 2 * a - 18446744073709551616 := by rw [mu64]; omega
    have c3 : (a - 18446744073709551616) / 2 ^ 63 = -1 := by omega
    have c4 : IntKind.u64.wrap (-1) = 18446744073709551615 := by decide
    have c5 := xor_ones (a := 2 * a - 18446744073709551616) (by omega)
    rw [show 18446744073709551615 - (2 * a - 18446744073709551616) = 36893488147419103231 - 2 * a by omega] at c5
    repeat (first | (apply gJO; first | refine JO_v (V_conv (tb := tb) rfl rfl rfl c1 rfl) ?_ | refine JO_v (V_conv (tb := tb) rfl rfl rfl c4 rfl) ?_ | refine JO_v (V_shl (m := 1) rfl rfl (by decide) rfl c2 rfl) ?_ | refine JO_v (V_shr (m := 63) rfl rfl (by decide) rfl c3 rfl) ?_ | refine JO_v (V_xor rfl rfl c5 rfl) ?_) | first | (refine sx ?_; try intro _))
    exact JS_ret Tryz.func227 rfl rfl fun w hw => ⟨rfl, hw⟩
set_option maxRecDepth 10000 in
set_option maxHeartbeats 2000000 in
theorem WNine_c (b : Nat) (p : Option Addr) (c : Nat) (B : List Int) (hB : B.length ≤ 1000000000) (n : Int) (hn : 0 ≤ n ∧ n < 18446744073709551616) (s : Int) (w : World) (hw : St w0 (WRt b p c B H) w) :
    Calls Tryz.prog 201 #[.pointer (some ⟨b, 0, none⟩), .int .u64 n, .int .i64 s] w fun e w' => e = .returned (.tuple #[]) ∧ ∃ p c, St w0 (WRt b p c (B ++ varB 8 (sgn n)) H) w' := by
  have c1 := i64v_wrap hn
  have hs := sgn_bd hn
  refine enter (vs := [.pointer (some ⟨b, 0, none⟩), .int .u64 n, .int .i64 s]) Tryz.func201 rfl rfl rfl hw ?_
  clear hw w
  repeat (first | (apply gJO; first | refine JO_v (V_conv (tb := tb) rfl rfl rfl c1 rfl) ?_) | first | (refine sx ?_; try intro _))
  refine JO_call Tryz.call227 rfl rfl fun w hw => (Sign_c n hn w hw).mono ?_
  rintro e w' ⟨rfl, hw'⟩
  (refine ⟨_, rfl, _, hw', ?_⟩; clear hw' hw w w')
  generalize sgn n = n0 at *
  repeat (first | (apply gJR; first | (refine sx ?_; try intro _)) | (apply gJO; first | (refine sx ?_; try intro _)) | apply JS_seq | apply JS_region)
  refine JS_block ?_
  refine JS_loop5 (fun (i : Nat) (m : Int) (X : List Int) (p : Option Addr) (c : Nat) => [(0, .pointer (some ⟨b, 0, none⟩)), (1, .int .u64 m), (9, .int .i64 i)]) (fun f m X p c => WRt b p c X H) (fun i m X _ _ => X ++ varB (8 - i) m = B ++ varB 8 n0 ∧ i ≤ 8 ∧ X.length = B.length + i ∧ 0 ≤ m ∧ m < 18446744073709551616 ∧ m < 256 * 128 ^ (8 - i)) (fun i _ _ _ _ => 8 - i) 0 n0 B p c ⟨rfl, by omega, rfl, hs.1, hs.2, Int.lt_of_lt_of_le hs.2 (by decide)⟩ (by repeat (first | exact trivial | refine ⟨rfl, ?_⟩ | refine ⟨lookI rfl (by omega), ?_⟩)) (fun w hw => hw) ?_
  intro i m X p c ⟨he, hf, hl, hm0, hm1, hm2⟩ again
  by_cases hi8 : i < 8
  · obtain ⟨f, hf8⟩ : ∃ f, 8 - i = f + 1 := ⟨7 - i, by omega⟩
    rw [hf8] at he hm2
    by_cases h7 : m ≤ 127
    · rw [varB_last h7] at he
      have c8 : IntKind.u8.wrap m = m := wu8 (by omega)
      repeat (first | (apply gJO; first | refine JO_v (V_conv (tb := tb) rfl rfl rfl c8 rfl) ?_ | (refine JO_app (tb := tb) rfl rfl rfl rfl rfl rfl (by repeat (first | exact Sel.here _ _ | apply Sel.there)) (by first | exact vec_rd (by repeat (first | apply List.Mem.head | apply List.Mem.tail)) | assumption | exact ArgRd.rd (by assumption) _ | (apply Rd_weak; assumption; intro _ hx; exact dS hx)) (by simp only [ints_len, List.length_cons, List.length_nil]; first | omega | rfl) (by first | exact ints_one | (repeat (first | exact trivial | refine ⟨rfl, ?_⟩))) (by omega) rfl ?_; intro _ _)) | first | (refine sx ?_; try intro _))
      refine JS_ret Tryz.func201 rfl rfl fun w hw => ⟨rfl, ?_⟩
      rw [← he]
      exact ⟨_, _, WR_app (dS hw)⟩
    · have h127 : 127 < m := by omega
      have hst := varB_step (f := f) h7
      have c8 : IntKind.u8.wrap m = m % 256 := mu8 m
      repeat (first | (apply gJO; first | refine JO_v (V_conv (tb := tb) rfl rfl rfl c8 rfl) ?_ | refine JO_v (V_or rfl rfl or128 rfl) ?_ | (refine JO_app (tb := tb) rfl rfl rfl rfl rfl rfl (by repeat (first | exact Sel.here _ _ | apply Sel.there)) (by first | exact vec_rd (by repeat (first | apply List.Mem.head | apply List.Mem.tail)) | assumption | exact ArgRd.rd (by assumption) _ | (apply Rd_weak; assumption; intro _ hx; exact dS hx)) (by simp only [ints_len, List.length_cons, List.length_nil]; first | omega | rfl) (by first | exact ints_one | (repeat (first | exact trivial | refine ⟨rfl, ?_⟩))) (by omega) rfl ?_; intro _ _)) | first | (refine sx ?_; try intro _))
      refine JS_weak (again (i + 1) (m / 128) (X ++ [m % 128 + 128]) _ _ ⟨?_, by omega, by rw [List.length_append, List.length_singleton]; omega, by omega, by omega, ?_⟩ (by omega)) (by repeat (first | exact trivial | refine ⟨rfl, ?_⟩ | refine ⟨lookI rfl (by omega), ?_⟩)) (fun w hw => WR_app (dS hw))
      · rw [← he, hst, List.append_assoc, show 8 - (i + 1) = f by omega]; rfl
      · rw [show 8 - (i + 1) = f by omega]
        rw [Int.pow_succ] at hm2
        generalize (128 : Int) ^ f = z at *
        omega
  · obtain rfl : i = 8 := by omega
    have hm : m < 256 := hm2
    have hv : varB (8 - 8) m = [m] := rfl
    rw [hv] at he
    have c8 : IntKind.u8.wrap m = m := wu8 (by omega)
    repeat (first | (apply gJO; first | refine JO_v (V_conv (tb := tb) rfl rfl rfl c8 rfl) ?_ | (refine JO_app (tb := tb) rfl rfl rfl rfl rfl rfl (by repeat (first | exact Sel.here _ _ | apply Sel.there)) (by first | exact vec_rd (by repeat (first | apply List.Mem.head | apply List.Mem.tail)) | assumption | exact ArgRd.rd (by assumption) _ | (apply Rd_weak; assumption; intro _ hx; exact dS hx)) (by simp only [ints_len, List.length_cons, List.length_nil]; first | omega | rfl) (by first | exact ints_one | (repeat (first | exact trivial | refine ⟨rfl, ?_⟩))) (by omega) rfl ?_; intro _ _)) | first | (refine sx ?_; try intro _))
    refine JS_fin Tryz.func201 rfl rfl fun w hw => ⟨rfl, ?_⟩
    rw [← he]
    exact ⟨_, _, WR_app (dS hw)⟩
end
end Go.Proofs.YteelffkghidpfaaGreat

namespace Go.Proofs.YteelffkghidpfaaGreat
open Sx Go
set_option linter.unusedVariables false
set_option linter.unusedSimpArgs false
abbrev putF (k : Nat) : Nat := fnOf (putA k)
abbrev getF (k : Nat) : Nat := fnOf (getA k)
set_option maxRecDepth 100000
theorem putA_eq (k : Nat) : putA k = .func (.func (putF k)) #[] #[] := by unfold putF putA; split <;> rfl
theorem getA_eq (k : Nat) : getA k = .func (.func (getF k)) #[] #[] := by unfold getF getA; split <;> rfl
theorem put_call (k : Nat) : ∀ args w, (callFunc (putF k) args).run Tryz.prog w = .ok (.enter (putF k) args) w := by
  unfold putF putA
  split
  all_goals first
    | exact Tryz.call193
    | exact Tryz.call195
    | exact Tryz.call197
    | exact Tryz.call199
    | exact Tryz.call201
theorem get_call (k : Nat) : ∀ args w, (callFunc (getF k) args).run Tryz.prog w = .ok (.enter (getF k) args) w := by
  unfold getF getA
  split
  all_goals first
    | exact Tryz.call194
    | exact Tryz.call196
    | exact Tryz.call198
    | exact Tryz.call200
    | exact Tryz.call202
section
variable {w0 : World} {H : List Asn}
set_option maxRecDepth 10000 in
theorem WZig_c (b : Nat) (p : Option Addr) (c : Nat) (B : List Int) (hB : B.length ≤ 1000000000) (n : Int) (hn : 0 ≤ n ∧ n < 18446744073709551616) (s : Int) (w : World) (hw : St w0 (WRt b p c B H) w) :
    Calls Tryz.prog 199 #[.pointer (some ⟨b, 0, none⟩), .int .u64 n, .int .i64 s] w fun e w' => e = .returned (.tuple #[]) ∧ ∃ p c, St w0 (WRt b p c (B ++ varB 9 (sgn n)) H) w' := by
  have c1 := i64v_wrap hn
  have hs := sgn_bd hn
  have hS := fun {H} w hw => Sign_c (w0 := w0) (H := H) n hn w hw
  refine enter (vs := [.pointer (some ⟨b, 0, none⟩), .int .u64 n, .int .i64 s]) Tryz.func199 rfl rfl rfl hw ?_
  clear hw w
  generalize sgn n = y at *
  repeat (first | (apply gJO; first | refine JO_v (V_conv (tb := tb) rfl rfl rfl c1 rfl) ?_) | first | (refine sx ?_; try intro _))
  refine JO_call Tryz.call227 rfl rfl fun w hw => (hS w hw).mono ?_
  rintro e w' ⟨rfl, hw'⟩
  (refine ⟨_, rfl, _, hw', ?_⟩; clear hw' hw w w')
  repeat (first | (refine sx ?_; try intro _))
  refine JO_call Tryz.call197 rfl rfl fun w hw => (WLeb_c b p c B hB y hs s w hw).mono ?_
  rintro e w' ⟨rfl, p', c', hw'⟩
  (refine ⟨_, rfl, _, hw', ?_⟩; clear hw' hw w w')
  repeat (first | (refine sx ?_; try intro _))
  exact JS_fin Tryz.func199 rfl rfl fun w hw => ⟨rfl, p', c', hw⟩
/-- a number by any letter -/
theorem WPut_c (k : Nat) (b : Nat) (p : Option Addr) (c : Nat) (B : List Int) (hB : B.length ≤ 1000000000) (n : Int) (hn : 0 ≤ n ∧ n < 18446744073709551616) (w : World) (hw : St w0 (WRt b p c B H) w) :
    Calls Tryz.prog (putF k) #[.pointer (some ⟨b, 0, none⟩), .int .u64 n, .int .i64 (szA k)] w fun e w' => e = .returned (.tuple #[]) ∧ ∃ p c, St w0 (WRt b p c (B ++ encN k n) H) w' := by
  match k with
  | 0 => exact WLow_c 1 (by decide) b p c B hB n hn w hw
  | 1 => exact WLow_c 2 (by decide) b p c B hB n hn w hw
  | 2 => exact WHigh_c 2 (by decide) b p c B hB n hn w hw
  | 3 => exact WLow_c 4 (by decide) b p c B hB n hn w hw
  | 4 => exact WHigh_c 4 (by decide) b p c B hB n hn w hw
  | 5 => exact WLow_c 8 (by decide) b p c B hB n hn w hw
  | 6 => exact WHigh_c 8 (by decide) b p c B hB n hn w hw
  | 7 => exact WLeb_c b p c B hB n hn _ w hw
  | 8 => exact WZig_c b p c B hB n hn _ w hw
  | j + 9 => exact WNine_c b p c B hB n hn _ w hw
end
/-- numbers by letters -/
def encs : List Nat → List Int → List Int
  | k :: ks, n :: L => encN k n ++ encs ks L
  | _, _ => []
theorem encs_len : ∀ (ks : List Nat) (L : List Int), (encs ks L).length ≤ 10 * ks.length
  | [], L => by simp [encs]
  | k :: ks, [] => by simp [encs]
  | k :: ks, n :: L => by
    have h1 := (encN_len k n).2
    have h2 := encs_len ks L
    rw [encs, List.length_append, List.length_cons]; omega
theorem encs_drop {ks : List Nat} {L : List Int} (h : L.length = ks.length) {i : Nat} (hi : i < L.length) : encs (ks.drop i) (L.drop i) = encN (ks.getD i 0) (L.getD i 0) ++ encs (ks.drop (i + 1)) (L.drop (i + 1)) := by
  rw [List.drop_eq_getElem_cons hi, List.drop_eq_getElem_cons (show i < ks.length by omega), encs, List.getD_eq_getElem?_getD, List.getElem?_eq_getElem (show i < ks.length by omega), List.getD_eq_getElem?_getD, List.getElem?_eq_getElem hi]; rfl
theorem encs_byt : ∀ (ks : List Nat) (L : List Int), (∀ x ∈ L, 0 ≤ x ∧ x < 18446744073709551616) → ∀ x ∈ encs ks L, 0 ≤ x ∧ x < 256
  | [], L, _, x, hx => by simp [encs] at hx
  | k :: ks, [], _, x, hx => by simp [encs] at hx
  | k :: ks, n :: L, h, x, hx => by
    rw [encs] at hx
    rcases List.mem_append.1 hx with hx | hx
    · exact encN_byt k (h n List.mem_cons_self) x hx
    · exact encs_byt ks L (fun y hy => h y (List.mem_cons_of_mem _ hy)) x hx
/-- a number that has room -/
def fitA (k : Nat) (n : Int) : Prop := szA k = 0 ∨ szA k = 8 ∨ (0 < szA k ∧ szA k < 8 ∧ n < 256 ^ (szA k).toNat)
theorem lts_map {ks : List Nat} (h : ∀ k ∈ ks, k < 10) : LTS (ks.map ltA) := fun j hj => by
  rw [List.length_map] at hj
  refine ⟨ks[j], h _ (List.getElem_mem _), ?_⟩
  rw [List.getD_eq_getElem?_getD, List.getElem?_map, List.getElem?_eq_getElem hj]; rfl
theorem map_lt {ks : List Nat} {j : Nat} (hj : j < ks.length) : (ks.map ltA).getD j 0 = ltA (ks.getD j 0) := by
  rw [List.getD_eq_getElem?_getD, List.getElem?_map, List.getElem?_eq_getElem hj, List.getD_eq_getElem?_getD, List.getElem?_eq_getElem hj]; rfl
section
variable {w0 : World} {H : List Asn}
set_option maxRecDepth 10000 in
set_option maxHeartbeats 4000000 in
theorem WirePut_c (ks : List Nat) (hk : ∀ k ∈ ks, k < 10) (hk64 : ks.length ≤ 64) (q : Option Addr) (d : Nat) (L : List Int) (hu : Rd w0 H (.slice q L.length d) L.length (ints .u64 L)) (hl : L.length = ks.length) (hL : ∀ j, 0 ≤ L.getD j 0 ∧ L.getD j 0 < 18446744073709551616) (hf : ∀ j, j < L.length → fitA (ks.getD j 0) (L.getD j 0)) (w : World) (hw : St w0 H w) :
    Calls Tryz.prog 65 #[.string (bstr (ks.map ltA)), .slice q L.length d] w fun e w' => ∃ p c, e = .returned (.tuple #[.slice p (encs ks L).length c, .int .i64 0]) ∧ St w0 (vec 5 1 (.slice p (encs ks L).length c) (encs ks L).length (ints .u8 (encs ks L)) :: H) w' := by
  have hsz : ((bstr (ks.map ltA)).size : Int) = L.length := by rw [bstr_size, List.length_map, hl]
  have hlts := lts_map hk
  have hR := fun {H} w hw => Right_c (w0 := w0) (H := H) (ks.map ltA) hlts (by rw [List.length_map]; exact hk64) w hw
  have hel := encs_len ks L
  refine enter (vs := [.string (bstr (ks.map ltA)), .slice q L.length d]) Tryz.func65 rfl rfl rfl hw ?_
  clear hw w
  repeat (first | (refine sx ?_; try intro _))
  refine JO_call Tryz.call104 rfl rfl fun w hw => (hR w hw).mono ?_
  rintro e w' ⟨rfl, hw'⟩
  (refine ⟨_, rfl, _, hw', ?_⟩; clear hw' hw w w')
  repeat (first | (apply gJR; first | (refine sx ?_; try intro _)) | (apply gJO; first | (refine sx ?_; try intro _)) | (apply gJS; refine JS_condF rfl ?_) | (apply gJS; refine JS_cond_F rfl (by omega) ?_) | apply JS_skip | apply JS_seq | apply JS_region)
  rename_i wb
  refine JS_block ?_
  refine JS_loop4 (fun (i : Nat) (X : List Int) (p : Option Addr) (c : Nat) => [(0, .string (bstr (ks.map ltA))), (1, .slice q L.length d), (6, .pointer (some ⟨wb, 0, none⟩)), (23, .slice q L.length d), (24, .int .i64 L.length), (25, .int .i64 i)]) (fun i X p c => WRt wb p c X H)
    (fun i X _ _ => i ≤ L.length ∧ X.length ≤ 10 * i ∧ X ++ encs (ks.drop i) (L.drop i) = encs ks L) (fun i _ _ _ => L.length - i) 0 [] none 0 ⟨Nat.zero_le _, Nat.zero_le _, rfl⟩ (by repeat (first | exact trivial | refine ⟨rfl, ?_⟩ | refine ⟨lookI rfl (by omega), ?_⟩)) (fun w hw => ?_) ?_
  · exact (St.nilvec (e := 5) (sz := 1) (base := none) hw).perm (List.Perm.swap _ _ _)
  intro i X p c ⟨hi, hX, he⟩ again
  by_cases hil : i < L.length
  · have hkk : ks.getD i 0 < 10 := by
      rw [List.getD_eq_getElem?_getD, List.getElem?_eq_getElem (show i < ks.length by omega)]; exact hk _ (List.getElem_mem _)
    have hlt := map_lt (ks := ks) (j := i) (by omega)
    have hn := hL i
    have hfi := hf i hil
    have hg := ints_get (K := .u64) hil
    rw [encs_drop hl hil, ← List.append_assoc] at he
    have hX2 := (encN_len (ks.getD i 0) (L.getD i 0)).2
    generalize ks.getD i 0 = k at *
    generalize L.getD i 0 = n at *
    have hall := fm_all k
    have hput := fun {H} p c B hB w hw => WPut_c (w0 := w0) (H := H) k wb p c B hB n hn w hw
    repeat (first | (apply gJO; first | refine JO_v (V_indexP (tb := tb) (B := ks.map ltA) (r := ltA k) rfl rfl rfl hlts.byt (by rw [List.length_map]; omega) (by rw [Int.toNat_natCast]; exact hlt) rfl) ?_ | refine JO_v (oIA (V_index (tb := tb) rfl rfl rfl rfl hu.sl (by omega) (by (try simp only [tn, tna, tn1, tn2, tn3, tn4, tnd16, tnd8, Int.reduceToNat]); first | exact Nat.mul_one _ | exact rfl) rfl)) ?_ | refine JO_v (oL (V_loadC (tb := tb) rfl (Rd_weak hu fun w hw => dS hw) rfl rfl hg rfl)) ?_) | first | (refine sx ?_; try intro _))
    refine JO_call Tryz.call105 rfl rfl fun w hw => (FormOf_c k hkk w hw).mono ?_
    rintro e w' ⟨rfl, hw'⟩
    (refine ⟨_, rfl, _, hw', ?_⟩; clear hw' hw w w')
    have hs8 := szA_bd k
    have hs0 : szA k = 0 ∨ szA k = 8 ∨ (0 < szA k ∧ szA k < 8 ∧ n < 256 ^ (szA k).toNat) := hfi
    have ec : 0 < szA k → szA k < 8 → n / 2 ^ (8 * (szA k).toNat) = 0 := fun h1 h2 => by
      rw [pow256]
      have h3 : n < 256 ^ (szA k).toNat := by omega
      exact Int.ediv_eq_zero_of_lt hn.1 h3
    have ej : min (8 * szA k).toNat IntKind.u64.bits = 8 * (szA k).toNat := by
      rw [show IntKind.u64.bits = 64 from rfl]; omega
    have hpk := congrArg some (putA_eq k)
    have hsk := put_call k
    clear hfi
    have hcase : (¬ 0 < szA k) ∨ (0 < szA k ∧ ¬ szA k < 8) ∨ (0 < szA k ∧ szA k < 8) := by omega
    rcases hcase with h0 | ⟨h0, h1⟩ | ⟨h0, h1⟩
    all_goals (
      first | have ec' := ec h0 h1 | have ec' := ej
      clear ec
      repeat (first | (apply gJO; first | refine JO_k (K_store (tb := tb) rfl rfl (by repeat (first | apply Upd.here | apply Upd.there)) rfl rfl rfl hall rfl rfl) ?_ | refine JO_v (V_shr rfl rfl (by omega) ej ec' rfl) ?_) | first | (refine sx ?_; try intro _))
      refine JO_callv (us := []) (cs := []) hpk hsk rfl rfl fun w hw => (hput p c X (by omega) w (dS hw)).mono ?_
      rintro e w' ⟨rfl, p', c', hw'⟩
      (refine ⟨_, rfl, _, hw', ?_⟩; clear hw' hw w w')
      repeat (first | (refine sx ?_; try intro _))
      exact JS_again4 again (i + 1) (X ++ encN k n) p' c' ⟨by omega, by rw [List.length_append]; omega, he⟩ (by omega) (by repeat (first | exact trivial | refine ⟨rfl, ?_⟩ | refine ⟨lookI rfl (by omega), ?_⟩)) (fun w hw => hw))
  · obtain rfl : i = L.length := by omega
    rw [List.drop_length, show encs (ks.drop L.length) [] = [] from by cases ks.drop L.length <;> rfl, List.append_nil] at he
    subst he
    repeat (first | (refine sx ?_; try intro _))
    exact JS_ret Tryz.func65 rfl rfl fun w hw => ⟨p, c, rfl, hw.drop⟩
end
end Go.Proofs.YteelffkghidpfaaGreat

namespace Go.Proofs.YteelffkghidpfaaGreat
open Sx Go
set_option linter.unusedVariables false
set_option linter.unusedSimpArgs false
/-- bytes -/
def OKB (B : List Int) : Prop := ∀ j, 0 ≤ B.getD j 0 ∧ B.getD j 0 < 256
theorem Big_c {w0 : World} {H : List Asn} (b : Int) (hb : 0 ≤ b ∧ b < 256) (w : World) (hw : St w0 H w) :
    Calls Tryz.prog 239 #[.int .u8 b] w fun e w' => e = .returned (.bool (decide (15 < b))) ∧ St w0 H w' := by
  refine enter (vs := [.int .u8 b]) Tryz.func239 rfl rfl rfl hw ?_
  repeat (first | (refine sy ?_; try intro _))
  refine JS_ret Tryz.func239 rfl rfl ?_
  intro w hw
  exact ⟨rfl, hw⟩
set_option maxHeartbeats 1000000 in
theorem Index_c {w0 : World} {H : List Asn} (p : Option Addr) (c m : Nat) (B : List Int) (hr : Rd w0 H (.slice p m c) m (ints .u8 B)) (hm : B.length = m) (hB : OKB B) (hm1 : m ≤ 4611686018427387904) (w : World) (hw : St w0 H w) :
    Calls Tryz.prog 251 #[.slice p m c, .func (.func 239) #[] #[]] w fun e w' => ∃ r, e = .returned (.int .i64 r) ∧ St w0 H w' ∧ ((r = -1 ∧ ∀ j, B.getD j 0 ≤ 15) ∨ (0 ≤ r ∧ ∃ j, 15 < B.getD j 0)) := by
  refine enter (vs := [.slice p m c, .func (.func 239) #[] #[]]) Tryz.func251 rfl rfl rfl hw ?_
  repeat (first | (apply gJR; first | (refine sx ?_; try intro _)) | (apply gJO; first | (refine sx ?_; try intro _)) | apply JS_seq | apply JS_region)
  refine JS_block ?_
  refine JS_loop1 (fun (i : Nat) => [(0, .slice p m c), (1, .func (.func 239) #[] #[]), (7, .int .i64 m), (8, .int .i64 i)]) (fun _ => H) (fun i => i ≤ m ∧ ∀ j, j < i → B.getD j 0 ≤ 15) (fun i => m - i) 0 ⟨by omega, fun j h => by omega⟩ (by repeat (first | exact trivial | refine ⟨rfl, ?_⟩ | refine ⟨lookI rfl (by omega), ?_⟩)) (fun _ h => h) ?_
  intro i ⟨hi, hall⟩ again
  by_cases him : i < m
  · have hb := hB i
    repeat (first | (refine sx ?_; try intro _))
    refine JO_callv (us := []) (cs := []) rfl Tryz.call239 rfl rfl fun w hw => (Big_c (B.getD i 0) hb w hw).mono ?_
    rintro e w' ⟨rfl, hw'⟩
    refine ⟨_, rfl, _, hw', ?_⟩
    clear hw' hw w w'
    by_cases h15 : 15 < B.getD i 0
    · rw [decide_eq_true h15]
      repeat (first | (refine sx ?_; try intro _))
      refine JS_ret Tryz.func251 rfl rfl ?_
      intro w hw
      exact ⟨_, rfl, hw, .inr ⟨by omega, i, h15⟩⟩
    · rw [decide_eq_false h15]
      repeat (first | (refine sx ?_; try intro _))
      exact JS_again1 again (i + 1) ⟨by omega, fun j hj => by
        rcases Nat.lt_or_ge j i with h | h
        · exact hall j h
        · obtain rfl : j = i := by omega
          omega⟩ (by omega) (by repeat (first | exact trivial | refine ⟨rfl, ?_⟩ | refine ⟨lookI rfl (by omega), ?_⟩)) (fun _ h => h)
  · repeat (first | (refine sx ?_; try intro _))
    refine JS_ret Tryz.func251 rfl rfl ?_
    intro w hw
    refine ⟨_, rfl, hw, .inl ⟨rfl, fun j => ?_⟩⟩
    rcases Nat.lt_or_ge j i with h | h
    · exact hall j h
    · rw [List.getD_eq_getElem?_getD, List.getElem?_eq_none (by omega)]; decide
set_option maxHeartbeats 1000000 in
theorem Contains_c {w0 : World} {H : List Asn} (p : Option Addr) (c m : Nat) (B : List Int) (hr : Rd w0 H (.slice p m c) m (ints .u8 B)) (hm : B.length = m) (hB : OKB B) (hm1 : m ≤ 4611686018427387904) (w : World) (hw : St w0 H w) :
    Calls Tryz.prog 238 #[.slice p m c, .func (.func 239) #[] #[]] w fun e w' => ∃ o, e = .returned (.bool o) ∧ St w0 H w' ∧ ((o = false ∧ ∀ j, B.getD j 0 ≤ 15) ∨ (o = true ∧ ∃ j, 15 < B.getD j 0)) := by
  refine enter (vs := [.slice p m c, .func (.func 239) #[] #[]]) Tryz.func238 rfl rfl rfl hw ?_
  repeat (first | (refine sx ?_; try intro _))
  refine JO_call Tryz.call251 rfl rfl fun w hw => (Index_c p c m B hr hm hB hm1 w hw).mono ?_
  rintro e w' ⟨r, rfl, hw', h⟩
  refine ⟨_, rfl, _, hw', ?_⟩
  clear hw' hw w w'
  rcases h with ⟨rfl, h⟩ | ⟨h0, h⟩
  · repeat (first | (refine sx ?_; try intro _))
    refine JS_ret Tryz.func238 rfl rfl ?_
    intro w hw
    exact ⟨_, rfl, hw, .inl ⟨rfl, h⟩⟩
  · repeat (first | (refine sx ?_; try intro _))
    refine JS_ret Tryz.func238 rfl rfl ?_
    intro w hw
    exact ⟨_, rfl, hw, .inr ⟨rfl, h⟩⟩
end Go.Proofs.YteelffkghidpfaaGreat

namespace Go.Proofs.YteelffkghidpfaaGreat
open Sx Go
set_option linter.unusedVariables false
set_option linter.unusedSimpArgs false
set_option maxHeartbeats 1000000 in
/-- a slice, cloned: not the same memory -/
theorem Clone_c {w0 : World} {H : List Asn} (p : Option Addr) (c m : Nat) (B : List Int) (hr : Rd w0 H (.slice p m c) m (ints .u8 B)) (hm : B.length = m) (hB : OKB B) (hm1 : m ≤ 140737488355328) (hpm : p = none → m = 0) (w : World) (hw : St w0 H w) :
    Calls Tryz.prog 128 #[.slice p m c] w fun e w' => ∃ q d, e = .returned (.slice q m d) ∧ St w0 (vec 5 1 (.slice q m d) m (ints .u8 B) :: H) w' := by
  refine enter (vs := [.slice p m c]) Tryz.func128 rfl rfl rfl hw ?_
  repeat (first | (apply gJO; refine JO_v (V_eqNil (tb := tb) rfl rfl rfl rfl) ?_) | (apply gJR; first | (refine sx ?_; try intro _)) | (apply gJO; first | (refine sx ?_; try intro _)) | apply JS_seq | apply JS_region)
  cases p with
  | none =>
    obtain rfl : m = 0 := hpm rfl
    obtain rfl : B = [] := List.eq_nil_of_length_eq_zero hm
    repeat (first | (refine sx ?_; try intro _))
    refine JS_ret Tryz.func128 rfl rfl ?_
    intro w hw
    exact ⟨none, 0, rfl, St.nilvec hw⟩
  | some a =>
    repeat (first | (refine sx ?_; try intro _))
    refine JO_app (tb := tb) rfl rfl rfl rfl rfl rfl (by repeat (first | exact Sel.here _ _ | apply Sel.there)) (Rd_weak hr fun w hw => dS hw) (by rw [ints_len]; omega) (by first | exact ints_one | (repeat (first | exact trivial | refine ⟨rfl, ?_⟩))) (by omega) rfl ?_
    intro q d
    repeat (first | (refine sx ?_; try intro _))
    refine JS_ret Tryz.func128 rfl rfl ?_
    intro w hw
    rw [Nat.zero_add] at hw
    exact ⟨q, d, by rw [Nat.zero_add]; rfl, hw⟩
end Go.Proofs.YteelffkghidpfaaGreat

namespace Go.Proofs.YteelffkghidpfaaGreat
open Sx Go
set_option linter.unusedVariables false
set_option linter.unusedSimpArgs false
/-! ## numbers read of bytes (plain): the number, how many bytes, the error -/
def lowN : List Int → Int
  | [] => 0
  | x :: r => x + 256 * lowN r
def hiN (L : List Int) : Int := L.foldl (fun a x => a * 256 + x) 0
def dFix (hi : Bool) (s : Nat) (R : List Int) : Int × Nat × Int :=
  if R.length < s then (0, 0, 20) else (if hi then hiN (R.take s) else lowN (R.take s), s, 0)
def dLeb : Nat → Int → List Int → Int × Nat × Int
  | _, _, [] => (0, 0, 20)
  | i, a, x :: r => if i = 9 ∧ 1 < x then (0, 0, 21) else
      if 127 < x then dLeb (i + 1) (a + x % 128 * 128 ^ i) r else if x = 0 ∧ 0 < i then (0, 0, 21) else (a + x % 128 * 128 ^ i, i + 1, 0)
def dNine : Nat → Int → List Int → Int × Nat × Int
  | _, _, [] => (0, 0, 20)
  | i, a, x :: r =>
      if i < 8 ∧ 127 < x then dNine (i + 1) (a + x % 128 * 128 ^ i) r else if x = 0 ∧ 0 < i then (0, 0, 21) else
        (uns (if i = 8 then a + x * 128 ^ i else a + x % 128 * 128 ^ i), i + 1, 0)
/-- by a letter -/
def dec : Nat → List Int → Int × Nat × Int
  | 0, R => dFix false 1 R
  | 1, R => dFix false 2 R
  | 2, R => dFix true 2 R
  | 3, R => dFix false 4 R
  | 4, R => dFix true 4 R
  | 5, R => dFix false 8 R
  | 6, R => dFix true 8 R
  | 7, R => dLeb 0 0 R
  | 8, R => (uns (dLeb 0 0 R).1, (dLeb 0 0 R).2.1, (dLeb 0 0 R).2.2)
  | _, R => dNine 0 0 R
theorem lowN_app (x : Int) : ∀ A : List Int, lowN (A ++ [x]) = lowN A + x * 256 ^ A.length
  | [] => by simp [lowN]
  | y :: A => by
    rw [List.cons_append, lowN, lowN, lowN_app x A, List.length_cons, Int.pow_succ, Int.mul_add]
    have : 256 * (x * 256 ^ A.length) = x * (256 ^ A.length * 256) := by rw [← Int.mul_assoc, Int.mul_comm 256 x, Int.mul_assoc, Int.mul_comm 256]
    rw [this]; omega
theorem lowN_bd : ∀ A : List Int, (∀ x ∈ A, 0 ≤ x ∧ x < 256) → 0 ≤ lowN A ∧ lowN A < 256 ^ A.length
  | [], _ => by simp [lowN]
  | y :: A, h => by
    have h1 := lowN_bd A fun x hx => h x (List.mem_cons_of_mem _ hx)
    have h2 := h y List.mem_cons_self
    rw [lowN, List.length_cons, Int.pow_succ]
    generalize (256 : Int) ^ A.length = z at *
    omega
theorem hiN_app (x : Int) (A : List Int) : hiN (A ++ [x]) = hiN A * 256 + x := by unfold hiN; rw [List.foldl_append]; rfl
theorem snoc_in2 {α : Type} {p : List α → Prop} (h0 : p []) (h1 : ∀ A x, p A → p (A ++ [x])) : ∀ A, p A := fun A => by
  have : ∀ n, ∀ A : List α, A.length = n → p A := by
    intro n
    induction n with
    | zero => intro A h; rw [List.eq_nil_of_length_eq_zero h]; exact h0
    | succ n ih =>
      intro A h
      have hne : A ≠ [] := fun h' => by rw [h'] at h; simp at h
      rw [← List.dropLast_concat_getLast hne]
      exact h1 _ _ (ih _ (by rw [List.length_dropLast]; omega))
  exact this _ A rfl
theorem hiN_bd (A : List Int) : (∀ x ∈ A, 0 ≤ x ∧ x < 256) → 0 ≤ hiN A ∧ hiN A < 256 ^ A.length := by
  refine snoc_in2 (p := fun A => (∀ x ∈ A, 0 ≤ x ∧ x < 256) → 0 ≤ hiN A ∧ hiN A < 256 ^ A.length) (fun _ => by decide) (fun A x ih h => ?_) A
  have h1 := ih fun y hy => h y (List.mem_append_left _ hy)
  have h2 := h x (List.mem_append_right _ List.mem_cons_self)
  rw [hiN_app, List.length_append, List.length_singleton, Int.pow_succ]
  generalize (256 : Int) ^ A.length = z at *
  omega
theorem takeB_step (B : List Int) (i : Nat) (h : i < B.length) : B.take (i + 1) = B.take i ++ [B.getD i 0] := by
  rw [List.take_succ_eq_append_getElem h, List.getD_eq_getElem?_getD, List.getElem?_eq_getElem h]; rfl
theorem dropB_step (B : List Int) (i : Nat) (h : i < B.length) : B.drop i = B.getD i 0 :: B.drop (i + 1) := by
  rw [List.drop_eq_getElem_cons h, List.getD_eq_getElem?_getD, List.getElem?_eq_getElem h]; rfl
theorem dropB_get (B : List Int) (a i : Nat) : (B.drop a).getD i 0 = B.getD (a + i) 0 := by
  rw [List.getD_eq_getElem?_getD, List.getElem?_drop, ← List.getD_eq_getElem?_getD]
theorem OKB.mem {B : List Int} (h : OKB B) : ∀ x ∈ B, 0 ≤ x ∧ x < 256 := fun x hx => by
  obtain ⟨i, hi, rfl⟩ := List.getElem_of_mem hx
  have := h i
  rw [List.getD_eq_getElem?_getD, List.getElem?_eq_getElem hi] at this
  exact this
theorem OKB.drop {B : List Int} (h : OKB B) (a : Nat) : OKB (B.drop a) := fun j => by rw [dropB_get]; exact h _
/-- bits that do not meet -/
theorem or_hi {a b : Int} (k : Nat) (ha : 0 ≤ a ∧ a < 2 ^ k) (hb : 0 ≤ b) (h : a + b * 2 ^ k < 18446744073709551616) :
    IntKind.u64.wrap ((BitVec.ofInt IntKind.u64.bits a ||| BitVec.ofInt IntKind.u64.bits (b * 2 ^ k)).toNat) = a + b * 2 ^ k := by
  obtain ⟨x, rfl⟩ := Int.eq_ofNat_of_zero_le ha.1
  obtain ⟨y, rfl⟩ := Int.eq_ofNat_of_zero_le hb
  have e : ((y : Int) * 2 ^ k) = ((2 ^ k * y : Nat) : Int) := by simp [Int.mul_comm]
  have hx : x < 2 ^ k := by have := ha.2; exact_mod_cast this
  rw [e] at h ⊢
  have h1 := or_nat .u64 (a := (x : Int)) (b := ((2 ^ k * y : Nat) : Int)) (by rw [show IntKind.u64.bits = 64 from rfl]; omega) (by rw [show IntKind.u64.bits = 64 from rfl]; omega)
  rw [h1, Int.toNat_natCast, Int.toNat_natCast, Nat.or_comm, ← Nat.two_pow_add_eq_or_of_lt hx, mu64]
  omega
theorem mask7_u8 {a : Int} (ha : 0 ≤ a ∧ a < 256) : IntKind.u8.wrap ((BitVec.ofInt IntKind.u8.bits a &&& BitVec.ofInt IntKind.u8.bits 127).toNat) = a % 128 := by
  obtain ⟨x, rfl⟩ := Int.eq_ofNat_of_zero_le ha.1
  have h1 := and_nat .u8 (a := (x : Int)) (b := 127) (by rw [show IntKind.u8.bits = 8 from rfl]; omega) (by decide)
  rw [h1, Int.toNat_natCast, show (127 : Int).toNat = 2 ^ 7 - 1 from rfl, Nat.and_two_pow_sub_one_eq_mod, mu8]
  omega
/-- the reader's cells -/
abbrev rdC (u : Value) (at_ : Nat) : List Value := [u, .int .i64 at_]
section
variable {w0 : World} {H : List Asn}
set_option maxRecDepth 10000 in
theorem RLeft_c (b : Nat) (p : Option Addr) (c m at_ : Nat) (hb : blk b (rdC (.slice p m c) at_) ∈ H) (ha : at_ ≤ m) (hm : m ≤ 140737488355328) (w : World) (hw : St w0 H w) :
    Calls Tryz.prog 116 #[.pointer (some ⟨b, 0, none⟩)] w fun e w' => e = .returned (.int .i64 (m - at_ : Nat)) ∧ St w0 H w' := by
  have c1 : IntKind.i64.wrap ((m : Int) - at_) = (m - at_ : Nat) := (wi64 (by omega)).trans (by omega)
  refine enter (vs := [.pointer (some ⟨b, 0, none⟩)]) Tryz.func116 rfl rfl rfl hw ?_
  clear hw w
  repeat (first | (apply gQO; first | refine QO_v rfl (oL (V_load (tb := tb) rfl hb rfl rfl rfl rfl)) ?_ | refine QO_v rfl (V_sub rfl rfl c1 rfl) ?_) | first | (refine sx ?_; try intro _))
  exact JS_ret Tryz.func116 rfl rfl fun w hw => ⟨rfl, hw⟩
set_option maxRecDepth 10000 in
theorem RAt_c (b : Nat) (p : Option Addr) (c m at_ : Nat) (hb : blk b (rdC (.slice p m c) at_) ∈ H) (w : World) (hw : St w0 H w) :
    Calls Tryz.prog 107 #[.pointer (some ⟨b, 0, none⟩)] w fun e w' => e = .returned (.int .i64 at_) ∧ St w0 H w' := by
  refine enter (vs := [.pointer (some ⟨b, 0, none⟩)]) Tryz.func107 rfl rfl rfl hw ?_
  clear hw w
  repeat (first | (apply gJO; first | refine JO_v (oL (V_load (tb := tb) rfl hb rfl rfl rfl rfl)) ?_) | first | (refine sx ?_; try intro _))
  exact JS_ret Tryz.func107 rfl rfl fun w hw => ⟨rfl, hw⟩
set_option maxRecDepth 10000 in
theorem Unsign_c (a : Int) (ha : 0 ≤ a ∧ a < 18446744073709551616) (w : World) (hw : St w0 H w) :
    Calls Tryz.prog 228 #[.int .u64 a] w fun e w' => e = .returned (.int .i64 (i64v (uns a))) ∧ St w0 H w' := by
  refine enter (vs := [.int .u64 a]) Tryz.func228 rfl rfl rfl hw ?_
  clear hw w
  have c1 : a / 2 ^ 1 = a / 2 := rfl
  have c2 : IntKind.i64.wrap (a / 2) = a / 2 := wi64 (by omega)
  have c3 : IntKind.u64.wrap ((BitVec.ofInt IntKind.u64.bits a &&& BitVec.ofInt IntKind.u64.bits 1).toNat) = a % 2 := (mask_u64 1 (by decide) ha rfl).trans rfl
  have c4 : IntKind.i64.wrap (a % 2) = a % 2 := wi64 (by omega)
  have hp : 0 ≤ a / 2 ∧ a / 2 < 9223372036854775808 := by omega
  rcases Int.emod_two_eq a with h | h
  · have hu : i64v (uns a) = a / 2 := by unfold uns; rw [if_pos h]; unfold i64v; rw [if_pos (by omega)]
    rw [hu]
    rw [h] at c3 c4
    have c6 : IntKind.i64.wrap ((BitVec.ofInt IntKind.i64.bits (a / 2) ^^^ BitVec.ofInt IntKind.i64.bits 0).toNat) = a / 2 := by
      have h1 := xor_nat .i64 (a := a / 2) (b := 0) (by rw [show IntKind.i64.bits = 64 from rfl]; omega) (by decide)
      rw [h1, show (0 : Int).toNat = 0 from rfl, Nat.xor_zero, mi64]; omega
    generalize a / 2 = q at *
    repeat (first | (apply gJO; first | refine JO_v (V_shr (m := 1) rfl rfl (by decide) rfl c1 rfl) ?_ | refine JO_v (V_conv (tb := tb) rfl rfl rfl c2 rfl) ?_ | refine JO_v (V_and rfl rfl c3 rfl) ?_ | refine JO_v (V_xor rfl rfl c6 rfl) ?_) | first | (refine sx ?_; try intro _))
    exact JS_ret Tryz.func228 rfl rfl fun w hw => ⟨rfl, hw⟩
  · have hu : i64v (uns a) = -(a / 2) - 1 := by unfold uns; rw [if_neg (by omega)]; unfold i64v; rw [if_neg (by omega)]; omega
    rw [hu]
    rw [h] at c3 c4
    have c6 : IntKind.i64.wrap ((BitVec.ofInt IntKind.i64.bits (a / 2) ^^^ BitVec.ofInt IntKind.i64.bits (-1)).toNat) = -(a / 2) - 1 := by
      have e : BitVec.ofInt 64 (-1) = BitVec.allOnes 64 := by rfl
      have key : ((BitVec.ofInt 64 (a / 2) ^^^ BitVec.ofInt 64 (-1)).toNat : Int) = 18446744073709551615 - a / 2 := by
        rw [e, BitVec.xor_allOnes, BitVec.toNat_not, BitVec.toNat_ofInt]; omega
      show IntKind.i64.wrap ((BitVec.ofInt 64 (a / 2) ^^^ BitVec.ofInt 64 (-1)).toNat : Int) = _
      rw [key, mi64]; omega
    generalize a / 2 = q at *
    repeat (first | (apply gJO; first | refine JO_v (V_shr (m := 1) rfl rfl (by decide) rfl c1 rfl) ?_ | refine JO_v (V_conv (tb := tb) rfl rfl rfl c2 rfl) ?_ | refine JO_v (V_and rfl rfl c3 rfl) ?_ | refine JO_v (V_xor rfl rfl c6 rfl) ?_) | first | (refine sx ?_; try intro _))
    exact JS_ret Tryz.func228 rfl rfl fun w hw => ⟨rfl, hw⟩
end
end Go.Proofs.YteelffkghidpfaaGreat

namespace Go.Proofs.YteelffkghidpfaaGreat
open Sx Go
set_option linter.unusedVariables false
set_option linter.unusedSimpArgs false
theorem p256_le (k : Nat) (h : k ≤ 8) : (256 : Int) ^ k ≤ 18446744073709551616 := by
  have : ∀ k, k < 9 → (256 : Int) ^ k ≤ 18446744073709551616 := by decide
  exact this k (by omega)
section
variable {w0 : World} {H : List Asn}
/-- a reader behind a number -/
abbrev RdR (w0 : World) (H : List Asn) (b : Nat) (u : Value) (at_ : Nat) (D : Int × Nat × Int) : Ending → World → Prop := fun e w' => e = .returned (.tuple #[.int .u64 D.1, .int .i64 D.2.2]) ∧ St w0 (blk b (rdC u (at_ + D.2.1)) :: H) w'
set_option maxRecDepth 10000 in
set_option maxHeartbeats 2000000 in
theorem RLow_c (s : Nat) (hs : s ≤ 8) (b : Nat) (p : Option Addr) (c m at_ : Nat) (B : List Int) (hR : Rd w0 H (.slice p m c) m (ints .u8 B)) (hm : B.length = m) (hB : OKB B) (ha : at_ ≤ m) (hmm : m ≤ 140737488355328) (w : World) (hw : St w0 (blk b (rdC (.slice p m c) at_) :: H) w) :
    Calls Tryz.prog 194 #[.pointer (some ⟨b, 0, none⟩), .int .i64 s] w (RdR w0 H b (.slice p m c) at_ (dFix false s (B.drop at_))) := by
  unfold RdR
  have hdl : (B.drop at_).length = m - at_ := by rw [List.length_drop, hm]
  refine enter (vs := [.pointer (some ⟨b, 0, none⟩), .int .i64 s]) Tryz.func194 rfl rfl rfl hw ?_
  clear hw w
  repeat (first | (refine sx ?_; try intro _))
  refine JO_call Tryz.call116 rfl rfl fun w hw => (RLeft_c b p c m at_ (List.Mem.head _) ha hmm w hw).mono ?_
  rintro e w' ⟨rfl, hw'⟩
  (refine ⟨_, rfl, _, hw', ?_⟩; clear hw' hw w w')
  unfold dFix
  rw [hdl]
  by_cases hlt : m - at_ < s
  · rw [if_pos hlt]
    repeat (first | (refine sx ?_; try intro _))
    exact JS_ret Tryz.func194 rfl rfl fun w hw => ⟨rfl, hw⟩
  · rw [if_neg hlt]
    have hRD := dropB_get B at_
    have hOK := hB.drop at_
    generalize hRR : B.drop at_ = R at *
    repeat (first | (apply gJR; first | (refine sx ?_; try intro _)) | (apply gJO; first | (refine sx ?_; try intro _)) | (apply gJS; refine JS_condF rfl ?_) | (apply gJS; refine JS_cond_F rfl (by omega) ?_) | apply JS_skip | apply JS_seq | apply JS_region)
    refine JS_block ?_
    refine JS_loop1 (fun (i : Nat) => [(0, .pointer (some ⟨b, 0, none⟩)), (1, .int .i64 s), (6, .int .u64 (lowN (R.take i))), (12, .int .i64 s), (13, .int .i64 i)]) (fun _ => blk b (rdC (.slice p m c) at_) :: H) (fun i => i ≤ s) (fun i => s - i) 0 (Nat.zero_le _) (by repeat (first | exact trivial | refine ⟨rfl, ?_⟩ | refine ⟨lookI rfl (by omega), ?_⟩)) (fun w hw => hw) ?_
    intro i hi again
    by_cases his : i < s
    · have hg := ints_get (K := .u8) (l := B) (j := at_ + i) (by omega)
      have hx := hRD i
      have hxb := hOK i
      have hst := takeB_step R i (by omega)
      have hbd := lowN_bd (R.take i) fun x hx => hOK.mem x (List.mem_of_mem_take hx)
      have hap := lowN_app (R.getD i 0) (R.take i)
      have htl : (R.take i).length = i := by rw [List.length_take]; omega
      rw [htl] at hbd hap
      rw [← hst] at hap
      rw [← hx] at hg
      have hp : (256 : Int) ^ i = 2 ^ (8 * i) := by rw [Int.pow_mul]; rfl
      rw [hp] at hbd hap
      have hbd2 := lowN_bd (R.take (i + 1)) fun x hx => hOK.mem x (List.mem_of_mem_take hx)
      have htl2 : (R.take (i + 1)).length = i + 1 := by rw [List.length_take]; omega
      rw [htl2] at hbd2
      have h64 := p256_le (i + 1) (by omega)
      generalize R.getD i 0 = x at *
      generalize lowN (R.take i) = a at *
      have hlo : 0 ≤ x * 2 ^ (8 * i) := Int.mul_nonneg hxb.1 (Int.le_of_lt (Int.lt_of_le_of_lt hbd.1 hbd.2))
      have ca : IntKind.i64.wrap ((at_ : Int) + i) = ((at_ + i : Nat) : Int) := (wi64 (by omega)).trans (by omega)
      have ej : min (8 * (i : Int)).toNat IntKind.u64.bits = 8 * i := by
        rw [show IntKind.u64.bits = 64 from rfl]; omega
      have cs : IntKind.u64.wrap (x * 2 ^ (8 * i)) = x * 2 ^ (8 * i) := wu64 (by omega)
      have co := or_hi (a := a) (b := x) (8 * i) hbd hxb.1 (by omega)
      rw [← hap] at co
      repeat (first | (apply gQO; first | refine QO_v rfl (oL (V_load (tb := tb) rfl (List.Mem.head _) rfl rfl rfl rfl)) ?_ | refine QO_v rfl (V_add rfl rfl ca rfl) ?_ | refine QO_v rfl (oIA (V_index (tb := tb) rfl rfl rfl rfl (Rd.sl (Rd_weak hR fun w hw => dS hw)) (by omega) (by (try simp only [tn, tna, tn1, tn2, tn3, tn4, tnd16, tnd8, Int.reduceToNat]); first | exact Nat.mul_one _ | exact rfl) rfl)) ?_ | refine QO_v rfl (oL (V_loadC (tb := tb) rfl (Rd_weak hR fun w hw => dS hw) rfl rfl hg rfl)) ?_ | refine QO_v rfl (V_shl rfl rfl (by omega) ej cs rfl) ?_ | refine QO_v rfl (V_or rfl rfl co rfl) ?_) | first | (refine sx ?_; try intro _))
      exact JS_again1 again (i + 1) (by omega) (by omega) (by repeat (first | exact trivial | refine ⟨rfl, ?_⟩ | refine ⟨lookI rfl (by omega), ?_⟩)) (fun w hw => hw)
    · obtain rfl : i = s := by omega
      have cb : IntKind.i64.wrap ((at_ : Int) + i) = ((at_ + i : Nat) : Int) := (wi64 (by omega)).trans (by omega)
      generalize lowN (R.take i) = a at *
      repeat (first | (apply gJO; first | refine JO_v (oL (V_load (tb := tb) rfl (List.Mem.head _) rfl rfl rfl rfl)) ?_ | refine JO_v (V_add rfl rfl cb rfl) ?_) | first | (refine sx ?_; try intro _))
      exact JS_ret Tryz.func194 rfl rfl fun w hw => ⟨rfl, hw⟩
set_option maxRecDepth 10000 in
set_option maxHeartbeats 2000000 in
theorem RHigh_c (s : Nat) (hs : s ≤ 8) (b : Nat) (p : Option Addr) (c m at_ : Nat) (B : List Int) (hR : Rd w0 H (.slice p m c) m (ints .u8 B)) (hm : B.length = m) (hB : OKB B) (ha : at_ ≤ m) (hmm : m ≤ 140737488355328) (w : World) (hw : St w0 (blk b (rdC (.slice p m c) at_) :: H) w) :
    Calls Tryz.prog 196 #[.pointer (some ⟨b, 0, none⟩), .int .i64 s] w (RdR w0 H b (.slice p m c) at_ (dFix true s (B.drop at_))) := by
  unfold RdR
  have hdl : (B.drop at_).length = m - at_ := by rw [List.length_drop, hm]
  refine enter (vs := [.pointer (some ⟨b, 0, none⟩), .int .i64 s]) Tryz.func196 rfl rfl rfl hw ?_
  clear hw w
  repeat (first | (refine sx ?_; try intro _))
  refine JO_call Tryz.call116 rfl rfl fun w hw => (RLeft_c b p c m at_ (List.Mem.head _) ha hmm w hw).mono ?_
  rintro e w' ⟨rfl, hw'⟩
  (refine ⟨_, rfl, _, hw', ?_⟩; clear hw' hw w w')
  unfold dFix
  rw [hdl]
  by_cases hlt : m - at_ < s
  · rw [if_pos hlt]
    repeat (first | (refine sx ?_; try intro _))
    exact JS_ret Tryz.func196 rfl rfl fun w hw => ⟨rfl, hw⟩
  · rw [if_neg hlt]
    have hRD := dropB_get B at_
    have hOK := hB.drop at_
    generalize hRR : B.drop at_ = R at *
    repeat (first | (apply gJR; first | (refine sx ?_; try intro _)) | (apply gJO; first | (refine sx ?_; try intro _)) | (apply gJS; refine JS_condF rfl ?_) | (apply gJS; refine JS_cond_F rfl (by omega) ?_) | apply JS_skip | apply JS_seq | apply JS_region)
    refine JS_block ?_
    refine JS_loop1 (fun (i : Nat) => [(0, .pointer (some ⟨b, 0, none⟩)), (1, .int .i64 s), (6, .int .u64 (hiN (R.take i))), (12, .int .i64 s), (13, .int .i64 i)]) (fun _ => blk b (rdC (.slice p m c) at_) :: H) (fun i => i ≤ s) (fun i => s - i) 0 (Nat.zero_le _) (by repeat (first | exact trivial | refine ⟨rfl, ?_⟩ | refine ⟨lookI rfl (by omega), ?_⟩)) (fun w hw => hw) ?_
    intro i hi again
    by_cases his : i < s
    · have hg := ints_get (K := .u8) (l := B) (j := at_ + i) (by omega)
      have hx := hRD i
      have hxb := hOK i
      have hst := takeB_step R i (by omega)
      have hap := hiN_app (R.getD i 0) (R.take i)
      rw [← hst] at hap
      rw [← hx] at hg
      have hbd := hiN_bd (R.take i) fun x hx => hOK.mem x (List.mem_of_mem_take hx)
      have hbd2 := hiN_bd (R.take (i + 1)) fun x hx => hOK.mem x (List.mem_of_mem_take hx)
      have htl2 : (R.take (i + 1)).length = i + 1 := by rw [List.length_take]; omega
      rw [htl2] at hbd2
      have h64 := p256_le (i + 1) (by omega)
      generalize R.getD i 0 = x at *
      generalize hiN (R.take i) = a at *
      have ca : IntKind.i64.wrap ((at_ : Int) + i) = ((at_ + i : Nat) : Int) := (wi64 (by omega)).trans (by omega)
      have cs : IntKind.u64.wrap (a * 2 ^ 8) = a * 2 ^ 8 := wu64 (by omega)
      have ej : min (8 : Int).toNat IntKind.u64.bits = 8 := by decide
      have co : IntKind.u64.wrap ((BitVec.ofInt IntKind.u64.bits (a * 2 ^ 8) ||| BitVec.ofInt IntKind.u64.bits x).toNat) = hiN (R.take (i + 1)) := by
        rw [BitVec.or_comm, or_hi (a := x) (b := a) 8 hxb hbd.1 (by omega), hap]; omega
      repeat (first | (apply gQO; first | refine QO_v rfl (oL (V_load (tb := tb) rfl (List.Mem.head _) rfl rfl rfl rfl)) ?_ | refine QO_v rfl (V_add rfl rfl ca rfl) ?_ | refine QO_v rfl (oIA (V_index (tb := tb) rfl rfl rfl rfl (Rd.sl (Rd_weak hR fun w hw => dS hw)) (by omega) (by (try simp only [tn, tna, tn1, tn2, tn3, tn4, tnd16, tnd8, Int.reduceToNat]); first | exact Nat.mul_one _ | exact rfl) rfl)) ?_ | refine QO_v rfl (oL (V_loadC (tb := tb) rfl (Rd_weak hR fun w hw => dS hw) rfl rfl hg rfl)) ?_ | refine QO_v rfl (V_shl rfl rfl (by omega) ej cs rfl) ?_ | refine QO_v rfl (V_or rfl rfl co rfl) ?_) | first | (refine sx ?_; try intro _))
      exact JS_again1 again (i + 1) (by omega) (by omega) (by repeat (first | exact trivial | refine ⟨rfl, ?_⟩ | refine ⟨lookI rfl (by omega), ?_⟩)) (fun w hw => hw)
    · obtain rfl : i = s := by omega
      have cb : IntKind.i64.wrap ((at_ : Int) + i) = ((at_ + i : Nat) : Int) := (wi64 (by omega)).trans (by omega)
      generalize hiN (R.take i) = a at *
      repeat (first | (apply gJO; first | refine JO_v (oL (V_load (tb := tb) rfl (List.Mem.head _) rfl rfl rfl rfl)) ?_ | refine JO_v (V_add rfl rfl cb rfl) ?_) | first | (refine sx ?_; try intro _))
      exact JS_ret Tryz.func196 rfl rfl fun w hw => ⟨rfl, hw⟩
theorem dLeb_step {i : Nat} {a x : Int} {r : List Int} (h1 : ¬ (i = 9 ∧ 1 < x)) (h2 : 127 < x) : dLeb i a (x :: r) = dLeb (i + 1) (a + x % 128 * 128 ^ i) r := by
  rw [dLeb, if_neg h1, if_pos h2]
theorem p128 (i : Nat) : (128 : Int) ^ i = 2 ^ (7 * i) := by rw [Int.pow_mul]; rfl
theorem p128_le (k : Nat) (h : k ≤ 9) : (128 : Int) ^ k ≤ 9223372036854775808 ∧ 0 < (128 : Int) ^ k := by
  have : ∀ k, k < 10 → (128 : Int) ^ k ≤ 9223372036854775808 ∧ 0 < (128 : Int) ^ k := by decide
  exact this k (by omega)
set_option maxRecDepth 10000 in
set_option maxHeartbeats 4000000 in
theorem RLeb_c (s : Int) (b : Nat) (p : Option Addr) (c m at_ : Nat) (B : List Int) (hR : Rd w0 H (.slice p m c) m (ints .u8 B)) (hm : B.length = m) (hB : OKB B) (ha : at_ ≤ m) (hmm : m ≤ 140737488355328) (w : World) (hw : St w0 (blk b (rdC (.slice p m c) at_) :: H) w) :
    Calls Tryz.prog 198 #[.pointer (some ⟨b, 0, none⟩), .int .i64 s] w (RdR w0 H b (.slice p m c) at_ (dLeb 0 0 (B.drop at_))) := by
  unfold RdR
  have hdl : (B.drop at_).length = m - at_ := by rw [List.length_drop, hm]
  have hRD := dropB_get B at_
  have hOK := hB.drop at_
  have hst := dropB_step (B.drop at_)
  generalize B.drop at_ = R at *
  refine enter (vs := [.pointer (some ⟨b, 0, none⟩), .int .i64 s]) Tryz.func198 rfl rfl rfl hw ?_
  clear hw w
  repeat (first | (apply gJR; first | (refine sx ?_; try intro _)) | (apply gJO; first | (refine sx ?_; try intro _)) | apply JS_seq | apply JS_region)
  refine JS_block ?_
  refine JS_loop2 (fun (i : Nat) (a : Int) => [(0, .pointer (some ⟨b, 0, none⟩)), (1, .int .i64 s), (6, .int .u64 a), (7, .int .i64 i)]) (fun _ _ => blk b (rdC (.slice p m c) at_) :: H) (fun i a => dLeb i a (R.drop i) = dLeb 0 0 R ∧ i ≤ 9 ∧ i ≤ R.length ∧ 0 ≤ a ∧ a < 128 ^ i) (fun i _ => 10 - i) 0 0 ⟨rfl, by omega, Nat.zero_le _, by decide, by decide⟩ (by repeat (first | exact trivial | refine ⟨rfl, ?_⟩ | refine ⟨lookI rfl (by omega), ?_⟩)) (fun w hw => hw) ?_
  intro i a ⟨he, hi9, hiR, ha0, ha1⟩ again
  have ca : IntKind.i64.wrap ((at_ : Int) + i) = ((at_ + i : Nat) : Int) := (wi64 (by omega)).trans (by omega)
  by_cases hend : i < R.length
  · have hg := ints_get (K := .u8) (l := B) (j := at_ + i) (by omega)
    rw [← hRD i] at hg
    have hxb := hOK i
    rw [hst i hend] at he
    generalize R.getD i 0 = x at *
    have hge : ¬ ((m : Int) ≤ ((at_ + i : Nat) : Int)) := by omega
    by_cases h9 : i = 9 ∧ 1 < x
    · obtain ⟨rfl, h91⟩ := h9
      have hres : dLeb 0 0 R = (0, 0, 21) := by rw [← he, dLeb, if_pos ⟨rfl, h91⟩]
      rw [hres]
      repeat (first | (apply gQO; first | refine QO_v rfl (oL (V_load (tb := tb) rfl (List.Mem.head _) rfl rfl rfl rfl)) ?_ | refine QO_v rfl (V_add rfl rfl ca rfl) ?_ | refine QO_v rfl (oIA (V_index (tb := tb) rfl rfl rfl rfl (Rd.sl (Rd_weak hR fun w hw => dS hw)) (by omega) (by (try simp only [tn, tna, tn1, tn2, tn3, tn4, tnd16, tnd8, Int.reduceToNat]); first | exact Nat.mul_one _ | exact rfl) rfl)) ?_ | refine QO_v rfl (oL (V_loadC (tb := tb) rfl (Rd_weak hR fun w hw => dS hw) rfl rfl hg rfl)) ?_ | refine QO_v rfl (V_shl rfl rfl (by omega) ej cs rfl) ?_ | refine QO_v rfl (V_or rfl rfl co rfl) ?_) | first | (refine sx ?_; try intro _))
      exact JS_ret Tryz.func198 rfl rfl fun w hw => ⟨rfl, hw⟩
    · have h9' : i ≠ 9 ∨ (i = 9 ∧ ¬ 1 < x) := by omega
      have hp := p128_le i hi9
      have hp2 := p128 i
      have hbig : x % 128 * 128 ^ i ≤ 127 * 128 ^ i := Int.mul_le_mul_of_nonneg_right (by omega) (Int.le_of_lt hp.2)
      have hnn : 0 ≤ x % 128 * 128 ^ i := Int.mul_nonneg (by omega) (Int.le_of_lt hp.2)
      have hsum : a + x % 128 * 128 ^ i < 128 ^ (i + 1) ∧ a + x % 128 * 128 ^ i < 18446744073709551616 := by
        rw [Int.pow_succ]
        rcases h9' with h | ⟨rfl, h⟩
        · have h8 := p128_le (i + 1) (by omega)
          rw [Int.pow_succ] at h8
          generalize (128 : Int) ^ i = z at *
          omega
        · have hx2 : x % 128 = x := by omega
          rw [hx2] at *
          have hx1 : x * 128 ^ 9 ≤ 1 * 128 ^ 9 := Int.mul_le_mul_of_nonneg_right (by omega) (Int.le_of_lt hp.2)
          have e9 : (128 : Int) ^ 9 = 9223372036854775808 := by decide
          rw [e9] at *
          omega
      rw [hp2] at hbig hnn ha1
      have hs7 : (128 : Int) ^ i = 2 ^ (7 * i) := hp2
      have cm := mask7_u8 hxb
      have ej : min (7 * (i : Int)).toNat IntKind.u64.bits = 7 * i := by
        rw [show IntKind.u64.bits = 64 from rfl]; omega
      rw [hp2] at hsum
      have co := or_hi (a := a) (b := x % 128) (7 * i) ⟨ha0, ha1⟩ (by omega) hsum.2
      obtain ⟨t2, ht2⟩ : ∃ t, t = x % 128 * 2 ^ (7 * i) := ⟨_, rfl⟩
      obtain ⟨a2, ha2⟩ : ∃ t, t = a + t2 := ⟨_, rfl⟩
      have ha3 : a2 = a + x % 128 * 2 ^ (7 * i) := by rw [ha2, ht2]
      have cs : IntKind.u64.wrap (x % 128 * 2 ^ (7 * i)) = t2 := by rw [ht2]; exact wu64 (by omega)
      rw [← ha3, ← ht2] at co
      rw [← ha3] at hsum
      have hn2 : 0 ≤ a2 := by omega
      clear hbig
      have hcase : (127 < x) ∨ (¬ 127 < x ∧ x = 0 ∧ 0 < i) ∨ (¬ 127 < x ∧ x = 0 ∧ ¬ 0 < i) ∨ (¬ 127 < x ∧ ¬ x = 0) := by omega
      have h9c : (¬ i = 9) ∨ (i = 9 ∧ ¬ 1 < x) := by omega
      have cc : IntKind.u64.wrap (x % 128) = x % 128 := wu64 (by omega)
      have cx : IntKind.u8.wrap (x % 128) = x % 128 := wu8 (by omega)
      rcases hcase with hx | ⟨hx, hx0, hi0⟩ | ⟨hx, hx0, hi0⟩ | ⟨hx, hx0⟩
      · rw [dLeb_step h9 hx, hs7, ← ha3] at he
        have hne9 : ¬ i = 9 := by omega
        repeat (first | (apply gQO; first | refine QO_v rfl (oL (V_load (tb := tb) rfl (List.Mem.head _) rfl rfl rfl rfl)) ?_ | refine QO_v rfl (V_add rfl rfl ca rfl) ?_ | refine QO_v rfl (oIA (V_index (tb := tb) rfl rfl rfl rfl (Rd.sl (Rd_weak hR fun w hw => dS hw)) (by omega) (by (try simp only [tn, tna, tn1, tn2, tn3, tn4, tnd16, tnd8, Int.reduceToNat]); first | exact Nat.mul_one _ | exact rfl) rfl)) ?_ | refine QO_v rfl (oL (V_loadC (tb := tb) rfl (Rd_weak hR fun w hw => dS hw) rfl rfl hg rfl)) ?_ | refine QO_v rfl (V_shl rfl rfl (by omega) ej cs rfl) ?_ | refine QO_v rfl (V_or rfl rfl co rfl) ?_) | (apply gJO; first | refine JO_v (oL (V_load (tb := tb) rfl (List.Mem.head _) rfl rfl rfl rfl)) ?_ | refine JO_v (V_add rfl rfl cb rfl) ?_ | refine JO_v (V_shl rfl rfl (by omega) ej cs rfl) ?_ | refine JO_v (V_or rfl rfl co rfl) ?_ | refine JO_v (V_and rfl rfl cm rfl) ?_) | first | (refine sx ?_; try intro _))
        exact JS_again2 again (i + 1) a2 ⟨he, by omega, by omega, hn2, hsum.1⟩ (by omega) (by repeat (first | exact trivial | refine ⟨rfl, ?_⟩ | refine ⟨lookI rfl (by omega), ?_⟩)) (fun w hw => hw)
      · have hres : dLeb 0 0 R = (0, 0, 21) := by rw [← he, dLeb, if_neg h9, if_neg hx, if_pos ⟨hx0, hi0⟩]
        rw [hres]
        rcases h9c with h9c | ⟨h9c, h9d⟩
        all_goals (
          repeat (first | (apply gQO; first | refine QO_v rfl (oL (V_load (tb := tb) rfl (List.Mem.head _) rfl rfl rfl rfl)) ?_ | refine QO_v rfl (V_add rfl rfl ca rfl) ?_ | refine QO_v rfl (oIA (V_index (tb := tb) rfl rfl rfl rfl (Rd.sl (Rd_weak hR fun w hw => dS hw)) (by omega) (by (try simp only [tn, tna, tn1, tn2, tn3, tn4, tnd16, tnd8, Int.reduceToNat]); first | exact Nat.mul_one _ | exact rfl) rfl)) ?_ | refine QO_v rfl (oL (V_loadC (tb := tb) rfl (Rd_weak hR fun w hw => dS hw) rfl rfl hg rfl)) ?_ | refine QO_v rfl (V_shl rfl rfl (by omega) ej cs rfl) ?_ | refine QO_v rfl (V_or rfl rfl co rfl) ?_) | (apply gJO; first | refine JO_v (oL (V_load (tb := tb) rfl (List.Mem.head _) rfl rfl rfl rfl)) ?_ | refine JO_v (V_add rfl rfl cb rfl) ?_ | refine JO_v (V_shl rfl rfl (by omega) ej cs rfl) ?_ | refine JO_v (V_or rfl rfl co rfl) ?_ | refine JO_v (V_and rfl rfl cm rfl) ?_) | first | (refine sx ?_; try intro _))
          exact JS_ret Tryz.func198 rfl rfl fun w hw => ⟨rfl, hw⟩)
      all_goals (
        have hres : dLeb 0 0 R = (a2, i + 1, 0) := by rw [← he, dLeb, if_neg h9, if_neg hx, if_neg (by omega), hs7, ← ha3]
        rw [hres]
        have cb : IntKind.i64.wrap ((at_ : Int) + ((i : Int) + 1)) = ((at_ + (i + 1) : Nat) : Int) := (wi64 (by omega)).trans (by omega)
        rcases h9c with h9c | ⟨h9c, h9d⟩
        all_goals first
          | (exfalso; omega)
          | (repeat (first | (apply gQO; first | refine QO_v rfl (oL (V_load (tb := tb) rfl (List.Mem.head _) rfl rfl rfl rfl)) ?_ | refine QO_v rfl (V_add rfl rfl ca rfl) ?_ | refine QO_v rfl (oIA (V_index (tb := tb) rfl rfl rfl rfl (Rd.sl (Rd_weak hR fun w hw => dS hw)) (by omega) (by (try simp only [tn, tna, tn1, tn2, tn3, tn4, tnd16, tnd8, Int.reduceToNat]); first | exact Nat.mul_one _ | exact rfl) rfl)) ?_ | refine QO_v rfl (oL (V_loadC (tb := tb) rfl (Rd_weak hR fun w hw => dS hw) rfl rfl hg rfl)) ?_ | refine QO_v rfl (V_shl rfl rfl (by omega) ej cs rfl) ?_ | refine QO_v rfl (V_or rfl rfl co rfl) ?_) | (apply gJO; first | refine JO_v (oL (V_load (tb := tb) rfl (List.Mem.head _) rfl rfl rfl rfl)) ?_ | refine JO_v (V_add rfl rfl cb rfl) ?_ | refine JO_v (V_shl rfl rfl (by omega) ej cs rfl) ?_ | refine JO_v (V_or rfl rfl co rfl) ?_ | refine JO_v (V_and rfl rfl cm rfl) ?_) | first | (refine sx ?_; try intro _))
             exact JS_ret Tryz.func198 rfl rfl fun w hw => ⟨rfl, hw⟩))
  · have hres : dLeb 0 0 R = (0, 0, 20) := by
      rw [← he, List.drop_of_length_le (by omega)]; rfl
    rw [hres]
    have hge : ((m : Int) ≤ ((at_ + i : Nat) : Int)) := by omega
    repeat (first | (apply gQO; first | refine QO_v rfl (oL (V_load (tb := tb) rfl (List.Mem.head _) rfl rfl rfl rfl)) ?_ | refine QO_v rfl (V_add rfl rfl ca rfl) ?_ | refine QO_v rfl (oIA (V_index (tb := tb) rfl rfl rfl rfl (Rd.sl (Rd_weak hR fun w hw => dS hw)) (by omega) (by (try simp only [tn, tna, tn1, tn2, tn3, tn4, tnd16, tnd8, Int.reduceToNat]); first | exact Nat.mul_one _ | exact rfl) rfl)) ?_ | refine QO_v rfl (oL (V_loadC (tb := tb) rfl (Rd_weak hR fun w hw => dS hw) rfl rfl hg rfl)) ?_ | refine QO_v rfl (V_shl rfl rfl (by omega) ej cs rfl) ?_ | refine QO_v rfl (V_or rfl rfl co rfl) ?_) | first | (refine sx ?_; try intro _))
    exact JS_ret Tryz.func198 rfl rfl fun w hw => ⟨rfl, hw⟩
end
end Go.Proofs.YteelffkghidpfaaGreat

namespace Go.Proofs.YteelffkghidpfaaGreat
open Sx Go
set_option linter.unusedVariables false
set_option linter.unusedSimpArgs false
theorem dNine_step {i : Nat} {a x : Int} {r : List Int} (h1 : i < 8) (h2 : 127 < x) : dNine i a (x :: r) = dNine (i + 1) (a + x % 128 * 128 ^ i) r := by
  rw [dNine, if_pos ⟨h1, h2⟩]
theorem i64v_back {a : Int} (h : 0 ≤ a ∧ a < 18446744073709551616) : IntKind.u64.wrap (i64v a) = a := by rw [mu64]; unfold i64v; split <;> omega
section
variable {w0 : World} {H : List Asn}
set_option maxRecDepth 10000 in
set_option maxHeartbeats 4000000 in
theorem RNine_c (s : Int) (b : Nat) (p : Option Addr) (c m at_ : Nat) (B : List Int) (hR : Rd w0 H (.slice p m c) m (ints .u8 B)) (hm : B.length = m) (hB : OKB B) (ha : at_ ≤ m) (hmm : m ≤ 140737488355328) (w : World) (hw : St w0 (blk b (rdC (.slice p m c) at_) :: H) w) :
    Calls Tryz.prog 202 #[.pointer (some ⟨b, 0, none⟩), .int .i64 s] w (RdR w0 H b (.slice p m c) at_ (dNine 0 0 (B.drop at_))) := by
  unfold RdR
  have hdl : (B.drop at_).length = m - at_ := by rw [List.length_drop, hm]
  have hRD := dropB_get B at_
  have hOK := hB.drop at_
  have hst := dropB_step (B.drop at_)
  generalize B.drop at_ = R at *
  refine enter (vs := [.pointer (some ⟨b, 0, none⟩), .int .i64 s]) Tryz.func202 rfl rfl rfl hw ?_
  clear hw w
  repeat (first | (apply gJR; first | (refine sx ?_; try intro _)) | (apply gJO; first | (refine sx ?_; try intro _)) | apply JS_seq | apply JS_region)
  refine JS_block ?_
  refine JS_loop2 (fun (i : Nat) (a : Int) => [(0, .pointer (some ⟨b, 0, none⟩)), (1, .int .i64 s), (6, .int .u64 a), (9, .int .i64 i)]) (fun _ _ => blk b (rdC (.slice p m c) at_) :: H) (fun i a => dNine i a (R.drop i) = dNine 0 0 R ∧ i ≤ 8 ∧ i ≤ R.length ∧ 0 ≤ a ∧ a < 128 ^ i) (fun i _ => 10 - i) 0 0 ⟨rfl, by omega, Nat.zero_le _, by decide, by decide⟩ (by repeat (first | exact trivial | refine ⟨rfl, ?_⟩ | refine ⟨lookI rfl (by omega), ?_⟩)) (fun w hw => hw) ?_
  intro i a ⟨he, hi9, hiR, ha0, ha1⟩ again
  have ca : IntKind.i64.wrap ((at_ : Int) + i) = ((at_ + i : Nat) : Int) := (wi64 (by omega)).trans (by omega)
  by_cases hend : i < R.length
  · have hg := ints_get (K := .u8) (l := B) (j := at_ + i) (by omega)
    rw [← hRD i] at hg
    have hxb := hOK i
    rw [hst i hend] at he
    generalize R.getD i 0 = x at *
    have hge : ¬ ((m : Int) ≤ ((at_ + i : Nat) : Int)) := by omega
    have hp2 := p128 i
    rw [hp2] at ha1
    have hp := p128_le i (by omega)
    rw [hp2] at hp
    by_cases h8 : i = 8
    · subst h8
      have ej : min (56 : Int).toNat IntKind.u64.bits = 56 := by decide
      have e56 : (2 : Int) ^ (7 * 8) = 72057594037927936 := by decide
      have cs : IntKind.u64.wrap (x * 2 ^ 56) = x * 72057594037927936 := wu64 (by omega)
      have co := or_hi (a := a) (b := x) 56 ⟨ha0, ha1⟩ hxb.1 (by omega)
      have cx : IntKind.u64.wrap x = x := wu64 (by omega)
      rw [show x * (2 : Int) ^ 56 = x * 72057594037927936 from rfl] at co
      by_cases hx0 : x = 0
      · have hres : dNine 0 0 R = (0, 0, 21) := by rw [← he, dNine, if_neg (by omega), if_pos ⟨hx0, by decide⟩]
        rw [hres]
        generalize a + x * 72057594037927936 = a2 at *
        generalize hx5 : x * 72057594037927936 = x5 at *
        repeat (first | (apply gQO; first | refine QO_v rfl (oL (V_load (tb := tb) rfl (List.Mem.head _) rfl rfl rfl rfl)) ?_ | refine QO_v rfl (V_add rfl rfl ca rfl) ?_ | refine QO_v rfl (oIA (V_index (tb := tb) rfl rfl rfl rfl (Rd.sl (Rd_weak hR fun w hw => dS hw)) (by omega) (by (try simp only [tn, tna, tn1, tn2, tn3, tn4, tnd16, tnd8, Int.reduceToNat]); first | exact Nat.mul_one _ | exact rfl) rfl)) ?_ | refine QO_v rfl (oL (V_loadC (tb := tb) rfl (Rd_weak hR fun w hw => dS hw) rfl rfl hg rfl)) ?_ | refine QO_v rfl (V_shl rfl rfl (by omega) ej cs rfl) ?_ | refine QO_v rfl (V_or rfl rfl co rfl) ?_) | (apply gJO; first | refine JO_v (oL (V_load (tb := tb) rfl (List.Mem.head _) rfl rfl rfl rfl)) ?_ | refine JO_v (V_add rfl rfl cb rfl) ?_ | refine JO_v (V_shl rfl rfl (by omega) ej cs rfl) ?_ | refine JO_v (V_or rfl rfl co rfl) ?_ | refine JO_v (V_and rfl rfl cm rfl) ?_) | first | (refine sx ?_; try intro _))
        exact JS_ret Tryz.func202 rfl rfl fun w hw => ⟨rfl, hw⟩
      · have hres : dNine 0 0 R = (uns (a + x * 72057594037927936), 9, 0) := by
          rw [← he, dNine, if_neg (by omega), if_neg (by omega), if_pos rfl, show (128 : Int) ^ 8 = 72057594037927936 by decide]
        rw [hres]
        have cb : IntKind.i64.wrap ((at_ : Int) + (8 + 1)) = ((at_ + 9 : Nat) : Int) := (wi64 (by omega)).trans (by omega)
        have hab : 0 ≤ a + x * 72057594037927936 ∧ a + x * 72057594037927936 < 18446744073709551616 := by omega
        have hub := uns_bd hab
        have hU := fun {H} w hw => Unsign_c (w0 := w0) (H := H) (a + x * 72057594037927936) hab w hw
        have ci := i64v_back hub
        generalize a + x * 72057594037927936 = a2 at *
        generalize hx5 : x * 72057594037927936 = x5 at *
        generalize uns a2 = y at *
        repeat (first | (apply gQO; first | refine QO_v rfl (oL (V_load (tb := tb) rfl (List.Mem.head _) rfl rfl rfl rfl)) ?_ | refine QO_v rfl (V_add rfl rfl ca rfl) ?_ | refine QO_v rfl (oIA (V_index (tb := tb) rfl rfl rfl rfl (Rd.sl (Rd_weak hR fun w hw => dS hw)) (by omega) (by (try simp only [tn, tna, tn1, tn2, tn3, tn4, tnd16, tnd8, Int.reduceToNat]); first | exact Nat.mul_one _ | exact rfl) rfl)) ?_ | refine QO_v rfl (oL (V_loadC (tb := tb) rfl (Rd_weak hR fun w hw => dS hw) rfl rfl hg rfl)) ?_ | refine QO_v rfl (V_shl rfl rfl (by omega) ej cs rfl) ?_ | refine QO_v rfl (V_or rfl rfl co rfl) ?_) | (apply gJO; first | refine JO_v (oL (V_load (tb := tb) rfl (List.Mem.head _) rfl rfl rfl rfl)) ?_ | refine JO_v (V_add rfl rfl cb rfl) ?_ | refine JO_v (V_shl rfl rfl (by omega) ej cs rfl) ?_ | refine JO_v (V_or rfl rfl co rfl) ?_ | refine JO_v (V_and rfl rfl cm rfl) ?_) | first | (refine sx ?_; try intro _))
        refine JO_call Tryz.call228 rfl rfl fun w hw => (hU w hw).mono ?_
        rintro e w' ⟨rfl, hw'⟩
        (refine ⟨_, rfl, _, hw', ?_⟩; clear hw' hw w w')
        repeat (first | (apply gJO; first | refine JO_v (V_conv (tb := tb) rfl rfl rfl ci rfl) ?_) | first | (refine sx ?_; try intro _))
        exact JS_ret Tryz.func202 rfl rfl fun w hw => ⟨rfl, hw⟩
    · have hi8 : i < 8 := by omega
      have hbig : x % 128 * 2 ^ (7 * i) ≤ 127 * 2 ^ (7 * i) := Int.mul_le_mul_of_nonneg_right (by omega) (Int.le_of_lt hp.2)
      have hnn : 0 ≤ x % 128 * 2 ^ (7 * i) := Int.mul_nonneg (by omega) (Int.le_of_lt hp.2)
      have hp3 := p128_le (i + 1) (by omega)
      have hs7 : (128 : Int) ^ i = 2 ^ (7 * i) := hp2
      have cm := mask7_u8 hxb
      have ej : min (7 * (i : Int)).toNat IntKind.u64.bits = 7 * i := by
        rw [show IntKind.u64.bits = 64 from rfl]; omega
      have hsum : a + x % 128 * 2 ^ (7 * i) < 128 ^ (i + 1) := by
        rw [Int.pow_succ, hp2]
        generalize (2 : Int) ^ (7 * i) = z at *
        omega
      have co := or_hi (a := a) (b := x % 128) (7 * i) ⟨ha0, ha1⟩ (by omega) (by omega)
      obtain ⟨t2, ht2⟩ : ∃ t, t = x % 128 * 2 ^ (7 * i) := ⟨_, rfl⟩
      obtain ⟨a2, ha2⟩ : ∃ t, t = a + t2 := ⟨_, rfl⟩
      have ha3 : a2 = a + x % 128 * 2 ^ (7 * i) := by rw [ha2, ht2]
      have cs : IntKind.u64.wrap (x % 128 * 2 ^ (7 * i)) = t2 := by rw [ht2]; exact wu64 (by omega)
      rw [← ha3, ← ht2] at co
      rw [← ha3] at hsum
      have hn2 : 0 ≤ a2 := by omega
      clear hbig
      have hcase : (127 < x) ∨ (¬ 127 < x ∧ x = 0 ∧ 0 < i) ∨ (¬ 127 < x ∧ x = 0 ∧ ¬ 0 < i) ∨ (¬ 127 < x ∧ ¬ x = 0) := by omega
      have cc : IntKind.u64.wrap (x % 128) = x % 128 := wu64 (by omega)
      rcases hcase with hx | ⟨hx, hx0, hi0⟩ | ⟨hx, hx0, hi0⟩ | ⟨hx, hx0⟩
      · rw [dNine_step hi8 hx, hs7, ← ha3] at he
        repeat (first | (apply gQO; first | refine QO_v rfl (oL (V_load (tb := tb) rfl (List.Mem.head _) rfl rfl rfl rfl)) ?_ | refine QO_v rfl (V_add rfl rfl ca rfl) ?_ | refine QO_v rfl (oIA (V_index (tb := tb) rfl rfl rfl rfl (Rd.sl (Rd_weak hR fun w hw => dS hw)) (by omega) (by (try simp only [tn, tna, tn1, tn2, tn3, tn4, tnd16, tnd8, Int.reduceToNat]); first | exact Nat.mul_one _ | exact rfl) rfl)) ?_ | refine QO_v rfl (oL (V_loadC (tb := tb) rfl (Rd_weak hR fun w hw => dS hw) rfl rfl hg rfl)) ?_ | refine QO_v rfl (V_shl rfl rfl (by omega) ej cs rfl) ?_ | refine QO_v rfl (V_or rfl rfl co rfl) ?_) | (apply gJO; first | refine JO_v (oL (V_load (tb := tb) rfl (List.Mem.head _) rfl rfl rfl rfl)) ?_ | refine JO_v (V_add rfl rfl cb rfl) ?_ | refine JO_v (V_shl rfl rfl (by omega) ej cs rfl) ?_ | refine JO_v (V_or rfl rfl co rfl) ?_ | refine JO_v (V_and rfl rfl cm rfl) ?_) | first | (refine sx ?_; try intro _))
        exact JS_again2 again (i + 1) a2 ⟨he, by omega, by omega, hn2, hsum⟩ (by omega) (by repeat (first | exact trivial | refine ⟨rfl, ?_⟩ | refine ⟨lookI rfl (by omega), ?_⟩)) (fun w hw => hw)
      · have hres : dNine 0 0 R = (0, 0, 21) := by rw [← he, dNine, if_neg (by omega), if_pos ⟨hx0, hi0⟩]
        rw [hres]
        repeat (first | (apply gQO; first | refine QO_v rfl (oL (V_load (tb := tb) rfl (List.Mem.head _) rfl rfl rfl rfl)) ?_ | refine QO_v rfl (V_add rfl rfl ca rfl) ?_ | refine QO_v rfl (oIA (V_index (tb := tb) rfl rfl rfl rfl (Rd.sl (Rd_weak hR fun w hw => dS hw)) (by omega) (by (try simp only [tn, tna, tn1, tn2, tn3, tn4, tnd16, tnd8, Int.reduceToNat]); first | exact Nat.mul_one _ | exact rfl) rfl)) ?_ | refine QO_v rfl (oL (V_loadC (tb := tb) rfl (Rd_weak hR fun w hw => dS hw) rfl rfl hg rfl)) ?_ | refine QO_v rfl (V_shl rfl rfl (by omega) ej cs rfl) ?_ | refine QO_v rfl (V_or rfl rfl co rfl) ?_) | (apply gJO; first | refine JO_v (oL (V_load (tb := tb) rfl (List.Mem.head _) rfl rfl rfl rfl)) ?_ | refine JO_v (V_add rfl rfl cb rfl) ?_ | refine JO_v (V_shl rfl rfl (by omega) ej cs rfl) ?_ | refine JO_v (V_or rfl rfl co rfl) ?_ | refine JO_v (V_and rfl rfl cm rfl) ?_) | first | (refine sx ?_; try intro _))
        exact JS_ret Tryz.func202 rfl rfl fun w hw => ⟨rfl, hw⟩
      all_goals (
        have hres : dNine 0 0 R = (uns a2, i + 1, 0) := by rw [← he, dNine, if_neg (by omega), if_neg (by omega), if_neg h8, hs7, ← ha3]
        rw [hres]
        have cb : IntKind.i64.wrap ((at_ : Int) + ((i : Int) + 1)) = ((at_ + (i + 1) : Nat) : Int) := (wi64 (by omega)).trans (by omega)
        have hab : 0 ≤ a2 ∧ a2 < 18446744073709551616 := by omega
        have hub := uns_bd hab
        have hU := fun {H} w hw => Unsign_c (w0 := w0) (H := H) a2 hab w hw
        have ci := i64v_back hub
        generalize uns a2 = y at *
        repeat (first | (apply gQO; first | refine QO_v rfl (oL (V_load (tb := tb) rfl (List.Mem.head _) rfl rfl rfl rfl)) ?_ | refine QO_v rfl (V_add rfl rfl ca rfl) ?_ | refine QO_v rfl (oIA (V_index (tb := tb) rfl rfl rfl rfl (Rd.sl (Rd_weak hR fun w hw => dS hw)) (by omega) (by (try simp only [tn, tna, tn1, tn2, tn3, tn4, tnd16, tnd8, Int.reduceToNat]); first | exact Nat.mul_one _ | exact rfl) rfl)) ?_ | refine QO_v rfl (oL (V_loadC (tb := tb) rfl (Rd_weak hR fun w hw => dS hw) rfl rfl hg rfl)) ?_ | refine QO_v rfl (V_shl rfl rfl (by omega) ej cs rfl) ?_ | refine QO_v rfl (V_or rfl rfl co rfl) ?_) | (apply gJO; first | refine JO_v (oL (V_load (tb := tb) rfl (List.Mem.head _) rfl rfl rfl rfl)) ?_ | refine JO_v (V_add rfl rfl cb rfl) ?_ | refine JO_v (V_shl rfl rfl (by omega) ej cs rfl) ?_ | refine JO_v (V_or rfl rfl co rfl) ?_ | refine JO_v (V_and rfl rfl cm rfl) ?_) | first | (refine sx ?_; try intro _))
        refine JO_call Tryz.call228 rfl rfl fun w hw => (hU w hw).mono ?_
        rintro e w' ⟨rfl, hw'⟩
        (refine ⟨_, rfl, _, hw', ?_⟩; clear hw' hw w w')
        repeat (first | (apply gJO; first | refine JO_v (V_conv (tb := tb) rfl rfl rfl ci rfl) ?_) | first | (refine sx ?_; try intro _))
        exact JS_ret Tryz.func202 rfl rfl fun w hw => ⟨rfl, hw⟩)
  · have hres : dNine 0 0 R = (0, 0, 20) := by
      rw [← he, List.drop_of_length_le (by omega)]; rfl
    rw [hres]
    have hge : ((m : Int) ≤ ((at_ + i : Nat) : Int)) := by omega
    repeat (first | (apply gQO; first | refine QO_v rfl (oL (V_load (tb := tb) rfl (List.Mem.head _) rfl rfl rfl rfl)) ?_ | refine QO_v rfl (V_add rfl rfl ca rfl) ?_ | refine QO_v rfl (oIA (V_index (tb := tb) rfl rfl rfl rfl (Rd.sl (Rd_weak hR fun w hw => dS hw)) (by omega) (by (try simp only [tn, tna, tn1, tn2, tn3, tn4, tnd16, tnd8, Int.reduceToNat]); first | exact Nat.mul_one _ | exact rfl) rfl)) ?_ | refine QO_v rfl (oL (V_loadC (tb := tb) rfl (Rd_weak hR fun w hw => dS hw) rfl rfl hg rfl)) ?_ | refine QO_v rfl (V_shl rfl rfl (by omega) ej cs rfl) ?_ | refine QO_v rfl (V_or rfl rfl co rfl) ?_) | first | (refine sx ?_; try intro _))
    exact JS_ret Tryz.func202 rfl rfl fun w hw => ⟨rfl, hw⟩
theorem dLeb_bd : ∀ (R : List Int) (i : Nat) (a : Int), (∀ x ∈ R, 0 ≤ x ∧ x < 256) → i ≤ 9 → 0 ≤ a → a < 128 ^ i → 0 ≤ (dLeb i a R).1 ∧ (dLeb i a R).1 < 18446744073709551616
  | [], i, a, _, _, _, _ => by simp [dLeb]
  | x :: r, i, a, h, hi, ha0, ha1 => by
    have hx := h x List.mem_cons_self
    have hp := p128_le i hi
    have hbig : x % 128 * 128 ^ i ≤ 127 * 128 ^ i := Int.mul_le_mul_of_nonneg_right (by omega) (Int.le_of_lt hp.2)
    have hnn : 0 ≤ x % 128 * 128 ^ i := Int.mul_nonneg (by omega) (Int.le_of_lt hp.2)
    unfold dLeb
    split
    · simp
    · rename_i h9
      have hs : a + x % 128 * 128 ^ i < 18446744073709551616 := by
        rcases Nat.lt_or_ge i 9 with h | h
        · have h8 := p128_le (i + 1) (by omega)
          rw [Int.pow_succ] at h8
          generalize (128 : Int) ^ i = z at *
          omega
        · obtain rfl : i = 9 := by omega
          have hx1 : x % 128 * 128 ^ 9 ≤ 1 * 128 ^ 9 := Int.mul_le_mul_of_nonneg_right (by omega) (Int.le_of_lt hp.2)
          have e9 : (128 : Int) ^ 9 = 9223372036854775808 := by decide
          rw [e9] at *
          omega
      split
      · refine dLeb_bd r (i + 1) _ (fun y hy => h y (List.mem_cons_of_mem _ hy)) (by omega) (by omega) ?_
        rw [Int.pow_succ]
        generalize (128 : Int) ^ i = z at *
        omega
      · split
        · simp
        · exact ⟨by show 0 ≤ a + x % 128 * 128 ^ i; omega, hs⟩
set_option maxRecDepth 10000 in
theorem RZig_c (s : Int) (b : Nat) (p : Option Addr) (c m at_ : Nat) (B : List Int) (hR : Rd w0 H (.slice p m c) m (ints .u8 B)) (hm : B.length = m) (hB : OKB B) (ha : at_ ≤ m) (hmm : m ≤ 140737488355328) (w : World) (hw : St w0 (blk b (rdC (.slice p m c) at_) :: H) w) :
    Calls Tryz.prog 200 #[.pointer (some ⟨b, 0, none⟩), .int .i64 s] w (RdR w0 H b (.slice p m c) at_ (uns (dLeb 0 0 (B.drop at_)).1, (dLeb 0 0 (B.drop at_)).2.1, (dLeb 0 0 (B.drop at_)).2.2)) := by
  have hL := fun w hw => RLeb_c (w0 := w0) (H := H) s b p c m at_ B hR hm hB ha hmm w hw
  have hbd := dLeb_bd (B.drop at_) 0 0 (fun x hx => hB.mem x (List.mem_of_mem_drop hx)) (by omega) (by decide) (by decide)
  unfold RdR at *
  generalize dLeb 0 0 (B.drop at_) = D at *
  obtain ⟨d1, d2, d3⟩ := D
  simp only [] at hbd hL ⊢
  have hub := uns_bd hbd
  have ci := i64v_back hub
  have hU := fun {H} w hw => Unsign_c (w0 := w0) (H := H) d1 hbd w hw
  generalize uns d1 = y at *
  refine enter (vs := [.pointer (some ⟨b, 0, none⟩), .int .i64 s]) Tryz.func200 rfl rfl rfl hw ?_
  clear hw w
  repeat (first | (refine sx ?_; try intro _))
  refine JO_call Tryz.call198 rfl rfl fun w hw => (hL w hw).mono ?_
  rintro e w' ⟨rfl, hw'⟩
  (refine ⟨_, rfl, _, hw', ?_⟩; clear hw' hw w w')
  repeat (first | (refine sx ?_; try intro _))
  refine JO_call Tryz.call228 rfl rfl fun w hw => (hU w hw).mono ?_
  rintro e w' ⟨rfl, hw'⟩
  (refine ⟨_, rfl, _, hw', ?_⟩; clear hw' hw w w')
  repeat (first | (apply gJO; first | refine JO_v (V_conv (tb := tb) rfl rfl rfl ci rfl) ?_) | first | (refine sx ?_; try intro _))
  exact JS_ret Tryz.func200 rfl rfl fun w hw => ⟨rfl, hw⟩
/-- a number by any letter, read -/
theorem RGet_c (k : Nat) (b : Nat) (p : Option Addr) (c m at_ : Nat) (B : List Int) (hR : Rd w0 H (.slice p m c) m (ints .u8 B)) (hm : B.length = m) (hB : OKB B) (ha : at_ ≤ m) (hmm : m ≤ 140737488355328) (w : World) (hw : St w0 (blk b (rdC (.slice p m c) at_) :: H) w) :
    Calls Tryz.prog (getF k) #[.pointer (some ⟨b, 0, none⟩), .int .i64 (szA k)] w (RdR w0 H b (.slice p m c) at_ (dec k (B.drop at_))) := by
  match k with
  | 0 => exact RLow_c 1 (by decide) b p c m at_ B hR hm hB ha hmm w hw
  | 1 => exact RLow_c 2 (by decide) b p c m at_ B hR hm hB ha hmm w hw
  | 2 => exact RHigh_c 2 (by decide) b p c m at_ B hR hm hB ha hmm w hw
  | 3 => exact RLow_c 4 (by decide) b p c m at_ B hR hm hB ha hmm w hw
  | 4 => exact RHigh_c 4 (by decide) b p c m at_ B hR hm hB ha hmm w hw
  | 5 => exact RLow_c 8 (by decide) b p c m at_ B hR hm hB ha hmm w hw
  | 6 => exact RHigh_c 8 (by decide) b p c m at_ B hR hm hB ha hmm w hw
  | 7 => exact RLeb_c _ b p c m at_ B hR hm hB ha hmm w hw
  | 8 => exact RZig_c _ b p c m at_ B hR hm hB ha hmm w hw
  | j + 9 => exact RNine_c _ b p c m at_ B hR hm hB ha hmm w hw
set_option maxRecDepth 10000 in
set_option maxHeartbeats 2000000 in
theorem Next_c (k : Nat) (hk : k < 10) (b : Nat) (p : Option Addr) (c m at_ : Nat) (B : List Int) (hR : Rd w0 H (.slice p m c) m (ints .u8 B)) (hm : B.length = m) (hB : OKB B) (ha : at_ ≤ m) (hmm : m ≤ 140737488355328) (w : World) (hw : St w0 (blk b (rdC (.slice p m c) at_) :: H) w) :
    Calls Tryz.prog 106 #[.pointer (some ⟨b, 0, none⟩), .int .u8 (ltA k)] w (RdR w0 H b (.slice p m c) at_ (dec k (B.drop at_))) := by
  have hG := fun w hw => RGet_c (w0 := w0) (H := H) k b p c m at_ B hR hm hB ha hmm w hw
  have hall := fm_all k
  have hpk := congrArg some (getA_eq k)
  have hsk := get_call k
  unfold RdR at *
  generalize dec k (B.drop at_) = D at *
  refine enter (vs := [.pointer (some ⟨b, 0, none⟩), .int .u8 (ltA k)]) Tryz.func106 rfl rfl rfl hw ?_
  clear hw w
  repeat (first | (refine sx ?_; try intro _))
  refine JO_call Tryz.call105 rfl rfl fun w hw => (FormOf_c k hk w hw).mono ?_
  rintro e w' ⟨rfl, hw'⟩
  (refine ⟨_, rfl, _, hw', ?_⟩; clear hw' hw w w')
  repeat (first | (apply gJO; refine JO_k (K_store (tb := tb) rfl rfl (by repeat (first | apply Upd.here | apply Upd.there)) rfl rfl rfl hall rfl rfl) ?_) | first | (refine sx ?_; try intro _))
  refine JO_callv (us := []) (cs := []) hpk hsk rfl rfl fun w hw => (hG w (dS hw)).mono ?_
  rintro e w' ⟨rfl, hw'⟩
  (refine ⟨_, rfl, _, hw', ?_⟩; clear hw' hw w w')
  repeat (first | (refine sx ?_; try intro _))
  exact JS_ret Tryz.func106 rfl rfl fun w hw => ⟨rfl, hw⟩
end
end Go.Proofs.YteelffkghidpfaaGreat

namespace Go.Proofs.YteelffkghidpfaaGreat
open Sx Go
set_option linter.unusedVariables false
set_option linter.unusedSimpArgs false
/-! ## what reading tells (plain) -/
structure DOK (R : List Int) (D : Int × Nat × Int) : Prop where
  used : D.2.1 ≤ R.length
  num : 0 ≤ D.1 ∧ D.1 < 18446744073709551616
  err : D.2.2 = 0 ∨ D.2.2 = 20 ∨ D.2.2 = 21
theorem DOK.bad (R : List Int) (e : Int) (h : e = 20 ∨ e = 21) : DOK R (0, 0, e) := ⟨Nat.zero_le _, ⟨Int.le_refl _, (by decide : (0 : Int) < 18446744073709551616)⟩, .inr h⟩
theorem dFix_ok (hi : Bool) (s : Nat) (hs : s ≤ 8) (R : List Int) (hR : OKB R) : DOK R (dFix hi s R) := by
  unfold dFix
  split
  · exact .bad R 20 (.inl rfl)
  · rename_i h
    have hl : (R.take s).length = s := by rw [List.length_take]; omega
    have h1 := lowN_bd (R.take s) fun x hx => hR.mem x (List.mem_of_mem_take hx)
    have h2 := hiN_bd (R.take s) fun x hx => hR.mem x (List.mem_of_mem_take hx)
    have h3 := p256_le s hs
    rw [hl] at h1 h2
    refine ⟨by show s ≤ R.length; omega, ?_, .inl rfl⟩
    cases hi
    · exact ⟨h1.1, Int.lt_of_lt_of_le h1.2 h3⟩
    · exact ⟨h2.1, Int.lt_of_lt_of_le h2.2 h3⟩
theorem dLeb_use : ∀ (R : List Int) (i : Nat) (a : Int), ((dLeb i a R).2.1 = 0 ∨ (i < (dLeb i a R).2.1 ∧ (dLeb i a R).2.1 ≤ i + R.length)) ∧ ((dLeb i a R).2.2 = 0 ∨ (dLeb i a R).2.2 = 20 ∨ (dLeb i a R).2.2 = 21)
  | [], i, a => by simp [dLeb]
  | x :: r, i, a => by
    have ih := dLeb_use r (i + 1) (a + x % 128 * 128 ^ i)
    unfold dLeb
    rw [List.length_cons]
    split
    · simp
    · split
      · omega
      · split
        · simp
        · exact ⟨.inr ⟨Nat.lt_succ_self _, by show i + 1 ≤ i + (r.length + 1); omega⟩, .inl rfl⟩
theorem dNine_use : ∀ (R : List Int) (i : Nat) (a : Int), ((dNine i a R).2.1 = 0 ∨ (i < (dNine i a R).2.1 ∧ (dNine i a R).2.1 ≤ i + R.length)) ∧ ((dNine i a R).2.2 = 0 ∨ (dNine i a R).2.2 = 20 ∨ (dNine i a R).2.2 = 21)
  | [], i, a => by simp [dNine]
  | x :: r, i, a => by
    have ih := dNine_use r (i + 1) (a + x % 128 * 128 ^ i)
    unfold dNine
    rw [List.length_cons]
    split
    · omega
    · split
      · simp
      · exact ⟨.inr ⟨Nat.lt_succ_self _, by show i + 1 ≤ i + (r.length + 1); omega⟩, .inl rfl⟩
theorem dNine_bd : ∀ (R : List Int) (i : Nat) (a : Int), (∀ x ∈ R, 0 ≤ x ∧ x < 256) → i ≤ 8 → 0 ≤ a → a < 128 ^ i → 0 ≤ (dNine i a R).1 ∧ (dNine i a R).1 < 18446744073709551616
  | [], i, a, _, _, _, _ => by simp [dNine]
  | x :: r, i, a, h, hi, ha0, ha1 => by
    have hx := h x List.mem_cons_self
    have hp := p128_le i (by omega)
    have hbig : x % 128 * 128 ^ i ≤ 127 * 128 ^ i := Int.mul_le_mul_of_nonneg_right (by omega) (Int.le_of_lt hp.2)
    have hnn : 0 ≤ x % 128 * 128 ^ i := Int.mul_nonneg (by omega) (Int.le_of_lt hp.2)
    unfold dNine
    split
    · rename_i h1
      refine dNine_bd r (i + 1) _ (fun y hy => h y (List.mem_cons_of_mem _ hy)) (by omega) (by omega) ?_
      rw [Int.pow_succ]
      generalize (128 : Int) ^ i = z at *
      omega
    · split
      · simp
      · refine uns_bd ?_
        split
        · subst i
          have e9 : (128 : Int) ^ 8 = 72057594037927936 := by decide
          rw [e9] at *
          omega
        · have h8 := p128_le (i + 1) (by omega)
          rw [Int.pow_succ] at h8
          generalize (128 : Int) ^ i = z at *
          omega
theorem dec_ok (k : Nat) (R : List Int) (hR : OKB R) : DOK R (dec k R) := by
  have hl := dLeb_use R 0 0
  have hlb := dLeb_bd R 0 0 (fun x hx => hR.mem x hx) (by omega) (by decide) (by decide)
  have hn := dNine_use R 0 0
  have hnb := dNine_bd R 0 0 (fun x hx => hR.mem x hx) (by omega) (by decide) (by decide)
  match k with
  | 0 => exact dFix_ok _ _ (by decide) R hR
  | 1 => exact dFix_ok _ _ (by decide) R hR
  | 2 => exact dFix_ok _ _ (by decide) R hR
  | 3 => exact dFix_ok _ _ (by decide) R hR
  | 4 => exact dFix_ok _ _ (by decide) R hR
  | 5 => exact dFix_ok _ _ (by decide) R hR
  | 6 => exact dFix_ok _ _ (by decide) R hR
  | 7 => exact ⟨by show (dLeb 0 0 R).2.1 ≤ _; omega, hlb, hl.2⟩
  | 8 => exact ⟨by show (dLeb 0 0 R).2.1 ≤ _; omega, uns_bd hlb, hl.2⟩
  | j + 9 => exact ⟨by show (dNine 0 0 R).2.1 ≤ _; omega, hnb, hn.2⟩
/-- numbers by letters, read -/
def decs : List Nat → List Int → List Int × Nat × Int
  | [], _ => ([], 0, 0)
  | k :: ks, R => if (dec k R).2.2 ≠ 0 then ([], 0, (dec k R).2.2) else
      if (decs ks (R.drop (dec k R).2.1)).2.2 ≠ 0 then ([], 0, (decs ks (R.drop (dec k R).2.1)).2.2) else
        ((dec k R).1 :: (decs ks (R.drop (dec k R).2.1)).1, (dec k R).2.1 + (decs ks (R.drop (dec k R).2.1)).2.1, 0)
def dJoin (L : List Int) (a : Nat) (D : List Int × Nat × Int) : List Int × Nat × Int := if D.2.2 ≠ 0 then ([], 0, D.2.2) else (L ++ D.1, a + D.2.1, 0)
theorem dJoin_nil (ks : List Nat) (R : List Int) : dJoin [] 0 (decs ks R) = decs ks R := by
  cases ks with
  | nil => rfl
  | cons k ks =>
    unfold decs
    generalize decs ks (R.drop (dec k R).2.1) = r
    generalize dec k R = d
    unfold dJoin
    by_cases h1 : d.2.2 ≠ 0
    · simp [h1]
    · by_cases h2 : r.2.2 ≠ 0
      · simp [h1, h2]
      · simp [h1, h2]
theorem decs_step {ks : List Nat} {i : Nat} (hi : i < ks.length) (L : List Int) (a : Nat) (B : List Int) : dJoin L a (decs (ks.drop i) (B.drop a)) = if (dec (ks.getD i 0) (B.drop a)).2.2 ≠ 0 then ([], 0, (dec (ks.getD i 0) (B.drop a)).2.2) else
    dJoin (L ++ [(dec (ks.getD i 0) (B.drop a)).1]) (a + (dec (ks.getD i 0) (B.drop a)).2.1) (decs (ks.drop (i + 1)) (B.drop (a + (dec (ks.getD i 0) (B.drop a)).2.1))) := by
  rw [List.drop_eq_getElem_cons hi, show ks[i] = ks.getD i 0 by rw [List.getD_eq_getElem?_getD, List.getElem?_eq_getElem hi]; rfl, decs, List.drop_drop]
  generalize dec (ks.getD i 0) (B.drop a) = d
  unfold dJoin
  by_cases h1 : d.2.2 ≠ 0
  · rw [if_pos h1, if_pos h1, if_pos h1]
  · rw [if_neg h1, if_neg h1]
    generalize decs (ks.drop (i + 1)) (B.drop (a + d.2.1)) = r
    by_cases h2 : r.2.2 ≠ 0
    · rw [if_pos h2, if_pos h2, if_pos h2]
    · rw [if_neg h2, if_neg h2, if_neg (by simp)]
      simp [List.append_assoc, Nat.add_assoc]
section
variable {w0 : World} {H : List Asn}
set_option maxRecDepth 10000 in
theorem NewR_c (p : Option Addr) (c m : Nat) (B : List Int) (hr : Rd w0 H (.slice p m c) m (ints .u8 B)) (hm : B.length = m) (hB : OKB B) (hm1 : m ≤ 140737488355328) (hpm : p = none → m = 0) (w : World) (hw : St w0 H w) :
    Calls Tryz.prog 88 #[.slice p m c] w fun e w' => ∃ rb q d, e = .returned (.pointer (some ⟨rb, 0, none⟩)) ∧ St w0 (blk rb (rdC (.slice q m d) 0) :: vec 5 1 (.slice q m d) m (ints .u8 B) :: H) w' := by
  refine enter (vs := [.slice p m c]) Tryz.func88 rfl rfl rfl hw ?_
  clear hw w
  repeat (first | (refine sx ?_; try intro _))
  refine JO_call Tryz.call128 rfl rfl fun w hw => (Clone_c p c m B hr hm hB hm1 hpm w hw).mono ?_
  rintro e w' ⟨q, d, rfl, hw'⟩
  (refine ⟨_, rfl, _, hw', ?_⟩; clear hw' hw w w')
  repeat (first | (refine sx ?_; try intro _))
  exact JS_ret Tryz.func88 rfl rfl fun w hw => ⟨_, q, d, rfl, hw⟩
set_option maxRecDepth 10000 in
set_option maxHeartbeats 4000000 in
theorem Get_c (ks : List Nat) (hk : ∀ k ∈ ks, k < 10) (hk64 : ks.length ≤ 64) (p : Option Addr) (c m : Nat) (B : List Int) (hr : Rd w0 H (.slice p m c) m (ints .u8 B)) (hm : B.length = m) (hB : OKB B) (hm1 : m ≤ 140737488355328) (hpm : p = none → m = 0) (w : World) (hw : St w0 H w) :
    Calls Tryz.prog 66 #[.string (bstr (ks.map ltA)), .slice p m c] w fun e w' => ((decs ks B).2.2 ≠ 0 ∧ e = .returned (.tuple #[.slice none 0 0, .int .i64 0, .int .i64 (decs ks B).2.2]) ∧ St w0 H w') ∨
      ((decs ks B).2.2 = 0 ∧ (decs ks B).1.length = ks.length ∧ ∃ q d, e = .returned (.tuple #[.slice q ks.length d, .int .i64 (decs ks B).2.1, .int .i64 0]) ∧ St w0 (vec 48 1 (.slice q ks.length d) ks.length (ints .u64 (decs ks B).1) :: H) w') := by
  have hsz : ((bstr (ks.map ltA)).size : Int) = ks.length := by rw [bstr_size, List.length_map]
  have hlts := lts_map hk
  have hRt := fun {H} w hw => Right_c (w0 := w0) (H := H) (ks.map ltA) hlts (by rw [List.length_map]; exact hk64) w hw
  refine enter (vs := [.string (bstr (ks.map ltA)), .slice p m c]) Tryz.func66 rfl rfl rfl hw ?_
  clear hw w
  repeat (first | (refine sx ?_; try intro _))
  refine JO_call Tryz.call104 rfl rfl fun w hw => (hRt w hw).mono ?_
  rintro e w' ⟨rfl, hw'⟩
  (refine ⟨_, rfl, _, hw', ?_⟩; clear hw' hw w w')
  repeat (first | (refine sx ?_; try intro _))
  refine JO_call Tryz.call88 rfl rfl fun w hw => (NewR_c p c m B hr hm hB hm1 hpm w hw).mono ?_
  rintro e w' ⟨rb, q1, d1, rfl, hw'⟩
  (refine ⟨_, rfl, _, hw', ?_⟩; clear hw' hw w w')
  repeat (first | (apply gJR; first | (refine sx ?_; try intro _)) | (apply gJO; first | (refine sx ?_; try intro _)) | apply JS_seq | apply JS_region)
  refine JS_block ?_
  refine JS_loop5 (fun (i : Nat) (a : Nat) (L : List Int) (q : Option Addr) (d : Nat) => [(0, .string (bstr (ks.map ltA))), (7, .pointer (some ⟨rb, 0, none⟩)), (8, .func (.func 106) #[.pointer (some ⟨rb, 0, none⟩)] #[]), (9, .slice q i d), (21, .int .i64 ks.length), (22, .int .i64 i)])
    (fun i a L q d => blk rb (rdC (.slice q1 m d1) a) :: vec 48 1 (.slice q i d) i (ints .u64 L) :: vec 5 1 (.slice q1 m d1) m (ints .u8 B) :: H)
    (fun i a L _ _ => i ≤ ks.length ∧ a ≤ m ∧ L.length = i ∧ dJoin L a (decs (ks.drop i) (B.drop a)) = decs ks B) (fun i _ _ _ _ => ks.length - i) 0 0 [] none 0 ⟨Nat.zero_le _, Nat.zero_le _, rfl, dJoin_nil ks B⟩ (by exact ⟨rfl, rfl, rfl, rfl, lookI rfl hsz, rfl, trivial⟩) (fun w hw => (St.nilvec (e := 48) (sz := 1) (base := none) hw).perm (List.Perm.swap _ _ _)) ?_
  intro i a L q d ⟨hi, ha, hL, he⟩ again
  by_cases hil : i < ks.length
  · have hkk : ks.getD i 0 < 10 := by
      rw [List.getD_eq_getElem?_getD, List.getElem?_eq_getElem hil]; exact hk _ (List.getElem_mem _)
    have hlt := map_lt (ks := ks) (j := i) hil
    rw [decs_step hil] at he
    have hdo := dec_ok (ks.getD i 0) (B.drop a) (hB.drop a)
    have hdl : (B.drop a).length = m - a := by rw [List.length_drop, hm]
    have hN := fun w hw => Next_c (w0 := w0) (H := vec 48 1 (.slice q i d) i (ints .u64 L) :: vec 5 1 (.slice q1 m d1) m (ints .u8 B) :: H) (ks.getD i 0) hkk rb q1 d1 m a B (vec_rd (List.Mem.tail _ (List.Mem.head _))) hm hB ha hm1 w hw
    unfold RdR at hN
    generalize ks.getD i 0 = k at *
    generalize dec k (B.drop a) = D at *
    obtain ⟨n, u, er⟩ := D
    obtain ⟨h1, h2, h3⟩ := hdo
    simp only [] at he hN h1 h2 h3
    repeat (first | (apply gJO; first | refine JO_v (V_indexP (tb := tb) (B := ks.map ltA) (r := ltA k) rfl rfl rfl hlts.byt (by rw [List.length_map]; omega) (by rw [Int.toNat_natCast]; exact hlt) rfl) ?_) | first | (refine sx ?_; try intro _))
    refine JO_callv (us := [.pointer (some ⟨rb, 0, none⟩)]) (cs := []) rfl Tryz.call106 rfl rfl fun w hw => (hN w hw).mono ?_
    rintro e w' ⟨rfl, hw'⟩
    (refine ⟨_, rfl, _, hw', ?_⟩; clear hw' hw w w')
    by_cases h0 : er = 0
    · subst h0
      rw [if_neg (by simp)] at he
      repeat (first | (refine sx ?_; try intro _))
      (refine JO_app (tb := tb) rfl rfl rfl rfl rfl rfl (by repeat (first | exact Sel.here _ _ | apply Sel.there)) (by first | exact vec_rd (by repeat (first | apply List.Mem.head | apply List.Mem.tail)) | assumption | exact ArgRd.rd (by assumption) _ | (apply Rd_weak; assumption; intro _ hx; exact dS hx)) (by simp only [ints_len, List.length_cons, List.length_nil]; first | omega | rfl) (by first | exact ints_one | (repeat (first | exact trivial | refine ⟨rfl, ?_⟩))) (by omega) rfl ?_; intro _ _)
      have e1 : ints .u64 L ++ [Value.int .u64 n] = ints .u64 (L ++ [n]) := by rw [← ints_app]; rfl
      repeat (first | (refine sx ?_; try intro _))
      exact JS_again5 again (i + 1) (a + u) (L ++ [n]) _ _ ⟨by omega, by omega, by rw [List.length_append, hL]; rfl, he⟩ (by omega) (by repeat (first | exact trivial | refine ⟨rfl, ?_⟩ | refine ⟨lookI rfl (by omega), ?_⟩)) (fun w hw => by rw [← e1]; exact dS hw)
    · rw [if_pos h0] at he
      rw [← he]
      repeat (first | (refine sx ?_; try intro _))
      exact JS_ret Tryz.func66 rfl rfl fun w hw => .inl ⟨h0, rfl, dS hw⟩
  · obtain rfl : i = ks.length := by omega
    rw [List.drop_length, decs] at he
    have hres : decs ks B = (L, a, 0) := by rw [← he]; simp [dJoin]
    rw [hres]
    repeat (first | (refine sx ?_; try intro _))
    refine JO_call Tryz.call107 rfl rfl fun w hw => (RAt_c rb q1 d1 m a (List.Mem.head _) w hw).mono ?_
    rintro e w' ⟨rfl, hw'⟩
    (refine ⟨_, rfl, _, hw', ?_⟩; clear hw' hw w w')
    repeat (first | (refine sx ?_; try intro _))
    exact JS_ret Tryz.func66 rfl rfl fun w hw => .inr ⟨rfl, hL, q, d, rfl, dS hw⟩
end
end Go.Proofs.YteelffkghidpfaaGreat

/- Numbers with weights: plain facts. -/
namespace Go.Proofs.YteelffkghidpfaaGreat
open Sx Go
def flat : List (Int × Int) → List Value
  | [] => []
  | t :: r => .int .i64 t.1 :: .int .u64 t.2 :: flat r
theorem flat_len : ∀ T, (flat T).length = T.length * 2
  | [] => rfl
  | t :: r => by simp only [flat, List.length_cons, flat_len r]; omega
theorem flat_app : ∀ A B, flat (A ++ B) = flat A ++ flat B
  | [], B => rfl
  | t :: r, B => by simp only [List.cons_append, flat, flat_app r B]
theorem flat_get0 : ∀ (T : List (Int × Int)) (i : Nat), i < T.length → (flat T)[i * 2]? = some (.int .i64 (T.getD i (0, 0)).1)
  | [], i, h => by simp at h
  | t :: r, 0, h => by simp [flat]
  | t :: r, i + 1, h => by
    rw [show (i + 1) * 2 = i * 2 + 1 + 1 by omega]
    simp only [flat, List.getElem?_cons_succ, List.getD_cons_succ]
    exact flat_get0 r i (by simpa using h)
theorem flat_get1 : ∀ (T : List (Int × Int)) (i : Nat), i < T.length → (flat T)[i * 2 + 1]? = some (.int .u64 (T.getD i (0, 0)).2)
  | [], i, h => by simp at h
  | t :: r, 0, h => by simp [flat]
  | t :: r, i + 1, h => by
    rw [show (i + 1) * 2 + 1 = i * 2 + 1 + 1 + 1 by omega]
    simp only [flat, List.getElem?_cons_succ, List.getD_cons_succ]
    exact flat_get1 r i (by simpa using h)
theorem flat_seg : ∀ (T : List (Int × Int)) (i : Nat), i < T.length → ((flat T).drop (i * 2)).take 2 = [.int .i64 (T.getD i (0, 0)).1, .int .u64 (T.getD i (0, 0)).2]
  | [], i, h => by simp at h
  | t :: r, 0, h => by simp [flat]
  | t :: r, i + 1, h => by
    rw [show (i + 1) * 2 = i * 2 + 1 + 1 by omega]
    simp only [flat, List.drop_succ_cons, List.getD_cons_succ]
    exact flat_seg r i (by simpa using h)
def sw : List (Int × Int) → Int
  | [] => 0
  | t :: r => t.2 + sw r
def sp (low : Int) : List (Int × Int) → Int
  | [] => 0
  | t :: r => (t.1 - low) * t.2 + sp low r
theorem sw_app : ∀ A B, sw (A ++ B) = sw A + sw B
  | [], B => by simp [sw]
  | t :: r, B => by simp only [List.cons_append, sw, sw_app r B]; omega
theorem take_step (T : List (Int × Int)) (i : Nat) (h : i < T.length) : T.take (i + 1) = T.take i ++ [T.getD i (0, 0)] := by
  rw [List.take_succ_eq_append_getElem h]; simp [h]
theorem sw_take (T : List (Int × Int)) (i : Nat) (h : i < T.length) : sw (T.take (i + 1)) = sw (T.take i) + (T.getD i (0, 0)).2 := by
  rw [take_step T i h, sw_app]; simp [sw]
/-- in bounds -/
def OKT (T : List (Int × Int)) : Prop := ∀ t ∈ T, (-9223372036854775808 ≤ t.1 ∧ t.1 < 9223372036854775808) ∧ (0 ≤ t.2 ∧ t.2 < 18446744073709551616)
theorem OKT.get {T : List (Int × Int)} (h : OKT T) (i : Nat) (hi : i < T.length) : (-9223372036854775808 ≤ (T.getD i (0, 0)).1 ∧ (T.getD i (0, 0)).1 < 9223372036854775808) ∧ (0 ≤ (T.getD i (0, 0)).2 ∧ (T.getD i (0, 0)).2 < 18446744073709551616) := by
  have : T.getD i (0, 0) = T[i] := by simp [hi]
  rw [this]; exact h _ (List.getElem_mem hi)
theorem OKT.take {T : List (Int × Int)} (h : OKT T) (i : Nat) : OKT (T.take i) := fun t ht => h t (List.mem_of_mem_take ht)
theorem OKT.drop {T : List (Int × Int)} (h : OKT T) (i : Nat) : OKT (T.drop i) := fun t ht => h t (List.mem_of_mem_drop ht)
end Go.Proofs.YteelffkghidpfaaGreat

namespace Go.Proofs.YteelffkghidpfaaGreat
open Sx Go
set_option linter.unusedVariables false
set_option linter.unusedSimpArgs false
section
variable {w0 : World} {H : List Asn}
set_option maxRecDepth 10000 in
set_option maxHeartbeats 4000000 in
theorem Equal_c (p q : Option Addr) (c d m n : Nat) (A B : List Int) (hp : Rd w0 H (.slice p m c) m (ints .u8 A)) (hq : Rd w0 H (.slice q n d) n (ints .u8 B)) (hm : A.length = m) (hn : B.length = n) (hmm : m ≤ 140737488355328) (hnn : n ≤ 140737488355328) (w : World) (hw : St w0 H w) :
    Calls Tryz.prog 70 #[.slice p m c, .slice q n d] w fun e w' => e = .returned (.bool (decide (A = B))) ∧ St w0 H w' := by
  refine enter (vs := [.slice p m c, .slice q n d]) Tryz.func70 rfl rfl rfl hw ?_
  clear hw w
  by_cases hl : m = n
  · repeat (first | (apply gJR; first | (refine sx ?_; try intro _)) | (apply gJO; first | (refine sx ?_; try intro _)) | (apply gJS; refine JS_condF rfl ?_) | (apply gJS; refine JS_cond_F rfl (by omega) ?_) | apply JS_skip | apply JS_seq | apply JS_region)
    refine JS_block ?_
    refine JS_loop1 (fun (i : Nat) => [(0, .slice p m c), (1, .slice q n d), (12, .int .i64 m), (13, .int .i64 i)]) (fun _ => H) (fun i => i ≤ m ∧ A.take i = B.take i) (fun i => m - i) 0 ⟨Nat.zero_le _, rfl⟩ (by repeat (first | exact trivial | refine ⟨rfl, ?_⟩ | refine ⟨lookI rfl (by omega), ?_⟩)) (fun w hw => hw) ?_
    intro i ⟨hi, he⟩ again
    by_cases him : i < m
    · have g0 := ints_get (K := .u8) (l := A) (j := i) (by omega)
      have g1 := ints_get (K := .u8) (l := B) (j := i) (by omega)
      have sA := takeB_step A i (by omega)
      have sB := takeB_step B i (by omega)
      by_cases hx : A.getD i 0 = B.getD i 0
      · have h2 : A.take (i + 1) = B.take (i + 1) := by rw [sA, sB, he, hx]
        generalize A.getD i 0 = x at *
        generalize B.getD i 0 = y at *
        repeat (first | (apply gQO; first | refine QO_v rfl (oIA (V_index (tb := tb) rfl rfl rfl rfl (Rd.sl hp) (by omega) (by (try simp only [tn, tna, tn1, tn2, tn3, tn4, tnd16, tnd8, Int.reduceToNat]); first | exact Nat.mul_one _ | exact rfl) rfl)) ?_ | refine QO_v rfl (oIA (V_index (tb := tb) rfl rfl rfl rfl (Rd.sl hq) (by omega) (by (try simp only [tn, tna, tn1, tn2, tn3, tn4, tnd16, tnd8, Int.reduceToNat]); first | exact Nat.mul_one _ | exact rfl) rfl)) ?_ | refine QO_v rfl (oL (V_loadC (tb := tb) rfl hp rfl rfl g0 rfl)) ?_ | refine QO_v rfl (oL (V_loadC (tb := tb) rfl hq rfl rfl g1 rfl)) ?_) | first | (refine sx ?_; try intro _))
        exact JS_again1 again (i + 1) ⟨by omega, h2⟩ (by omega) (by repeat (first | exact trivial | refine ⟨rfl, ?_⟩ | refine ⟨lookI rfl (by omega), ?_⟩)) (fun w hw => hw)
      · have h2 : ¬ A = B := fun h => hx (by rw [h])
        rw [decide_eq_false h2]
        generalize A.getD i 0 = x at *
        generalize B.getD i 0 = y at *
        repeat (first | (apply gQO; first | refine QO_v rfl (oIA (V_index (tb := tb) rfl rfl rfl rfl (Rd.sl hp) (by omega) (by (try simp only [tn, tna, tn1, tn2, tn3, tn4, tnd16, tnd8, Int.reduceToNat]); first | exact Nat.mul_one _ | exact rfl) rfl)) ?_ | refine QO_v rfl (oIA (V_index (tb := tb) rfl rfl rfl rfl (Rd.sl hq) (by omega) (by (try simp only [tn, tna, tn1, tn2, tn3, tn4, tnd16, tnd8, Int.reduceToNat]); first | exact Nat.mul_one _ | exact rfl) rfl)) ?_ | refine QO_v rfl (oL (V_loadC (tb := tb) rfl hp rfl rfl g0 rfl)) ?_ | refine QO_v rfl (oL (V_loadC (tb := tb) rfl hq rfl rfl g1 rfl)) ?_) | first | (refine sx ?_; try intro _))
        exact JS_ret Tryz.func70 rfl rfl fun w hw => ⟨rfl, hw⟩
    · obtain rfl : i = m := by omega
      have h2 : A = B := by rwa [List.take_of_length_le (by omega), List.take_of_length_le (by omega)] at he
      rw [decide_eq_true h2]
      repeat (first | (refine sx ?_; try intro _))
      exact JS_ret Tryz.func70 rfl rfl fun w hw => ⟨rfl, hw⟩
  · have h2 : ¬ A = B := fun h => hl (by rw [← hm, ← hn, h])
    rw [decide_eq_false h2]
    repeat (first | (refine sx ?_; try intro _))
    exact JS_ret Tryz.func70 rfl rfl fun w hw => ⟨rfl, hw⟩
end
end Go.Proofs.YteelffkghidpfaaGreat

/- Plain facts on numbers of 64 and 128 bits, for the walks of math/bits and wide: the length in bits, the long division of 128 by 64 bits. -/
namespace Go.Proofs.YteelffkghidpfaaGreat
/-- the length in bits -/
def BL (x L : Int) : Prop := 0 ≤ L ∧ L ≤ 64 ∧ (x = 0 → L = 0) ∧ (x ≠ 0 → 1 ≤ L ∧ 2 ^ (L - 1).toNat ≤ x.toNat ∧ x.toNat < 2 ^ L.toNat)
theorem BL_of {x : Int} (h0 : 0 ≤ x) (h : x < 18446744073709551616) : BL x (bitLen x.toNat) := by
  obtain ⟨h1, h2⟩ := bitLen_spec x.toNat
  have h3 : bitLen x.toNat ≤ 64 := by
    by_cases hx : x.toNat = 0
    · simp [bitLen, hx]
    · have := h2 hx
      rcases Nat.lt_or_ge 64 (bitLen x.toNat) with h4 | h4
      · have : (2 : Nat) ^ 64 ≤ 2 ^ (bitLen x.toNat - 1) := Nat.pow_le_pow_right (by omega) (by omega)
        omega
      · exact h4
  refine ⟨by omega, by omega, fun hx => by subst hx; rfl, fun hx => ?_⟩
  have hx' : x.toNat ≠ 0 := by omega
  have h4 : 1 ≤ bitLen x.toNat := by
    rcases Nat.eq_zero_or_pos (bitLen x.toNat) with h5 | h5
    · rw [h5] at h1; omega
    · exact h5
  refine ⟨by omega, ?_, by simpa using h1⟩
  rw [show (((bitLen x.toNat : Nat) : Int) - 1).toNat = bitLen x.toNat - 1 from by omega]
  exact h2 hx'
/-- a shift by whole bytes takes its bits off the length -/
theorem bitLen_cut (x : Int) (b : Nat) (h0 : 0 ≤ x) (h : (2 : Int) ^ b ≤ x) : (bitLen x.toNat : Int) = b + bitLen (x / 2 ^ b).toNat := by
  have e : (x / 2 ^ b).toNat = x.toNat / 2 ^ b := by
    obtain ⟨n, rfl⟩ := Int.eq_ofNat_of_zero_le h0
    rw [show ((2 : Int) ^ b) = ((2 ^ b : Nat) : Int) from by simp, ← Int.natCast_ediv]; rfl
  have hp : 0 < 2 ^ b := Nat.two_pow_pos b
  have : x.toNat / 2 ^ b ≠ 0 := by
    have : 2 ^ b ≤ x.toNat := by
      have h' : ((2 ^ b : Nat) : Int) ≤ x := by simpa using h
      omega
    have := (Nat.le_div_iff_mul_le hp).2 (by simpa using this : 1 * 2 ^ b ≤ x.toNat)
    omega
  rw [bitLen_shift x.toNat b this, e]
  omega

/-! the long division -/
end Go.Proofs.YteelffkghidpfaaGreat

set_option linter.unusedVariables false
set_option linter.unusedSimpArgs false
namespace Hd
open Go
/-! ## the cells of a histogram (plain): u the unit's bits, g the magnitude -/
theorem p2pos (k : Nat) : 0 < 2 ^ k := Nat.two_pow_pos k
theorem bl_le {n k : Nat} : bitLen n ≤ k ↔ n < 2 ^ k := by
  obtain ⟨h1, h2⟩ := bitLen_spec n
  constructor
  · intro h
    exact Nat.lt_of_lt_of_le h1 (Nat.pow_le_pow_right (by decide) h)
  · intro h
    rcases Nat.lt_or_ge k (bitLen n) with h3 | h3
    · exfalso
      by_cases h0 : n = 0
      · subst h0
        have : bitLen 0 = 0 := by simp [bitLen]
        omega
      · have := h2 h0
        have h4 : 2 ^ k ≤ 2 ^ (bitLen n - 1) := Nat.pow_le_pow_right (by decide) (by omega)
        omega
    · exact h3
theorem bl_gt {n k : Nat} : k < bitLen n ↔ 2 ^ k ≤ n := by
  have := bl_le (n := n) (k := k)
  omega
/-- the bucket of a value -/
def bkt (u g v : Nat) : Nat := bitLen v - (u + g)
/-- its cell's index -/
def idx (u g v : Nat) : Nat := bkt u g v * 2 ^ (g - 1) + v / 2 ^ (bkt u g v + u)
/-- where its cell begins -/
def low (u g v : Nat) : Nat := v / 2 ^ (bkt u g v + u) * 2 ^ (bkt u g v + u)
def siz (u g v : Nat) : Nat := 2 ^ (bkt u g v + u)
/-- where the cell with an index begins, if there is one -/
def ivb (g i : Nat) : Nat := i / 2 ^ (g - 1) - 1
def ivk (g i : Nat) : Nat := if i / 2 ^ (g - 1) = 0 then i else i % 2 ^ (g - 1) + 2 ^ (g - 1)
def isI (u g i : Nat) : Prop := ivb g i ≤ 64 ∧ bitLen (ivk g i) + ivb g i + u ≤ 63
def ival (u g i : Nat) : Nat := ivk g i * 2 ^ (ivb g i + u)
def topv (u g n : Nat) : Nat := if 63 ≤ min (max n 1) 64 - 1 + u + g then 9223372036854775807 else 2 ^ (min (max n 1) 64 - 1 + u + g) - 1
/-- a value's place in its bucket -/
theorem cel_lt {u g v : Nat} : v / 2 ^ (bkt u g v + u) < 2 ^ g := by
  rw [Nat.div_lt_iff_lt_mul (p2pos _), ← Nat.pow_add]
  refine bl_le.1 ?_
  unfold bkt; omega
theorem half_two {g : Nat} (hg : 1 ≤ g) : 2 ^ g = 2 * 2 ^ (g - 1) := by
  have := Nat.pow_succ (n := 2) (m := g - 1)
  rw [show (g - 1).succ = g by omega] at this; omega
/-- the cell with an index begins at a value of that index -/
theorem ival_idx {u g i : Nat} (hg : 1 ≤ g) (h : isI u g i) : idx u g (ival u g i) = i ∧ low u g (ival u g i) = ival u g i := by
  obtain ⟨h1, h2⟩ := h
  have hp := p2pos (g - 1)
  have hh := half_two hg
  have hdm := Nat.div_add_mod i (2 ^ (g - 1))
  have hml := Nat.mod_lt i hp
  have hb : bkt u g (ival u g i) = ivb g i := by
    unfold bkt ival
    by_cases h0 : i / 2 ^ (g - 1) = 0
    · have hb0 : ivb g i = 0 := by unfold ivb; omega
      have hk : ivk g i = i := by unfold ivk; rw [if_pos h0]
      rw [hb0, hk, Nat.zero_add]
      rw [h0] at hdm
      have : bitLen (i * 2 ^ u) ≤ u + g := bl_le.2 (by
        rw [Nat.pow_add 2 u g, Nat.mul_comm]
        exact Nat.mul_lt_mul_of_pos_left (by omega) (p2pos u))
      omega
    · have hk : ivk g i = i % 2 ^ (g - 1) + 2 ^ (g - 1) := by unfold ivk; rw [if_neg h0]
      have l1 : bitLen (ivk g i * 2 ^ (ivb g i + u)) ≤ g + (ivb g i + u) := bl_le.2 (by
        rw [Nat.pow_add 2 g]
        exact Nat.mul_lt_mul_of_pos_right (by omega) (p2pos _))
      have l2 : g - 1 + (ivb g i + u) < bitLen (ivk g i * 2 ^ (ivb g i + u)) := bl_gt.2 (by
        rw [Nat.pow_add 2 (g - 1)]
        exact Nat.mul_le_mul_right _ (by omega))
      omega
  have hc : ival u g i / 2 ^ (ivb g i + u) = ivk g i := by unfold ival; rw [Nat.mul_div_cancel _ (p2pos _)]
  have hi : ivb g i * 2 ^ (g - 1) + ivk g i = i := by
    by_cases h0 : i / 2 ^ (g - 1) = 0
    · have hb0 : ivb g i = 0 := by unfold ivb; omega
      have hk : ivk g i = i := by unfold ivk; rw [if_pos h0]
      rw [hb0, hk]; omega
    · have hk : ivk g i = i % 2 ^ (g - 1) + 2 ^ (g - 1) := by unfold ivk; rw [if_neg h0]
      have e : i / 2 ^ (g - 1) = ivb g i + 1 := (Nat.sub_add_cancel (Nat.pos_of_ne_zero h0)).symm
      rw [e, Nat.mul_add, Nat.mul_comm (2 ^ (g - 1)) (ivb g i), Nat.mul_one] at hdm
      rw [hk]; omega
  refine ⟨?_, ?_⟩
  · unfold idx; rw [hb, hc, hi]
  · unfold low; rw [hb, hc]; rfl
theorem ival_lt {u g i : Nat} (h : isI u g i) : ival u g i < 2 ^ 63 := by
  obtain ⟨h1, h2⟩ := h
  have := bl_le.1 (Nat.le_refl (bitLen (ivk g i)))
  unfold ival
  refine Nat.lt_of_lt_of_le (Nat.mul_lt_mul_of_pos_right this (p2pos _)) ?_
  rw [← Nat.pow_add]
  exact Nat.pow_le_pow_right (by decide) (by omega)
end Hd

namespace Go.Proofs.YteelffkghidpfaaGreat
open Sx Go
set_option linter.unusedVariables false
set_option linter.unusedSimpArgs false
theorem Len64_c {w0 : World} {H : List Asn} (x : Int) (hx : 0 ≤ x ∧ x < 18446744073709551616) (w : World) (hw : St w0 H w) :
    Calls Tryz.prog 111 #[.int .u64 x] w fun e w' => ∃ L, e = .returned (.int .i64 L) ∧ St w0 H w' ∧ BL x L := by
  refine enter (vs := [.int .u64 x]) Tryz.func111 rfl rfl rfl hw ?_
  repeat (first | (refine sy ?_; try intro _))
  refine JS_join2 (fun (y L : Int) => [(0, .int .u64 y), (2, .int .i64 L)]) (fun _ _ => H) (fun y L => 0 ≤ y ∧ y < 4294967296 ∧ 0 ≤ L ∧ L ≤ 32 ∧ (bitLen x.toNat : Int) = L + bitLen y.toNat) ?_ ?_
  · rintro y L ⟨h1, h2, h3, h4, h5⟩
    repeat (first | (refine sy ?_; try intro _))
    refine JS_join2 (fun (y L : Int) => [(0, .int .u64 y), (2, .int .i64 L)]) (fun _ _ => H) (fun y L => 0 ≤ y ∧ y < 65536 ∧ 0 ≤ L ∧ L ≤ 48 ∧ (bitLen x.toNat : Int) = L + bitLen y.toNat) ?_ ?_
    · clear h1 h2 h3 h4 h5 y L
      rintro y L ⟨h1, h2, h3, h4, h5⟩
      repeat (first | (refine sy ?_; try intro _))
      refine JS_join2 (fun (y L : Int) => [(0, .int .u64 y), (2, .int .i64 L)]) (fun _ _ => H) (fun y L => 0 ≤ y ∧ y < 256 ∧ 0 ≤ L ∧ L ≤ 56 ∧ (bitLen x.toNat : Int) = L + bitLen y.toNat) ?_ ?_
      · clear h1 h2 h3 h4 h5 y L
        rintro y L ⟨h1, h2, h3, h4, h5⟩
        have h8 := bitLen_le8 y.toNat (by omega)
        repeat (first | (refine sy ?_; try intro _))
        refine JO_v (V_indexS (tb := tb) bitLen 256 rfl rfl rfl (by kernel_rfl) (by omega) rfl) ?_
        repeat (first | (refine sy ?_; try intro _))
        refine JS_ret Tryz.func111 rfl rfl ?_
        intro w hw
        refine ⟨_, rfl, hw, ?_⟩
        rw [← h5]
        exact BL_of hx.1 hx.2
      · intro K
        refine JS_condD rfl (fun hc => ?_) (fun hc => ?_)
        · have e := bitLen_cut y 8 h1 (by omega)
          simp only [Int.reducePow] at e
          repeat (first | exact JS_to2 K (y / 256) (L + 8) ⟨by omega, by omega, by omega, by omega, by omega⟩ (by repeat (first | exact trivial | refine ⟨rfl, ?_⟩ | refine ⟨lookI rfl (by omega), ?_⟩)) (fun _ h => h) | (first | (refine sy ?_; try intro _)))
        · repeat (first | exact JS_to2 K (y) (L) ⟨by omega, by omega, by omega, by omega, by omega⟩ (by repeat (first | exact trivial | refine ⟨rfl, ?_⟩ | refine ⟨lookI rfl (by omega), ?_⟩)) (fun _ h => h) | (first | (refine sy ?_; try intro _)))
    · intro K
      refine JS_condD rfl (fun hc => ?_) (fun hc => ?_)
      · have e := bitLen_cut y 16 h1 (by omega)
        simp only [Int.reducePow] at e
        repeat (first | exact JS_to2 K (y / 65536) (L + 16) ⟨by omega, by omega, by omega, by omega, by omega⟩ (by repeat (first | exact trivial | refine ⟨rfl, ?_⟩ | refine ⟨lookI rfl (by omega), ?_⟩)) (fun _ h => h) | (first | (refine sy ?_; try intro _)))
      · repeat (first | exact JS_to2 K (y) (L) ⟨by omega, by omega, by omega, by omega, by omega⟩ (by repeat (first | exact trivial | refine ⟨rfl, ?_⟩ | refine ⟨lookI rfl (by omega), ?_⟩)) (fun _ h => h) | (first | (refine sy ?_; try intro _)))
  · intro K
    refine JS_condD rfl (fun hc => ?_) (fun hc => ?_)
    · have e := bitLen_cut x 32 hx.1 (by omega)
      simp only [Int.reducePow] at e
      repeat (first | exact JS_to2 K (x / 4294967296) (32) ⟨by omega, by omega, by omega, by omega, by omega⟩ (by repeat (first | exact trivial | refine ⟨rfl, ?_⟩ | refine ⟨lookI rfl (by omega), ?_⟩)) (fun _ h => h) | (first | (refine sy ?_; try intro _)))
    · repeat (first | exact JS_to2 K (x) (0) ⟨by omega, by omega, by omega, by omega, by omega⟩ (by repeat (first | exact trivial | refine ⟨rfl, ?_⟩ | refine ⟨lookI rfl (by omega), ?_⟩)) (fun _ h => h) | (first | (refine sy ?_; try intro _)))
end Go.Proofs.YteelffkghidpfaaGreat

namespace Sx
open Go
/-- block b holds a map -/
@[irreducible] def mapA (b : Nat) (es : Array MapEntry) (clock : Nat) : Asn where
  holds w fp := fp = [b] ∧ w.heap[b]? = some (.map es clock)
  frame w w' fp h hk := ⟨h.1, by rw [hk b (by simp [h.1])]; exact h.2⟩
  live w fp h b' hb := by
    obtain ⟨rfl, hT⟩ := h
    simp at hb; subst hb
    exact (Array.getElem?_eq_some_iff.1 hT).1
theorem mapA_holds {b es clock w fp} : (mapA b es clock).holds w fp ↔ fp = [b] ∧ w.heap[b]? = some (.map es clock) := by unfold mapA; exact Iff.rfl
theorem St.newMap {w0 H w} (h : St w0 H w) : St w0 (mapA w.heap.size #[] 0 :: H) (w.alloc (.map #[] 0)) := by
  refine St.step («as» := []) (bs := [mapA w.heap.size #[] 0]) h rfl rfl rfl (by simp) ?_
  intro f1 hf _ _
  simp [All] at hf
  subst hf
  refine ⟨fun b hb _ => heap_alloc_old w _ hb, [w.heap.size], by simp, by simp, [w.heap.size], [], by simp, mapA_holds.2 ⟨rfl, heap_alloc_new w _⟩, rfl⟩
section
variable {P : Program} {f n : Nat} {R : Ending → World → Prop} {D : List Deferred} {w0 : World} {k : List Item} {ov : Ov} {H : List Asn}
  {ops : Array Oper} {l : List Oper} {d : Option Nat} {T : Nat} {pos : String} {af : Array Edge} {g : Option (Nat × Bool)}
theorem kMm {t : Nat} {r : Option Operand} (h : JO P f n R D w0 ops ⟨d, .makeMap t r, T, pos, af, g⟩ l k ov H) : JO P f n R D w0 ops ⟨d, .makeMap t r, T, pos, af, g⟩ l k ov H := h
theorem JO_makeMap {t : Nat} (hd : dOk d n = true) (hn : ∀ b, JR P f n R D w0 ops l k (put d (.map (some b)) ov) (mapA b #[] 0 :: H)) : JO P f n R D w0 ops ⟨d, .makeMap t none, T, pos, af, g⟩ l k ov H :=
  JO_step fun a w ha hw => ⟨.map (some w.heap.size), w.alloc (.map #[] 0), by simp [execOp, RowKit.run_makeMap], hd, _, hw.newMap, hn w.heap.size⟩
end
end Sx

set_option linter.unusedVariables false
set_option linter.unusedSimpArgs false
namespace Sx
open Go
/-! maps: entries in a list, in the order in which they came -/
def isKey (P : Program) (k : TypeId) (v : Value) : Prop := ∃ l, keyOf P k v = some l
/-- what the operations need of a key's type -/
structure KeyT (P : Program) (k : TypeId) : Prop where
  check : ∀ (w : World) (em : Bool) {v : Value}, isKey P k v → (Instr.checkKey em 10000 k v).run P w = .ok () w
  find : ∀ (w : World) {x : Value}, isKey P k x → ∀ es : List MapEntry, (∀ e ∈ es, isKey P k e.key) →
    ((Instr.findKey k x es).run P w = .ok none w ∧ ∀ e ∈ es, e.key ≠ x) ∨ ∃ j e, (Instr.findKey k x es).run P w = .ok (some (j, e.val)) w ∧ es[j]? = some e ∧ e.key = x
  stays : ∀ (w : World) {v : Value}, isKey P k v → (Instr.keyThatStays v v).run P w = .ok v w
theorem KeyT.of {P : Program} {k : TypeId} (K : Maps.Keyed P k) : KeyT P k :=
  ⟨fun w em _ ⟨_, h⟩ => K.check w em h, fun w _ ⟨_, h⟩ es hes => K.find w h es hes, fun w _ ⟨_, h⟩ => K.stays w h⟩
structure MOk (P : Program) (k : TypeId) (es : List MapEntry) (clock : Nat) : Prop where
  key : ∀ e ∈ es, isKey P k e.key
  nodup : (es.map (·.key)).Nodup
  lt : ∀ e ∈ es, e.born < clock
  born : (es.map (·.born)).Nodup
theorem MOk.nil {P : Program} {k : TypeId} {clock : Nat} : MOk P k [] clock := ⟨by simp, by simp, by simp, by simp⟩
theorem MOk.push {P : Program} {k : TypeId} {es : List MapEntry} {clock : Nat} (h : MOk P k es clock) {key v : Value} (hk : isKey P k key) (hn : ∀ e ∈ es, e.key ≠ key) : MOk P k (es ++ [⟨key, v, clock⟩]) (clock + 1) := by
  refine ⟨?_, ?_, ?_, ?_⟩
  · intro e he
    rcases List.mem_append.1 he with he | he
    · exact h.key e he
    · simp at he; subst he; exact hk
  · rw [List.map_append, List.map_cons, List.map_nil]
    refine List.nodup_append.2 ⟨h.nodup, by simp, fun a ha b hb e => ?_⟩
    simp only [List.mem_singleton] at hb
    obtain ⟨x, hx, rfl⟩ := List.mem_map.1 ha
    exact hn x hx (e.trans hb)
  · intro e he
    rcases List.mem_append.1 he with he | he
    · have := h.lt e he; omega
    · simp at he; subst he; simp
  · rw [List.map_append, List.map_cons, List.map_nil]
    refine List.nodup_append.2 ⟨h.born, by simp, fun a ha b hb e => ?_⟩
    simp only [List.mem_singleton] at hb
    obtain ⟨x, hx, rfl⟩ := List.mem_map.1 ha
    have := h.lt x hx
    omega
theorem MOk.setv {P : Program} {k : TypeId} {A B : List MapEntry} {e : MapEntry} {clock : Nat} (h : MOk P k (A ++ e :: B) clock) (v : Value) : MOk P k (A ++ { e with val := v } :: B) clock := by
  refine ⟨?_, ?_, ?_, ?_⟩
  · intro x hx
    rcases List.mem_append.1 hx with hx | hx
    · exact h.key x (List.mem_append_left _ hx)
    · rcases List.mem_cons.1 hx with rfl | hx
      · exact h.key e (by simp)
      · exact h.key x (by simp [hx])
  · have := h.nodup
    simpa using this
  · intro x hx
    rcases List.mem_append.1 hx with hx | hx
    · exact h.lt x (List.mem_append_left _ hx)
    · rcases List.mem_cons.1 hx with rfl | hx
      · exact h.lt e (by simp)
      · exact h.lt x (by simp [hx])
  · have := h.born
    simpa using this
theorem key_inj : ∀ {es : List MapEntry}, (es.map (·.key)).Nodup → ∀ {x y : MapEntry}, x ∈ es → y ∈ es → x.key = y.key → x = y
  | [], _, _, _, hx, _, _ => absurd hx (by simp)
  | e :: r, h, x, y, hx, hy, hk => by
    rw [List.map_cons, List.nodup_cons] at h
    rcases List.mem_cons.1 hx with hx | hx <;> rcases List.mem_cons.1 hy with hy | hy
    · rw [hx, hy]
    · rw [hx] at hk; exact absurd (List.mem_map.2 ⟨y, hy, hk.symm⟩) h.1
    · rw [hy] at hk; exact absurd (List.mem_map.2 ⟨x, hx, hk⟩) h.1
    · exact key_inj h.2 hx hy hk
/-- a block holds a map of these entries -/
abbrev mapL (b : Nat) (es : List MapEntry) (clock : Nat) : Asn := mapA b es.toArray clock
theorem St.map_get {w0 H w b es clock} (h : St w0 H w) (hm : mapL b es clock ∈ H) : w.heap[b]? = some (.map es.toArray clock) := by
  obtain ⟨f, hf⟩ := h.mem hm
  exact (mapA_holds.1 hf).2
theorem St.map_put {w0 H w b es clock} {F : Asn → List Asn} (es' : List MapEntry) (clock' : Nat) (h : St w0 H w) (hu : Sel H (mapL b es clock) F) : St w0 (F (mapL b es' clock')) { w with heap := w.heap.setIfInBounds b (.map es'.toArray clock') } := by
  refine h.upd (hu.upd _) rfl rfl rfl (by simp) ?_
  intro f1 hf
  obtain ⟨rfl, hb⟩ := mapA_holds.1 hf
  have hs := MapKept.heap_set (o' := .map es'.toArray clock') hb
  exact ⟨fun b' _ hb' => hs.2 b' (by simpa using hb'), [b], by simp, by simp, mapA_holds.2 ⟨rfl, hs.1⟩⟩
section
variable {P : Program} {n : Nat} {D : List Deferred} {w0 : World} {ov : Ov} {H : List Asn}
  {d : Option Nat} {T : Nat} {pos : String} {af : Array Edge} {g : Option (Nat × Bool)} {x y y2 : Operand} {tb : Tb P} {t k e : TypeId} {s1 b1 : Nat} {z1 : Option (List Value)} {b clock : Nat} {es : List MapEntry} {key v : Value}
theorem KeyT.found (K : KeyT P k) (w : World) (hM : MOk P k es clock) {e0 : MapEntry} (he : e0 ∈ es) : ∃ j, (Instr.findKey k e0.key es).run P w = .ok (some (j, e0.val)) w ∧ es[j]? = some e0 := by
  rcases K.find w (hM.key e0 he) es hM.key with ⟨_, h⟩ | ⟨j, e1, h1, h2, h3⟩
  · exact absurd rfl (h e0 he)
  · have : e1 = e0 := key_inj hM.nodup (List.mem_of_getElem? h2) he h3
    subst this
    exact ⟨j, h1, h2⟩
theorem KeyT.missed (K : KeyT P k) (w : World) (hM : MOk P k es clock) (hk : isKey P k key) (hn : ∀ e ∈ es, e.key ≠ key) : (Instr.findKey k key es).run P w = .ok none w := by
  rcases K.find w hk es hM.key with ⟨h, _⟩ | ⟨j, e1, h1, h2, h3⟩
  · exact h
  · exact absurd h3 (hn e1 (List.mem_of_getElem? h2))
theorem V_lookupT (K : KeyT P k) (h : tlook tb.l t = some ⟨.map k e, s1, b1, z1⟩) (hx : ev ov x = some (.map (some b))) (hy : ev ov y = some key) (hb : mapL b es clock ∈ H) (hM : MOk P k es clock) {e0 : MapEntry} (he : e0 ∈ es) (hk : e0.key = key) (hd : dOk d n = true) :
    OpV P n D w0 ov H ⟨d, .lookup t x y false, T, pos, af, g⟩ e0.val := by
  unfold OpV
  refine ⟨hd, fun a w ha hw => ?_⟩
  subst hk
  obtain ⟨j, h1, h2⟩ := K.found w hM he
  simp [execOp, ha.ev hx, ha.ev hy, Instr.lookup, run_underlying (und_map h), MapKept.run_getObj_map (hw.map_get hb), K.check w _ (hM.key e0 he), h1]
theorem V_lookupF (K : KeyT P k) (h : tlook tb.l t = some ⟨.map k e, s1, b1, z1⟩) (hx : ev ov x = some (.map (some b))) (hy : ev ov y = some key) (hb : mapL b es clock ∈ H) (hM : MOk P k es clock) (hkey : isKey P k key) (hn : ∀ e ∈ es, e.key ≠ key) (hz : ∀ w, (zeroValue e).run P w = .ok v w) (hd : dOk d n = true) :
    OpV P n D w0 ov H ⟨d, .lookup t x y false, T, pos, af, g⟩ v := by
  unfold OpV
  refine ⟨hd, fun a w ha hw => ?_⟩
  have h1 := K.missed w hM hkey hn
  simp [execOp, ha.ev hx, ha.ev hy, Instr.lookup, run_underlying (und_map h), MapKept.run_getObj_map (hw.map_get hb), K.check w _ hkey, h1, hz]
theorem setIf_same {w : World} {o : Obj} (hb : w.heap[b]? = some o) : { w with heap := w.heap.setIfInBounds b o } = w := by
  have hlt := (Array.getElem?_eq_some_iff.1 hb).1
  have : w.heap.setIfInBounds b o = w.heap := by
    apply Array.ext_getElem?
    intro i
    by_cases hi : b = i
    · subst hi
      rw [Array.getElem?_setIfInBounds_self_of_lt hlt, hb]
    · rw [Array.getElem?_setIfInBounds_ne hi]
  rw [this]
/-- an entry that is there: nothing changes -/
theorem E_entryT (K : KeyT P k) (h : tlook tb.l t = some ⟨.map k e, s1, b1, z1⟩) (hx : ev ov x = some (.map (some b))) (hy : ev ov y = some key) (hb : mapL b es clock ∈ H) (hM : MOk P k es clock) {e0 : MapEntry} (he : e0 ∈ es) (hk : e0.key = key) (hd : dOk d n = true) :
    OpE (ι := Unit) P n D w0 ov H ⟨d, .mapEntry t x y, T, pos, af, g⟩ (fun _ => .tuple #[e0.val, .int .i64 e0.born]) (fun _ => H) := by
  unfold OpE
  refine ⟨hd, fun a w ha hw => ?_⟩
  subst hk
  obtain ⟨j, h1, h2⟩ := K.found w hM he
  have hg := hw.map_get hb
  have hj : es.toArray[j]? = some e0 := by simpa using h2
  have hsame : es.modify j (fun e => { e with key := e0.key }) = es := by
    rw [ChangeMaps.modify_eq_set _ _ _ _ h2]
    exact WideElems.set_self _ _ _ h2
  refine ⟨(), w, ?_, hw⟩
  have hs := setIf_same hg
  simp [execOp, ha.ev hx, ha.ev hy, Instr.mapEntry, run_underlying (und_map h), MapKept.run_getObj_map hg, K.check w _ (hM.key e0 he), h1, hj, h2, K.stays w (hM.key e0 he), MapKept.run_setObj_map _ hg, goInt]
  rw [hsame] ; exact hs
/-- a new entry -/
theorem E_entryF {F : Asn → List Asn} (K : KeyT P k) (h : tlook tb.l t = some ⟨.map k e, s1, b1, z1⟩) (hx : ev ov x = some (.map (some b))) (hy : ev ov y = some key) (hu : Sel H (mapL b es clock) F) (hM : MOk P k es clock) (hkey : isKey P k key) (hn : ∀ e ∈ es, e.key ≠ key) (hz : ∀ w, (zeroValue e).run P w = .ok v w) (hd : dOk d n = true) :
    OpE (ι := Unit) P n D w0 ov H ⟨d, .mapEntry t x y, T, pos, af, g⟩ (fun _ => .tuple #[v, .int .i64 clock]) (fun _ => F (mapL b (es ++ [⟨key, v, clock⟩]) (clock + 1))) := by
  unfold OpE
  refine ⟨hd, fun a w ha hw => ?_⟩
  have h1 := K.missed w hM hkey hn
  have hg := hw.map_get hu.mem
  refine ⟨(), _, ?_, hw.map_put (es ++ [⟨key, v, clock⟩]) (clock + 1) hu⟩
  simp [execOp, ha.ev hx, ha.ev hy, Instr.mapEntry, run_underlying (und_map h), MapKept.run_getObj_map hg, K.check w _ hkey, h1, hz, MapKept.run_setObj_map _ hg, goInt]
/-- the value of an entry is set -/
theorem K_entryStore {F : Asn → List Asn} {A B : List MapEntry} {e0 : MapEntry} (hx : ev ov x = some (.map (some b))) (hy : ev ov y = some (.int .i64 e0.born)) (hv : ev ov y2 = some v) (hu : Sel H (mapL b (A ++ e0 :: B) clock) F) (hM : MOk P k (A ++ e0 :: B) clock) (hd : dOk d n = true) :
    OpK P n D w0 ov H ⟨d, .entryStore t x y y2, T, pos, af, g⟩ (F (mapL b (A ++ { e0 with val := v } :: B) clock)) := by
  unfold OpK
  refine ⟨hd, fun a w ha hw => ?_⟩
  have hg := hw.map_get hu.mem
  refine ⟨_, ?_, hw.map_put (A ++ { e0 with val := v } :: B) clock hu⟩
  have hj : (A ++ e0 :: B)[A.length]? = some e0 := by simp
  have hidx : (A ++ e0 :: B).toArray.findIdx? (fun e => ((e.born : Nat) : Int) == ((e0.born : Nat) : Int)) = some A.length := by
    rw [WideElems.findIdx_arr]
    exact WideElems.findIdx_born hM.born hj
  have hmod : (A ++ e0 :: B).toArray.modify A.length (fun e => { e with val := v }) = (A ++ { e0 with val := v } :: B).toArray := by
    apply Array.ext'
    rw [Array.toList_modify, ChangeMaps.modify_eq_set _ _ _ _ hj]
    simp
  simp [execOp, ha.ev hx, ha.ev hy, ha.ev hv, Instr.entryStore, MapKept.run_getObj_map hg, asInt, asIntOf, hidx, hmod, MapKept.run_setObj_map _ hg]
/-- m[key] = v, key there -/
theorem K_mapUpdateT {F : Asn → List Asn} {A B : List MapEntry} {e0 : MapEntry} (K : KeyT P k) (h : tlook tb.l t = some ⟨.map k e, s1, b1, z1⟩) (hx : ev ov x = some (.map (some b))) (hy : ev ov y = some e0.key) (hv : ev ov y2 = some v) (hu : Sel H (mapL b (A ++ e0 :: B) clock) F) (hM : MOk P k (A ++ e0 :: B) clock) (hd : dOk d n = true) :
    OpK P n D w0 ov H ⟨d, .mapUpdate t x y y2, T, pos, af, g⟩ (F (mapL b (A ++ { e0 with val := v } :: B) clock)) := by
  unfold OpK
  refine ⟨hd, fun a w ha hw => ?_⟩
  have hg := hw.map_get hu.mem
  have he : e0 ∈ A ++ e0 :: B := by simp
  obtain ⟨j, h1, h2⟩ := K.found w hM he
  refine ⟨_, ?_, hw.map_put (A ++ { e0 with val := v } :: B) clock hu⟩
  have hj : (A ++ e0 :: B).toArray[j]? = some e0 := by simpa using h2
  have hjA : j = A.length := by
    have hn := hM.born
    have hA : (A ++ e0 :: B)[A.length]? = some e0 := by simp
    have i1 := WideElems.findIdx_born hn h2
    have i2 := WideElems.findIdx_born hn hA
    rw [i1] at i2
    simpa using i2
  have hmod : (A ++ e0 :: B).modify j (fun e => { e with key := e0.key, val := v }) = A ++ { e0 with val := v } :: B := by
    rw [ChangeMaps.modify_eq_set _ _ _ _ h2, hjA]
    simp
  have hj' : (A ++ e0 :: B)[j]? = some e0 := h2
  simp [-List.append_toArray, -List.push_append_toArray, execOp, ha.ev hx, ha.ev hy, ha.ev hv, Instr.mapUpdate, run_underlying (und_map h), MapKept.run_getObj_map hg, K.check w _ (hM.key e0 he), h1, hj', K.stays w (hM.key e0 he), MapKept.run_setObj_map _ hg]
  rw [hmod]
theorem K_mapUpdateF {F : Asn → List Asn} (K : KeyT P k) (h : tlook tb.l t = some ⟨.map k e, s1, b1, z1⟩) (hx : ev ov x = some (.map (some b))) (hy : ev ov y = some key) (hv : ev ov y2 = some v) (hu : Sel H (mapL b es clock) F) (hM : MOk P k es clock) (hkey : isKey P k key) (hn : ∀ e ∈ es, e.key ≠ key) (hd : dOk d n = true) :
    OpK P n D w0 ov H ⟨d, .mapUpdate t x y y2, T, pos, af, g⟩ (F (mapL b (es ++ [⟨key, v, clock⟩]) (clock + 1))) := by
  unfold OpK
  refine ⟨hd, fun a w ha hw => ?_⟩
  have h1 := K.missed w hM hkey hn
  have hg := hw.map_get hu.mem
  refine ⟨_, ?_, hw.map_put (es ++ [⟨key, v, clock⟩]) (clock + 1) hu⟩
  simp [execOp, ha.ev hx, ha.ev hy, ha.ev hv, Instr.mapUpdate, run_underlying (und_map h), MapKept.run_getObj_map hg, K.check w _ hkey, h1, MapKept.run_setObj_map _ hg]
/-- a slice's cells as an array behind a pointer -/
theorem V_arrayAt {a : Option Addr} {m c q e : Nat} (hx : ev ov x = some (.slice a m c)) (h : tlook tb.l t = some ⟨.arr q e, s1, b1, z1⟩) (hq : q ≤ m) (hd : dOk d n = true) :
    OpV P n D w0 ov H ⟨d, .sliceToArrayPointer t x, T, pos, af, g⟩ (.pointer a) := by
  unfold OpV
  refine ⟨hd, fun A w ha hw => ?_⟩
  simp [execOp, ha.ev hx, Instr.arrayAt, run_underlying (und_arr h), Nat.not_lt.2 hq]
end
/-! many assertions as one -/
@[irreducible] def bigA (l : List Asn) : Asn where
  holds w fp := All l w fp ∧ fp.Nodup
  frame w w' fp h hk := ⟨h.1.frame hk, h.2⟩
  live w fp h := h.1.live
theorem bigA_holds {l w fp} : (bigA l).holds w fp ↔ All l w fp ∧ fp.Nodup := by unfold bigA; exact Iff.rfl
theorem St.unbig {w0 : World} {l H : List Asn} {w : World} (h : St w0 (bigA l :: H) w) : St w0 (l ++ H) w := by
  refine h.step («as» := [bigA l]) (bs := l) rfl rfl rfl (Nat.le_refl _) fun f1 hf hn _ => ?_
  obtain ⟨g1, g2, rfl, hg, hnil⟩ := hf
  simp [All] at hnil
  subst hnil
  rw [List.append_nil] at hn ⊢
  exact ⟨fun _ _ _ => rfl, g1, hn, fun _ hb => .inl hb, (bigA_holds.1 hg).1⟩
theorem St.big {w0 : World} {l H : List Asn} {w : World} (h : St w0 (l ++ H) w) : St w0 (bigA l :: H) w := by
  refine h.step («as» := l) (bs := [bigA l]) rfl rfl rfl (Nat.le_refl _) fun f1 hf hn _ => ?_
  exact ⟨fun _ _ _ => rfl, f1, hn, fun _ hb => .inl hb, f1, [], by simp, bigA_holds.2 ⟨hf, hn⟩, rfl⟩
/-- one of many is taken out, and put back -/
theorem St.big_out {w0 : World} {A B H : List Asn} {a : Asn} {w : World} (h : St w0 (bigA (A ++ a :: B) :: H) w) : St w0 (a :: bigA (A ++ B) :: H) w := by
  have h1 := h.unbig
  have h2 : St w0 ((A ++ B) ++ (a :: H)) w := h1.perm (by
    simp only [List.append_assoc, List.cons_append]
    exact List.Perm.append_left A (List.perm_middle.symm))
  exact h2.big.perm (List.Perm.swap _ _ _)
theorem St.big_in {w0 : World} {A B H : List Asn} {a : Asn} {w : World} (h : St w0 (a :: bigA (A ++ B) :: H) w) : St w0 (bigA (A ++ a :: B) :: H) w := by
  have h1 : St w0 (bigA (A ++ B) :: a :: H) w := h.perm (List.Perm.swap _ _ _)
  have h2 := h1.unbig
  refine St.big (h2.perm ?_)
  simp only [List.append_assoc, List.cons_append]
  exact List.Perm.append_left A (List.perm_middle)
theorem St.big_nil {w0 : World} {H : List Asn} {w : World} (h : St w0 H w) : St w0 (bigA [] :: H) w := St.big (l := []) h
end Sx
namespace Sx
open Go
section
variable {P : Program} {n : Nat} {D : List Deferred} {w0 : World} {ov : Ov} {H : List Asn}
  {d : Option Nat} {T : Nat} {pos : String} {af : Array Edge} {g : Option (Nat × Bool)} {x y : Operand} {tb : Tb P} {op : Op} {v : Value}
theorem OpE_ofV (h : OpV P n D w0 ov H ⟨d, op, T, pos, af, g⟩ v) : OpE (ι := Unit) P n D w0 ov H ⟨d, op, T, pos, af, g⟩ (fun _ => v) (fun _ => H) :=
  by
  unfold OpV at h
  unfold OpE
  exact ⟨h.1, fun a w ha hw => ⟨(), w, h.2 a w ha hw, hw⟩⟩
/-- an array that lies within a slice -/
theorem V_loadSub {t m c lo q sz sz1 by' : Nat} {ty : Ty} {z : Option (List Value)} {p : Option Addr} {cs vs : List Value} (hx : ev ov x = some (.pointer (subB p lo c sz1))) (hr : Rd w0 H (.slice p m c) m cs) (h : tlook tb.l t = some ⟨ty, sz, by', z⟩) (ha : aggT ty = true)
    (hq : lo + q ≤ m) (hsz : q * sz1 = sz) (hp : 0 < sz) (hl : vs.length = sz) (hv : (cs.drop (lo * sz1)).take sz = vs) (hd : dOk d n = true) : OpV P n D w0 ov H ⟨d, .load t x, T, pos, af, g⟩ (.agg vs.toArray) :=
  by
    unfold OpV
    refine ⟨hd, fun A w haa hw => ?_⟩
    have hs := Rd_sub (lo := lo) (hi := lo + q) (sz := sz1) hr (by omega) hq
    rw [Nat.add_sub_cancel_left, hsz, hv] at hs
    have hq0 : 0 < q := by
      rcases Nat.eq_zero_or_pos q with h | h
      · rw [h, Nat.zero_mul] at hsz; omega
      · exact h
    have hx' : ev ov x = some (cellPtr (.slice (subB p lo c sz1) q (c - lo)) 0) := by
      rw [hx]
      have hc := (hr.lcap hw).1
      cases p with
      | none => have := Rd.nil hr hw rfl; omega
      | some a =>
        rw [cellPtr_sub (by omega), subB, if_neg (by omega), Option.map_some, Nat.add_zero]
    have hv := V_loadCA (tb := tb) (T := T) (pos := pos) (af := af) (g := g) (n := n) (D := D) hx' hs h ha hl hp (by rw [List.drop_zero, ← hl, List.take_length]) hd
    unfold OpV at hv
    exact hv.2 A w haa hw
end
end Sx
namespace Sx
open Go
/-- a walk stops in front of a region -/
def Hold (p : Prop) : Prop := p
theorem Hold.go {p : Prop} (h : p) : Hold p := h
theorem hIx {P : Program} {f n : Nat} {R : Ending → World → Prop} {D : List Deferred} {w0 : World} {k : List Item} {ov : Ov} {H : List Asn} (i : Nat) {l : Array Oper} {b : Bool} {y : Code} (h : Hold (JS P f n R D w0 (.code (.seq (.region i l b) y) :: k) ov H)) : JS P f n R D w0 (.code (.seq (.region i l b) y) :: k) ov H := h
theorem hIx' {P : Program} {f n : Nat} {R : Ending → World → Prop} {D : List Deferred} {w0 : World} {k : List Item} {ov : Ov} {H : List Asn} (i : Nat) {l : Array Oper} {b : Bool} (h : Hold (JS P f n R D w0 (.code (.region i l b) :: k) ov H)) : JS P f n R D w0 (.code (.region i l b) :: k) ov H := h
attribute [irreducible] Hold
end Sx

namespace Go.Proofs.YteelffkghidpfaaGreat
open Sx Go Hd
set_option linter.unusedVariables false
set_option linter.unusedSimpArgs false
/-! ## the cells, walked -/
theorem BL_eq {x : Nat} {L : Int} (h : BL (x : Int) L) : L = ((bitLen x : Nat) : Int) := by
  obtain ⟨h1, h2, h3, h4⟩ := h
  obtain ⟨n, rfl⟩ := Int.eq_ofNat_of_zero_le h1
  congr 1
  by_cases h0 : x = 0
  · subst h0
    have := h3 rfl
    have e : bitLen 0 = 0 := by simp [bitLen]
    omega
  · obtain ⟨h5, h6, h7⟩ := h4 (by omega)
    rw [Int.toNat_natCast] at h6 h7
    have h8 : ((n : Int) - 1).toNat = n - 1 := by omega
    rw [h8] at h6
    have a1 := bl_gt.2 h6
    rw [Int.toNat_natCast] at h7
    have a2 := bl_le.2 h7
    omega
section
variable {w0 : World} {H : List Asn}
theorem Len_c (x : Nat) (hx : x < 18446744073709551616) (w : World) (hw : St w0 H w) : Calls Tryz.prog 111 #[.int .u64 x] w fun e w' => e = .returned (.int .i64 (bitLen x : Nat)) ∧ St w0 H w' := by
  refine (Len64_c x (by omega) w hw).mono ?_
  rintro e w' ⟨L, rfl, hw', hL⟩
  rw [BL_eq hL]
  exact ⟨rfl, hw'⟩
/-- the cells of a map in memory -/
abbrev mc (lo hi dg : Int) (u g : Nat) : List Value := [.int .i64 lo, .int .i64 hi, .int .i64 dg, .int .i64 u, .int .i64 g]
variable {lo hi dg : Int} {u g : Nat}
theorem bl_v {v : Nat} (hv : v < 9223372036854775808) : bitLen v ≤ 63 := bl_le.2 hv
theorem MBucket_c (b : Nat) (hM : blk b (mc lo hi dg u g) ∈ H) (hug : u + g ≤ 62) (v : Nat) (hv : v < 9223372036854775808) (w : World) (hw : St w0 H w) :
    Calls Tryz.prog 112 #[.pointer (some ⟨b, 0, none⟩), .int .i64 v] w fun e w' => e = .returned (.int .i64 (bkt u g v : Nat)) ∧ St w0 H w' := by
  have hl := bl_v hv
  have hb : max (0 : Int) (((bitLen v : Nat) : Int) - u - g) = (bkt u g v : Nat) := by unfold bkt; omega
  refine enter (vs := [.pointer (some ⟨b, 0, none⟩), .int .i64 v]) Tryz.func112 rfl rfl rfl hw ?_
  clear hw w
  repeat (first | apply hIx 1 | first | (refine sx ?_; try intro _))
  refine Hold.go ?_
  refine JS_seq ?_
  refine JS_order [0, 1, 3, 4, 5, 6, 8, 9, 10, 11, 2, 7, 12, 13, 14] [] (Picks.cons rfl (Picks.cons rfl (Picks.cons rfl (Picks.cons rfl (Picks.cons rfl (Picks.cons rfl (Picks.cons rfl (Picks.cons rfl (Picks.cons rfl (Picks.cons rfl (Picks.cons rfl (Picks.cons rfl (Picks.cons rfl (Picks.cons rfl (Picks.cons rfl (Picks.nil)))))))))))))))) (by kernel_rfl) (by kernel_rfl) rfl (by decide +kernel) ?_
  repeat (first | (apply gQO; refine QO_v rfl (oL (V_load (tb := tb) rfl hM rfl rfl rfl rfl)) ?_) | first | (refine sx ?_; try intro _))
  refine QO_call Tryz.call111 rfl rfl fun w hw => (Len_c v (by omega) w hw).mono ?_
  rintro e w' ⟨rfl, hw'⟩
  refine ⟨_, rfl, _, hw', .inl fun w hw => hw, ?_⟩
  clear hw' hw w w'
  repeat (first | (refine sx ?_; try intro _))
  exact JS_ret Tryz.func112 rfl rfl fun w hw => ⟨by rw [← hb]; rfl, hw⟩
theorem MHalf_c (b : Nat) (hM : blk b (mc lo hi dg u g) ∈ H) (hg : 1 ≤ g ∧ g ≤ 62) (w : World) (hw : St w0 H w) :
    Calls Tryz.prog 117 #[.pointer (some ⟨b, 0, none⟩)] w fun e w' => e = .returned (.int .i64 (2 ^ (g - 1) : Nat)) ∧ St w0 H w' := by
  have hp : 2 ^ (g - 1) < 9223372036854775808 := (Nat.pow_lt_pow_iff_right (a := 2) (by decide)).2 (show g - 1 < 63 by omega)
  have c1 : IntKind.i64.wrap ((g : Int) - 1) = ((g - 1 : Nat) : Int) := (wi64 (by omega)).trans (by omega)
  have c2 : IntKind.i64.wrap (1 * 2 ^ (g - 1)) = ((2 ^ (g - 1) : Nat) : Int) := by
    rw [Int.one_mul, show ((2 : Int) ^ (g - 1)) = ((2 ^ (g - 1) : Nat) : Int) by simp]
    generalize 2 ^ (g - 1) = z at hp
    exact wi64 (by omega)
  refine enter (vs := [.pointer (some ⟨b, 0, none⟩)]) Tryz.func117 rfl rfl rfl hw ?_
  clear hw w
  repeat (first | (apply gJO; refine JO_v (oL (V_load (tb := tb) rfl hM rfl rfl rfl rfl)) ?_) | (apply gJO; first | refine JO_v (V_sub rfl rfl c1 rfl) ?_ | refine JO_v (V_shl (m := g - 1) rfl rfl (by omega) (by rw [Int.toNat_natCast]; show min (g - 1) 64 = g - 1; omega) c2 rfl) ?_) | first | (refine sx ?_; try intro _))
  exact JS_ret Tryz.func117 rfl rfl fun w hw => ⟨rfl, hw⟩
theorem bkt_u {v : Nat} (hug : u + g ≤ 62) (hg : 1 ≤ g) (hv : v < 9223372036854775808) : bkt u g v + u ≤ 62 := by
  have := bl_v hv
  unfold bkt; omega
theorem MCell_c (b : Nat) (hM : blk b (mc lo hi dg u g) ∈ H) (hug : u + g ≤ 62) (hg : 1 ≤ g) (v : Nat) (hv : v < 9223372036854775808) (w : World) (hw : St w0 H w) :
    Calls Tryz.prog 187 #[.pointer (some ⟨b, 0, none⟩), .int .i64 v] w fun e w' => e = .returned (.tuple #[.int .i64 (bkt u g v : Nat), .int .i64 (v / 2 ^ (bkt u g v + u) : Nat)]) ∧ St w0 H w' := by
  have hbu := bkt_u hug hg hv
  refine enter (vs := [.pointer (some ⟨b, 0, none⟩), .int .i64 v]) Tryz.func187 rfl rfl rfl hw ?_
  clear hw w
  repeat (first | (refine sx ?_; try intro _))
  refine JO_call Tryz.call112 rfl rfl fun w hw => (MBucket_c b hM hug v hv w hw).mono ?_
  rintro e w' ⟨rfl, hw'⟩
  refine ⟨_, rfl, _, hw', ?_⟩
  clear hw' hw w w'
  have c1 : IntKind.i64.wrap (((bkt u g v : Nat) : Int) + (u : Int)) = ((bkt u g v + u : Nat) : Int) := (wi64 (by omega)).trans (by omega)
  have c2 : (v : Int) / 2 ^ (bkt u g v + u) = ((v / 2 ^ (bkt u g v + u) : Nat) : Int) := by simp
  repeat (first | (apply gQO; refine QO_v rfl (oL (V_load (tb := tb) rfl hM rfl rfl rfl rfl)) ?_) | (apply gQO; first | refine QO_v rfl (V_add rfl rfl c1 rfl) ?_ | refine QO_v rfl (V_shr (m := bkt u g v + u) rfl rfl (by omega) (by rw [Int.toNat_natCast]; show min (bkt u g v + u) 64 = bkt u g v + u; omega) c2 rfl) ?_) | first | (refine sx ?_; try intro _))
  exact JS_ret Tryz.func187 rfl rfl fun w hw => ⟨rfl, hw⟩
theorem idx_bd {v : Nat} (hug : u + g ≤ 62) (hg : 1 ≤ g ∧ g ≤ 18) (hv : v < 9223372036854775808) : idx u g v ≤ 8650752 ∧ bkt u g v ≤ 63 ∧ (bkt u g v + 1) * 2 ^ (g - 1) ≤ 8388608 ∧ v / 2 ^ (bkt u g v + u) < 262144 ∧ 2 ^ (g - 1) ≤ 131072 := by
  have h1 := bl_v hv
  have h2 : bkt u g v ≤ 63 := by unfold bkt; omega
  have h3 := cel_lt (u := u) (g := g) (v := v)
  have h4 : 2 ^ g ≤ 2 ^ 18 := Nat.pow_le_pow_right (by decide) hg.2
  have h5 : 2 ^ (g - 1) ≤ 2 ^ 17 := Nat.pow_le_pow_right (by decide) (by omega)
  have h6 : (bkt u g v + 1) * 2 ^ (g - 1) ≤ 64 * 2 ^ 17 := Nat.mul_le_mul (by omega) h5
  refine ⟨?_, h2, h6, by omega, h5⟩
  unfold idx
  rw [Nat.add_mul] at h6
  omega
theorem MIndex_c (b : Nat) (hM : blk b (mc lo hi dg u g) ∈ H) (hug : u + g ≤ 62) (hg : 1 ≤ g ∧ g ≤ 18) (v : Nat) (hv : v < 9223372036854775808) (w : World) (hw : St w0 H w) :
    Calls Tryz.prog 138 #[.pointer (some ⟨b, 0, none⟩), .int .i64 v] w fun e w' => e = .returned (.tuple #[.int .i64 (idx u g v : Nat), .int .i64 0]) ∧ St w0 H w' := by
  obtain ⟨b1, b2, b3, b4, b5⟩ := idx_bd hug hg hv
  refine enter (vs := [.pointer (some ⟨b, 0, none⟩), .int .i64 v]) Tryz.func138 rfl rfl rfl hw ?_
  clear hw w
  repeat (first | (refine sx ?_; try intro _))
  refine JO_call Tryz.call187 rfl rfl fun w hw => (MCell_c b hM hug hg.1 v hv w hw).mono ?_
  rintro e w' ⟨rfl, hw'⟩
  refine ⟨_, rfl, _, hw', ?_⟩
  clear hw' hw w w'
  have hi' : idx u g v = bkt u g v * 2 ^ (g - 1) + v / 2 ^ (bkt u g v + u) := rfl
  generalize hk : bkt u g v = k at *
  generalize hc : v / 2 ^ (k + u) = c at *
  generalize hh : 2 ^ (g - 1) = h at *
  have c1 : IntKind.i64.wrap (((k + 1 : Nat) : Int) * (h : Int)) = (((k + 1) * h : Nat) : Int) := by
    rw [← Int.natCast_mul]
    exact wi64 (by omega)
  have c2 : IntKind.i64.wrap ((k : Int) + 1) = ((k + 1 : Nat) : Int) := (wi64 (by omega)).trans (by omega)
  have c3 : IntKind.i64.wrap ((((k + 1) * h : Nat) : Int) + (c : Int)) = (((k + 1) * h + c : Nat) : Int) := (wi64 (by omega)).trans (by omega)
  have c4 : IntKind.i64.wrap ((((k + 1) * h + c : Nat) : Int) - (h : Int)) = (idx u g v : Nat) := by
    rw [hi', Nat.add_mul] at *
    refine (wi64 (by omega)).trans (by omega)
  repeat (first | (apply gJO; first | refine JO_v (V_add rfl rfl c2 rfl) ?_) | first | (refine sx ?_; try intro _))
  refine JO_call Tryz.call117 rfl rfl fun w hw => (MHalf_c b hM ⟨hg.1, by omega⟩ w hw).mono ?_
  rw [hh]
  rintro e w' ⟨rfl, hw'⟩
  refine ⟨_, rfl, _, hw', ?_⟩
  clear hw' hw w w'
  repeat (first | (apply gJO; first | refine JO_v (V_mul rfl rfl c1 rfl) ?_ | refine JO_v (V_add rfl rfl c3 rfl) ?_) | first | (refine sx ?_; try intro _))
  refine JO_call Tryz.call117 rfl rfl fun w hw => (MHalf_c b hM ⟨hg.1, by omega⟩ w hw).mono ?_
  rw [hh]
  rintro e w' ⟨rfl, hw'⟩
  refine ⟨_, rfl, _, hw', ?_⟩
  clear hw' hw w w'
  repeat (first | (apply gJO; first | refine JO_v (V_sub rfl rfl c4 rfl) ?_) | first | (refine sx ?_; try intro _))
  exact JS_ret Tryz.func138 rfl rfl fun w hw => ⟨rfl, hw⟩
theorem MBuckets_c (b : Nat) (hM : blk b (mc lo hi dg u g) ∈ H) (hug : u + g ≤ 62) (v : Int) (hv : -9223372036854775808 ≤ v ∧ v < 9223372036854775808) (w : World) (hw : St w0 H w) :
    Calls Tryz.prog 72 #[.pointer (some ⟨b, 0, none⟩), .int .i64 v] w fun e w' => e = .returned (.int .i64 (1 + bkt u g v.toNat : Nat)) ∧ St w0 H w' := by
  have hl := bl_v (v := v.toNat) (by omega)
  have hb : bkt u g v.toNat ≤ 63 := by unfold bkt; omega
  have c1 : max v 0 = ((v.toNat : Nat) : Int) := by omega
  have c2 : IntKind.i64.wrap (1 + ((bkt u g v.toNat : Nat) : Int)) = ((1 + bkt u g v.toNat : Nat) : Int) := (wi64 (by omega)).trans (by omega)
  refine enter (vs := [.pointer (some ⟨b, 0, none⟩), .int .i64 v]) Tryz.func72 rfl rfl rfl hw ?_
  clear hw w
  repeat (first | (apply gJO; refine JO_v (V_max rfl rfl c1 rfl) ?_) | first | (refine sx ?_; try intro _))
  refine JO_call Tryz.call112 rfl rfl fun w hw => (MBucket_c b hM hug v.toNat (by omega) w hw).mono ?_
  rintro e w' ⟨rfl, hw'⟩
  refine ⟨_, rfl, _, hw', ?_⟩
  clear hw' hw w w'
  repeat (first | (apply gJO; refine JO_v (V_add rfl rfl c2 rfl) ?_) | first | (refine sx ?_; try intro _))
  exact JS_ret Tryz.func72 rfl rfl fun w hw => ⟨rfl, hw⟩
end
end Go.Proofs.YteelffkghidpfaaGreat

set_option linter.unusedVariables false
namespace Sx
open Go
/-! recover: a deferred function that begins with it -/
section
variable {P : Program} {f n : Nat} {R : Ending → World → Prop} {D : List Deferred} {w0 : World} {k : List Item} {ov : Ov} {H H' : List Asn}
  {ops : Array Oper} {l : List Oper} {d : Option Nat} {T : Nat} {pos : String} {af : Array Edge} {g : Option (Nat × Bool)} {x y : Operand} {v : Value} {tb : Tb P}
theorem enterR {fn : Func} {id : Nat} {dd : Nat} {rest : Code} {ts : Array Nat} {vs : List Value} {u u' : FrameMode} {w : World} (hf : P.funcs[f]? = some fn) (hb : fn.body = some (.seq (.region id #[⟨some dd, .call ⟨.builtin .recover, #[], ts⟩, T, pos, af, none⟩] false) rest)) (hn : fn.ntmps = n) (hl : Nat.ble vs.length n = true) (hd : Nat.blt dd n = true)
    (hw : St w0 H w) (hu : (u = .returning ∧ v = .nilIface ∧ u' = .returning) ∨ (∃ older, u = .panicking ({ v, recovered := false } :: older) ∧ u' = .panicking ({ v, recovered := true } :: older)))
    (h : JS P f n R [] w0 [.code rest] ((dd, v) :: argsOv 0 vs) H) : CallsD P f vs.toArray u w fun e u2 w' => u2 = u' ∧ R e w' := by
  intro c₀ cs hm
  let b : Frame := { (default : Frame) with fn := f, kind := .deferred }
  have hl' : vs.length ≤ n := Nat.le_of_ble_eq_true hl
  have hd' : dd < n := by rwa [Nat.blt_eq] at hd
  let o : Oper := ⟨some dd, .call ⟨.builtin .recover, #[], ts⟩, T, pos, af, none⟩
  let a0 : Act := { tmps := vs.toArray ++ Array.replicate (fn.ntmps - vs.toArray.size) undef, defers := [] }
  have henter : Frame.enter P f vs.toArray .deferred = b.at a0 [.code (.seq (.region id #[o] false) rest)] := by
    simp [Frame.enter, Frame.at, hf, hb, b, a0, o]
  have hrep : Rep n [] (argsOv 0 vs) a0 := by
    refine ⟨by simp [a0, hn]; omega, rfl, ?_⟩
    intro t v ht
    obtain ⟨_, h2⟩ := look_args vs 0 t v ht
    simp only [Nat.sub_zero] at h2
    have hlt : t < vs.length := (List.getElem?_eq_some_iff.1 h2).1
    simp only [a0]
    rw [Array.getElem?_append_left (by simpa using hlt)]
    simpa using h2
  have hrep' : Rep n [] ((dd, v) :: argsOv 0 vs) (a0.put (some dd) v) := hrep.put (d := some dd) (by simp [dOk, Nat.blt_eq, hd']) v
  have hrec : recoverD (c₀ :: cs) = match u with
      | .returning => none
      | _ => some (v, { c₀ with mode := u' } :: cs) := by
    rcases hu with ⟨rfl, rfl, rfl⟩ | ⟨older, rfl, rfl⟩
    · simp [recoverD, hm]
    · simp [recoverD, hm]
  have hrun : (execOp a0.eval o).run P w = .ok .recover w := by simp [o, execOp, resolve, invoke, builtin]
  have htr : tryRecover (b.at a0 (.inRegion #[o] [0] :: [.code rest])) (c₀ :: cs) = recoverD (c₀ :: cs) := tryRecover_deferred rfl _
  have hfin : ∀ v, (b.at a0 (.inRegion #[o] (0 :: []) :: [.code rest])).finish v = b.at (a0.put o.dst v) (.inRegion #[o] [] :: [.code rest]) := by
    intro v; rw [Frame.finish_at]; rfl
  have hg := stepG_op (P := P) (b := b) (a := a0) (k := [.code rest]) (cs := c₀ :: cs) (w := w) (ops := #[o]) (i := 0) (rest := []) (o := o) rfl rfl
  have h1 : step P (lone (b.at a0 [.code (.seq (.region id #[o] false) rest)]) (c₀ :: cs) w) = .next (lone (b.at a0 [.code (.region id #[o] false), .code rest]) (c₀ :: cs) w) := step_seq
  have h2 : step P (lone (b.at a0 [.code (.region id #[o] false), .code rest]) (c₀ :: cs) w) = .next (lone (b.at a0 [.inRegion #[o] [0], .code rest]) (c₀ :: cs) w) := step_region
  have h3 : step P (lone (b.at a0 [.inRegion #[o] [0], .code rest]) (c₀ :: cs) w) = .next (lone (b.at (a0.put (some dd) v) [.inRegion #[o] [], .code rest]) ({ c₀ with mode := u' } :: cs) w) := by
    refine step_lone_go ?_
    rw [hg]
    have hf' := hfin v
    rcases hu with ⟨rfl, rfl, rfl⟩ | ⟨older, rfl, rfl⟩
    · have hc : ({ c₀ with mode := .returning } : Frame) = c₀ := by rw [← hm]
      rw [hc, ← hf']
      simp only [Frame.at] at htr hrec ⊢
      simp [stepG.apply, hrun, htr, hrec]
    · rw [← hf']
      simp only [Frame.at] at htr hrec ⊢
      simp [stepG.apply, hrun, htr, hrec]
  have h4 : step P (lone (b.at (a0.put (some dd) v) [.inRegion #[o] [], .code rest]) ({ c₀ with mode := u' } :: cs) w) = .next (lone (b.at (a0.put (some dd) v) [.code rest]) ({ c₀ with mode := u' } :: cs) w) := step_region_end
  unfold JS J at h
  obtain ⟨e, w', fr, hR, hcm, hfn, hk, hgo⟩ := h _ w hrep' hw b ({ c₀ with mode := u' } :: cs) rfl (.inr rfl)
  rw [henter]
  exact ⟨e, u', w', fr, ⟨rfl, hR⟩, Comes.of_steps (.head h1 (.head h2 (.head h3 (.one h4)))) hcm, hk, hgo⟩
section
variable {t s1 b1 T2 : Nat} {z1 : Option (List Value)}
theorem und_iface (h : tlook tb.l t = some ⟨.iface, s1, b1, z1⟩) : ∃ ms, P.underlying t = some (.interface ms) := by
  obtain ⟨d, h1, h2⟩ := Tb.und h
  cases d <;> simp [tyOf] at h2
  exact ⟨_, h1⟩
theorem run_eqIN {ms : Array (String × TypeId)} (w : World) (d : Nat) (e1 : P.underlying t = some (.interface ms)) : (Op.equalIn (d + 1) t .nilIface .nilIface).run P w = .ok true w := by simp [Op.equalIn, run_underlying e1]
theorem run_eqIV {t2 : Nat} {u : Value} {ms : Array (String × TypeId)} (w : World) (d : Nat) (e1 : P.underlying t = some (.interface ms)) : (Op.equalIn (d + 1) t (.iface t2 u) .nilIface).run P w = .ok false w := by simp [Op.equalIn, run_underlying e1]
theorem V_eqIN (hx : ev ov x = some .nilIface) (h : tlook tb.l t = some ⟨.iface, s1, b1, z1⟩) (hd : dOk d n = true) :
    OpV P n D w0 ov H ⟨d, .binOp .eql t x (.const .nilIface) T2, T, pos, af, g⟩ (.bool true) := by
  unfold OpV
  exact ⟨hd, fun a w ha _ => by
    obtain ⟨ms, e1⟩ := und_iface h
    have hg : (eqGuard .eql t x (.const .nilIface) .nilIface .nilIface).run P w = .ok () w := by simp [eqGuard]
    have e2 := run_eqIN (P := P) w 9999 e1
    have hb : (binOp .eql t .nilIface .nilIface).run P w = .ok (.bool true) w := by
      simp only [binOp, Op.equal, Op.maxDepth, Sem.run_bind, e2, Result.andThen_ok, Sem.run_pure]
    have hc : a.eval (.const .nilIface) = .nilIface := rfl
    simp [execOp, ha.ev hx, hc, hg, hb]⟩
theorem V_eqIV {t2 : Nat} {u : Value} (hx : ev ov x = some (.iface t2 u)) (h : tlook tb.l t = some ⟨.iface, s1, b1, z1⟩) (hd : dOk d n = true) :
    OpV P n D w0 ov H ⟨d, .binOp .eql t x (.const .nilIface) T2, T, pos, af, g⟩ (.bool false) := by
  unfold OpV
  exact ⟨hd, fun a w ha _ => by
    obtain ⟨ms, e1⟩ := und_iface h
    have hg : (eqGuard .eql t x (.const .nilIface) (.iface t2 u) .nilIface).run P w = .ok () w := by simp [eqGuard]
    have e2 := run_eqIV (P := P) (t2 := t2) (u := u) w 9999 e1
    have hb : (binOp .eql t (.iface t2 u) .nilIface).run P w = .ok (.bool false) w := by
      simp only [binOp, Op.equal, Op.maxDepth, Sem.run_bind, e2, Result.andThen_ok, Sem.run_pure]
    have hc : a.eval (.const .nilIface) = .nilIface := rfl
    simp [execOp, ha.ev hx, hc, hg, hb]⟩
/-- the type is as it is asked -/
theorem V_assertT {tx t9 s2 b2 : Nat} {ty : Ty} {z2 : Option (List Value)} {u : Value} (hx : ev ov x = some (.iface t9 u)) (h : tlook tb.l t9 = some ⟨ty, s2, b2, z2⟩) (hi : ty ≠ .iface) (hd : dOk d n = true) :
    OpV P n D w0 ov H ⟨d, .typeAssert x tx t9 true, T, pos, af, g⟩ (.tuple #[u, .bool true]) := by
  unfold OpV
  exact ⟨hd, fun a w ha _ => by
    obtain ⟨dd, e1, e2⟩ := Tb.und h
    cases dd <;> simp [execOp, ha.ev hx, Instr.typeAssert, run_underlying e1]
    simp [tyOf] at e2; exact absurd e2.symm hi⟩
end
end
end Sx

namespace Go.Proofs.YteelffkghidpfaaGreat
open Sx Go Hd
set_option linter.unusedVariables false
set_option linter.unusedSimpArgs false
/-- cells of counts, read (plain): a fuel, the next cell -/
def celF (most : Int) : Nat → Int → List Int → Option (List (Int × Int))
  | 0, _, _ => some []
  | f + 1, a, B => if B = [] then some [] else
      if (dec 9 B).2.2 ≠ 0 then none else
        if i64v (dec 9 B).1 < 0 then
          (if i64v (dec 9 B).1 ≠ -9223372036854775808 ∧ 0 - i64v (dec 9 B).1 ≤ most - a then celF most f (a + (0 - i64v (dec 9 B).1)) (B.drop (dec 9 B).2.1) else none)
        else if a < most then
          (if 0 < i64v (dec 9 B).1 then (celF most f (a + 1) (B.drop (dec 9 B).2.1)).map (fun T => (a, (dec 9 B).1) :: T) else celF most f (a + 1) (B.drop (dec 9 B).2.1))
        else none
def celA (most : Int) (B : List Int) : Option (List (Int × Int)) := celF most B.length 0 B
theorem celF_nil (most : Int) (f : Nat) (a : Int) : celF most f a [] = some [] := by cases f <;> simp [celF]
section
variable {w0 : World} {H : List Asn} {lo hi dg : Int} {u g : Nat}
/-- what the wire's reading throws -/
def FB : List PanicEntry := [{ v := .iface 154 (.agg #[]), recovered := false }]
theorem Need19_c (b : Bool) (w : World) (hw : St w0 H w) :
    Calls Tryz.prog 68 #[.bool b] w fun e w' => (b = true ∧ e = .returned (.tuple #[]) ∧ St w0 H w') ∨ (b = false ∧ e = .panicked FB ∧ St w0 H w') := by
  refine enter (vs := [.bool b]) Tryz.func68 rfl rfl rfl hw ?_
  cases b
  · repeat (first | (apply gJO; refine JO_v (V_mkI (tb := tb) rfl rfl (by simp) rfl) ?_) | first | (refine sx ?_; try intro _))
    refine JO_panic Tryz.func68 rfl ?_
    intro a w _ hw
    exact .inr ⟨rfl, rfl, hw⟩
  · repeat (first | (refine sx ?_; try intro _))
    refine JS_fin Tryz.func68 rfl rfl ?_
    intro w hw
    exact .inl ⟨rfl, rfl, hw⟩
set_option maxRecDepth 10000 in
theorem MCells_c (b : Nat) (hM : blk b (mc lo hi dg u g) ∈ H) (hg : 1 ≤ g ∧ g ≤ 18) (n : Nat) (hn : 1 ≤ n ∧ n ≤ 64) (w : World) (hw : St w0 H w) :
    Calls Tryz.prog 75 #[.pointer (some ⟨b, 0, none⟩), .int .i64 n] w fun e w' => e = .returned (.int .i64 ((n + 1) * 2 ^ (g - 1) : Nat)) ∧ St w0 H w' := by
  refine enter (vs := [.pointer (some ⟨b, 0, none⟩), .int .i64 n]) Tryz.func75 rfl rfl rfl hw ?_
  clear hw w
  have hp := Nat.pow_le_pow_right (n := 2) (by decide) (show g - 1 ≤ 17 by omega)
  have e1 : max (n : Int) 1 = n := by omega
  have e2 : min (n : Int) 64 = n := by omega
  have hH := fun w hw => MHalf_c (w0 := w0) b hM ⟨hg.1, by omega⟩ w hw
  generalize 2 ^ (g - 1) = P at *
  have hb : (n + 1) * P ≤ 65 * 2 ^ 17 := Nat.mul_le_mul (by omega) hp
  have c1 : IntKind.i64.wrap (((n : Int) + 1) * (P : Nat)) = ((n + 1) * P : Nat) := by
    rw [show ((n : Int) + 1) * (P : Nat) = ((n + 1) * P : Nat) by simp]
    exact wi64 (by omega)
  repeat (first | (apply gJO; first | refine JO_v (V_max rfl rfl e1 rfl) ?_ | refine JO_v (V_min rfl rfl e2 rfl) ?_) | first | (refine sx ?_; try intro _))
  refine JO_call Tryz.call117 rfl rfl fun w hw => (hH w hw).mono ?_
  rintro e w' ⟨rfl, hw'⟩
  (refine ⟨_, rfl, _, hw', ?_⟩; clear hw' hw w w')
  repeat (first | (apply gJO; first | refine JO_v (V_mul rfl rfl c1 rfl) ?_) | first | (refine sx ?_; try intro _))
  exact JS_ret Tryz.func75 rfl rfl fun w hw => ⟨rfl, hw⟩
end
end Go.Proofs.YteelffkghidpfaaGreat

namespace Go.Proofs.YteelffkghidpfaaGreat
open Sx Go Hd
set_option linter.unusedVariables false
set_option linter.unusedSimpArgs false
section
variable {w0 : World} {H : List Asn} {lo hi dg : Int} {u g : Nat}
instance (u g i : Nat) : Decidable (isI u g i) := by unfold isI; infer_instance
theorem ivk_bd {i : Nat} (hg : 1 ≤ g ∧ g ≤ 18) : ivk g i < 262144 := by
  have h5 : 2 ^ (g - 1) ≤ 2 ^ 17 := Nat.pow_le_pow_right (by decide) (by omega)
  have hp := p2pos (g - 1)
  have h6 := Nat.mod_lt i hp
  unfold ivk
  split
  · rename_i h
    have := Nat.div_add_mod i (2 ^ (g - 1))
    rw [h, Nat.mul_zero] at this
    omega
  · omega
set_option maxRecDepth 10000 in
set_option maxHeartbeats 2000000 in
/-- where the cell with an index begins -/
theorem MValue_c (b : Nat) (hM : blk b (mc lo hi dg u g) ∈ H) (hug : u + g ≤ 62) (hg : 1 ≤ g ∧ g ≤ 18) (i : Nat) (hi : i < 9223372036854775808) (w : World) (hw : St w0 H w) :
    Calls Tryz.prog 114 #[.pointer (some ⟨b, 0, none⟩), .int .i64 i] w fun e w' => e = .returned (if isI u g i then .tuple #[.int .i64 (ival u g i : Nat), .int .i64 0] else .tuple #[.int .i64 0, .int .i64 5]) ∧ St w0 H w' := by
  have h5 : 2 ^ (g - 1) ≤ 2 ^ 17 := Nat.pow_le_pow_right (by decide) (by omega)
  have hp := p2pos (g - 1)
  have hm := Nat.mod_lt i hp
  have hk := ivk_bd (i := i) hg
  have hMH := fun w hw => MHalf_c (w0 := w0) (H := H) b hM ⟨hg.1, by omega⟩ w hw
  have hbI : ivb g i ≤ i := by
    unfold ivb
    have := Nat.div_le_self i (2 ^ (g - 1))
    omega
  have hkd : ivk g i = if i / 2 ^ (g - 1) = 0 then i else i % 2 ^ (g - 1) + 2 ^ (g - 1) := rfl
  have hbd : ivb g i = i / 2 ^ (g - 1) - 1 := rfl
  have hisd : isI u g i ↔ ivb g i ≤ 64 ∧ bitLen (ivk g i) + ivb g i + u ≤ 63 := Iff.rfl
  have hlt := fun h => ival_lt (u := u) (g := g) (i := i) h
  have hiv : ival u g i = ivk g i * 2 ^ (ivb g i + u) := rfl
  have hbl : bitLen (ivk g i) ≤ 18 := bl_le.2 hk
  have hq0 := Nat.div_le_self i (2 ^ (g - 1))
  generalize hh : 2 ^ (g - 1) = h at *
  generalize hq : i / h = q at *
  generalize hr : i % h = r at *
  have c1 : IntKind.i64.wrap (Int.tdiv (i : Int) (h : Int)) = (q : Int) := by
    rw [show Int.tdiv (i : Int) (h : Int) = ((i / h : Nat) : Int) from (Int.ofNat_tdiv i h).symm, hq]
    exact wi64 (by omega)
  have c2 : Int.tmod (i : Int) (h : Int) = (r : Int) := by rw [← hr, Int.ofNat_tmod]
  refine enter (vs := [.pointer (some ⟨b, 0, none⟩), .int .i64 i]) Tryz.func114 rfl rfl rfl hw ?_
  clear hw w
  repeat (first | apply hIx 3 | first | (refine sx ?_; try intro _))
  refine Hold.go ?_
  refine JS_seq ?_
  refine JS_order [0, 1, 5, 6, 9, 2, 3, 4, 7, 8, 10, 11, 12, 13] [] (Picks.cons rfl (Picks.cons rfl (Picks.cons rfl (Picks.cons rfl (Picks.cons rfl (Picks.cons rfl (Picks.cons rfl (Picks.cons rfl (Picks.cons rfl (Picks.cons rfl (Picks.cons rfl (Picks.cons rfl (Picks.cons rfl (Picks.cons rfl (Picks.nil))))))))))))))) (by kernel_rfl) (by kernel_rfl) rfl (by decide +kernel) ?_
  repeat (first | (refine sx ?_; try intro _))
  refine QO_call Tryz.call117 rfl rfl fun w hw => (hMH w hw).mono ?_
  rintro e w' ⟨rfl, hw'⟩
  refine ⟨_, rfl, _, hw', .inl fun w hw => hw, ?_⟩
  clear hw' hw w w'
  repeat (first | (apply gQO; first | refine QO_v rfl (V_quo rfl rfl (by omega) c1 rfl) ?_) | first | (refine sx ?_; try intro _))
  refine QO_call Tryz.call117 rfl rfl fun w hw => (hMH w hw).mono ?_
  rintro e w' ⟨rfl, hw'⟩
  refine ⟨_, rfl, _, hw', .inl fun w hw => hw, ?_⟩
  clear hw' hw w w'
  repeat (first | (apply gQO; first | refine QO_v rfl (V_rem rfl rfl (by omega) c2 rfl) ?_) | first | (refine sx ?_; try intro _))
  refine QO_call Tryz.call117 rfl rfl fun w hw => (hMH w hw).mono ?_
  rintro e w' ⟨rfl, hw'⟩
  refine ⟨_, rfl, _, hw', .inl fun w hw => hw, ?_⟩
  clear hw' hw w w'
  -- the two ways to the bucket and the place
  have key : ∀ (B K : Nat), B = ivb g i → K = ivk g i → JS Tryz.prog 114 Tryz.f114.ntmps (fun e w' => e = .returned (if isI u g i then .tuple #[.int .i64 (ival u g i : Nat), .int .i64 0] else .tuple #[.int .i64 0, .int .i64 5]) ∧ St w0 H w') [] w0 (todo Tryz.f114 [.b, .b, .b, .b]) [(0, .pointer (some ⟨b, 0, none⟩)), (6, .int .i64 B), (7, .int .i64 K)] H := by
    intro B K hB hK
    rw [← hB, ← hK] at hisd hiv
    rw [← hK] at hk hbl
    rw [← hB] at hbI
    by_cases h64 : 64 < B
    · rw [if_neg (by rw [hisd]; omega)]
      repeat (first | apply hIx 6 | first | (refine sx ?_; try intro _))
      refine Hold.go ?_
      refine JS_seq ?_
      refine JS_order [0, 1, 2, 3, 4, 6, 8, 9, 10, 11, 5, 7, 12, 13, 14] [] (Picks.cons rfl (Picks.cons rfl (Picks.cons rfl (Picks.cons rfl (Picks.cons rfl (Picks.cons rfl (Picks.cons rfl (Picks.cons rfl (Picks.cons rfl (Picks.cons rfl (Picks.cons rfl (Picks.cons rfl (Picks.cons rfl (Picks.cons rfl (Picks.cons rfl (Picks.nil)))))))))))))))) (by kernel_rfl) (by kernel_rfl) rfl (by decide +kernel) ?_
      repeat (first | (refine sx ?_; try intro _))
      exact JS_ret Tryz.func114 rfl rfl fun w hw => ⟨rfl, hw⟩
    · repeat (first | apply hIx 6 | first | (refine sx ?_; try intro _))
      refine Hold.go ?_
      refine JS_seq ?_
      refine JS_order [0, 1, 2, 3, 4, 6, 8, 9, 10, 11, 5, 7, 12, 13, 14] [] (Picks.cons rfl (Picks.cons rfl (Picks.cons rfl (Picks.cons rfl (Picks.cons rfl (Picks.cons rfl (Picks.cons rfl (Picks.cons rfl (Picks.cons rfl (Picks.cons rfl (Picks.cons rfl (Picks.cons rfl (Picks.cons rfl (Picks.cons rfl (Picks.cons rfl (Picks.nil)))))))))))))))) (by kernel_rfl) (by kernel_rfl) rfl (by decide +kernel) ?_
      repeat (first | (apply gQO; refine QO_v rfl (oL (V_load (tb := tb) rfl hM rfl rfl rfl rfl)) ?_) | first | (refine sx ?_; try intro _))
      refine QO_call Tryz.call111 rfl rfl fun w hw => (Len_c K (by omega) w hw).mono ?_
      rintro e w' ⟨rfl, hw'⟩
      refine ⟨_, rfl, _, hw', .inl fun w hw => hw, ?_⟩
      clear hw' hw w w'
      generalize hL : bitLen K = L at *
      by_cases hbig : 63 < L + B + u
      · rw [if_neg (by rw [hisd]; omega)]
        repeat (first | (refine sx ?_; try intro _))
        exact JS_ret Tryz.func114 rfl rfl fun w hw => ⟨rfl, hw⟩
      · have his : isI u g i := hisd.2 (by omega)
        rw [if_pos his]
        have hl2 := hlt his
        have c4 : IntKind.i64.wrap ((B : Int) + (u : Int)) = ((B + u : Nat) : Int) := (wi64 (by omega)).trans (by omega)
        have c5 : IntKind.i64.wrap ((K : Int) * 2 ^ (B + u)) = ((ival u g i : Nat) : Int) := by
          rw [hiv] at hl2 ⊢
          rw [show ((2 : Int) ^ (B + u)) = ((2 ^ (B + u) : Nat) : Int) by simp, ← Int.natCast_mul]
          generalize K * 2 ^ (B + u) = z at hl2
          exact wi64 (by omega)
        repeat (first | (apply gJO; refine JO_v (oL (V_load (tb := tb) rfl hM rfl rfl rfl rfl)) ?_) | (apply gJO; first | refine JO_v (V_add rfl rfl c4 rfl) ?_ | refine JO_v (V_shl (m := B + u) rfl rfl (by omega) (by rw [Int.toNat_natCast]; show min (B + u) 64 = B + u; omega) c5 rfl) ?_) | first | (refine sx ?_; try intro _))
        exact JS_ret Tryz.func114 rfl rfl fun w hw => ⟨rfl, hw⟩
  by_cases hz : q = 0
  · rw [if_pos hz] at hkd
    have c3 : IntKind.i64.wrap ((q : Int) - 1) = -1 := (wi64 (by omega)).trans (by omega)
    repeat (first | exact JS_of_at (fn := Tryz.f114) (p := [.b, .b, .b, .b]) (JS_ov (by repeat (first | exact trivial | refine ⟨rfl, ?_⟩ | refine ⟨lookI rfl (by omega), ?_⟩)) (key 0 i (by omega) hkd.symm)) rfl | (apply gQO; refine QO_v rfl (V_sub rfl rfl c3 rfl) ?_) | (first | (refine sx ?_; try intro _)))
  · rw [if_neg hz] at hkd
    have c3 : IntKind.i64.wrap ((q : Int) - 1) = ((q - 1 : Nat) : Int) := (wi64 (by omega)).trans (by omega)
    have c6 : IntKind.i64.wrap ((r : Int) + (h : Int)) = ((r + h : Nat) : Int) := (wi64 (by omega)).trans (by omega)
    repeat (first | exact JS_of_at (fn := Tryz.f114) (p := [.b, .b, .b, .b]) (JS_ov (by repeat (first | exact trivial | refine ⟨rfl, ?_⟩ | refine ⟨lookI rfl (by omega), ?_⟩)) (key (q - 1) (r + h) hbd.symm hkd.symm)) rfl | (apply gQO; first | refine QO_v rfl (V_sub rfl rfl c3 rfl) ?_ | refine QO_v rfl (V_add rfl rfl c6 rfl) ?_) | (first | (refine sx ?_; try intro _)))
end
end Go.Proofs.YteelffkghidpfaaGreat

namespace Go.Proofs.YteelffkghidpfaaGreat
open Sx Go Hd
set_option linter.unusedVariables false
set_option linter.unusedSimpArgs false
section
variable {w0 : World} {H : List Asn} {lo hi dg : Int} {u g : Nat}
theorem MValueN_c (b : Nat) (i : Int) (h0 : i < 0) (h1 : -9223372036854775808 ≤ i) (w : World) (hw : St w0 H w) :
    Calls Tryz.prog 114 #[.pointer (some ⟨b, 0, none⟩), .int .i64 i] w fun e w' => e = .returned (.tuple #[.int .i64 0, .int .i64 5]) ∧ St w0 H w' := by
  refine enter (vs := [.pointer (some ⟨b, 0, none⟩), .int .i64 i]) Tryz.func114 rfl rfl rfl hw ?_
  clear hw w
  repeat (first | (refine sx ?_; try intro _))
  exact JS_ret Tryz.func114 rfl rfl fun w hw => ⟨rfl, hw⟩
/-- the greatest value of so many buckets -/
theorem MTop_c (b : Nat) (hM : blk b (mc lo hi dg u g) ∈ H) (hug : u + g ≤ 62) (hg : 1 ≤ g) (n : Nat) (hn : n < 9223372036854775808) (w : World) (hw : St w0 H w) :
    Calls Tryz.prog 61 #[.pointer (some ⟨b, 0, none⟩), .int .i64 n] w fun e w' => e = .returned (.int .i64 (topv u g n : Nat)) ∧ St w0 H w' := by
  have ht : topv u g n = if 63 ≤ min (max n 1) 64 - 1 + u + g then 9223372036854775807 else 2 ^ (min (max n 1) 64 - 1 + u + g) - 1 := rfl
  obtain ⟨m, hm⟩ : ∃ m, min (max n 1) 64 = m := ⟨_, rfl⟩
  rw [hm] at ht
  have k1 : max (n : Int) 1 = ((max n 1 : Nat) : Int) := by omega
  have k2 : min ((max n 1 : Nat) : Int) 64 = (m : Int) := by omega
  have k3 : IntKind.i64.wrap ((m : Int) - 1) = ((m - 1 : Nat) : Int) := (wi64 (by omega)).trans (by omega)
  have k4 : IntKind.i64.wrap (((m - 1 : Nat) : Int) + (u : Int)) = ((m - 1 + u : Nat) : Int) := (wi64 (by omega)).trans (by omega)
  have k5 : IntKind.i64.wrap (((m - 1 + u : Nat) : Int) + (g : Int)) = ((m - 1 + u + g : Nat) : Int) := (wi64 (by omega)).trans (by omega)
  refine enter (vs := [.pointer (some ⟨b, 0, none⟩), .int .i64 n]) Tryz.func61 rfl rfl rfl hw ?_
  clear hw w
  by_cases h63 : 63 ≤ m - 1 + u + g
  · rw [if_pos h63] at ht
    repeat (first | (apply gQO; refine QO_v rfl (oL (V_load (tb := tb) rfl hM rfl rfl rfl rfl)) ?_) | (apply gJO; first | refine JO_v (V_max rfl rfl k1 rfl) ?_ | refine JO_v (V_min rfl rfl k2 rfl) ?_) | (apply gQO; first | refine QO_v rfl (V_sub rfl rfl k3 rfl) ?_ | refine QO_v rfl (V_add rfl rfl k4 rfl) ?_ | refine QO_v rfl (V_add rfl rfl k5 rfl) ?_) | first | (refine sx ?_; try intro _))
    exact JS_ret Tryz.func61 rfl rfl fun w hw => ⟨by rw [ht]; rfl, hw⟩
  · rw [if_neg h63] at ht
    have hp : 2 ^ (m - 1 + u + g) ≤ 4611686018427387904 := Nat.le_trans (Nat.pow_le_pow_right (by decide) (show m - 1 + u + g ≤ 62 by omega)) (by decide)
    have hp1 := p2pos (m - 1 + u + g)
    have k6 : IntKind.i64.wrap (1 * 2 ^ (m - 1 + u + g)) = ((2 ^ (m - 1 + u + g) : Nat) : Int) := by
      rw [Int.one_mul, show ((2 : Int) ^ (m - 1 + u + g)) = ((2 ^ (m - 1 + u + g) : Nat) : Int) by simp]
      generalize 2 ^ (m - 1 + u + g) = z at hp
      exact wi64 (by omega)
    generalize hz : m - 1 + u + g = z at *
    generalize hy : 2 ^ z = y at *
    have k7 : IntKind.i64.wrap ((y : Int) - 1) = ((y - 1 : Nat) : Int) := (wi64 (by omega)).trans (by omega)
    repeat (first | (apply gQO; refine QO_v rfl (oL (V_load (tb := tb) rfl hM rfl rfl rfl rfl)) ?_) | (apply gJO; first | refine JO_v (V_max rfl rfl k1 rfl) ?_ | refine JO_v (V_min rfl rfl k2 rfl) ?_) | (apply gQO; first | refine QO_v rfl (V_sub rfl rfl k3 rfl) ?_ | refine QO_v rfl (V_add rfl rfl k4 rfl) ?_ | refine QO_v rfl (V_add rfl rfl k5 rfl) ?_ | refine QO_v rfl (V_shl (m := z) rfl rfl (by omega) (by rw [Int.toNat_natCast]; show min z 64 = z; omega) k6 rfl) ?_ | refine QO_v rfl (V_sub rfl rfl k7 rfl) ?_) | first | (refine sx ?_; try intro _))
    exact JS_ret Tryz.func61 rfl rfl fun w hw => ⟨by rw [ht]; rfl, hw⟩
end
end Go.Proofs.YteelffkghidpfaaGreat

namespace Go.Proofs.YteelffkghidpfaaGreat
open Sx Go Hd
set_option linter.unusedVariables false
set_option linter.unusedSimpArgs false
section
variable {w0 : World} {H : List Asn} {lo hi dg : Int} {u g : Nat}
end
end Go.Proofs.YteelffkghidpfaaGreat

namespace Go.Proofs.YteelffkghidpfaaGreat
open Sx Go Hd
set_option linter.unusedVariables false
set_option linter.unusedSimpArgs false
section
variable {w0 : World} {H : List Asn} {lo hi dg : Int} {u g : Nat}
end
end Go.Proofs.YteelffkghidpfaaGreat

namespace Go.Proofs.YteelffkghidpfaaGreat
open Sx Go Hd
set_option linter.unusedVariables false
set_option linter.unusedSimpArgs false
section
variable {w0 : World} {H : List Asn} {lo hi dg : Int} {u g : Nat}
end
end Go.Proofs.YteelffkghidpfaaGreat
