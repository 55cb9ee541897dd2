import Derived.Test.YteelffkghidpfaaGreatTb
import Derived.Carry
import Derived.Maps.Keyed
import Derived.WideKeyEntry
import Derived.Test.YteelffkghidpfaaGreatSxG
/- Steps whose side goals are sought by a default tactic: one word an operation. -/
namespace Go.Proofs.YteelffkghidpfaaGreat
open Sx Go
section
variable {f n : Nat} {R : Ending → World → Prop} {D : List Deferred} {w0 : World} {k : List Item} {ov : Ov} {H H' : List Asn} {K : KC} {Z : Array Oper × List Nat}
  {ops : Array Oper} {l : List Oper} {d : Option Nat} {T T1 T2 : Nat} {pos : String} {af : Array Edge} {g : Option (Nat × Bool)} {x y z : Operand} {v u : Value} {op : Op} {bop : BinOp} {c : Call}
theorem oB (h : OpV Tryz.prog n D w0 ov H ⟨d, .binOp bop T1 x y T2, T, pos, af, g⟩ v) : OpV Tryz.prog n D w0 ov H ⟨d, .binOp bop T1 x y T2, T, pos, af, g⟩ v := h
theorem oK (h : OpV Tryz.prog n D w0 ov H ⟨d, .binOp bop T1 x (.const u) T2, T, pos, af, g⟩ v) : OpV Tryz.prog n D w0 ov H ⟨d, .binOp bop T1 x (.const u) T2, T, pos, af, g⟩ v := h
theorem ob_add (h : OpV Tryz.prog n D w0 ov H ⟨d, .binOp .add T1 x y T2, T, pos, af, g⟩ v) : OpV Tryz.prog n D w0 ov H ⟨d, .binOp .add T1 x y T2, T, pos, af, g⟩ v := h
theorem ob_sub (h : OpV Tryz.prog n D w0 ov H ⟨d, .binOp .sub T1 x y T2, T, pos, af, g⟩ v) : OpV Tryz.prog n D w0 ov H ⟨d, .binOp .sub T1 x y T2, T, pos, af, g⟩ v := h
theorem ob_mul (h : OpV Tryz.prog n D w0 ov H ⟨d, .binOp .mul T1 x y T2, T, pos, af, g⟩ v) : OpV Tryz.prog n D w0 ov H ⟨d, .binOp .mul T1 x y T2, T, pos, af, g⟩ v := h
theorem ob_quo (h : OpV Tryz.prog n D w0 ov H ⟨d, .binOp .quo T1 x y T2, T, pos, af, g⟩ v) : OpV Tryz.prog n D w0 ov H ⟨d, .binOp .quo T1 x y T2, T, pos, af, g⟩ v := h
theorem ob_rem (h : OpV Tryz.prog n D w0 ov H ⟨d, .binOp .rem T1 x y T2, T, pos, af, g⟩ v) : OpV Tryz.prog n D w0 ov H ⟨d, .binOp .rem T1 x y T2, T, pos, af, g⟩ v := h
theorem ob_and (h : OpV Tryz.prog n D w0 ov H ⟨d, .binOp .and T1 x y T2, T, pos, af, g⟩ v) : OpV Tryz.prog n D w0 ov H ⟨d, .binOp .and T1 x y T2, T, pos, af, g⟩ v := h
theorem ob_shl (h : OpV Tryz.prog n D w0 ov H ⟨d, .binOp .shl T1 x y T2, T, pos, af, g⟩ v) : OpV Tryz.prog n D w0 ov H ⟨d, .binOp .shl T1 x y T2, T, pos, af, g⟩ v := h
theorem ob_shr (h : OpV Tryz.prog n D w0 ov H ⟨d, .binOp .shr T1 x y T2, T, pos, af, g⟩ v) : OpV Tryz.prog n D w0 ov H ⟨d, .binOp .shr T1 x y T2, T, pos, af, g⟩ v := h
theorem ob_eql (h : OpV Tryz.prog n D w0 ov H ⟨d, .binOp .eql T1 x y T2, T, pos, af, g⟩ v) : OpV Tryz.prog n D w0 ov H ⟨d, .binOp .eql T1 x y T2, T, pos, af, g⟩ v := h
theorem ob_neq (h : OpV Tryz.prog n D w0 ov H ⟨d, .binOp .neq T1 x y T2, T, pos, af, g⟩ v) : OpV Tryz.prog n D w0 ov H ⟨d, .binOp .neq T1 x y T2, T, pos, af, g⟩ v := h
theorem ob_lss (h : OpV Tryz.prog n D w0 ov H ⟨d, .binOp .lss T1 x y T2, T, pos, af, g⟩ v) : OpV Tryz.prog n D w0 ov H ⟨d, .binOp .lss T1 x y T2, T, pos, af, g⟩ v := h
theorem ob_leq (h : OpV Tryz.prog n D w0 ov H ⟨d, .binOp .leq T1 x y T2, T, pos, af, g⟩ v) : OpV Tryz.prog n D w0 ov H ⟨d, .binOp .leq T1 x y T2, T, pos, af, g⟩ v := h
theorem ob_gtr (h : OpV Tryz.prog n D w0 ov H ⟨d, .binOp .gtr T1 x y T2, T, pos, af, g⟩ v) : OpV Tryz.prog n D w0 ov H ⟨d, .binOp .gtr T1 x y T2, T, pos, af, g⟩ v := h
theorem ob_geq (h : OpV Tryz.prog n D w0 ov H ⟨d, .binOp .geq T1 x y T2, T, pos, af, g⟩ v) : OpV Tryz.prog n D w0 ov H ⟨d, .binOp .geq T1 x y T2, T, pos, af, g⟩ v := h
theorem oc_len {xs : Array Operand} {ts : Array Nat} (h : OpV Tryz.prog n D w0 ov H ⟨d, .call ⟨.builtin .len, xs, ts⟩, T, pos, af, g⟩ v) : OpV Tryz.prog n D w0 ov H ⟨d, .call ⟨.builtin .len, xs, ts⟩, T, pos, af, g⟩ v := h
theorem oc_min {xs : Array Operand} {ts : Array Nat} (h : OpV Tryz.prog n D w0 ov H ⟨d, .call ⟨.builtin .min, xs, ts⟩, T, pos, af, g⟩ v) : OpV Tryz.prog n D w0 ov H ⟨d, .call ⟨.builtin .min, xs, ts⟩, T, pos, af, g⟩ v := h
theorem oc_max {xs : Array Operand} {ts : Array Nat} (h : OpV Tryz.prog n D w0 ov H ⟨d, .call ⟨.builtin .max, xs, ts⟩, T, pos, af, g⟩ v) : OpV Tryz.prog n D w0 ov H ⟨d, .call ⟨.builtin .max, xs, ts⟩, T, pos, af, g⟩ v := h
theorem oMv (h : OpV Tryz.prog n D w0 ov H ⟨d, .move x, T, pos, af, g⟩ v) : OpV Tryz.prog n D w0 ov H ⟨d, .move x, T, pos, af, g⟩ v := h
theorem oAs (h : OpV Tryz.prog n D w0 ov H ⟨d, .assign x, T, pos, af, g⟩ v) : OpV Tryz.prog n D w0 ov H ⟨d, .assign x, T, pos, af, g⟩ v := h
theorem oL (h : OpV Tryz.prog n D w0 ov H ⟨d, .load T1 x, T, pos, af, g⟩ v) : OpV Tryz.prog n D w0 ov H ⟨d, .load T1 x, T, pos, af, g⟩ v := h
theorem oE (h : OpV Tryz.prog n D w0 ov H ⟨d, .extract x T1, T, pos, af, g⟩ v) : OpV Tryz.prog n D w0 ov H ⟨d, .extract x T1, T, pos, af, g⟩ v := h
theorem oCv (h : OpV Tryz.prog n D w0 ov H ⟨d, .convert T1 T2 x, T, pos, af, g⟩ v) : OpV Tryz.prog n D w0 ov H ⟨d, .convert T1 T2 x, T, pos, af, g⟩ v := h
theorem oP (h : OpV Tryz.prog n D w0 ov H ⟨d, .pick x y z, T, pos, af, g⟩ v) : OpV Tryz.prog n D w0 ov H ⟨d, .pick x y z, T, pos, af, g⟩ v := h
theorem oN (h : OpV Tryz.prog n D w0 ov H ⟨d, .nilCheck x, T, pos, af, g⟩ v) : OpV Tryz.prog n D w0 ov H ⟨d, .nilCheck x, T, pos, af, g⟩ v := h
theorem oFA (h : OpV Tryz.prog n D w0 ov H ⟨d, .fieldAddr T1 x T2, T, pos, af, g⟩ v) : OpV Tryz.prog n D w0 ov H ⟨d, .fieldAddr T1 x T2, T, pos, af, g⟩ v := h
theorem oIA (h : OpV Tryz.prog n D w0 ov H ⟨d, .indexAddr T1 x y, T, pos, af, g⟩ v) : OpV Tryz.prog n D w0 ov H ⟨d, .indexAddr T1 x y, T, pos, af, g⟩ v := h
theorem oU {uop : UnOp} (h : OpV Tryz.prog n D w0 ov H ⟨d, .unOp uop T1 x, T, pos, af, g⟩ v) : OpV Tryz.prog n D w0 ov H ⟨d, .unOp uop T1 x, T, pos, af, g⟩ v := h
theorem oBd {ps : Array (Nat × Operand)} (h : OpV Tryz.prog n D w0 ov H ⟨d, .build T1 ps, T, pos, af, g⟩ v) : OpV Tryz.prog n D w0 ov H ⟨d, .build T1 ps, T, pos, af, g⟩ v := h
theorem oF {fn : Fn} {xs ys : Array Operand} (h : OpV Tryz.prog n D w0 ov H ⟨d, .makeFunc fn xs ys, T, pos, af, g⟩ v) : OpV Tryz.prog n D w0 ov H ⟨d, .makeFunc fn xs ys, T, pos, af, g⟩ v := h
theorem kS (h : JO Tryz.prog f n R D w0 ops ⟨d, .store T1 x y, T, pos, af, g⟩ l k ov H) : JO Tryz.prog f n R D w0 ops ⟨d, .store T1 x y, T, pos, af, g⟩ l k ov H := h
theorem kX (h : JO Tryz.prog f n R D w0 ops ⟨d, .box T1 x, T, pos, af, g⟩ l k ov H) : JO Tryz.prog f n R D w0 ops ⟨d, .box T1 x, T, pos, af, g⟩ l k ov H := h
end
end Go.Proofs.YteelffkghidpfaaGreat

set_option linter.unusedVariables false
set_option linter.unusedSimpArgs false
namespace Go.Proofs.YteelffkghidpfaaGreat
open Sx Go
section
variable {f n : Nat} {R : Ending → World → Prop} {D : List Deferred} {w0 : World} {k : List Item} {ov : Ov} {H H' : List Asn} {K : KC} {Z : Array Oper × List Nat} {G' : Prop}
  {ops : Array Oper} {l : List Oper} {d : Option Nat} {T T1 T2 : Nat} {pos : String} {af : Array Edge} {g : Option (Nat × Bool)} {x y : Operand} {v : Value} {op : Op} {o : Oper}
theorem igJS (h : G' → JS Tryz.prog f n R D w0 k ov H) : G' → JS Tryz.prog f n R D w0 k ov H := h
theorem igJR (h : G' → JR Tryz.prog f n R D w0 ops l k ov H) : G' → JR Tryz.prog f n R D w0 ops l k ov H := h
theorem igQR (h : G' → QR Tryz.prog n D w0 Z l ov H K) : G' → QR Tryz.prog n D w0 Z l ov H K := h
theorem igQO (h : G' → QO Tryz.prog n D w0 Z o l ov H K) : G' → QO Tryz.prog n D w0 Z o l ov H K := h
theorem igJO (h : G' → JO Tryz.prog f n R D w0 ops o l k ov H) : G' → JO Tryz.prog f n R D w0 ops o l k ov H := h
theorem ikS (h : G' → JO Tryz.prog f n R D w0 ops ⟨d, .store T1 x y, T, pos, af, g⟩ l k ov H) : G' → JO Tryz.prog f n R D w0 ops ⟨d, .store T1 x y, T, pos, af, g⟩ l k ov H := h
theorem ikX (h : G' → JO Tryz.prog f n R D w0 ops ⟨d, .box T1 x, T, pos, af, g⟩ l k ov H) : G' → JO Tryz.prog f n R D w0 ops ⟨d, .box T1 x, T, pos, af, g⟩ l k ov H := h
theorem ikA (h : G' → JO Tryz.prog f n R D w0 ops ⟨d, .alloc T1, T, pos, af, g⟩ l k ov H) : G' → JO Tryz.prog f n R D w0 ops ⟨d, .alloc T1, T, pos, af, g⟩ l k ov H := h
theorem ikBs {ps : Array (Nat × Operand)} (h : G' → JO Tryz.prog f n R D w0 ops ⟨d, .buildSlice T1 T2 ps, T, pos, af, g⟩ l k ov H) : G' → JO Tryz.prog f n R D w0 ops ⟨d, .buildSlice T1 T2 ps, T, pos, af, g⟩ l k ov H := h
theorem ikM (h : G' → JO Tryz.prog f n R D w0 ops ⟨d, .makeSlice T1 x y, T, pos, af, g⟩ l k ov H) : G' → JO Tryz.prog f n R D w0 ops ⟨d, .makeSlice T1 x y, T, pos, af, g⟩ l k ov H := h
theorem iO (h : OpV Tryz.prog n D w0 ov H ⟨d, op, T, pos, af, g⟩ v := by first | (apply oMv; exact V_move rfl rfl) | (apply oAs; exact V_assign rfl rfl) | (apply oL; first | exact V_load (tb := tb) rfl (by repeat (first | apply List.Mem.head | apply List.Mem.tail)) rfl rfl rfl rfl | exact V_loadC (tb := tb) rfl (by first | exact vec_rd (by repeat (first | apply List.Mem.head | apply List.Mem.tail)) | assumption | exact ArgRd.rd (by assumption) _ | (apply Rd_weak; assumption; intro _ hx; exact St.sub (by repeat (first | exact List.Sublist.refl _ | apply List.Sublist.cons_cons | apply List.Sublist.cons)) hx)) rfl rfl (by first | exact ints_get (by omega) | exact rfl) rfl | exact V_loadA (tb := tb) rfl (by repeat (first | apply List.Mem.head | apply List.Mem.tail)) rfl rfl rfl rfl) | (apply oB; first | (apply ob_add; first | exact V_add rfl rfl (by first | exact wi64 (by omega) | exact wu64 (by omega) | exact wu32 (by omega) | exact wu8 (by omega) | exact mu64 _ | exact mu32 _ | exact mu8 _ | exact mi64 _ | exact rfl) rfl) | (apply ob_sub; first | exact V_sub rfl rfl (by first | exact wi64 (by omega) | exact wu64 (by omega) | exact wu32 (by omega) | exact wu8 (by omega) | exact mu64 _ | exact mu32 _ | exact mu8 _ | exact mi64 _ | exact rfl) rfl) | (apply ob_mul; first | exact V_mul rfl rfl (by first | exact wi64 (by omega) | exact wu64 (by omega) | exact wu32 (by omega) | exact wu8 (by omega) | exact mu64 _ | exact mu32 _ | exact mu8 _ | exact mi64 _ | exact rfl) rfl) | (apply ob_eql; first | exact V_eqlT rfl rfl (by omega) rfl | exact V_eqlF rfl rfl (by omega) rfl | exact V_eql rfl rfl rfl) | (apply ob_neq; first | exact V_neqT rfl rfl (by omega) rfl | exact V_neqF rfl rfl (by omega) rfl | exact V_neq rfl rfl rfl) | (apply ob_lss; first | exact V_lssT rfl rfl (by omega) rfl | exact V_lssF rfl rfl (by omega) rfl | exact V_lss rfl rfl rfl) | (apply ob_leq; first | exact V_leqT rfl rfl (by omega) rfl | exact V_leqF rfl rfl (by omega) rfl | exact V_leq rfl rfl rfl) | (apply ob_gtr; first | exact V_gtrT rfl rfl (by omega) rfl | exact V_gtrF rfl rfl (by omega) rfl | exact V_gtr rfl rfl rfl) | (apply ob_geq; first | exact V_geqT rfl rfl (by omega) rfl | exact V_geqF rfl rfl (by omega) rfl | exact V_geq rfl rfl rfl) | (apply ob_quo; first | exact V_quo rfl rfl (by omega) (by first | exact IntWalk.i64_quo _ _ (by omega) | exact IntWalk.u64_quo _ _ (by omega) | exact IntWalk.u32_quo _ _ (by omega) | exact IntWalk.u8_quo _ _ (by omega)) rfl) | (apply ob_rem; first | exact V_rem rfl rfl (by omega) (Int.tmod_eq_emod_of_nonneg (by omega)) rfl) | (apply ob_and; first | exact V_and rfl rfl (by first | exact mask32_u64 (by omega) | exact mask_u64 8 (by decide) (by omega) rfl | exact mask_u64 16 (by decide) (by omega) rfl) rfl) | (apply ob_eql; first | exact V_eqP (tb := tb) rfl rfl rfl rfl | exact V_eqBB (tb := tb) rfl rfl rfl rfl | exact V_eqB (tb := tb) rfl rfl rfl rfl | exact V_eqNil (tb := tb) rfl rfl rfl rfl | exact V_eqStr rfl rfl (by assumption) (by assumption) rfl) | (apply ob_neq; first | exact V_neP (tb := tb) rfl rfl rfl rfl | exact V_neBB (tb := tb) rfl rfl rfl rfl | exact V_neB (tb := tb) rfl rfl rfl rfl | exact V_neStr rfl rfl (by assumption) (by assumption) rfl) | (apply oK; first | (apply ob_shr; exact V_shr (m := _) rfl rfl (by omega) (by simp only [IntKind.bits, Int.reduceToNat, Nat.reduceLeDiff, Nat.min_eq_left]; exact rfl) (by first | (simp only [Int.reducePow]; exact rfl) | exact rfl) rfl) | (apply ob_shl; exact V_shl (m := _) rfl rfl (by omega) (by simp only [IntKind.bits, Int.reduceToNat, Nat.reduceLeDiff, Nat.min_eq_left]; exact rfl) (by (try simp only [Int.reducePow]); first | exact wi64 (by omega) | exact wu64 (by omega) | exact wu32 (by omega) | exact wu8 (by omega) | exact mu64 _ | exact mu32 _ | exact mu8 _ | exact mi64 _ | exact rfl) rfl))) | (apply oE; first | exact V_extract rfl rfl rfl) | (apply oc_len; exact V_len (tb := tb) rfl rfl rfl) | (apply oc_len; exact V_lenS (tb := tb) rfl rfl rfl) | (apply oc_min; exact V_min rfl rfl rfl rfl) | (apply oc_max; exact V_max rfl rfl rfl rfl) | (apply oCv; first | exact V_conv (tb := tb) rfl rfl rfl (by first | exact wi64 (by omega) | exact wu64 (by omega) | exact wu32 (by omega) | exact wu8 (by omega) | exact mu64 _ | exact mu32 _ | exact mu8 _ | exact mi64 _ | exact rfl) rfl | exact V_str (tb := tb) rfl (by first | exact vec_rd (by repeat (first | apply List.Mem.head | apply List.Mem.tail)) | assumption | exact ArgRd.rd (by assumption) _ | (apply Rd_weak; assumption; intro _ hx; exact St.sub (by repeat (first | exact List.Sublist.refl _ | apply List.Sublist.cons_cons | apply List.Sublist.cons)) hx)) (by first | assumption | rfl | omega) rfl rfl rfl rfl) | (apply oP; first | exact V_pickT rfl rfl rfl | exact V_pickF rfl rfl rfl | exact V_pickB rfl rfl rfl rfl) | (apply oU; first | exact V_notD rfl rfl | exact V_not rfl rfl | exact V_neg rfl (by first | exact wi64 (by omega) | exact wu64 (by omega) | exact wu32 (by omega) | exact wu8 (by omega) | exact mu64 _ | exact mu32 _ | exact mu8 _ | exact mi64 _ | exact rfl) rfl) | (apply oN; first | exact V_nilCheck rfl rfl) | (apply oFA; first | exact V_field (tb := tb) rfl rfl rfl rfl rfl rfl | exact V_fieldC (tb := tb) rfl (by first | exact Rd.sl (vec_rd (by repeat (first | apply List.Mem.head | apply List.Mem.tail))) | exact Rd.sl (by assumption) | exact Rd.sl (ArgRd.rd (by assumption) _) | (apply Rd.sl; (apply Rd_weak; assumption; intro _ hx; exact St.sub (by repeat (first | exact List.Sublist.refl _ | apply List.Sublist.cons_cons | apply List.Sublist.cons)) hx))) (by omega) rfl rfl rfl rfl rfl) | (apply oIA; first | exact V_index (tb := tb) rfl rfl rfl rfl (by first | exact Rd.sl (vec_rd (by repeat (first | apply List.Mem.head | apply List.Mem.tail))) | exact Rd.sl (by assumption) | exact Rd.sl (ArgRd.rd (by assumption) _) | (apply Rd.sl; (apply Rd_weak; assumption; intro _ hx; exact St.sub (by repeat (first | exact List.Sublist.refl _ | apply List.Sublist.cons_cons | apply List.Sublist.cons)) hx))) (by omega) (by (try simp only [tn, tna, tn1, tn2, tn3, tn4, tnd16, tnd8, Int.reduceToNat]); first | exact Nat.mul_one _ | exact rfl) rfl | exact V_indexA (tb := tb) rfl rfl rfl rfl (by omega) rfl) | (apply oBd; first | exact V_build (tb := tb) rfl rfl rfl rfl rfl) | (apply oF; first | exact V_makeFunc rfl rfl rfl)) : JR Tryz.prog f n R D w0 ops l k (put d v ov) H → JO Tryz.prog f n R D w0 ops ⟨d, op, T, pos, af, g⟩ l k ov H := fun hn => JO_v h hn
theorem iU (h : OpV Tryz.prog n D w0 ov H ⟨d, op, T, pos, af, g⟩ v := by first | (apply oMv; exact V_move rfl rfl) | (apply oAs; exact V_assign rfl rfl) | (apply oL; first | exact V_load (tb := tb) rfl (by repeat (first | apply List.Mem.head | apply List.Mem.tail)) rfl rfl rfl rfl | exact V_loadC (tb := tb) rfl (by first | exact vec_rd (by repeat (first | apply List.Mem.head | apply List.Mem.tail)) | assumption | exact ArgRd.rd (by assumption) _ | (apply Rd_weak; assumption; intro _ hx; exact St.sub (by repeat (first | exact List.Sublist.refl _ | apply List.Sublist.cons_cons | apply List.Sublist.cons)) hx)) rfl rfl (by first | exact ints_get (by omega) | exact rfl) rfl | exact V_loadA (tb := tb) rfl (by repeat (first | apply List.Mem.head | apply List.Mem.tail)) rfl rfl rfl rfl) | (apply oB; first | (apply ob_add; first | exact V_add rfl rfl (by first | exact mu64 _ | exact mu32 _ | exact mu8 _ | exact rfl) rfl) | (apply ob_sub; first | exact V_sub rfl rfl (by first | exact mu64 _ | exact mu32 _ | exact mu8 _ | exact rfl) rfl) | (apply ob_mul; first | exact V_mul rfl rfl (by first | exact mu64 _ | exact mu32 _ | exact mu8 _ | exact rfl) rfl) | (apply ob_eql; first | exact V_eqlT rfl rfl (by omega) rfl | exact V_eqlF rfl rfl (by omega) rfl | exact V_eql rfl rfl rfl) | (apply ob_neq; first | exact V_neqT rfl rfl (by omega) rfl | exact V_neqF rfl rfl (by omega) rfl | exact V_neq rfl rfl rfl) | (apply ob_lss; first | exact V_lssT rfl rfl (by omega) rfl | exact V_lssF rfl rfl (by omega) rfl | exact V_lss rfl rfl rfl) | (apply ob_leq; first | exact V_leqT rfl rfl (by omega) rfl | exact V_leqF rfl rfl (by omega) rfl | exact V_leq rfl rfl rfl) | (apply ob_gtr; first | exact V_gtrT rfl rfl (by omega) rfl | exact V_gtrF rfl rfl (by omega) rfl | exact V_gtr rfl rfl rfl) | (apply ob_geq; first | exact V_geqT rfl rfl (by omega) rfl | exact V_geqF rfl rfl (by omega) rfl | exact V_geq rfl rfl rfl) | (apply ob_quo; first | exact V_quo rfl rfl (by omega) (by first | exact IntWalk.i64_quo _ _ (by omega) | exact IntWalk.u64_quo _ _ (by omega) | exact IntWalk.u32_quo _ _ (by omega) | exact IntWalk.u8_quo _ _ (by omega)) rfl) | (apply ob_rem; first | exact V_rem rfl rfl (by omega) (Int.tmod_eq_emod_of_nonneg (by omega)) rfl) | (apply ob_and; first | exact V_and rfl rfl (by first | exact mask32_u64 (by omega) | exact mask_u64 8 (by decide) (by omega) rfl | exact mask_u64 16 (by decide) (by omega) rfl) rfl) | (apply ob_eql; first | exact V_eqP (tb := tb) rfl rfl rfl rfl | exact V_eqBB (tb := tb) rfl rfl rfl rfl | exact V_eqB (tb := tb) rfl rfl rfl rfl | exact V_eqNil (tb := tb) rfl rfl rfl rfl | exact V_eqStr rfl rfl (by assumption) (by assumption) rfl) | (apply ob_neq; first | exact V_neP (tb := tb) rfl rfl rfl rfl | exact V_neBB (tb := tb) rfl rfl rfl rfl | exact V_neB (tb := tb) rfl rfl rfl rfl | exact V_neStr rfl rfl (by assumption) (by assumption) rfl) | (apply oK; first | (apply ob_shr; exact V_shr (m := _) rfl rfl (by omega) (by simp only [IntKind.bits, Int.reduceToNat, Nat.reduceLeDiff, Nat.min_eq_left]; exact rfl) (by first | (simp only [Int.reducePow]; exact rfl) | exact rfl) rfl) | (apply ob_shl; exact V_shl (m := _) rfl rfl (by omega) (by simp only [IntKind.bits, Int.reduceToNat, Nat.reduceLeDiff, Nat.min_eq_left]; exact rfl) (by (try simp only [Int.reducePow]); first | exact mu64 _ | exact mu32 _ | exact mu8 _ | exact rfl) rfl))) | (apply oE; first | exact V_extract rfl rfl rfl) | (apply oc_len; exact V_len (tb := tb) rfl rfl rfl) | (apply oc_len; exact V_lenS (tb := tb) rfl rfl rfl) | (apply oc_min; exact V_min rfl rfl rfl rfl) | (apply oc_max; exact V_max rfl rfl rfl rfl) | (apply oCv; first | exact V_conv (tb := tb) rfl rfl rfl (by first | exact mu64 _ | exact mu32 _ | exact mu8 _ | exact rfl) rfl | exact V_str (tb := tb) rfl (by first | exact vec_rd (by repeat (first | apply List.Mem.head | apply List.Mem.tail)) | assumption | exact ArgRd.rd (by assumption) _ | (apply Rd_weak; assumption; intro _ hx; exact St.sub (by repeat (first | exact List.Sublist.refl _ | apply List.Sublist.cons_cons | apply List.Sublist.cons)) hx)) (by first | assumption | rfl | omega) rfl rfl rfl rfl) | (apply oP; first | exact V_pickT rfl rfl rfl | exact V_pickF rfl rfl rfl | exact V_pickB rfl rfl rfl rfl) | (apply oU; first | exact V_notD rfl rfl | exact V_not rfl rfl | exact V_neg rfl (by first | exact mu64 _ | exact mu32 _ | exact mu8 _ | exact rfl) rfl) | (apply oN; first | exact V_nilCheck rfl rfl) | (apply oFA; first | exact V_field (tb := tb) rfl rfl rfl rfl rfl rfl | exact V_fieldC (tb := tb) rfl (by first | exact Rd.sl (vec_rd (by repeat (first | apply List.Mem.head | apply List.Mem.tail))) | exact Rd.sl (by assumption) | exact Rd.sl (ArgRd.rd (by assumption) _) | (apply Rd.sl; (apply Rd_weak; assumption; intro _ hx; exact St.sub (by repeat (first | exact List.Sublist.refl _ | apply List.Sublist.cons_cons | apply List.Sublist.cons)) hx))) (by omega) rfl rfl rfl rfl rfl) | (apply oIA; first | exact V_index (tb := tb) rfl rfl rfl rfl (by first | exact Rd.sl (vec_rd (by repeat (first | apply List.Mem.head | apply List.Mem.tail))) | exact Rd.sl (by assumption) | exact Rd.sl (ArgRd.rd (by assumption) _) | (apply Rd.sl; (apply Rd_weak; assumption; intro _ hx; exact St.sub (by repeat (first | exact List.Sublist.refl _ | apply List.Sublist.cons_cons | apply List.Sublist.cons)) hx))) (by omega) (by (try simp only [tn, tna, tn1, tn2, tn3, tn4, tnd16, tnd8, Int.reduceToNat]); first | exact Nat.mul_one _ | exact rfl) rfl | exact V_indexA (tb := tb) rfl rfl rfl rfl (by omega) rfl) | (apply oBd; first | exact V_build (tb := tb) rfl rfl rfl rfl rfl) | (apply oF; first | exact V_makeFunc rfl rfl rfl)) : JR Tryz.prog f n R D w0 ops l k (put d v ov) H → JO Tryz.prog f n R D w0 ops ⟨d, op, T, pos, af, g⟩ l k ov H := fun hn => JO_v h hn
theorem iK (h : OpK Tryz.prog n D w0 ov H ⟨d, op, T, pos, af, g⟩ H' := by first | exact K_store (tb := tb) rfl rfl (by repeat (first | apply Upd.here | apply Upd.there)) rfl rfl rfl (by repeat (first | exact trivial | refine ⟨rfl, ?_⟩)) rfl rfl | exact K_storeC1 (tb := tb) rfl rfl ints_set (by repeat (first | apply Upd.here | apply Upd.there)) rfl rfl (by rw [ints_len]; omega) rfl) : JR Tryz.prog f n R D w0 ops l k (put d undef ov) H' → JO Tryz.prog f n R D w0 ops ⟨d, op, T, pos, af, g⟩ l k ov H := fun hn => JO_k h hn
theorem iQ (h : OpV Tryz.prog n D w0 ov H ⟨d, op, T, pos, af, g⟩ v := by first | (apply oMv; exact V_move rfl rfl) | (apply oAs; exact V_assign rfl rfl) | (apply oL; first | exact V_load (tb := tb) rfl (by repeat (first | apply List.Mem.head | apply List.Mem.tail)) rfl rfl rfl rfl | exact V_loadC (tb := tb) rfl (by first | exact vec_rd (by repeat (first | apply List.Mem.head | apply List.Mem.tail)) | assumption | exact ArgRd.rd (by assumption) _ | (apply Rd_weak; assumption; intro _ hx; exact St.sub (by repeat (first | exact List.Sublist.refl _ | apply List.Sublist.cons_cons | apply List.Sublist.cons)) hx)) rfl rfl (by first | exact ints_get (by omega) | exact rfl) rfl | exact V_loadA (tb := tb) rfl (by repeat (first | apply List.Mem.head | apply List.Mem.tail)) rfl rfl rfl rfl) | (apply oB; first | (apply ob_add; first | exact V_add rfl rfl (by first | exact wi64 (by omega) | exact wu64 (by omega) | exact wu32 (by omega) | exact wu8 (by omega) | exact mu64 _ | exact mu32 _ | exact mu8 _ | exact mi64 _ | exact rfl) rfl) | (apply ob_sub; first | exact V_sub rfl rfl (by first | exact wi64 (by omega) | exact wu64 (by omega) | exact wu32 (by omega) | exact wu8 (by omega) | exact mu64 _ | exact mu32 _ | exact mu8 _ | exact mi64 _ | exact rfl) rfl) | (apply ob_mul; first | exact V_mul rfl rfl (by first | exact wi64 (by omega) | exact wu64 (by omega) | exact wu32 (by omega) | exact wu8 (by omega) | exact mu64 _ | exact mu32 _ | exact mu8 _ | exact mi64 _ | exact rfl) rfl) | (apply ob_eql; first | exact V_eqlT rfl rfl (by omega) rfl | exact V_eqlF rfl rfl (by omega) rfl | exact V_eql rfl rfl rfl) | (apply ob_neq; first | exact V_neqT rfl rfl (by omega) rfl | exact V_neqF rfl rfl (by omega) rfl | exact V_neq rfl rfl rfl) | (apply ob_lss; first | exact V_lssT rfl rfl (by omega) rfl | exact V_lssF rfl rfl (by omega) rfl | exact V_lss rfl rfl rfl) | (apply ob_leq; first | exact V_leqT rfl rfl (by omega) rfl | exact V_leqF rfl rfl (by omega) rfl | exact V_leq rfl rfl rfl) | (apply ob_gtr; first | exact V_gtrT rfl rfl (by omega) rfl | exact V_gtrF rfl rfl (by omega) rfl | exact V_gtr rfl rfl rfl) | (apply ob_geq; first | exact V_geqT rfl rfl (by omega) rfl | exact V_geqF rfl rfl (by omega) rfl | exact V_geq rfl rfl rfl) | (apply ob_quo; first | exact V_quo rfl rfl (by omega) (by first | exact IntWalk.i64_quo _ _ (by omega) | exact IntWalk.u64_quo _ _ (by omega) | exact IntWalk.u32_quo _ _ (by omega) | exact IntWalk.u8_quo _ _ (by omega)) rfl) | (apply ob_rem; first | exact V_rem rfl rfl (by omega) (Int.tmod_eq_emod_of_nonneg (by omega)) rfl) | (apply ob_and; first | exact V_and rfl rfl (by first | exact mask32_u64 (by omega) | exact mask_u64 8 (by decide) (by omega) rfl | exact mask_u64 16 (by decide) (by omega) rfl) rfl) | (apply ob_eql; first | exact V_eqP (tb := tb) rfl rfl rfl rfl | exact V_eqBB (tb := tb) rfl rfl rfl rfl | exact V_eqB (tb := tb) rfl rfl rfl rfl | exact V_eqNil (tb := tb) rfl rfl rfl rfl | exact V_eqStr rfl rfl (by assumption) (by assumption) rfl) | (apply ob_neq; first | exact V_neP (tb := tb) rfl rfl rfl rfl | exact V_neBB (tb := tb) rfl rfl rfl rfl | exact V_neB (tb := tb) rfl rfl rfl rfl | exact V_neStr rfl rfl (by assumption) (by assumption) rfl) | (apply oK; first | (apply ob_shr; exact V_shr (m := _) rfl rfl (by omega) (by simp only [IntKind.bits, Int.reduceToNat, Nat.reduceLeDiff, Nat.min_eq_left]; exact rfl) (by first | (simp only [Int.reducePow]; exact rfl) | exact rfl) rfl) | (apply ob_shl; exact V_shl (m := _) rfl rfl (by omega) (by simp only [IntKind.bits, Int.reduceToNat, Nat.reduceLeDiff, Nat.min_eq_left]; exact rfl) (by (try simp only [Int.reducePow]); first | exact wi64 (by omega) | exact wu64 (by omega) | exact wu32 (by omega) | exact wu8 (by omega) | exact mu64 _ | exact mu32 _ | exact mu8 _ | exact mi64 _ | exact rfl) rfl))) | (apply oE; first | exact V_extract rfl rfl rfl) | (apply oc_len; exact V_len (tb := tb) rfl rfl rfl) | (apply oc_len; exact V_lenS (tb := tb) rfl rfl rfl) | (apply oc_min; exact V_min rfl rfl rfl rfl) | (apply oc_max; exact V_max rfl rfl rfl rfl) | (apply oCv; first | exact V_conv (tb := tb) rfl rfl rfl (by first | exact wi64 (by omega) | exact wu64 (by omega) | exact wu32 (by omega) | exact wu8 (by omega) | exact mu64 _ | exact mu32 _ | exact mu8 _ | exact mi64 _ | exact rfl) rfl | exact V_str (tb := tb) rfl (by first | exact vec_rd (by repeat (first | apply List.Mem.head | apply List.Mem.tail)) | assumption | exact ArgRd.rd (by assumption) _ | (apply Rd_weak; assumption; intro _ hx; exact St.sub (by repeat (first | exact List.Sublist.refl _ | apply List.Sublist.cons_cons | apply List.Sublist.cons)) hx)) (by first | assumption | rfl | omega) rfl rfl rfl rfl) | (apply oP; first | exact V_pickT rfl rfl rfl | exact V_pickF rfl rfl rfl | exact V_pickB rfl rfl rfl rfl) | (apply oU; first | exact V_notD rfl rfl | exact V_not rfl rfl | exact V_neg rfl (by first | exact wi64 (by omega) | exact wu64 (by omega) | exact wu32 (by omega) | exact wu8 (by omega) | exact mu64 _ | exact mu32 _ | exact mu8 _ | exact mi64 _ | exact rfl) rfl) | (apply oN; first | exact V_nilCheck rfl rfl) | (apply oFA; first | exact V_field (tb := tb) rfl rfl rfl rfl rfl rfl | exact V_fieldC (tb := tb) rfl (by first | exact Rd.sl (vec_rd (by repeat (first | apply List.Mem.head | apply List.Mem.tail))) | exact Rd.sl (by assumption) | exact Rd.sl (ArgRd.rd (by assumption) _) | (apply Rd.sl; (apply Rd_weak; assumption; intro _ hx; exact St.sub (by repeat (first | exact List.Sublist.refl _ | apply List.Sublist.cons_cons | apply List.Sublist.cons)) hx))) (by omega) rfl rfl rfl rfl rfl) | (apply oIA; first | exact V_index (tb := tb) rfl rfl rfl rfl (by first | exact Rd.sl (vec_rd (by repeat (first | apply List.Mem.head | apply List.Mem.tail))) | exact Rd.sl (by assumption) | exact Rd.sl (ArgRd.rd (by assumption) _) | (apply Rd.sl; (apply Rd_weak; assumption; intro _ hx; exact St.sub (by repeat (first | exact List.Sublist.refl _ | apply List.Sublist.cons_cons | apply List.Sublist.cons)) hx))) (by omega) (by (try simp only [tn, tna, tn1, tn2, tn3, tn4, tnd16, tnd8, Int.reduceToNat]); first | exact Nat.mul_one _ | exact rfl) rfl | exact V_indexA (tb := tb) rfl rfl rfl rfl (by omega) rfl) | (apply oBd; first | exact V_build (tb := tb) rfl rfl rfl rfl rfl) | (apply oF; first | exact V_makeFunc rfl rfl rfl)) (hlo : loud op = false := by rfl) : QR Tryz.prog n D w0 Z l (put d v ov) H K → QO Tryz.prog n D w0 Z ⟨d, op, T, pos, af, g⟩ l ov H K := fun hn => QO_v hlo h hn
theorem iQK (hs : Z.2.contains l.length = true) (h : OpK Tryz.prog n D w0 ov H ⟨d, op, T, pos, af, g⟩ H' := by first | exact K_store (tb := tb) rfl rfl (by repeat (first | apply Upd.here | apply Upd.there)) rfl rfl rfl (by repeat (first | exact trivial | refine ⟨rfl, ?_⟩)) rfl rfl | exact K_storeC1 (tb := tb) rfl rfl ints_set (by repeat (first | apply Upd.here | apply Upd.there)) rfl rfl (by rw [ints_len]; omega) rfl) (hlo : loud op = true := by rfl) : QR Tryz.prog n D w0 Z l (put d undef ov) H' K → QO Tryz.prog n D w0 Z ⟨d, op, T, pos, af, g⟩ l ov H K := fun hn => QO_k hlo h hs hn
end
theorem dS {w0 : World} {H H' : List Asn} {w : World} (hw : St w0 H w) (h : H'.Sublist H := by repeat (first | exact List.Sublist.refl _ | apply List.Sublist.cons_cons | apply List.Sublist.cons)) : St w0 H' w := St.sub h hw
theorem sx {G G' : Prop} (h : G') (t : G' → G := by first | (apply igJO; first | (apply ikS; exact iK) | (apply ikX; exact JO_box rfl rfl rfl) | (apply ikA; exact JO_alloc (tb := tb) rfl rfl) | (apply ikBs; exact JO_buildSlice (tb := tb) rfl rfl rfl rfl rfl rfl rfl rfl rfl) | (apply ikM; exact JO_make (tb := tb) rfl rfl rfl rfl rfl rfl (by omega) rfl) | exact iO) | (apply igJR; first | exact JR_un | exact JR_nil | exact JR_yes rfl rfl | exact JR_no rfl rfl rfl rfl | exact JR_noU rfl rfl rfl) | (apply igJS; first | exact JS_seq | exact JS_region | exact JS_skip | exact JS_block | exact JS_inBlock | exact JS_label | exact JS_exit rfl | exact JS_condT rfl | exact JS_condF rfl | exact JS_draw [0] (by kernel_rfl) (by kernel_rfl) (by decide +kernel) | exact JS_draw [] (by kernel_rfl) (by kernel_rfl) (by decide +kernel) | exact JS_cond_T rfl (by omega) | exact JS_cond_F rfl (by omega)) | (apply igQR; first | exact QR_un | exact QR_nil | exact QR_yes rfl rfl | exact QR_no rfl rfl rfl rfl | exact QR_noU rfl rfl rfl) | (apply igQO; first | exact iQ | exact iQK rfl)) : G := t h
theorem sy {G G' : Prop} (h : G') (t : G' → G := by first | (apply igJO; first | (apply ikS; exact iK) | (apply ikX; exact JO_box rfl rfl rfl) | (apply ikA; exact JO_alloc (tb := tb) rfl rfl) | (apply ikBs; exact JO_buildSlice (tb := tb) rfl rfl rfl rfl rfl rfl rfl rfl rfl) | (apply ikM; exact JO_make (tb := tb) rfl rfl rfl rfl rfl rfl (by omega) rfl) | exact iO) | (apply igJR; first | exact JR_un | exact JR_nil | exact JR_yes rfl rfl | exact JR_no rfl rfl rfl rfl | exact JR_noU rfl rfl rfl) | (apply igJS; first | exact JS_seq | exact JS_region | exact JS_skip | exact JS_block | exact JS_inBlock | exact JS_label | exact JS_exit rfl | exact JS_condT rfl | exact JS_condF rfl | exact JS_draw [0] (by kernel_rfl) (by kernel_rfl) (by decide +kernel) | exact JS_draw [] (by kernel_rfl) (by kernel_rfl) (by decide +kernel)) | (apply igQR; first | exact QR_un | exact QR_nil | exact QR_yes rfl rfl | exact QR_no rfl rfl rfl rfl | exact QR_noU rfl rfl rfl) | (apply igQO; first | exact iQ | exact iQK rfl)) : G := t h
theorem su {G G' : Prop} (h : G') (t : G' → G := by first | (apply igJO; first | (apply ikS; exact iK) | (apply ikX; exact JO_box rfl rfl rfl) | (apply ikA; exact JO_alloc (tb := tb) rfl rfl) | (apply ikBs; exact JO_buildSlice (tb := tb) rfl rfl rfl rfl rfl rfl rfl rfl rfl) | (apply ikM; exact JO_make (tb := tb) rfl rfl rfl rfl rfl rfl (by omega) rfl) | exact iU) | (apply igJR; first | exact JR_un | exact JR_nil | exact JR_yes rfl rfl | exact JR_no rfl rfl rfl rfl | exact JR_noU rfl rfl rfl) | (apply igJS; first | exact JS_seq | exact JS_region | exact JS_skip | exact JS_block | exact JS_inBlock | exact JS_label | exact JS_exit rfl | exact JS_condT rfl | exact JS_condF rfl | exact JS_draw [0] (by kernel_rfl) (by kernel_rfl) (by decide +kernel) | exact JS_draw [] (by kernel_rfl) (by kernel_rfl) (by decide +kernel)) | (apply igQR; first | exact QR_un | exact QR_nil | exact QR_yes rfl rfl | exact QR_no rfl rfl rfl rfl | exact QR_noU rfl rfl rfl) | (apply igQO; first | exact iQ | exact iQK rfl)) : G := t h
end Go.Proofs.YteelffkghidpfaaGreat

namespace Go.Proofs.YteelffkghidpfaaGreat
open Sx Go
set_option linter.unusedVariables false
set_option linter.unusedSimpArgs false
def stp (c : Nat) : Nat := if c % 2 = 1 then c / 2 ^^^ 3988292384 else c / 2
def stpN : Nat → Nat → Nat
  | 0, c => c
  | n + 1, c => stpN n (stp c)
theorem stp_lin (a b : Nat) : stp (a ^^^ b) = stp a ^^^ stp b := by
  have h2 : (a ^^^ b) % 2 = (a % 2 + b % 2) % 2 := by
    have h := Nat.xor_mod_two_pow (a := a) (b := b) (n := 1)
    rw [show (2 : Nat) ^ 1 = 2 from rfl] at h
    rw [h]
    rcases Nat.mod_two_eq_zero_or_one a with ha | ha <;> rcases Nat.mod_two_eq_zero_or_one b with hb | hb <;> rw [ha, hb] <;> rfl
  have hd : (a ^^^ b) / 2 = a / 2 ^^^ b / 2 := Nat.xor_div_two
  unfold stp
  rw [hd]
  rcases Nat.mod_two_eq_zero_or_one a with ha | ha <;> rcases Nat.mod_two_eq_zero_or_one b with hb | hb <;> rw [ha, hb] at h2
  · rw [if_neg (by omega), if_neg (by omega), if_neg (by omega)]
  · rw [if_pos (by omega), if_neg (by omega), if_pos (by omega), Nat.xor_assoc]
  · rw [if_pos (by omega), if_pos (by omega), if_neg (by omega)]
    rw [Nat.xor_assoc, Nat.xor_assoc, Nat.xor_comm (b / 2)]
  · rw [if_neg (by omega), if_pos (by omega), if_pos (by omega)]
    rw [Nat.xor_assoc, ← Nat.xor_assoc 3988292384, Nat.xor_comm 3988292384 (b / 2), Nat.xor_assoc (b / 2), Nat.xor_self, Nat.xor_zero]
theorem stpN_lin : ∀ (n a b : Nat), stpN n (a ^^^ b) = stpN n a ^^^ stpN n b
  | 0, _, _ => rfl
  | n + 1, a, b => by rw [stpN, stp_lin, stpN_lin n]; rfl
theorem stp_lt {c : Nat} (h : c < 4294967296) : stp c < 4294967296 := by
  unfold stp
  split
  · exact Nat.xor_lt_two_pow (n := 32) (by omega) (by omega)
  · omega
theorem stpN_lt : ∀ (n : Nat) {c : Nat}, c < 4294967296 → stpN n c < 4294967296
  | 0, _, h => h
  | n + 1, _, h => stpN_lt n (stp_lt h)
theorem stpN_shift : ∀ (n h : Nat), stpN n (2 ^ n * h) = h
  | 0, h => by simp [stpN]
  | n + 1, h => by
    rw [stpN]
    have e : stp (2 ^ (n + 1) * h) = 2 ^ n * h := by
      unfold stp
      rw [Nat.pow_succ, Nat.mul_comm (2 ^ n) 2, Nat.mul_assoc]
      rw [if_neg (by omega)]
      omega
    rw [e, stpN_shift n h]
theorem stp8 (x : Nat) : stpN 8 x = x / 256 ^^^ stpN 8 (x % 256) := by
  have e : x = 2 ^ 8 * (x / 256) ^^^ x % 256 := by
    have h1 := Nat.xor_div_two_pow (a := 2 ^ 8 * (x / 256)) (b := x % 256) (n := 8)
    have h2 := Nat.xor_mod_two_pow (a := 2 ^ 8 * (x / 256)) (b := x % 256) (n := 8)
    rw [show 2 ^ 8 * (x / 256) / 2 ^ 8 = x / 256 by omega, show x % 256 / 2 ^ 8 = 0 by omega, Nat.xor_zero] at h1
    rw [show 2 ^ 8 * (x / 256) % 2 ^ 8 = 0 by omega, show x % 256 % 2 ^ 8 = x % 256 by omega, Nat.zero_xor] at h2
    generalize 2 ^ 8 * (x / 256) ^^^ x % 256 = y at *
    omega
  have h := congrArg (stpN 8) e
  rw [stpN_lin, stpN_shift] at h
  exact h
end Go.Proofs.YteelffkghidpfaaGreat

set_option linter.unusedVariables false
namespace Sx
open Go
section
variable {P : Program} {f n : Nat} {R : Ending → World → Prop} {D : List Deferred} {w0 : World} {k : List Item} {ov : Ov} {H H' : List Asn}
  {ops : Array Oper} {l : List Oper} {d : Option Nat} {T : Nat} {pos : String} {af : Array Edge} {g : Option (Nat × Bool)} {x y : Operand} {v : Value} {tb : Tb P}
section
variable {t e s1 b1 s2 b2 m : Nat} {z1 z2 : Option (List Value)} {ty2 : Ty}
theorem V_buildA {xs : List (Nat × Operand)} {vs : List (Nat × Value)} {z cs : List Value} (h : tlook tb.l t = some ⟨.arr m e, s1, b1, some z⟩) (h2 : tlook tb.l e = some ⟨ty2, s2, b2, z2⟩)
    (hx : pevs ov xs = some vs) (hc : fillL (fun i => some (i * s2, s2)) z vs = some cs) (hd : dOk d n = true) : OpV P n D w0 ov H ⟨d, .build t xs.toArray, T, pos, af, g⟩ (.agg cs.toArray) := by
  unfold OpV
  exact ⟨hd, (fun a w ha _ => by
    have e1 := run_underlying (und_arr h) w
    obtain ⟨zv, hz, e3⟩ := Tb.run_zero w h
    have hfill := fill_eq _ hc
    have hx' := ha.pevs hx
    simp only [execOp, Instr.build, Sem.run_bind, e3, Result.andThen_ok, e1, cellsL_eq, hz, Tb.run_size w h2, List.map_toArray, hx']
    simp [hfill])⟩
theorem V_sliceP {b c lo hi : Nat} {il ih : Int} {ol oh : Option Operand} (hx : ev ov x = some (.pointer (some ⟨b, 0, none⟩))) (h : tlook tb.l t = some ⟨.arr c e, s1, b1, z1⟩) (h2 : tlook tb.l e = some ⟨ty2, s2, b2, z2⟩)
    (hlo : evb ov ol 0 = some il) (hhi : evb ov oh c = some ih) (el : il = (lo : Int)) (eh : ih = (hi : Int)) (hb : lo ≤ hi ∧ hi ≤ c) (hd : dOk d n = true) :
    OpV P n D w0 ov H ⟨d, .slice t x ol oh none, T, pos, af, g⟩ (.slice (subB (some ⟨b, 0, none⟩) lo c s2) (hi - lo) (c - lo)) := by
  unfold OpV
  exact ⟨hd, (fun A w ha hw => by
    obtain ⟨hb1, hb2⟩ := hb
    have e1 := run_underlying (und_arr h) w
    have hL : (match ol.map A.eval with | some v => Instr.sliceBound v hi .sliceB | none => pure 0 : Sem Nat).run P w = .ok lo w := by
      cases ol with
      | none => simp only [evb, Option.some.injEq] at hlo; simp; omega
      | some y =>
        simp only [evb] at hlo
        split at hlo
        · rename_i K i hy
          cases hlo
          simp only [Option.map_some, ha.ev hy]
          rw [run_sliceBound w (by omega)]; congr 1; omega
        · cases hlo
    have hH : (match oh.map A.eval with | some v => Instr.sliceBound v c .sliceAlen | none => pure c : Sem Nat).run P w = .ok hi w := by
      cases oh with
      | none => simp only [evb, Option.some.injEq] at hhi; simp; omega
      | some y =>
        simp only [evb] at hhi
        split at hhi
        · rename_i K i hy
          cases hhi
          simp only [Option.map_some, ha.ev hy]
          rw [run_sliceBound w (by omega)]; congr 1; omega
        · cases hhi
    have hS : (Instr.sliceBounds false c c (ol.map A.eval) (oh.map A.eval) none).run P w = .ok (lo, hi, c) w := by
      cases ol <;> cases oh <;> simp_all [Instr.sliceBounds]
    have e4 : (if c = lo then (⟨b, 0, none⟩ : Addr) else (⟨b, 0, none⟩ : Addr).add (lo * s2)) = (if c = lo then (⟨b, 0, none⟩ : Addr) else (⟨b, 0, none⟩ : Addr).add (lo * s2)) := rfl
    by_cases hcl : c = lo
    · subst hcl; simp [execOp, ha.ev hx, Instr.sliceAt, Instr.sureAddr, e1, hS, Tb.run_size w h2, subB]
    · simp [execOp, ha.ev hx, Instr.sliceAt, Instr.sureAddr, e1, hS, Tb.run_size w h2, subB, hcl])⟩
end
theorem subB_0 {a : Option Addr} {c sz : Nat} : subB a 0 c sz = a := by
  unfold subB
  split
  · rfl
  · cases a with
    | none => rfl
    | some a => simp only [Option.map_some, Nat.zero_mul]; unfold Addr.add; simp
theorem blk_rd {b m c : Nat} {cs : List Value} (h : blk b cs ∈ H) (hm : m ≤ c) : Rd w0 H (.slice (some ⟨b, 0, none⟩) m c) m cs := by
  unfold Rd
  intro w hw
  obtain ⟨E, hE⟩ := blk_heap h hw
  refine ⟨⟨_, c, rfl, (fun h => nomatch h), hm⟩, fun j v hv => ⟨⟨b, 0 + j, none⟩, by rw [cellPtr_eq, add_blk], ?_⟩⟩
  rw [cell_row hE]
  simpa using hv
theorem setSeg_set : ∀ {cs : List Value} {i : Nat} {v : Value}, i < cs.length → setSeg cs i [v] = some (cs.set i v)
  | [], i, v, h => by simp at h
  | c :: cs, 0, v, h => by simp [setSeg, over]
  | c :: cs, i + 1, v, h => by
    simp only [setSeg]
    rw [setSeg_set (by simpa using h)]
    simp
theorem setSeg_ints {K : IntKind} {l : List Int} {i : Nat} {a : Int} (h : i < l.length) : setSeg (ints K l) i [.int K a] = some (ints K (l.set i a)) := by
  rw [setSeg_set (by rw [ints_len]; exact h), ints_set]
end
end Sx

set_option linter.unusedVariables false
set_option linter.unusedSimpArgs false
namespace Sx
open Go
theorem bstr_get {B : List Int} {j : Nat} (h : j < B.length) : (bstr B)[j]? = some (UInt8.ofNat (B.getD j 0).toNat) := by
  have hs := bstr_size B
  have hd := bstr_data B
  have h1 : (bstr B).data.toList[j]? = some (UInt8.ofNat (B.getD j 0).toNat) := by
    rw [hd, List.getElem?_map, List.getD_eq_getElem?_getD, List.getElem?_eq_getElem h]; rfl
  rw [getElem?_pos (bstr B) j (by omega)]
  rw [Array.getElem?_toList, Array.getElem?_eq_getElem (by have : (bstr B).data.size = (bstr B).size := rfl; omega)] at h1
  exact h1
section
variable {P : Program} {n : Nat} {D : List Deferred} {w0 : World} {ov : Ov} {H : List Asn}
  {d : Option Nat} {T : Nat} {pos : String} {af : Array Edge} {g : Option (Nat × Bool)} {x y : Operand} {tb : Tb P} {t s1 b1 : Nat} {z1 : Option (List Value)}
theorem V_indexP {B : List Int} {K : IntKind} {i : Int} {r : Int} (hx : ev ov x = some (.string (bstr B))) (hy : ev ov y = some (.int K i)) (h : tlook tb.l t = some ⟨.str, s1, b1, z1⟩) (hB : Byt B) (hi : 0 ≤ i ∧ i < B.length) (hr : B.getD i.toNat 0 = r) (hd : dOk d n = true) :
    OpV P n D w0 ov H ⟨d, .index t x y, T, pos, af, g⟩ (.int .u8 r) := by
  have := V_indexS (P := P) (D := D) (w0 := w0) (H := H) (d := d) (T := T) (pos := pos) (af := af) (g := g) (fun j => (B.getD j 0).toNat) B.length hx hy h (by
    rw [List.all_eq_true]
    intro j hj
    rw [List.mem_range] at hj
    have hb := hB j
    rw [bstr_get hj, Option.map_some]
    simp only [beq_iff_eq, Option.some.injEq, UInt8.toNat_ofNat']
    omega) hi hd
  have hb := hB i.toNat
  rw [show (((B.getD i.toNat 0).toNat : Nat) : Int) = r by rw [← hr]; omega] at this
  exact this
end
end Sx
namespace Go.Proofs.YteelffkghidpfaaGreat
open Sx Go
def ltA : Nat → Int
  | 0 => 98 | 1 => 104 | 2 => 72 | 3 => 119 | 4 => 87 | 5 => 113 | 6 => 81 | 7 => 118 | 8 => 122 | _ => 110
def szA : Nat → Int
  | 0 => 1 | 1 => 2 | 2 => 2 | 3 => 4 | 4 => 4 | 5 => 8 | 6 => 8 | _ => 0
def putA : Nat → Value
  | 0 => .func (.func 193) #[] #[]
  | 1 => .func (.func 193) #[] #[]
  | 2 => .func (.func 195) #[] #[]
  | 3 => .func (.func 193) #[] #[]
  | 4 => .func (.func 195) #[] #[]
  | 5 => .func (.func 193) #[] #[]
  | 6 => .func (.func 195) #[] #[]
  | 7 => .func (.func 197) #[] #[]
  | 8 => .func (.func 199) #[] #[]
  | _ => .func (.func 201) #[] #[]
def getA : Nat → Value
  | 0 => .func (.func 194) #[] #[]
  | 1 => .func (.func 194) #[] #[]
  | 2 => .func (.func 196) #[] #[]
  | 3 => .func (.func 194) #[] #[]
  | 4 => .func (.func 196) #[] #[]
  | 5 => .func (.func 194) #[] #[]
  | 6 => .func (.func 196) #[] #[]
  | 7 => .func (.func 198) #[] #[]
  | 8 => .func (.func 200) #[] #[]
  | _ => .func (.func 202) #[] #[]
def fnOf : Value → Nat
  | .func (.func q) _ _ => q
  | _ => 0
abbrev fmA (k : Nat) : List Value := [.int .u8 (ltA k), .int .i64 (szA k), putA k, getA k]
abbrev fmsA : List Value := fmA 0 ++ fmA 1 ++ fmA 2 ++ fmA 3 ++ fmA 4 ++ fmA 5 ++ fmA 6 ++ fmA 7 ++ fmA 8 ++ fmA 9
theorem fmsA_seg : ∀ {k : Nat}, k < 10 → (fmsA.drop (k * 4)).take 4 = fmA k
  | 0, _ => rfl | 1, _ => rfl | 2, _ => rfl | 3, _ => rfl | 4, _ => rfl | 5, _ => rfl | 6, _ => rfl | 7, _ => rfl | 8, _ => rfl | 9, _ => rfl
  | k + 10, h => absurd h (by omega)
theorem ltA_ne {k j : Nat} (hk : k < 10) (hj : j < k) : ltA j ≠ ltA k := by
  have : ∀ k, k < 10 → ∀ j, j < k → ltA j ≠ ltA k := by decide
  exact this k hk j hj
theorem ltA_bd (k : Nat) : 0 ≤ ltA k ∧ ltA k < 256 := by unfold ltA; split <;> omega
theorem szA_bd (k : Nat) : 0 ≤ szA k ∧ szA k ≤ 8 := by unfold szA; split <;> omega
theorem fm_all (k : Nat) : All1 (fmA k) := by
  have h1 : Sx.one (putA k) := by unfold putA; split <;> rfl
  have h2 : Sx.one (getA k) := by unfold getA; split <;> rfl
  exact ⟨rfl, rfl, h1, h2, trivial⟩
section
variable {w0 : World} {H : List Asn}
set_option maxRecDepth 10000 in
set_option maxHeartbeats 4000000 in
theorem Forms_c (w : World) (hw : St w0 H w) : Calls Tryz.prog 148 #[] w fun e w' => e = .returned (.agg fmsA.toArray) ∧ St w0 H w' := by
  refine enter (vs := []) Tryz.func148 rfl rfl rfl hw ?_
  clear hw w
  repeat (first | (apply gJO; refine JO_v (oBd (V_buildA (tb := tb) rfl rfl rfl rfl rfl)) ?_) | (refine sx ?_; try intro _))
  refine JS_retC Tryz.func148 rfl (by first | exact ResV.agg (tb := tb) rfl (by repeat (first | apply List.Mem.head | apply List.Mem.tail)) rfl rfl rfl ResV.nil | exact ResV.agg (tb := tb) rfl (by repeat (first | apply List.Mem.head | apply List.Mem.tail)) rfl rfl rfl (ResV.tmp rfl ResV.nil) | exact ResV.agg (tb := tb) rfl (by repeat (first | apply List.Mem.head | apply List.Mem.tail)) rfl rfl rfl (ResV.tmp rfl (ResV.tmp rfl ResV.nil)) | exact ResV.one (tb := tb) rfl (by repeat (first | apply List.Mem.head | apply List.Mem.tail)) rfl rfl rfl ResV.nil | exact ResV.one (tb := tb) rfl (by repeat (first | apply List.Mem.head | apply List.Mem.tail)) rfl rfl rfl (ResV.tmp rfl ResV.nil) | exact ResV.one (tb := tb) rfl (by repeat (first | apply List.Mem.head | apply List.Mem.tail)) rfl rfl rfl (ResV.one (tb := tb) rfl (by repeat (first | apply List.Mem.head | apply List.Mem.tail)) rfl rfl rfl ResV.nil) | exact ResV.tmp rfl (ResV.agg (tb := tb) rfl (by repeat (first | apply List.Mem.head | apply List.Mem.tail)) rfl rfl rfl ResV.nil) | exact ResV.tmp rfl (ResV.one (tb := tb) rfl (by repeat (first | apply List.Mem.head | apply List.Mem.tail)) rfl rfl rfl ResV.nil)) ?_
  intro w hw
  exact ⟨rfl, dS hw⟩
set_option maxRecDepth 10000 in
theorem FormIs_c (k i lb : Nat) (hl : blk lb [.int .u8 (ltA k)] ∈ H) (w : World) (hw : St w0 H w) : Calls Tryz.prog 150 #[.agg (fmA i).toArray, .pointer (some ⟨lb, 0, none⟩)] w fun e w' => e = .returned (.bool (decide (ltA i = ltA k))) ∧ St w0 H w' := by
  refine enter (vs := [.agg (fmA i).toArray, .pointer (some ⟨lb, 0, none⟩)]) Tryz.func150 rfl rfl rfl hw ?_
  clear hw w
  repeat (first | (apply gJO; first | refine JO_v (oL (V_load (tb := tb) rfl (List.Mem.tail _ hl) rfl rfl rfl rfl)) ?_) | (refine sx ?_; try intro _))
  exact JS_ret Tryz.func150 rfl rfl fun w hw => ⟨rfl, hw.drop⟩
set_option maxRecDepth 10000 in
theorem IndexF_c (k b lb : Nat) (hk : k < 10) (hb : blk b fmsA ∈ H) (hl : blk lb [.int .u8 (ltA k)] ∈ H) (w : World) (hw : St w0 H w) :
    Calls Tryz.prog 149 #[.slice (some ⟨b, 0, none⟩) 10 10, .func (.func 150) #[] #[.pointer (some ⟨lb, 0, none⟩)]] w fun e w' => e = .returned (.int .i64 k) ∧ St w0 H w' := by
  have hr : Rd w0 H (.slice (some ⟨b, 0, none⟩) 10 10) 10 fmsA := blk_rd hb (by omega)
  refine enter (vs := [.slice (some ⟨b, 0, none⟩) 10 10, .func (.func 150) #[] #[.pointer (some ⟨lb, 0, none⟩)]]) Tryz.func149 rfl rfl rfl hw ?_
  clear hw w
  repeat (first | (apply gJR; (refine sx ?_; try intro _)) | (apply gJO; (refine sx ?_; try intro _)) | apply JS_seq | apply JS_region)
  refine JS_block ?_
  refine JS_loop1 (fun (i : Nat) => [(0, .slice (some ⟨b, 0, none⟩) 10 10), (1, .func (.func 150) #[] #[.pointer (some ⟨lb, 0, none⟩)]), (7, .int .i64 10), (8, .int .i64 i)]) (fun _ => H) (fun i => i ≤ k) (fun i => k - i) 0 (Nat.zero_le _) (by repeat (first | exact trivial | refine ⟨rfl, ?_⟩ | refine ⟨lookI rfl (by omega), ?_⟩)) (fun w hw => hw) ?_
  intro i hi again
  have hseg := fmsA_seg (k := i) (by omega)
  generalize hfm : fmsA = F at *
  have hF := fun {H} (hl : blk lb [.int .u8 (ltA k)] ∈ H) w hw => FormIs_c (w0 := w0) k i lb hl w hw
  by_cases hik : i < k
  · have hne := ltA_ne hk hik
    repeat (first | (apply gJO; first | refine JO_v (oIA (V_index (tb := tb) rfl rfl rfl rfl (Rd.sl hr) (by omega) rfl rfl)) ?_ | refine JO_v (oL (V_loadCA (tb := tb) rfl hr rfl rfl rfl (by decide) hseg rfl)) ?_) | (refine sx ?_; try intro _))
    refine JO_callv (us := []) (cs := [.pointer (some ⟨lb, 0, none⟩)]) rfl Tryz.call150 rfl rfl fun w hw => (hF hl w hw).mono ?_
    rintro e w' ⟨rfl, hw'⟩
    (refine ⟨_, rfl, _, hw', ?_⟩; clear hw' hw w w')
    rw [decide_eq_false hne]
    repeat (refine sx ?_; try intro _)
    exact JS_again1 again (i + 1) (by omega) (by omega) (by repeat (first | exact trivial | refine ⟨rfl, ?_⟩ | refine ⟨lookI rfl (by omega), ?_⟩)) (fun w hw => hw)
  · obtain rfl : i = k := by omega
    repeat (first | (apply gJO; first | refine JO_v (oIA (V_index (tb := tb) rfl rfl rfl rfl (Rd.sl hr) (by omega) rfl rfl)) ?_ | refine JO_v (oL (V_loadCA (tb := tb) rfl hr rfl rfl rfl (by decide) hseg rfl)) ?_) | (refine sx ?_; try intro _))
    refine JO_callv (us := []) (cs := [.pointer (some ⟨lb, 0, none⟩)]) rfl Tryz.call150 rfl rfl fun w hw => (hF hl w hw).mono ?_
    rintro e w' ⟨rfl, hw'⟩
    (refine ⟨_, rfl, _, hw', ?_⟩; clear hw' hw w w')
    rw [decide_eq_true rfl]
    repeat (refine sx ?_; try intro _)
    exact JS_ret Tryz.func149 rfl rfl fun w hw => ⟨rfl, hw⟩
set_option maxRecDepth 10000 in
theorem FormOf_c (k : Nat) (hk : k < 10) (w : World) (hw : St w0 H w) :
    Calls Tryz.prog 105 #[.int .u8 (ltA k)] w fun e w' => e = .returned (.tuple #[.agg (fmA k).toArray, .bool true]) ∧ St w0 H w' := by
  have hseg := fmsA_seg (k := k) hk
  refine enter (vs := [.int .u8 (ltA k)]) Tryz.func105 rfl rfl rfl hw ?_
  clear hw w
  repeat (refine sx ?_; try intro _)
  refine JO_call Tryz.call148 rfl rfl fun w hw => (Forms_c w hw).mono ?_
  rintro e w' ⟨rfl, hw'⟩
  (refine ⟨_, rfl, _, hw', ?_⟩; clear hw' hw w w')
  repeat (first | (apply gJO; first | refine JO_v (V_sliceP (tb := tb) (lo := 0) (hi := 10) rfl rfl rfl rfl rfl rfl rfl (by omega) rfl) ?_) | (refine sx ?_; try intro _))
  rw [subB_0]
  refine JO_call Tryz.call149 rfl rfl fun w hw => (IndexF_c k _ _ hk (by repeat (first | apply List.Mem.head | apply List.Mem.tail)) (by repeat (first | apply List.Mem.head | apply List.Mem.tail)) w hw).mono ?_
  rintro e w' ⟨rfl, hw'⟩
  (refine ⟨_, rfl, _, hw', ?_⟩; clear hw' hw w w')
  have hsg : seg fmsA (0 + ((k : Nat) : Int).toNat * 4) 4 = some (fmA k) := by
    rw [Int.toNat_natCast, Nat.zero_add]
    have : ∀ k, k < 10 → seg fmsA (k * 4) 4 = some (fmA k) := fun k h => by
      match k, h with
      | 0, _ => rfl | 1, _ => rfl | 2, _ => rfl | 3, _ => rfl | 4, _ => rfl | 5, _ => rfl | 6, _ => rfl | 7, _ => rfl | 8, _ => rfl | 9, _ => rfl
      | k + 10, h => exact absurd h (by omega)
    exact this k hk
  have hall := fm_all k
  repeat (first | (apply gJO; first | refine JO_v (oL (V_loadA (tb := tb) rfl (List.Mem.head _) rfl rfl hsg rfl)) ?_ | refine JO_k (K_store (tb := tb) rfl rfl (by repeat (first | apply Upd.here | apply Upd.there)) rfl rfl rfl hall rfl rfl) ?_) | (refine sx ?_; try intro _))
  refine JS_retC Tryz.func105 rfl (by first | exact ResV.agg (tb := tb) rfl (by repeat (first | apply List.Mem.head | apply List.Mem.tail)) rfl rfl rfl ResV.nil | exact ResV.agg (tb := tb) rfl (by repeat (first | apply List.Mem.head | apply List.Mem.tail)) rfl rfl rfl (ResV.tmp rfl ResV.nil) | exact ResV.agg (tb := tb) rfl (by repeat (first | apply List.Mem.head | apply List.Mem.tail)) rfl rfl rfl (ResV.tmp rfl (ResV.tmp rfl ResV.nil)) | exact ResV.one (tb := tb) rfl (by repeat (first | apply List.Mem.head | apply List.Mem.tail)) rfl rfl rfl ResV.nil | exact ResV.one (tb := tb) rfl (by repeat (first | apply List.Mem.head | apply List.Mem.tail)) rfl rfl rfl (ResV.tmp rfl ResV.nil) | exact ResV.one (tb := tb) rfl (by repeat (first | apply List.Mem.head | apply List.Mem.tail)) rfl rfl rfl (ResV.one (tb := tb) rfl (by repeat (first | apply List.Mem.head | apply List.Mem.tail)) rfl rfl rfl ResV.nil) | exact ResV.tmp rfl (ResV.agg (tb := tb) rfl (by repeat (first | apply List.Mem.head | apply List.Mem.tail)) rfl rfl rfl ResV.nil) | exact ResV.tmp rfl (ResV.one (tb := tb) rfl (by repeat (first | apply List.Mem.head | apply List.Mem.tail)) rfl rfl rfl ResV.nil)) ?_
  intro w hw
  exact ⟨rfl, dS hw⟩
def LTS (L : List Int) : Prop := ∀ j, j < L.length → ∃ k, k < 10 ∧ L.getD j 0 = ltA k
theorem LTS.byt {L : List Int} (h : LTS L) : Byt L := fun j => by
  rcases Nat.lt_or_ge j L.length with h1 | h1
  · obtain ⟨k, _, e⟩ := h j h1
    rw [e]; exact ltA_bd k
  · rw [List.getD_eq_getElem?_getD, List.getElem?_eq_none h1]; decide
set_option maxRecDepth 10000 in
theorem Right_c (L : List Int) (hL : LTS L) (hm : L.length ≤ 64) (w : World) (hw : St w0 H w) :
    Calls Tryz.prog 104 #[.string (bstr L)] w fun e w' => e = .returned (.bool true) ∧ St w0 H w' := by
  have hsz : ((bstr L).size : Int) = L.length := by rw [bstr_size]
  refine enter (vs := [.string (bstr L)]) Tryz.func104 rfl rfl rfl hw ?_
  clear hw w
  repeat (first | (apply gJR; (refine sx ?_; try intro _)) | (apply gJO; (refine sx ?_; try intro _)) | (apply gJS; refine JS_condF rfl ?_) | (apply gJS; refine JS_cond_F rfl (by omega) ?_) | apply JS_skip | apply JS_seq | apply JS_region)
  refine JS_block ?_
  refine JS_loop1 (fun (i : Nat) => [(0, .string (bstr L)), (10, .int .i64 L.length), (11, .int .i64 i)]) (fun _ => H) (fun i => i ≤ L.length) (fun i => L.length - i) 0 (Nat.zero_le _) (by exact ⟨rfl, lookI rfl hsz, rfl, trivial⟩) (fun w hw => hw) ?_
  intro i hi again
  by_cases hil : i < L.length
  · obtain ⟨k, hk, e⟩ := hL i hil
    have hall := fm_all k
    repeat (first | (apply gJO; refine JO_v (V_indexP (tb := tb) (B := L) (r := ltA k) rfl rfl rfl hL.byt (by omega) (by rw [Int.toNat_natCast]; exact e) rfl) ?_) | (refine sx ?_; try intro _))
    refine JO_call Tryz.call105 rfl rfl fun w hw => (FormOf_c k hk w hw).mono ?_
    rintro e w' ⟨rfl, hw'⟩
    (refine ⟨_, rfl, _, hw', ?_⟩; clear hw' hw w w')
    repeat (first | (apply gJO; refine JO_k (K_store (tb := tb) rfl rfl (by repeat (first | apply Upd.here | apply Upd.there)) rfl rfl rfl hall rfl rfl) ?_) | (refine sx ?_; try intro _))
    exact JS_again1 again (i + 1) (by omega) (by omega) (by repeat (first | exact trivial | refine ⟨rfl, ?_⟩ | refine ⟨lookI rfl (by omega), ?_⟩)) (fun w hw => dS hw)
  · repeat (refine sx ?_; try intro _)
    exact JS_ret Tryz.func104 rfl rfl fun w hw => ⟨rfl, hw⟩
end
end Go.Proofs.YteelffkghidpfaaGreat

namespace Go.Proofs.YteelffkghidpfaaGreat
open Sx Go
set_option linter.unusedVariables false
set_option linter.unusedSimpArgs false
set_option maxRecDepth 100000
theorem xor32 {a b : Nat} (ha : a < 4294967296) (hb : b < 4294967296) : IntKind.u32.wrap ((BitVec.ofInt IntKind.u32.bits a ^^^ BitVec.ofInt IntKind.u32.bits b).toNat) = ((a ^^^ b : Nat) : Int) := by
  have h1 := xor_nat .u32 (a := a) (b := b) (by rw [show IntKind.u32.bits = 32 from rfl]; omega) (by rw [show IntKind.u32.bits = 32 from rfl]; omega)
  have h2 : a ^^^ b < 4294967296 := Nat.xor_lt_two_pow (n := 32) (by omega) (by omega)
  rw [h1, Int.toNat_natCast, Int.toNat_natCast, wu32 (by omega)]
theorem and32_1 {a : Nat} (ha : a < 4294967296) : IntKind.u32.wrap ((BitVec.ofInt IntKind.u32.bits a &&& BitVec.ofInt IntKind.u32.bits 1).toNat) = ((a % 2 : Nat) : Int) := by
  have h1 := and_nat .u32 (a := a) (b := 1) (by rw [show IntKind.u32.bits = 32 from rfl]; omega) (by decide)
  rw [h1, Int.toNat_natCast, show (1 : Int).toNat = 1 from rfl, Nat.and_one_is_mod, wu32 (by omega)]
section
variable {w0 : World} {H : List Asn}
theorem Step_c (c : Nat) (hc : c < 4294967296) (w : World) (hw : St w0 H w) : Calls Tryz.prog 177 #[.int .u32 c] w fun e w' => e = .returned (.int .u32 (stp c)) ∧ St w0 H w' := by
  have ha := and32_1 hc
  have hx : IntKind.u32.wrap ((BitVec.ofInt IntKind.u32.bits (c / 2 : Nat) ^^^ BitVec.ofInt IntKind.u32.bits 3988292384).toNat) = ((c / 2 ^^^ 3988292384 : Nat) : Int) := xor32 (by omega) (by decide)
  have hs : (c : Int) / 2 ^ 1 = ((c / 2 : Nat) : Int) := by omega
  refine enter (vs := [.int .u32 c]) Tryz.func177 rfl rfl rfl hw ?_
  clear hw w
  by_cases h : c % 2 = 1
  · have e : stp c = c / 2 ^^^ 3988292384 := if_pos h
    rw [e]
    repeat (first | (apply gJO; first | refine JO_v (V_and rfl rfl ha rfl) ?_ | refine JO_v (V_shr (m := 1) rfl rfl (by decide) rfl hs rfl) ?_ | refine JO_v (V_xor rfl rfl hx rfl) ?_) | (refine sx ?_; try intro _))
    exact JS_ret Tryz.func177 rfl rfl fun w hw => ⟨rfl, hw⟩
  · have e : stp c = c / 2 := if_neg h
    rw [e]
    repeat (first | (apply gJO; first | refine JO_v (V_and rfl rfl ha rfl) ?_ | refine JO_v (V_shr (m := 1) rfl rfl (by decide) rfl hs rfl) ?_ | refine JO_v (V_xor rfl rfl hx rfl) ?_) | (refine sx ?_; try intro _))
    exact JS_ret Tryz.func177 rfl rfl fun w hw => ⟨rfl, hw⟩
end
end Go.Proofs.YteelffkghidpfaaGreat

namespace Go.Proofs.YteelffkghidpfaaGreat
open Sx Go
set_option linter.unusedVariables false
set_option linter.unusedSimpArgs false
set_option maxRecDepth 100000
theorem stpN_succ : ∀ (n c : Nat), stpN (n + 1) c = stp (stpN n c)
  | 0, _ => rfl
  | n + 1, c => by rw [stpN, stpN_succ n (stp c)]; rfl
def crcB (c b : Nat) : Nat := stpN 8 (c ^^^ b)
theorem crcB_lt {c b : Nat} (hc : c < 4294967296) (hb : b < 4294967296) : crcB c b < 4294967296 := stpN_lt 8 (Nat.xor_lt_two_pow (n := 32) (by omega) (by omega))
section
variable {w0 : World} {H : List Asn}
theorem Feed_c (c b : Nat) (hc : c < 4294967296) (hb : b < 256) (w : World) (hw : St w0 H w) : Calls Tryz.prog 137 #[.int .u32 c, .int .u8 b] w fun e w' => e = .returned (.int .u32 (crcB c b)) ∧ St w0 H w' := by
  have hcv : IntKind.u32.wrap (b : Int) = b := wu32 (by omega)
  have hx0 := xor32 hc (by omega : b < 4294967296)
  have hlt : c ^^^ b < 4294967296 := Nat.xor_lt_two_pow (n := 32) (by omega) (by omega)
  refine enter (vs := [.int .u32 c, .int .u8 b]) Tryz.func137 rfl rfl rfl hw ?_
  clear hw w
  unfold crcB
  generalize hz : c ^^^ b = z at *
  repeat (first | (apply gJO; first | refine JO_v (V_conv (tb := tb) rfl rfl rfl hcv rfl) ?_ | refine JO_v (V_xor rfl rfl hx0 rfl) ?_) | (apply gJO; (refine sx ?_; try intro _)) | (apply gJR; (refine sx ?_; try intro _)) | apply JS_seq | apply JS_region | apply JS_skip)
  refine JS_block ?_
  refine JS_loop1 (fun (i : Nat) => [(0, .int .u32 (stpN i z)), (5, .int .i64 i)]) (fun _ => H) (fun i => i ≤ 8) (fun i => 8 - i) 0 (by omega) (by repeat (first | exact trivial | refine ⟨rfl, ?_⟩ | refine ⟨lookI rfl (by omega), ?_⟩)) (fun w hw => hw) ?_
  intro i hi again
  by_cases h8 : i < 8
  · have ag := again (i + 1) (by omega) (by omega)
    rw [stpN_succ i] at ag
    have hl := stpN_lt i hlt
    clear again
    generalize stpN i z = y at *
    have hx : IntKind.u32.wrap ((BitVec.ofInt IntKind.u32.bits (y / 2 : Nat) ^^^ BitVec.ofInt IntKind.u32.bits 3988292384).toNat) = ((y / 2 ^^^ 3988292384 : Nat) : Int) := xor32 (by omega) (by decide)
    have hr : Int.tmod (y : Int) 2 = ((y % 2 : Nat) : Int) := by rw [Int.tmod_eq_emod_of_nonneg (by omega)]; omega
    have hq : IntKind.u32.wrap (Int.tdiv (y : Int) 2) = ((y / 2 : Nat) : Int) := by rw [Int.tdiv_eq_ediv_of_nonneg (by omega), wu32 (by omega)]; omega
    by_cases h2 : y % 2 = 1
    · have e : stp y = y / 2 ^^^ 3988292384 := if_pos h2
      rw [e] at ag
      repeat (first | (apply gJS; exact JS_weak ag (by repeat (first | exact trivial | refine ⟨rfl, ?_⟩ | refine ⟨lookI rfl (by omega), ?_⟩)) (fun w hw => hw)) | (apply gJO; first | refine JO_v (V_rem rfl rfl (by omega) hr rfl) ?_ | refine JO_v (V_quo rfl rfl (by omega) hq rfl) ?_ | refine JO_v (V_xor rfl rfl hx rfl) ?_) | (refine sx ?_; try intro _))
    · have e : stp y = y / 2 := if_neg h2
      rw [e] at ag
      repeat (first | (apply gJS; exact JS_weak ag (by repeat (first | exact trivial | refine ⟨rfl, ?_⟩ | refine ⟨lookI rfl (by omega), ?_⟩)) (fun w hw => hw)) | (apply gJO; first | refine JO_v (V_rem rfl rfl (by omega) hr rfl) ?_ | refine JO_v (V_quo rfl rfl (by omega) hq rfl) ?_ | refine JO_v (V_xor rfl rfl hx rfl) ?_) | (refine sx ?_; try intro _))
  · obtain rfl : i = 8 := by omega
    clear again
    repeat (refine sx ?_; try intro _)
    exact JS_ret Tryz.func137 rfl rfl fun w hw => ⟨rfl, hw⟩
end
end Go.Proofs.YteelffkghidpfaaGreat

namespace Go.Proofs.YteelffkghidpfaaGreat
open Sx Go
set_option linter.unusedVariables false
set_option linter.unusedSimpArgs false
theorem ints_app1 {K : IntKind} {l : List Int} {x : Int} : ints K l ++ [.int K x] = ints K (l ++ [x]) := by simp [ints]
def tab (n : Nat) (f : Nat → Int) : List Int := (List.range n).map f
theorem tab_len (n : Nat) (f : Nat → Int) : (tab n f).length = n := by simp [tab]
theorem tab_set (n : Nat) (f : Nat → Int) (i : Nat) (v : Int) : (tab n f).set i v = tab n fun j => if j = i then v else f j := by
  apply List.ext_getElem?
  intro j
  unfold tab
  rw [List.getElem?_set]
  by_cases hj : j < n
  · by_cases hij : i = j
    · subst hij; simp [hj]
    · rw [if_neg hij]; simp [hj, Ne.symm hij, show ¬ j = i from fun h => hij h.symm]
  · rw [List.getElem?_eq_none (l := (List.range n).map _) (by simp; omega)]
    by_cases hij : i = j
    · subst hij; simp [hj]
    · simp [hij, hj]
theorem tab_congr {n : Nat} {f g : Nat → Int} (h : ∀ j, j < n → f j = g j) : tab n f = tab n g := by
  unfold tab
  apply List.map_congr_left
  intro j hj
  exact h j (by simpa using hj)
theorem tab_succ (n : Nat) (f : Nat → Int) : tab (n + 1) f = tab n f ++ [f n] := by simp [tab, List.range_succ]
theorem tab_const (n : Nat) (x : Int) : List.replicate n x = tab n fun _ => x := by
  unfold tab
  rw [show (fun _ : Nat => x) = Function.const _ x from rfl, List.map_const, List.length_range]
end Go.Proofs.YteelffkghidpfaaGreat

namespace Sx
open Go
section
variable {P : Program} {f n : Nat} {R : Ending → World → Prop} {D : List Deferred} {w0 : World} {k : List Item} {ov : Ov} {H : List Asn} {K : KC} {Z : Array Oper × List Nat}
  {ops : Array Oper} {l : List Oper} {d : Option Nat} {T : Nat} {pos : String} {af : Array Edge} {g : Option (Nat × Bool)} {x y : Operand} {op : Op} {tb : Tb P}
def OpE {ι : Type} (P : Program) (n : Nat) (D : List Deferred) (w0 : World) (ov : Ov) (H : List Asn) (o : Oper) (v : ι → Value) (H' : ι → List Asn) : Prop :=
  dOk o.dst n = true ∧ ∀ a w, Rep n D ov a → St w0 H w → ∃ c w', (execOp a.eval o).run P w = .ok (.value (v c)) w' ∧ St w0 (H' c) w'
theorem JO_e {ι : Type} {v : ι → Value} {H' : ι → List Asn} (h : OpE P n D w0 ov H ⟨d, op, T, pos, af, g⟩ v H') (hn : ∀ c, JR P f n R D w0 ops l k (put d (v c) ov) (H' c)) : JO P f n R D w0 ops ⟨d, op, T, pos, af, g⟩ l k ov H :=
  JO_step fun a w ha hw => let ⟨c, w', h1, h2⟩ := h.2 a w ha hw; ⟨v c, w', h1, h.1, H' c, h2, hn c⟩
theorem QO_e {ι : Type} {v : ι → Value} {H' : ι → List Asn} (h : OpE P n D w0 ov H ⟨d, op, T, pos, af, g⟩ v H') (hlo : loud op = true) (hs : Z.2.contains l.length = true ∨ ∀ c w, St w0 (H' c) w → St w0 H w) (hn : ∀ c, QR P n D w0 Z l (put d (v c) ov) (H' c) K) : QO P n D w0 Z ⟨d, op, T, pos, af, g⟩ l ov H K := by
  unfold QO
  intro a ha
  refine .inr ⟨hlo, fun w hw => ?_⟩
  obtain ⟨c, w', hrun, hw'⟩ := h.2 a w ha hw
  simp only [Oper.wpN, hrun, Oper.upN]
  exact ⟨St w0 (H' c), hw', hs.symm.imp (fun h => h c) id, by have := hn c; unfold QR at this; exact this _ (ha.put h.1 _)⟩
theorem Rd.nil {p : Option Addr} {m c m' : Nat} {cs : List Value} {w : World} (h : Rd w0 H (.slice p m c) m' cs) (hw : St w0 H w) : p = none → m = 0 := by
  unfold Rd at h
  obtain ⟨⟨b, c', e, hn, _⟩, _⟩ := h w hw
  cases e
  exact hn
theorem Sel.self {H a F} (h : Sel H a F) : F a = H := by
  induction h with
  | here a r => rfl
  | there y a r F _ ih => simp [ih]
theorem Sel.mem {H a F} (h : Sel H a F) : a ∈ H := by
  induction h with
  | here a r => exact List.Mem.head _
  | there y a r F _ ih => exact List.Mem.tail _ ih
theorem add_zero' (a : Addr) : a.add 0 = a := by unfold Addr.add; simp
theorem run_storeSeg {e size m j : Nat} {u : Value} {cs vs : List Value} {w : World} {F : Asn → List Asn} (hu : Sel H (vec e size u m cs) F) (hw : St w0 H w) (hp : 0 < vs.length) (h1 : All1 vs) (hf : j + vs.length ≤ cs.length) :
    ∃ b c w', u = .slice (some ⟨b, 0, none⟩) m c ∧ (storeCells ⟨b, j, none⟩ vs).run P w = .ok () w' ∧ St w0 (F (vec e size u m (cs.take j ++ vs ++ cs.drop (j + vs.length)))) w' := by
  obtain ⟨fp, hfp⟩ := hw.mem hu.mem
  rw [vec_holds] at hfp
  rcases hfp.2 with ⟨base, rfl, rfl, _⟩ | ⟨gb, cap, cur, rfl, _, hg, hn, hcm, hsz, ht⟩
  · have := hfp.1; rw [Nat.zero_mul] at this; omega
  · have hcl := hfp.1
    have hlen : cs.length ≤ cur.size := by rw [hcl, hsz]; exact Nat.mul_le_mul_right _ hn
    have hst := run_storeCells_at P gb j e vs 0 cur w hg (by omega) h1.mem
    simp only [Nat.add_zero] at hst
    refine ⟨gb, cap, _, rfl, hst, ?_⟩
    refine hw.row (hu.upd _) (cs := cur.toList) (by simpa using hg) (fun fq hq2 => ?_) fun w' h' => ?_
    · rw [vec_holds] at hq2
      rcases hq2.2 with ⟨base, hb, _⟩ | ⟨g', cap', cur', hv', hfq, _⟩
      · simp at hb; rw [hb.2.1, Nat.zero_mul] at hcl; omega
      · simp at hv'; rw [hfq, hv'.1]
    · rw [vec_holds]
      refine ⟨by rw [← hcl]; simp; omega, .inr ⟨gb, cap, _, rfl, rfl, h', hn, hcm, by simp; omega, ?_⟩⟩
      have hcs : cs = cur.toList.take cs.length := by rw [hcl]; exact ht.symm
      rw [← hcl]
      have e1 : cs.take j = cur.toList.take j := by rw [hcs, List.take_take]; congr 1; omega
      rw [e1, List.take_append, List.take_append]
      congr 1
      · congr 1
        · rw [List.take_take]; congr 1; omega
        · simp
          rw [List.take_of_length_le (by omega)]
      · have e2 : cs.drop (j + vs.length) = (cur.toList.drop (j + vs.length)).take (cs.length - (j + vs.length)) := by
          conv => lhs; rw [hcs]
          rw [List.drop_take]
        rw [e2]
        congr 1
        simp
        omega
theorem All1.take {l : List Value} (h : All1 l) (n : Nat) : All1 (l.take n) := All1.of fun v hv => h.mem v (List.mem_of_mem_take hv)
theorem E_copy {t e sz by' m q lo kk c cd sz1 by1 : Nat} {ty2 : Ty} {z1 z2 : Option (List Value)} {a pd : Option Addr} {ux : Value} {cs news : List Value} {F : Asn → List Asn}
    (hx : ev ov x = some (.slice pd kk cd)) (hy : ev ov y = some ux) (h : tlook tb.l t = some ⟨.slice e, sz1, by1, z1⟩) (h2 : tlook tb.l e = some ⟨ty2, sz, by', z2⟩) (hsz : Nat.blt 0 sz = true)
    (hu : Sel H (vec e sz (.slice a m c) m cs) F) (hp : 0 < kk → pd = a.map (·.add (lo * sz))) (hk : lo + kk ≤ m) (hr : Rd w0 H ux q news) (hl : news.length = q * sz) (h1 : All1 news) (hd : dOk d n = true) :
    OpE (ι := Unit) P n D w0 ov H ⟨d, .call ⟨.builtin .copy, #[x, y], #[t, t]⟩, T, pos, af, g⟩ (fun _ => .int .i64 (min q kk : Nat)) (fun _ => F (vec e sz (.slice a m c) m (cs.take (lo * sz) ++ news.take (min q kk * sz) ++ cs.drop (lo * sz + min q kk * sz)))) :=
  ⟨hd, fun A w ha hw => by
    unfold Rd at hr
    obtain ⟨⟨bx, cx, rfl, hbx, _⟩, hrd⟩ := hr w hw
    have hsz' : 0 < sz := by simpa [Nat.blt_eq] using hsz
    have hcl := vec_len hu.mem hw
    have e0 := run_underlying (und_slice h) w
    have hlen : (news.take (min q kk * sz)).length = min q kk * sz := by
      rw [List.length_take, hl]
      have : min q kk * sz ≤ q * sz := Nat.mul_le_mul_right _ (Nat.min_le_left _ _)
      omega
    have hfirst : (Builtin.firstCells sz (min q kk) (.slice bx q cx)).run P w = .ok (news.take (min q kk * sz)).toArray w := by
      cases bx with
      | none =>
        have : q = 0 := hbx rfl
        subst this
        have : news = [] := List.eq_nil_of_length_eq_zero (by simpa using hl)
        subst this
        simp [Builtin.firstCells]
      | some b =>
        have := run_loadCells_list (P := P) w b (news.take (min q kk * sz)) (fun j v hv => by
          rw [List.getElem?_take] at hv
          split at hv
          · exact reads_some hrd j v hv
          · cases hv)
        rw [hlen] at this
        simpa [Builtin.firstCells] using this
    by_cases hn0 : min q kk = 0
    · refine ⟨(), w, ?_, ?_⟩
      · simp only [hn0, Nat.zero_mul, List.take_zero] at hfirst
        cases pd <;> simp [execOp, resolve, invoke, builtin, ha.ev hx, ha.ev hy, Builtin.copy_, e0, Builtin.lenOf, Tb.run_size w h2, hn0, hfirst, storeCells, goInt] <;> simp_all
      · simp only [hn0, Nat.zero_mul, List.take_zero, List.append_nil, Nat.add_zero, List.take_append_drop]
        rw [hu.self]; exact hw
    · have hmul : lo * sz + min q kk * sz ≤ m * sz := by
        rw [← Nat.add_mul]; exact Nat.mul_le_mul_right _ (by omega)
      obtain ⟨b, cc, w', hb, hst, hw'⟩ := run_storeSeg (P := P) (vs := news.take (min q kk * sz)) (j := lo * sz) hu hw (by rw [hlen]; exact Nat.mul_pos (by omega) hsz') (h1.take _) (by rw [hlen, hcl]; exact hmul)
      cases hb
      have hpd := hp (by omega)
      rw [Option.map_some, add_blk, Nat.zero_add] at hpd
      subst hpd
      rw [hlen] at hw'
      refine ⟨(), w', ?_, hw'⟩
      simp [execOp, resolve, invoke, builtin, ha.ev hx, ha.ev hy, Builtin.copy_, e0, Builtin.lenOf, Tb.run_size w h2, hfirst, hst, goInt]⟩
theorem V_neStrF {A : List Int} {T1 T2 : Nat} (hx : ev ov x = some (.string (bstr A))) (hy : ev ov y = some (.string (bstr A))) (hA : Byt A) (hd : dOk d n = true) :
    OpV P n D w0 ov H ⟨d, .binOp .neq T1 x y T2, T, pos, af, g⟩ (.bool false) := by
  have : OpV P n D w0 ov H ⟨d, .binOp .neq T1 x y T2, T, pos, af, g⟩ (.bool (decide (A ≠ A))) := V_neStr hx hy hA hA hd
  simpa using this
end
end Sx

set_option linter.unusedVariables false
namespace Sx
open Go
@[irreducible] def vecB (e size : Nat) (v : Value) (n : Nat) (cs : List Value) (v' : Value) (n' : Nat) (cs' : List Value) : Asn where
  holds w fp := ∃ f1 f2, VecIn e size v n cs w f1 ∧ VecIn e size v' n' cs' w f2 ∧ (∀ b, b ∈ fp ↔ b ∈ f1 ∨ b ∈ f2)
  frame w w' fp h hk := by
    obtain ⟨f1, f2, h1, h2, h3⟩ := h
    have e1 := (vec_holds (e := e) (size := size) (v := v) (n := n) (cs := cs) (w := w') (fp := f1)).1 ((vec e size v n cs).frame w w' f1 (vec_holds.2 h1) fun b hb => hk b ((h3 b).2 (.inl hb)))
    have e2 := (vec_holds (e := e) (size := size) (v := v') (n := n') (cs := cs') (w := w') (fp := f2)).1 ((vec e size v' n' cs').frame w w' f2 (vec_holds.2 h2) fun b hb => hk b ((h3 b).2 (.inr hb)))
    exact ⟨f1, f2, e1, e2, h3⟩
  live w fp h b hb := by
    obtain ⟨f1, f2, h1, h2, h3⟩ := h
    rcases (h3 b).1 hb with h | h
    · exact (vec e size v n cs).live w f1 (vec_holds.2 h1) b h
    · exact (vec e size v' n' cs').live w f2 (vec_holds.2 h2) b h
theorem vecB_holds {e size v n cs v' n' cs' w fp} : (vecB e size v n cs v' n' cs').holds w fp ↔ ∃ f1 f2, VecIn e size v n cs w f1 ∧ VecIn e size v' n' cs' w f2 ∧ (∀ b, b ∈ fp ↔ b ∈ f1 ∨ b ∈ f2) := by
  unfold vecB; exact Iff.rfl
theorem VecIn.nodup {e size v n cs w fp} (h : VecIn e size v n cs w fp) : fp.Nodup := by
  rcases h.2 with ⟨_, _, _, rfl⟩ | ⟨_, _, _, _, rfl, _⟩ <;> simp
section
variable {P : Program} {n : Nat} {D : List Deferred} {w0 : World} {ov : Ov} {H : List Asn} {d : Option Nat} {T : Nat} {pos : String} {af : Array Edge} {g : Option (Nat × Bool)} {x y : Operand} {tb : Tb P} {w : World}
theorem Sel.back {H : List Asn} {a : Asn} {F : Asn → List Asn} (h : Sel H a F) (a' : Asn) : Upd (F a') a' a H := by
  induction h with
  | here a r => exact Upd.here _ _ _
  | there y a r F _ ih => exact Upd.there _ _ _ _ _ ih
theorem vecB_back {e size v m cs v' m' cs'} {F : Asn → List Asn} (hs : Sel H (vec e size v m cs) F) (h : St w0 (F (vecB e size v m cs v' m' cs')) w) : St w0 H w :=
  h.upd (hs.back _) rfl rfl rfl (Nat.le_refl _) fun f1 h1 => by
    obtain ⟨g1, g2, ha, hb, hc⟩ := vecB_holds.1 h1
    exact ⟨fun _ _ _ => rfl, g1, ha.nodup, fun b hb' => .inl ((hc b).2 (.inl hb')), vec_holds.2 ha⟩
theorem vecB_fwd {e size v m cs v' m' cs'} {F : Asn → List Asn} (hs : Sel H (vecB e size v m cs v' m' cs') F) (h : St w0 H w) : St w0 (F (vec e size v' m' cs')) w :=
  h.upd (hs.upd _) rfl rfl rfl (Nat.le_refl _) fun f1 h1 => by
    obtain ⟨g1, g2, ha, hb, hc⟩ := vecB_holds.1 h1
    exact ⟨fun _ _ _ => rfl, g2, hb.nodup, fun b hb' => .inl ((hc b).2 (.inr hb')), vec_holds.2 hb⟩
theorem run_appendB {t ty e size bytes : Nat} {i : TypeInfo} {z : Value} {u ux : Value} {m q : Nat} {cs news : List Value} {F : Asn → List Asn} (hw : St w0 H w)
    (ht : P.underlying t = some (.slice e)) (hi : P.info? e = some i) (hz : i.zero = some z) (hsize : i.size = size) (hby : i.bytes = bytes) (hzs : z.cells.size = size) (hsz : 0 < size)
    (hu : Sel H (vec e size u m cs) F) (hr : Rd w0 H ux q news) (hl : news.length = q * size) (h1 : All1 news) (hq0 : 0 < q) (hb : (m + q) * bytes ≤ 140737488355328) (hq : m + q ≤ 140737488355328) :
    ∃ p c w', (Builtin.append_ #[t, t] ty #[u, ux]).run P w = .ok (.slice p (m + q) c) w' ∧ St w0 (F (vecB e size u m cs (.slice p (m + q) c) (m + q) (cs ++ news))) w' := by
  obtain ⟨fp, hfp⟩ := hw.mem hu.mem
  rw [vec_holds] at hfp
  unfold Rd at hr
  obtain ⟨⟨bx, cx, rfl, hbx, _⟩, hrd⟩ := hr w hw
  subst hsize; subst hby
  have h63 : ((m + q : Nat) : Int) ≤ 9223372036854775807 := by omega
  cases bx with
  | none => exact absurd (hbx rfl) (by omega)
  | some a =>
    have hnews := reads_some hrd
    have hgrow : ∀ (old cap2 : Nat), cap2 = grownCap w (m + q) old e → (cs.length = m * i.size) →
        ∀ f1, (vec e i.size u m cs).holds w f1 → (∀ b, b < w.heap.size → b ∉ f1 → (w.drew.alloc (.cells (cs.toArray ++ news.toArray ++ Builtin.zeroCells z.cells (cap2 - (m + q))) e)).heap[b]? = w.heap[b]?) ∧
        ∃ f1' : List Nat, f1'.Nodup ∧ (∀ b ∈ f1', b ∈ f1 ∨ w.heap.size ≤ b) ∧ (vecB e i.size u m cs (.slice (some ⟨w.heap.size, 0, none⟩) (m + q) cap2) (m + q) (cs ++ news)).holds (w.drew.alloc (.cells (cs.toArray ++ news.toArray ++ Builtin.zeroCells z.cells (cap2 - (m + q))) e)) f1' := by
      intro old cap2 hcap hcl f1 hf1
      have hge := grownCap_ge w (m + q) old e
      have hle := grownCap_le_maxLen w (m + q) old e (by unfold maxLen; omega)
      have hlive := (vec e i.size u m cs).live w f1 hf1
      have hkeep : ∀ b, b < w.heap.size → (w.drew.alloc (.cells (cs.toArray ++ news.toArray ++ Builtin.zeroCells z.cells (cap2 - (m + q))) e)).heap[b]? = w.heap[b]? := fun b hb => heap_alloc_old w.drew _ hb
      have hold := (vec e i.size u m cs).frame w _ f1 hf1 fun b hb => hkeep b (hlive b hb)
      refine ⟨fun b hb _ => hkeep b hb, f1 ++ [w.heap.size], ?_, ?_, ?_⟩
      · refine List.nodup_append.2 ⟨(vec_holds.1 hf1).nodup, by simp, ?_⟩
        intro b hb c hc
        have := hlive b hb
        simp only [List.mem_singleton] at hc
        omega
      · intro b hb
        rcases List.mem_append.1 hb with h | h
        · exact .inl h
        · right; simp at h; omega
      · rw [vecB_holds]
        have hlen : (cs ++ news).length = (m + q) * i.size := by rw [List.length_append, hcl, hl, Nat.add_mul]
        refine ⟨f1, [w.heap.size], vec_holds.1 hold, ⟨hlen, .inr ⟨w.heap.size, cap2, _, rfl, rfl, heap_alloc_new w.drew _, by omega, by omega, ?_, ?_⟩⟩, by simp⟩
        · simp only [Array.size_append, List.size_toArray, size_zeroCells, hzs, hcl, hl, ← Nat.add_mul]
          congr 1; omega
        · simp only [Array.toList_append, List.append_assoc]
          rw [← List.append_assoc, ← hlen]
          exact List.take_left
    rcases hfp.2 with ⟨base, rfl, rfl, rfl⟩ | ⟨gb, cap, cur, rfl, _, hg, hn, hcm, hsz2, htk⟩
    · have hcs : cs = [] := List.eq_nil_of_length_eq_zero (by have := hfp.1; simpa using this)
      subst hcs
      cases base with
      | none =>
        have hrr := run_append_nil (P := P) w t ty e i z ht hi hz a q cx news hl hnews (by omega) (by omega) (by simp only [Nat.zero_add] at hb; omega)
        have hg := hgrow 0 _ rfl (by simp)
        simp only [Nat.zero_add, Array.empty_append] at hg ⊢
        exact ⟨_, _, _, hrr, hw.upd (hu.upd _) rfl rfl rfl (by simp) hg⟩
      | some b0 =>
        have hrr := run_append_grow (P := P) w t ty e i z ht hi hz b0 0 0 [] (by simp) (by simp) a q cx news hl hnews (by omega) (by omega) (growslice_fits (by omega) hb)
        exact ⟨_, _, _, hrr, hw.upd (hu.upd _) rfl rfl rfl (by simp) (hgrow 0 _ rfl (by simp))⟩
    · by_cases hroom : m + q ≤ cap
      · have hcl := hfp.1
        have hfit : m * i.size + news.length ≤ cur.size := by rw [hl, hsz2, ← Nat.add_mul]; exact Nat.mul_le_mul_right _ hroom
        have hrr := run_append_room (P := P) w t ty e i ht hi gb m cap cur hg a q cx news hl hnews h1.mem hroom hfit
        refine ⟨_, _, _, hrr, hw.upd (hu.upd _) rfl rfl rfl (by simp [World.setRow]) fun f1 h => ?_⟩
        have hf1 : f1 = [gb] ∨ (f1 = [] ∧ m = 0 ∧ cap = 0) := by
          rw [vec_holds] at h
          rcases h.2 with ⟨base, hb', h0, hf⟩ | ⟨g', cap', cur', hv', hf, _⟩
          · simp at hb'; exact .inr ⟨hf, h0, hb'.2.2⟩
          · simp at hv'; left; rw [hf, hv'.1]
        have hf1' : f1 = [gb] := by
          rcases hf1 with h | h
          · exact h
          · omega
        subst hf1'
        refine ⟨fun c hc hne => setRow_other w gb c _ (by simpa using hne), [gb], by simp, fun c hc => .inl hc, ?_⟩
        rw [vecB_holds]
        have hlen : (cs ++ news).length = (m + q) * i.size := by rw [List.length_append, hcl, hl, Nat.add_mul]
        have hsz3 : (cur.toList.take (m * i.size) ++ news ++ cur.toList.drop (m * i.size + news.length)).length = cap * i.size := by
          simp only [List.length_append, List.length_take, List.length_drop, Array.length_toList]
          omega
        refine ⟨[gb], [gb], ⟨hcl, .inr ⟨gb, cap, _, rfl, rfl, setRow_heap w gb cur _ e _ hg, hn, hcm, by simpa using hsz3, ?_⟩⟩, ⟨hlen, .inr ⟨gb, cap, _, rfl, rfl, setRow_heap w gb cur _ e _ hg, hroom, hcm, by simpa using hsz3, ?_⟩⟩, by simp⟩
        · simp only []
          rw [htk, ← hcl, List.append_assoc]
          exact List.take_left
        · simp only []
          rw [htk, ← hlen]
          exact List.take_left
      · have hcl := hfp.1
        have holds : ∀ j u', cs[j]? = some u' → w.cell? ((⟨gb, 0, none⟩ : Addr).add j) = some u' := reads_some hfp.reads
        have hrr := run_append_grow (P := P) w t ty e i z ht hi hz ⟨gb, 0, none⟩ m cap cs hcl holds a q cx news hl hnews (by omega) (by omega) (growslice_fits (by omega) hb)
        exact ⟨_, _, _, hrr, hw.upd (hu.upd _) rfl rfl rfl (by simp) (hgrow cap _ rfl hcl)⟩
theorem E_appendB {t e sz by' m q sz1 by1 : Nat} {ty2 : Ty} {z1 : Option (List Value)} {z : List Value} {u ux : Value} {cs news : List Value} {F : Asn → List Asn}
    (hx : ev ov x = some u) (hy : ev ov y = some ux) (h : tlook tb.l t = some ⟨.slice e, sz1, by1, z1⟩) (h2 : tlook tb.l e = some ⟨ty2, sz, by', some z⟩) (hzl : Nat.beq z.length sz = true) (hsz : Nat.blt 0 sz = true)
    (hu : Sel H (vec e sz u m cs) F) (hr : Rd w0 H ux q news) (hl : news.length = q * sz) (h1 : All1 news) (hq0 : 0 < q) (hb : (m + q) * by' ≤ 140737488355328 ∧ m + q ≤ 140737488355328) (hd : dOk d n = true) :
    OpE (ι := Option Addr × Nat) P n D w0 ov H ⟨d, .call ⟨.builtin .append, #[x, y], #[t, t]⟩, T, pos, af, g⟩ (fun pc => .slice pc.1 (m + q) pc.2) (fun pc => F (vecB e sz u m cs (.slice pc.1 (m + q) pc.2) (m + q) (cs ++ news))) :=
  ⟨hd, fun A w ha hw => by
    obtain ⟨i, zv, hi, e1, e2, e3, e4⟩ := Tb.inf' h2
    obtain ⟨p, c, w', hr', hw'⟩ := run_appendB (ty := T) hw (und_slice h) hi e3 e1 e2 (by have := Nat.eq_of_beq_eq_true hzl; rw [cellsL_eq, e4]; simpa using this) (by simpa [Nat.blt_eq] using hsz) hu hr hl h1 hq0 hb.1 hb.2
    exact ⟨(p, c), w', by simp [execOp, resolve, invoke, builtin, ha.ev hx, ha.ev hy, hr'], hw'⟩⟩
theorem E_buildSlice {t e sz by' s1 b1 m : Nat} {ty2 : Ty} {z1 : Option (List Value)} {z : List Value} {xs : List (Nat × Operand)} {vs : List (Nat × Value)} {cs : List Value} (h : tlook tb.l t = some ⟨.slice e, s1, b1, z1⟩) (h2 : tlook tb.l e = some ⟨ty2, sz, by', some z⟩) (hzl : Nat.beq z.length sz = true) (hsz : Nat.blt 0 sz = true)
    (hm : Nat.ble (m * sz) 16777216 = true) (hx : pevs ov xs = some vs) (hc : fillL (fun i => some (i * sz, sz)) (rep m z) vs = some cs) (hcl : Nat.beq cs.length (m * sz) = true) (hd : dOk d n = true) :
    OpE (ι := Addr) P n D w0 ov H ⟨d, .buildSlice t m xs.toArray, T, pos, af, g⟩ (fun p => .slice (some p) m m) (fun p => vec e sz (.slice (some p) m m) m cs :: H) :=
  ⟨hd, fun a w ha hw => by
    have e1 := run_underlying (und_slice h) w
    obtain ⟨zv, hz, e3⟩ := Tb.run_zero w h2
    have hsz' : 0 < sz := by rw [Nat.blt_eq] at hsz; exact hsz
    have hzl' := Nat.eq_of_beq_eq_true hzl
    have hm' : m * sz ≤ 16777216 := Nat.le_of_ble_eq_true hm
    have hfill := fill_eq _ hc
    have hx' := ha.pevs hx
    have hmr := made_rep z (by omega) m
    rw [hzl'] at hmr
    have hma : madeCells z.toArray (m * sz) = (rep m z).toArray := by rw [← hmr]
    refine ⟨⟨w.heap.size, 0, none⟩, w.alloc (.cells cs.toArray e), ?_, hw.new cs e _ fun w' h' => ?_⟩
    · simp only [execOp, Instr.buildSlice, Sem.run_bind, e1, Result.andThen_ok, Tb.run_size w h2]
      rw [if_neg (by omega)]
      simp only [Sem.run_pure, pure_bind, Sem.run_ite, List.map_toArray, hx']
      by_cases h0 : m * sz = 0
      · have hm0 : m = 0 := by
          rcases Nat.mul_eq_zero.1 h0 with h | h <;> omega
        subst hm0
        simp only [h0, ↓reduceIte]
        rw [show (Array.range 0).map (fun i => (#[] : Array Value)[i % (#[] : Array Value).size]!) = ([] : List Value).toArray from by simp]
        rw [show fillL (fun i => some (i * sz, sz)) (rep 0 z) vs = fillL (fun i => some (i * sz, sz)) [] vs from rfl] at hc
        have hfill := fill_eq _ hc
        simp [hfill, newRow]
      · simp only [h0, ↓reduceIte, Sem.run_bind, e3, Result.andThen_ok, cellsL_eq, hz]
        rw [show (Array.range (m * sz)).map (fun i => z.toArray[i % z.toArray.size]!) = madeCells z.toArray (m * sz) from rfl, hma]
        simp [hfill, newRow]
    · rw [vec_holds]
      have hcl' := Nat.eq_of_beq_eq_true hcl
      refine ⟨hcl', .inr ⟨_, m, _, rfl, rfl, h', Nat.le_refl _, ?_, by simp [hcl'], by simp [← hcl']⟩⟩
      have : m ≤ m * sz := Nat.le_mul_of_pos_right m hsz'
      unfold maxLen; omega⟩
end
end Sx

namespace Go.Proofs.YteelffkghidpfaaGreat
open Sx Go
set_option linter.unusedVariables false
set_option linter.unusedSimpArgs false
def lowF (n : Int) (i : Nat) : Int := n / 256 ^ i % 256
def lowB (s : Nat) (n : Int) : List Int := tab s (lowF n)
def hiB (s : Nat) (n : Int) : List Int := tab s fun i => lowF n (s - 1 - i)
def varB : Nat → Int → List Int
  | 0, m => [m]
  | f + 1, m => if m ≤ 127 then [m] else (m % 128 + 128) :: varB f (m / 128)
def sgn (a : Int) : Int := if a < 9223372036854775808 then 2 * a else 36893488147419103231 - 2 * a
def uns (m : Int) : Int := if m % 2 = 0 then m / 2 else 18446744073709551615 - m / 2
theorem sgn_bd {a : Int} (h : 0 ≤ a ∧ a < 18446744073709551616) : 0 ≤ sgn a ∧ sgn a < 18446744073709551616 := by unfold sgn; split <;> omega
theorem uns_bd {a : Int} (h : 0 ≤ a ∧ a < 18446744073709551616) : 0 ≤ uns a ∧ uns a < 18446744073709551616 := by unfold uns; split <;> omega
theorem uns_sgn {a : Int} (h : 0 ≤ a ∧ a < 18446744073709551616) : uns (sgn a) = a := by unfold sgn; split <;> (unfold uns; split <;> omega)
def encN : Nat → Int → List Int
  | 0, n => lowB 1 n
  | 1, n => lowB 2 n
  | 2, n => hiB 2 n
  | 3, n => lowB 4 n
  | 4, n => hiB 4 n
  | 5, n => lowB 8 n
  | 6, n => hiB 8 n
  | 7, n => varB 9 n
  | 8, n => varB 9 (sgn n)
  | _, n => varB 8 (sgn n)
theorem varB_len : ∀ (f : Nat) (m : Int), 1 ≤ (varB f m).length ∧ (varB f m).length ≤ f + 1
  | 0, m => by simp [varB]
  | f + 1, m => by
    have := varB_len f (m / 128)
    unfold varB; split <;> simp <;> omega
theorem encN_len (k : Nat) (n : Int) : 1 ≤ (encN k n).length ∧ (encN k n).length ≤ 10 := by
  have h9 := fun m => varB_len 9 m
  have h8 := fun m => varB_len 8 m
  unfold encN
  split
  all_goals first
    | (unfold lowB; rw [tab_len]; omega)
    | (unfold hiB; rw [tab_len]; omega)
    | (have := h9 n; omega)
    | (have := h9 (sgn n); omega)
    | (have := h8 (sgn n); omega)
theorem lowF_bd (n : Int) (i : Nat) : 0 ≤ lowF n i ∧ lowF n i < 256 := by unfold lowF; omega
theorem varB_byt : ∀ (f : Nat) (m : Int), 0 ≤ m → m < 256 * 128 ^ f → ∀ x ∈ varB f m, 0 ≤ x ∧ x < 256 := fun f => by
  induction f with
  | zero => intro m h0 h1 x hx; simp [varB] at hx h1; omega
  | succ f ih =>
    intro m h0 h1 x hx
    unfold varB at hx
    split at hx
    · simp at hx; omega
    · rcases List.mem_cons.1 hx with rfl | hx
      · omega
      · refine ih (m / 128) (by omega) ?_ x hx
        rw [Int.pow_succ] at h1
        generalize (128 : Int) ^ f = z at *
        omega
theorem tab_mem {n : Nat} {f : Nat → Int} {x : Int} (h : x ∈ tab n f) : ∃ i, i < n ∧ x = f i := by
  unfold tab at h
  obtain ⟨i, hi, rfl⟩ := List.mem_map.1 h
  exact ⟨i, List.mem_range.1 hi, rfl⟩
theorem encN_byt (k : Nat) {n : Int} (hn : 0 ≤ n ∧ n < 18446744073709551616) : ∀ x ∈ encN k n, 0 ≤ x ∧ x < 256 := by
  have h9 := fun m => varB_byt 9 m
  have h8 := fun m => varB_byt 8 m
  have hs := sgn_bd hn
  intro x hx
  unfold encN at hx
  split at hx
  all_goals first
    | (obtain ⟨i, _, rfl⟩ := tab_mem hx; exact lowF_bd _ _)
    | (exact h9 n hn.1 (Int.lt_of_lt_of_le hn.2 (by decide)) x hx)
    | (exact h9 (sgn n) hs.1 (Int.lt_of_lt_of_le hs.2 (by decide)) x hx)
    | (exact h8 (sgn n) hs.1 (Int.lt_of_lt_of_le hs.2 (by decide)) x hx)
abbrev WRt (b : Nat) (p : Option Addr) (c : Nat) (B : List Int) (H : List Asn) : List Asn := blk b [.slice p B.length c] :: vec 5 1 (.slice p B.length c) B.length (ints .u8 B) :: H
theorem WR_app {w0 : World} {H : List Asn} {b : Nat} {p : Option Addr} {c : Nat} {X : List Int} {x : Int} {w : World} (h : St w0 (blk b [.slice p (X.length + 1) c] :: vec 5 1 (.slice p (X.length + 1) c) (X.length + 1) (ints .u8 X ++ [.int .u8 x]) :: H) w) : St w0 (WRt b p c (X ++ [x]) H) w := by
  have e : ints .u8 X ++ [.int .u8 x] = ints .u8 (X ++ [x]) := by rw [← ints_app]; rfl
  rw [e] at h
  show St w0 (blk b [.slice p (X ++ [x]).length c] :: vec 5 1 (.slice p (X ++ [x]).length c) (X ++ [x]).length (ints .u8 (X ++ [x])) :: H) w
  rw [List.length_append]
  exact h
section
variable {w0 : World} {H : List Asn}
theorem pow256 (n : Int) (i : Nat) : n / 2 ^ (8 * i) = n / 256 ^ i := by
  rw [Int.pow_mul]; rfl
set_option maxRecDepth 10000 in
set_option maxHeartbeats 2000000 in
theorem WLow_c (s : Nat) (hs : s ≤ 8) (b : Nat) (p : Option Addr) (c : Nat) (B : List Int) (hB : B.length ≤ 1000000000) (n : Int) (hn : 0 ≤ n ∧ n < 18446744073709551616) (w : World) (hw : St w0 (WRt b p c B H) w) :
    Calls Tryz.prog 193 #[.pointer (some ⟨b, 0, none⟩), .int .u64 n, .int .i64 s] w fun e w' => e = .returned (.tuple #[]) ∧ ∃ p c, St w0 (WRt b p c (B ++ lowB s n) H) w' := by
  refine enter (vs := [.pointer (some ⟨b, 0, none⟩), .int .u64 n, .int .i64 s]) Tryz.func193 rfl rfl rfl hw ?_
  clear hw w
  repeat (first | (apply gJR; (refine sx ?_; try intro _)) | (apply gJO; (refine sx ?_; try intro _)) | apply JS_seq | apply JS_region)
  refine JS_block ?_
  refine JS_loop3 (fun (i : Nat) (p : Option Addr) (c : Nat) => [(0, .pointer (some ⟨b, 0, none⟩)), (1, .int .u64 n), (7, .int .i64 s), (8, .int .i64 i)]) (fun i p c => WRt b p c (B ++ lowB i n) H) (fun i _ _ => i ≤ s) (fun i _ _ => s - i) 0 p c (Nat.zero_le _) (by repeat (first | exact trivial | refine ⟨rfl, ?_⟩ | refine ⟨lookI rfl (by omega), ?_⟩)) (fun w hw => by rw [show B ++ lowB 0 n = B from List.append_nil B]; exact hw) ?_
  intro i p c hi again
  by_cases his : i < s
  · have eX : B ++ lowB (i + 1) n = (B ++ lowB i n) ++ [lowF n i] := by unfold lowB; rw [tab_succ, List.append_assoc]
    have hl : (B ++ lowB i n).length ≤ 1000000008 := by rw [List.length_append]; unfold lowB; rw [tab_len]; omega
    have ej : min (8 * (i : Int)).toNat IntKind.u64.bits = 8 * i := by
      rw [show IntKind.u64.bits = 64 from rfl]; omega
    have ec := pow256 n i
    have again' := again (i + 1)
    clear again
    rw [eX] at again'
    have ef : n / 256 ^ i % 256 = lowF n i := rfl
    generalize B ++ lowB i n = X at *
    generalize lowF n i = z at *
    have c8 : IntKind.u8.wrap (n / 256 ^ i) = z := by rw [mu8]; exact ef
    repeat (first | (apply gQO; first | refine QO_v rfl (V_shr rfl rfl (by omega) ej ec rfl) ?_ | refine QO_v rfl (V_conv (tb := tb) rfl rfl rfl c8 rfl) ?_ | (refine QO_e (E_buildSlice (tb := tb) rfl rfl rfl rfl rfl rfl rfl rfl rfl) rfl (.inr fun _ _ hw => dS hw) ?_; intro _) | (refine QO_e (E_appendB (tb := tb) rfl rfl rfl rfl rfl rfl (by repeat (first | exact Sel.here _ _ | apply Sel.there)) (by first | exact vec_rd (by repeat (first | apply List.Mem.head | apply List.Mem.tail)) | assumption | exact ArgRd.rd (by assumption) _ | (apply Rd_weak; assumption; intro _ hx; exact dS hx)) (by simp only [ints_len, List.length_cons, List.length_nil]; first | omega | rfl) (by first | exact ints_one | (repeat (first | exact trivial | refine ⟨rfl, ?_⟩))) (by omega) (by omega) rfl) rfl (.inr fun _ _ hw => vecB_back (by repeat (first | exact Sel.here _ _ | apply Sel.there)) hw) ?_; intro _)) | (refine sx ?_; try intro _))
    exact JS_weak (again' _ _ (by omega) (by omega)) (by repeat (first | exact trivial | refine ⟨rfl, ?_⟩ | refine ⟨lookI rfl (by omega), ?_⟩)) (fun w hw => WR_app (dS (vecB_fwd (Sel.there _ _ _ _ (Sel.there _ _ _ _ (Sel.here _ _))) hw)))
  · obtain rfl : i = s := by omega
    repeat (refine sx ?_; try intro _)
    exact JS_fin Tryz.func193 rfl rfl fun w hw => ⟨rfl, p, c, hw⟩
set_option maxRecDepth 10000 in
set_option maxHeartbeats 2000000 in
theorem WHigh_c (s : Nat) (hs : s ≤ 8) (b : Nat) (p : Option Addr) (c : Nat) (B : List Int) (hB : B.length ≤ 1000000000) (n : Int) (hn : 0 ≤ n ∧ n < 18446744073709551616) (w : World) (hw : St w0 (WRt b p c B H) w) :
    Calls Tryz.prog 195 #[.pointer (some ⟨b, 0, none⟩), .int .u64 n, .int .i64 s] w fun e w' => e = .returned (.tuple #[]) ∧ ∃ p c, St w0 (WRt b p c (B ++ hiB s n) H) w' := by
  refine enter (vs := [.pointer (some ⟨b, 0, none⟩), .int .u64 n, .int .i64 s]) Tryz.func195 rfl rfl rfl hw ?_
  clear hw w
  repeat (first | (apply gJR; (refine sx ?_; try intro _)) | (apply gJO; (refine sx ?_; try intro _)) | apply JS_seq | apply JS_region)
  refine JS_block ?_
  refine JS_loop3 (fun (i : Nat) (p : Option Addr) (c : Nat) => [(0, .pointer (some ⟨b, 0, none⟩)), (1, .int .u64 n), (6, .int .i64 ((s : Int) - 1 - i))]) (fun i p c => WRt b p c (B ++ tab i fun i => lowF n (s - 1 - i)) H) (fun i _ _ => i ≤ s) (fun i _ _ => s - i) 0 p c (Nat.zero_le _) (by exact ⟨rfl, rfl, lookI rfl (by omega), trivial⟩) (fun w hw => by rw [show (B ++ tab 0 fun i => lowF n (s - 1 - i)) = B from List.append_nil B]; exact hw) ?_
  intro i p c hi again
  by_cases his : i < s
  · have eX : (B ++ tab (i + 1) fun i => lowF n (s - 1 - i)) = (B ++ tab i fun i => lowF n (s - 1 - i)) ++ [lowF n (s - 1 - i)] := by rw [tab_succ, List.append_assoc]
    have hl : (B ++ tab i fun i => lowF n (s - 1 - i)).length ≤ 1000000008 := by rw [List.length_append, tab_len]; omega
    have ej : min (8 * ((s : Int) - 1 - i)).toNat IntKind.u64.bits = 8 * (s - 1 - i) := by
      rw [show IntKind.u64.bits = 64 from rfl]; omega
    have ec := pow256 n (s - 1 - i)
    have again' := again (i + 1)
    clear again
    rw [eX] at again'
    have ef : n / 256 ^ (s - 1 - i) % 256 = lowF n (s - 1 - i) := rfl
    generalize (B ++ tab i fun i => lowF n (s - 1 - i)) = X at *
    generalize lowF n (s - 1 - i) = z at *
    have c8 : IntKind.u8.wrap (n / 256 ^ (s - 1 - i)) = z := by rw [mu8]; exact ef
    have hge : (0 : Int) ≤ (s : Int) - 1 - i := by omega
    repeat (first | (apply gQO; first | refine QO_v rfl (V_shr rfl rfl (by omega) ej ec rfl) ?_ | refine QO_v rfl (V_conv (tb := tb) rfl rfl rfl c8 rfl) ?_ | (refine QO_e (E_buildSlice (tb := tb) rfl rfl rfl rfl rfl rfl rfl rfl rfl) rfl (.inr fun _ _ hw => dS hw) ?_; intro _) | (refine QO_e (E_appendB (tb := tb) rfl rfl rfl rfl rfl rfl (by repeat (first | exact Sel.here _ _ | apply Sel.there)) (by first | exact vec_rd (by repeat (first | apply List.Mem.head | apply List.Mem.tail)) | assumption | exact ArgRd.rd (by assumption) _ | (apply Rd_weak; assumption; intro _ hx; exact dS hx)) (by simp only [ints_len, List.length_cons, List.length_nil]; first | omega | rfl) (by first | exact ints_one | (repeat (first | exact trivial | refine ⟨rfl, ?_⟩))) (by omega) (by omega) rfl) rfl (.inr fun _ _ hw => vecB_back (by repeat (first | exact Sel.here _ _ | apply Sel.there)) hw) ?_; intro _)) | (refine sx ?_; try intro _))
    exact JS_weak (again' _ _ (by omega) (by omega)) (by exact ⟨rfl, rfl, lookI rfl (by omega), trivial⟩) (fun w hw => WR_app (dS (vecB_fwd (Sel.there _ _ _ _ (Sel.there _ _ _ _ (Sel.here _ _))) hw)))
  · obtain rfl : i = s := by omega
    repeat (refine sx ?_; try intro _)
    exact JS_fin Tryz.func195 rfl rfl fun w hw => ⟨rfl, p, c, hw⟩
set_option maxRecDepth 100000 in
theorem or128 {a : Int} : IntKind.u8.wrap ((BitVec.ofInt IntKind.u8.bits (a % 256) ||| BitVec.ofInt IntKind.u8.bits 128).toNat) = a % 128 + 128 := by
  have h : ∀ b : Fin 256, b.val ||| 128 = b.val % 128 + 128 := by decide
  have h1 := or_nat .u8 (a := a % 256) (b := 128) (by rw [show IntKind.u8.bits = 8 from rfl]; omega) (by decide)
  rw [h1]
  have h2 := h ⟨(a % 256).toNat, by omega⟩
  simp only [] at h2
  rw [show ((128 : Int).toNat) = 128 from rfl, h2, mu8]
  omega
theorem varB_step {f : Nat} {m : Int} (h : ¬ m ≤ 127) : varB (f + 1) m = (m % 128 + 128) :: varB f (m / 128) := by
  show (if m ≤ 127 then [m] else _) = _
  rw [if_neg h]
theorem varB_last {f : Nat} {m : Int} (h : m ≤ 127) : varB f m = [m] := by
  cases f with
  | zero => rfl
  | succ f => show (if m ≤ 127 then [m] else _) = _; rw [if_pos h]
set_option maxRecDepth 10000 in
set_option maxHeartbeats 2000000 in
theorem WLeb_c (b : Nat) (p : Option Addr) (c : Nat) (B : List Int) (hB : B.length ≤ 1000000000) (n : Int) (hn : 0 ≤ n ∧ n < 18446744073709551616) (s : Int) (w : World) (hw : St w0 (WRt b p c B H) w) :
    Calls Tryz.prog 197 #[.pointer (some ⟨b, 0, none⟩), .int .u64 n, .int .i64 s] w fun e w' => e = .returned (.tuple #[]) ∧ ∃ p c, St w0 (WRt b p c (B ++ varB 9 n) H) w' := by
  refine enter (vs := [.pointer (some ⟨b, 0, none⟩), .int .u64 n, .int .i64 s]) Tryz.func197 rfl rfl rfl hw ?_
  clear hw w
  repeat (first | (apply gJR; (refine sx ?_; try intro _)) | (apply gJO; (refine sx ?_; try intro _)) | apply JS_seq | apply JS_region)
  refine JS_block ?_
  refine JS_loop5 (fun (f : Nat) (m : Int) (X : List Int) (p : Option Addr) (c : Nat) => [(0, .pointer (some ⟨b, 0, none⟩)), (1, .int .u64 m)]) (fun f m X p c => WRt b p c X H) (fun f m X _ _ => X ++ varB f m = B ++ varB 9 n ∧ f ≤ 9 ∧ X.length + f = B.length + 9 ∧ 0 ≤ m ∧ m < 18446744073709551616 ∧ m < 2 * 128 ^ f) (fun f _ _ _ _ => f) 9 n B p c ⟨rfl, by omega, rfl, hn.1, hn.2, Int.lt_of_lt_of_le hn.2 (by decide)⟩ (by repeat (first | exact trivial | refine ⟨rfl, ?_⟩ | refine ⟨lookI rfl (by omega), ?_⟩)) (fun w hw => hw) ?_
  intro f m X p c ⟨he, hf, hl, hm0, hm1, hm2⟩ again
  by_cases h7 : m ≤ 127
  · rw [varB_last h7] at he
    have c8 : IntKind.u8.wrap m = m := wu8 (by omega)
    repeat (first | (apply gJO; first | refine JO_v (V_conv (tb := tb) rfl rfl rfl c8 rfl) ?_ | (refine JO_app (tb := tb) rfl rfl rfl rfl rfl rfl (by repeat (first | exact Sel.here _ _ | apply Sel.there)) (by first | exact vec_rd (by repeat (first | apply List.Mem.head | apply List.Mem.tail)) | assumption | exact ArgRd.rd (by assumption) _ | (apply Rd_weak; assumption; intro _ hx; exact dS hx)) (by simp only [ints_len, List.length_cons, List.length_nil]; first | omega | rfl) (by first | exact ints_one | (repeat (first | exact trivial | refine ⟨rfl, ?_⟩))) (by omega) rfl ?_; intro _ _)) | (refine sx ?_; try intro _))
    refine JS_fin Tryz.func197 rfl rfl fun w hw => ⟨rfl, ?_⟩
    rw [← he]
    exact ⟨_, _, WR_app (dS hw)⟩
  · have h127 : 127 < m := by omega
    cases f with
    | zero => exfalso; simp at hm2; omega
    | succ f =>
      have hst := varB_step (f := f) h7
      have c8 : IntKind.u8.wrap m = m % 256 := mu8 m
      repeat (first | (apply gJO; first | refine JO_v (V_conv (tb := tb) rfl rfl rfl c8 rfl) ?_ | refine JO_v (V_or rfl rfl or128 rfl) ?_ | (refine JO_app (tb := tb) rfl rfl rfl rfl rfl rfl (by repeat (first | exact Sel.here _ _ | apply Sel.there)) (by first | exact vec_rd (by repeat (first | apply List.Mem.head | apply List.Mem.tail)) | assumption | exact ArgRd.rd (by assumption) _ | (apply Rd_weak; assumption; intro _ hx; exact dS hx)) (by simp only [ints_len, List.length_cons, List.length_nil]; first | omega | rfl) (by first | exact ints_one | (repeat (first | exact trivial | refine ⟨rfl, ?_⟩))) (by omega) rfl ?_; intro _ _)) | (refine sx ?_; try intro _))
      refine JS_weak (again f (m / 128) (X ++ [m % 128 + 128]) _ _ ⟨?_, by omega, by rw [List.length_append, List.length_singleton]; omega, by omega, by omega, ?_⟩ (by omega)) (by repeat (first | exact trivial | refine ⟨rfl, ?_⟩ | refine ⟨lookI rfl (by omega), ?_⟩)) (fun w hw => WR_app (dS hw))
      · rw [← he, hst, List.append_assoc]; rfl
      · rw [Int.pow_succ] at hm2
        generalize (128 : Int) ^ f = z at *
        omega
theorem xor_ones {a : Int} (h : 0 ≤ a ∧ a < 18446744073709551616) : IntKind.u64.wrap ((BitVec.ofInt IntKind.u64.bits a ^^^ BitVec.ofInt IntKind.u64.bits 18446744073709551615).toNat) = 18446744073709551615 - a := by
  have e : BitVec.ofInt 64 18446744073709551615 = BitVec.allOnes 64 := by rfl
  have key : ((BitVec.ofInt 64 a ^^^ BitVec.ofInt 64 18446744073709551615).toNat : Int) = 18446744073709551615 - a := by
    rw [e, BitVec.xor_allOnes, BitVec.toNat_not, BitVec.toNat_ofInt]; omega
  show IntKind.u64.wrap ((BitVec.ofInt 64 a ^^^ BitVec.ofInt 64 18446744073709551615).toNat : Int) = _
  rw [key, mu64]; omega
theorem xor_zero64 {a : Int} (h : 0 ≤ a ∧ a < 18446744073709551616) : IntKind.u64.wrap ((BitVec.ofInt IntKind.u64.bits a ^^^ BitVec.ofInt IntKind.u64.bits 0).toNat) = a := by
  have h1 := xor_nat .u64 (a := a) (b := 0) (by rw [show IntKind.u64.bits = 64 from rfl]; omega) (by decide)
  rw [h1, show (0 : Int).toNat = 0 from rfl, Nat.xor_zero, mu64]; omega
def i64v (a : Int) : Int := if a < 9223372036854775808 then a else a - 18446744073709551616
theorem i64v_wrap {a : Int} (h : 0 ≤ a ∧ a < 18446744073709551616) : IntKind.i64.wrap a = i64v a := by rw [mi64]; unfold i64v; split <;> omega
set_option maxRecDepth 10000 in
theorem Sign_c (a : Int) (ha : 0 ≤ a ∧ a < 18446744073709551616) (w : World) (hw : St w0 H w) :
    Calls Tryz.prog 227 #[.int .i64 (i64v a)] w fun e w' => e = .returned (.int .u64 (sgn a)) ∧ St w0 H w' := by
  refine enter (vs := [.int .i64 (i64v a)]) Tryz.func227 rfl rfl rfl hw ?_
  clear hw w
  unfold i64v sgn
  by_cases h : a < 9223372036854775808
  · rw [if_pos h, if_pos h]
    have c1 : IntKind.u64.wrap a = a := wu64 (by omega)
    have c2 : IntKind.u64.wrap (a * 2 ^ 1) = 2 * a := (wu64 (by omega)).trans (by omega)
    have c3 : a / 2 ^ 63 = 0 := by omega
    repeat (first | (apply gJO; first | refine JO_v (V_conv (tb := tb) rfl rfl rfl c1 rfl) ?_ | refine JO_v (V_shl (m := 1) rfl rfl (by decide) rfl c2 rfl) ?_ | refine JO_v (V_shr (m := 63) rfl rfl (by decide) rfl c3 rfl) ?_ | refine JO_v (V_xor rfl rfl (xor_zero64 (by omega)) rfl) ?_) | (refine sx ?_; try intro _))
    exact JS_ret Tryz.func227 rfl rfl fun w hw => ⟨rfl, hw⟩
  · rw [if_neg h, if_neg h]
    have c1 : IntKind.u64.wrap (a - 18446744073709551616) = a := by rw [mu64]; omega
    have c2 : IntKind.u64.wrap (a * 2 ^ 1) = 2 * a - 18446744073709551616 := by rw [mu64]; omega
    have c3 : (a - 18446744073709551616) / 2 ^ 63 = -1 := by omega
    have c4 : IntKind.u64.wrap (-1) = 18446744073709551615 := by decide
    have c5 := xor_ones (a := 2 * a - 18446744073709551616) (by omega)
    rw [show 18446744073709551615 - (2 * a - 18446744073709551616) = 36893488147419103231 - 2 * a by omega] at c5
    repeat (first | (apply gJO; first | refine JO_v (V_conv (tb := tb) rfl rfl rfl c1 rfl) ?_ | refine JO_v (V_conv (tb := tb) rfl rfl rfl c4 rfl) ?_ | refine JO_v (V_shl (m := 1) rfl rfl (by decide) rfl c2 rfl) ?_ | refine JO_v (V_shr (m := 63) rfl rfl (by decide) rfl c3 rfl) ?_ | refine JO_v (V_xor rfl rfl c5 rfl) ?_) | (refine sx ?_; try intro _))
    exact JS_ret Tryz.func227 rfl rfl fun w hw => ⟨rfl, hw⟩
set_option maxRecDepth 10000 in
set_option maxHeartbeats 2000000 in
theorem WNine_c (b : Nat) (p : Option Addr) (c : Nat) (B : List Int) (hB : B.length ≤ 1000000000) (n : Int) (hn : 0 ≤ n ∧ n < 18446744073709551616) (s : Int) (w : World) (hw : St w0 (WRt b p c B H) w) :
    Calls Tryz.prog 201 #[.pointer (some ⟨b, 0, none⟩), .int .u64 n, .int .i64 s] w fun e w' => e = .returned (.tuple #[]) ∧ ∃ p c, St w0 (WRt b p c (B ++ varB 8 (sgn n)) H) w' := by
  have c1 := i64v_wrap hn
  have hs := sgn_bd hn
  refine enter (vs := [.pointer (some ⟨b, 0, none⟩), .int .u64 n, .int .i64 s]) Tryz.func201 rfl rfl rfl hw ?_
  clear hw w
  repeat (first | (apply gJO; first | refine JO_v (V_conv (tb := tb) rfl rfl rfl c1 rfl) ?_) | (refine sx ?_; try intro _))
  refine JO_call Tryz.call227 rfl rfl fun w hw => (Sign_c n hn w hw).mono ?_
  rintro e w' ⟨rfl, hw'⟩
  (refine ⟨_, rfl, _, hw', ?_⟩; clear hw' hw w w')
  generalize sgn n = n0 at *
  repeat (first | (apply gJR; (refine sx ?_; try intro _)) | (apply gJO; (refine sx ?_; try intro _)) | apply JS_seq | apply JS_region)
  refine JS_block ?_
  refine JS_loop5 (fun (i : Nat) (m : Int) (X : List Int) (p : Option Addr) (c : Nat) => [(0, .pointer (some ⟨b, 0, none⟩)), (1, .int .u64 m), (9, .int .i64 i)]) (fun f m X p c => WRt b p c X H) (fun i m X _ _ => X ++ varB (8 - i) m = B ++ varB 8 n0 ∧ i ≤ 8 ∧ X.length = B.length + i ∧ 0 ≤ m ∧ m < 18446744073709551616 ∧ m < 256 * 128 ^ (8 - i)) (fun i _ _ _ _ => 8 - i) 0 n0 B p c ⟨rfl, by omega, rfl, hs.1, hs.2, Int.lt_of_lt_of_le hs.2 (by decide)⟩ (by repeat (first | exact trivial | refine ⟨rfl, ?_⟩ | refine ⟨lookI rfl (by omega), ?_⟩)) (fun w hw => hw) ?_
  intro i m X p c ⟨he, hf, hl, hm0, hm1, hm2⟩ again
  by_cases hi8 : i < 8
  · obtain ⟨f, hf8⟩ : ∃ f, 8 - i = f + 1 := ⟨7 - i, by omega⟩
    rw [hf8] at he hm2
    by_cases h7 : m ≤ 127
    · rw [varB_last h7] at he
      have c8 : IntKind.u8.wrap m = m := wu8 (by omega)
      repeat (first | (apply gJO; first | refine JO_v (V_conv (tb := tb) rfl rfl rfl c8 rfl) ?_ | (refine JO_app (tb := tb) rfl rfl rfl rfl rfl rfl (by repeat (first | exact Sel.here _ _ | apply Sel.there)) (by first | exact vec_rd (by repeat (first | apply List.Mem.head | apply List.Mem.tail)) | assumption | exact ArgRd.rd (by assumption) _ | (apply Rd_weak; assumption; intro _ hx; exact dS hx)) (by simp only [ints_len, List.length_cons, List.length_nil]; first | omega | rfl) (by first | exact ints_one | (repeat (first | exact trivial | refine ⟨rfl, ?_⟩))) (by omega) rfl ?_; intro _ _)) | (refine sx ?_; try intro _))
      refine JS_ret Tryz.func201 rfl rfl fun w hw => ⟨rfl, ?_⟩
      rw [← he]
      exact ⟨_, _, WR_app (dS hw)⟩
    · have h127 : 127 < m := by omega
      have hst := varB_step (f := f) h7
      have c8 : IntKind.u8.wrap m = m % 256 := mu8 m
      repeat (first | (apply gJO; first | refine JO_v (V_conv (tb := tb) rfl rfl rfl c8 rfl) ?_ | refine JO_v (V_or rfl rfl or128 rfl) ?_ | (refine JO_app (tb := tb) rfl rfl rfl rfl rfl rfl (by repeat (first | exact Sel.here _ _ | apply Sel.there)) (by first | exact vec_rd (by repeat (first | apply List.Mem.head | apply List.Mem.tail)) | assumption | exact ArgRd.rd (by assumption) _ | (apply Rd_weak; assumption; intro _ hx; exact dS hx)) (by simp only [ints_len, List.length_cons, List.length_nil]; first | omega | rfl) (by first | exact ints_one | (repeat (first | exact trivial | refine ⟨rfl, ?_⟩))) (by omega) rfl ?_; intro _ _)) | (refine sx ?_; try intro _))
      refine JS_weak (again (i + 1) (m / 128) (X ++ [m % 128 + 128]) _ _ ⟨?_, by omega, by rw [List.length_append, List.length_singleton]; omega, by omega, by omega, ?_⟩ (by omega)) (by repeat (first | exact trivial | refine ⟨rfl, ?_⟩ | refine ⟨lookI rfl (by omega), ?_⟩)) (fun w hw => WR_app (dS hw))
      · rw [← he, hst, List.append_assoc, show 8 - (i + 1) = f by omega]; rfl
      · rw [show 8 - (i + 1) = f by omega]
        rw [Int.pow_succ] at hm2
        generalize (128 : Int) ^ f = z at *
        omega
  · obtain rfl : i = 8 := by omega
    have hm : m < 256 := hm2
    have hv : varB (8 - 8) m = [m] := rfl
    rw [hv] at he
    have c8 : IntKind.u8.wrap m = m := wu8 (by omega)
    repeat (first | (apply gJO; first | refine JO_v (V_conv (tb := tb) rfl rfl rfl c8 rfl) ?_ | (refine JO_app (tb := tb) rfl rfl rfl rfl rfl rfl (by repeat (first | exact Sel.here _ _ | apply Sel.there)) (by first | exact vec_rd (by repeat (first | apply List.Mem.head | apply List.Mem.tail)) | assumption | exact ArgRd.rd (by assumption) _ | (apply Rd_weak; assumption; intro _ hx; exact dS hx)) (by simp only [ints_len, List.length_cons, List.length_nil]; first | omega | rfl) (by first | exact ints_one | (repeat (first | exact trivial | refine ⟨rfl, ?_⟩))) (by omega) rfl ?_; intro _ _)) | (refine sx ?_; try intro _))
    refine JS_fin Tryz.func201 rfl rfl fun w hw => ⟨rfl, ?_⟩
    rw [← he]
    exact ⟨_, _, WR_app (dS hw)⟩
end
end Go.Proofs.YteelffkghidpfaaGreat

namespace Go.Proofs.YteelffkghidpfaaGreat
open Sx Go
set_option linter.unusedVariables false
set_option linter.unusedSimpArgs false
abbrev putF (k : Nat) : Nat := fnOf (putA k)
abbrev getF (k : Nat) : Nat := fnOf (getA k)
set_option maxRecDepth 100000
theorem putA_eq (k : Nat) : putA k = .func (.func (putF k)) #[] #[] := by unfold putF putA; split <;> rfl
theorem getA_eq (k : Nat) : getA k = .func (.func (getF k)) #[] #[] := by unfold getF getA; split <;> rfl
theorem put_call (k : Nat) : ∀ args w, (callFunc (putF k) args).run Tryz.prog w = .ok (.enter (putF k) args) w := by
  unfold putF putA
  split
  all_goals first
    | exact Tryz.call193
    | exact Tryz.call195
    | exact Tryz.call197
    | exact Tryz.call199
    | exact Tryz.call201
theorem get_call (k : Nat) : ∀ args w, (callFunc (getF k) args).run Tryz.prog w = .ok (.enter (getF k) args) w := by
  unfold getF getA
  split
  all_goals first
    | exact Tryz.call194
    | exact Tryz.call196
    | exact Tryz.call198
    | exact Tryz.call200
    | exact Tryz.call202
section
variable {w0 : World} {H : List Asn}
set_option maxRecDepth 10000 in
theorem WZig_c (b : Nat) (p : Option Addr) (c : Nat) (B : List Int) (hB : B.length ≤ 1000000000) (n : Int) (hn : 0 ≤ n ∧ n < 18446744073709551616) (s : Int) (w : World) (hw : St w0 (WRt b p c B H) w) :
    Calls Tryz.prog 199 #[.pointer (some ⟨b, 0, none⟩), .int .u64 n, .int .i64 s] w fun e w' => e = .returned (.tuple #[]) ∧ ∃ p c, St w0 (WRt b p c (B ++ varB 9 (sgn n)) H) w' := by
  have c1 := i64v_wrap hn
  have hs := sgn_bd hn
  have hS := fun {H} w hw => Sign_c (w0 := w0) (H := H) n hn w hw
  refine enter (vs := [.pointer (some ⟨b, 0, none⟩), .int .u64 n, .int .i64 s]) Tryz.func199 rfl rfl rfl hw ?_
  clear hw w
  generalize sgn n = y at *
  repeat (first | (apply gJO; first | refine JO_v (V_conv (tb := tb) rfl rfl rfl c1 rfl) ?_) | (refine sx ?_; try intro _))
  refine JO_call Tryz.call227 rfl rfl fun w hw => (hS w hw).mono ?_
  rintro e w' ⟨rfl, hw'⟩
  (refine ⟨_, rfl, _, hw', ?_⟩; clear hw' hw w w')
  repeat (refine sx ?_; try intro _)
  refine JO_call Tryz.call197 rfl rfl fun w hw => (WLeb_c b p c B hB y hs s w hw).mono ?_
  rintro e w' ⟨rfl, p', c', hw'⟩
  (refine ⟨_, rfl, _, hw', ?_⟩; clear hw' hw w w')
  repeat (refine sx ?_; try intro _)
  exact JS_fin Tryz.func199 rfl rfl fun w hw => ⟨rfl, p', c', hw⟩
theorem WPut_c (k : Nat) (b : Nat) (p : Option Addr) (c : Nat) (B : List Int) (hB : B.length ≤ 1000000000) (n : Int) (hn : 0 ≤ n ∧ n < 18446744073709551616) (w : World) (hw : St w0 (WRt b p c B H) w) :
    Calls Tryz.prog (putF k) #[.pointer (some ⟨b, 0, none⟩), .int .u64 n, .int .i64 (szA k)] w fun e w' => e = .returned (.tuple #[]) ∧ ∃ p c, St w0 (WRt b p c (B ++ encN k n) H) w' := by
  match k with
  | 0 => exact WLow_c 1 (by decide) b p c B hB n hn w hw
  | 1 => exact WLow_c 2 (by decide) b p c B hB n hn w hw
  | 2 => exact WHigh_c 2 (by decide) b p c B hB n hn w hw
  | 3 => exact WLow_c 4 (by decide) b p c B hB n hn w hw
  | 4 => exact WHigh_c 4 (by decide) b p c B hB n hn w hw
  | 5 => exact WLow_c 8 (by decide) b p c B hB n hn w hw
  | 6 => exact WHigh_c 8 (by decide) b p c B hB n hn w hw
  | 7 => exact WLeb_c b p c B hB n hn _ w hw
  | 8 => exact WZig_c b p c B hB n hn _ w hw
  | j + 9 => exact WNine_c b p c B hB n hn _ w hw
end
def encs : List Nat → List Int → List Int
  | k :: ks, n :: L => encN k n ++ encs ks L
  | _, _ => []
theorem encs_len : ∀ (ks : List Nat) (L : List Int), (encs ks L).length ≤ 10 * ks.length
  | [], L => by simp [encs]
  | k :: ks, [] => by simp [encs]
  | k :: ks, n :: L => by
    have h1 := (encN_len k n).2
    have h2 := encs_len ks L
    rw [encs, List.length_append, List.length_cons]; omega
theorem encs_drop {ks : List Nat} {L : List Int} (h : L.length = ks.length) {i : Nat} (hi : i < L.length) : encs (ks.drop i) (L.drop i) = encN (ks.getD i 0) (L.getD i 0) ++ encs (ks.drop (i + 1)) (L.drop (i + 1)) := by
  rw [List.drop_eq_getElem_cons hi, List.drop_eq_getElem_cons (show i < ks.length by omega), encs, List.getD_eq_getElem?_getD, List.getElem?_eq_getElem (show i < ks.length by omega), List.getD_eq_getElem?_getD, List.getElem?_eq_getElem hi]; rfl
theorem encs_byt : ∀ (ks : List Nat) (L : List Int), (∀ x ∈ L, 0 ≤ x ∧ x < 18446744073709551616) → ∀ x ∈ encs ks L, 0 ≤ x ∧ x < 256
  | [], L, _, x, hx => by simp [encs] at hx
  | k :: ks, [], _, x, hx => by simp [encs] at hx
  | k :: ks, n :: L, h, x, hx => by
    rw [encs] at hx
    rcases List.mem_append.1 hx with hx | hx
    · exact encN_byt k (h n List.mem_cons_self) x hx
    · exact encs_byt ks L (fun y hy => h y (List.mem_cons_of_mem _ hy)) x hx
def fitA (k : Nat) (n : Int) : Prop := szA k = 0 ∨ szA k = 8 ∨ (0 < szA k ∧ szA k < 8 ∧ n < 256 ^ (szA k).toNat)
theorem lts_map {ks : List Nat} (h : ∀ k ∈ ks, k < 10) : LTS (ks.map ltA) := fun j hj => by
  rw [List.length_map] at hj
  refine ⟨ks[j], h _ (List.getElem_mem _), ?_⟩
  rw [List.getD_eq_getElem?_getD, List.getElem?_map, List.getElem?_eq_getElem hj]; rfl
theorem map_lt {ks : List Nat} {j : Nat} (hj : j < ks.length) : (ks.map ltA).getD j 0 = ltA (ks.getD j 0) := by
  rw [List.getD_eq_getElem?_getD, List.getElem?_map, List.getElem?_eq_getElem hj, List.getD_eq_getElem?_getD, List.getElem?_eq_getElem hj]; rfl
section
variable {w0 : World} {H : List Asn}
set_option maxRecDepth 10000 in
set_option maxHeartbeats 4000000 in
theorem WirePut_c (ks : List Nat) (hk : ∀ k ∈ ks, k < 10) (hk64 : ks.length ≤ 64) (q : Option Addr) (d : Nat) (L : List Int) (hu : Rd w0 H (.slice q L.length d) L.length (ints .u64 L)) (hl : L.length = ks.length) (hL : ∀ j, 0 ≤ L.getD j 0 ∧ L.getD j 0 < 18446744073709551616) (hf : ∀ j, j < L.length → fitA (ks.getD j 0) (L.getD j 0)) (w : World) (hw : St w0 H w) :
    Calls Tryz.prog 65 #[.string (bstr (ks.map ltA)), .slice q L.length d] w fun e w' => ∃ p c, e = .returned (.tuple #[.slice p (encs ks L).length c, .int .i64 0]) ∧ St w0 (vec 5 1 (.slice p (encs ks L).length c) (encs ks L).length (ints .u8 (encs ks L)) :: H) w' := by
  have hsz : ((bstr (ks.map ltA)).size : Int) = L.length := by rw [bstr_size, List.length_map, hl]
  have hlts := lts_map hk
  have hR := fun {H} w hw => Right_c (w0 := w0) (H := H) (ks.map ltA) hlts (by rw [List.length_map]; exact hk64) w hw
  have hel := encs_len ks L
  refine enter (vs := [.string (bstr (ks.map ltA)), .slice q L.length d]) Tryz.func65 rfl rfl rfl hw ?_
  clear hw w
  repeat (refine sx ?_; try intro _)
  refine JO_call Tryz.call104 rfl rfl fun w hw => (hR w hw).mono ?_
  rintro e w' ⟨rfl, hw'⟩
  (refine ⟨_, rfl, _, hw', ?_⟩; clear hw' hw w w')
  repeat (first | (apply gJR; (refine sx ?_; try intro _)) | (apply gJO; (refine sx ?_; try intro _)) | (apply gJS; refine JS_condF rfl ?_) | (apply gJS; refine JS_cond_F rfl (by omega) ?_) | apply JS_skip | apply JS_seq | apply JS_region)
  rename_i wb
  refine JS_block ?_
  refine JS_loop4 (fun (i : Nat) (X : List Int) (p : Option Addr) (c : Nat) => [(0, .string (bstr (ks.map ltA))), (1, .slice q L.length d), (6, .pointer (some ⟨wb, 0, none⟩)), (23, .slice q L.length d), (24, .int .i64 L.length), (25, .int .i64 i)]) (fun i X p c => WRt wb p c X H)
    (fun i X _ _ => i ≤ L.length ∧ X.length ≤ 10 * i ∧ X ++ encs (ks.drop i) (L.drop i) = encs ks L) (fun i _ _ _ => L.length - i) 0 [] none 0 ⟨Nat.zero_le _, Nat.zero_le _, rfl⟩ (by repeat (first | exact trivial | refine ⟨rfl, ?_⟩ | refine ⟨lookI rfl (by omega), ?_⟩)) (fun w hw => ?_) ?_
  · exact (St.nilvec (e := 5) (sz := 1) (base := none) hw).perm (List.Perm.swap _ _ _)
  intro i X p c ⟨hi, hX, he⟩ again
  by_cases hil : i < L.length
  · have hkk : ks.getD i 0 < 10 := by
      rw [List.getD_eq_getElem?_getD, List.getElem?_eq_getElem (show i < ks.length by omega)]; exact hk _ (List.getElem_mem _)
    have hlt := map_lt (ks := ks) (j := i) (by omega)
    have hn := hL i
    have hfi := hf i hil
    have hg := ints_get (K := .u64) hil
    rw [encs_drop hl hil, ← List.append_assoc] at he
    have hX2 := (encN_len (ks.getD i 0) (L.getD i 0)).2
    generalize ks.getD i 0 = k at *
    generalize L.getD i 0 = n at *
    have hall := fm_all k
    have hput := fun {H} p c B hB w hw => WPut_c (w0 := w0) (H := H) k wb p c B hB n hn w hw
    repeat (first | (apply gJO; first | refine JO_v (V_indexP (tb := tb) (B := ks.map ltA) (r := ltA k) rfl rfl rfl hlts.byt (by rw [List.length_map]; omega) (by rw [Int.toNat_natCast]; exact hlt) rfl) ?_ | refine JO_v (oIA (V_index (tb := tb) rfl rfl rfl rfl hu.sl (by omega) (by (try simp only [tn, tna, tn1, tn2, tn3, tn4, tnd16, tnd8, Int.reduceToNat]); first | exact Nat.mul_one _ | exact rfl) rfl)) ?_ | refine JO_v (oL (V_loadC (tb := tb) rfl (Rd_weak hu fun w hw => dS hw) rfl rfl hg rfl)) ?_) | (refine sx ?_; try intro _))
    refine JO_call Tryz.call105 rfl rfl fun w hw => (FormOf_c k hkk w hw).mono ?_
    rintro e w' ⟨rfl, hw'⟩
    (refine ⟨_, rfl, _, hw', ?_⟩; clear hw' hw w w')
    have hs8 := szA_bd k
    have hs0 : szA k = 0 ∨ szA k = 8 ∨ (0 < szA k ∧ szA k < 8 ∧ n < 256 ^ (szA k).toNat) := hfi
    have ec : 0 < szA k → szA k < 8 → n / 2 ^ (8 * (szA k).toNat) = 0 := fun h1 h2 => by
      rw [pow256]
      have h3 : n < 256 ^ (szA k).toNat := by omega
      exact Int.ediv_eq_zero_of_lt hn.1 h3
    have ej : min (8 * szA k).toNat IntKind.u64.bits = 8 * (szA k).toNat := by
      rw [show IntKind.u64.bits = 64 from rfl]; omega
    have hpk := congrArg some (putA_eq k)
    have hsk := put_call k
    clear hfi
    have hcase : (¬ 0 < szA k) ∨ (0 < szA k ∧ ¬ szA k < 8) ∨ (0 < szA k ∧ szA k < 8) := by omega
    rcases hcase with h0 | ⟨h0, h1⟩ | ⟨h0, h1⟩
    all_goals (
      first | have ec' := ec h0 h1 | have ec' := ej
      clear ec
      repeat (first | (apply gJO; first | refine JO_k (K_store (tb := tb) rfl rfl (by repeat (first | apply Upd.here | apply Upd.there)) rfl rfl rfl hall rfl rfl) ?_ | refine JO_v (V_shr rfl rfl (by omega) ej ec' rfl) ?_) | (refine sx ?_; try intro _))
      refine JO_callv (us := []) (cs := []) hpk hsk rfl rfl fun w hw => (hput p c X (by omega) w (dS hw)).mono ?_
      rintro e w' ⟨rfl, p', c', hw'⟩
      (refine ⟨_, rfl, _, hw', ?_⟩; clear hw' hw w w')
      repeat (refine sx ?_; try intro _)
      exact JS_again4 again (i + 1) (X ++ encN k n) p' c' ⟨by omega, by rw [List.length_append]; omega, he⟩ (by omega) (by repeat (first | exact trivial | refine ⟨rfl, ?_⟩ | refine ⟨lookI rfl (by omega), ?_⟩)) (fun w hw => hw))
  · obtain rfl : i = L.length := by omega
    rw [List.drop_length, show encs (ks.drop L.length) [] = [] from by cases ks.drop L.length <;> rfl, List.append_nil] at he
    subst he
    repeat (refine sx ?_; try intro _)
    exact JS_ret Tryz.func65 rfl rfl fun w hw => ⟨p, c, rfl, hw.drop⟩
end
end Go.Proofs.YteelffkghidpfaaGreat

namespace Go.Proofs.YteelffkghidpfaaGreat
open Sx Go
set_option linter.unusedVariables false
set_option linter.unusedSimpArgs false
def OKB (B : List Int) : Prop := ∀ j, 0 ≤ B.getD j 0 ∧ B.getD j 0 < 256
theorem Big_c {w0 : World} {H : List Asn} (b : Int) (hb : 0 ≤ b ∧ b < 256) (w : World) (hw : St w0 H w) :
    Calls Tryz.prog 239 #[.int .u8 b] w fun e w' => e = .returned (.bool (decide (15 < b))) ∧ St w0 H w' := by
  refine enter (vs := [.int .u8 b]) Tryz.func239 rfl rfl rfl hw ?_
  repeat (refine sy ?_; try intro _)
  refine JS_ret Tryz.func239 rfl rfl ?_
  intro w hw
  exact ⟨rfl, hw⟩
set_option maxHeartbeats 1000000 in
theorem Index_c {w0 : World} {H : List Asn} (p : Option Addr) (c m : Nat) (B : List Int) (hr : Rd w0 H (.slice p m c) m (ints .u8 B)) (hm : B.length = m) (hB : OKB B) (hm1 : m ≤ 4611686018427387904) (w : World) (hw : St w0 H w) :
    Calls Tryz.prog 251 #[.slice p m c, .func (.func 239) #[] #[]] w fun e w' => ∃ r, e = .returned (.int .i64 r) ∧ St w0 H w' ∧ ((r = -1 ∧ ∀ j, B.getD j 0 ≤ 15) ∨ (0 ≤ r ∧ ∃ j, 15 < B.getD j 0)) := by
  refine enter (vs := [.slice p m c, .func (.func 239) #[] #[]]) Tryz.func251 rfl rfl rfl hw ?_
  repeat (first | (apply gJR; (refine sx ?_; try intro _)) | (apply gJO; (refine sx ?_; try intro _)) | apply JS_seq | apply JS_region)
  refine JS_block ?_
  refine JS_loop1 (fun (i : Nat) => [(0, .slice p m c), (1, .func (.func 239) #[] #[]), (7, .int .i64 m), (8, .int .i64 i)]) (fun _ => H) (fun i => i ≤ m ∧ ∀ j, j < i → B.getD j 0 ≤ 15) (fun i => m - i) 0 ⟨by omega, fun j h => by omega⟩ (by repeat (first | exact trivial | refine ⟨rfl, ?_⟩ | refine ⟨lookI rfl (by omega), ?_⟩)) (fun _ h => h) ?_
  intro i ⟨hi, hall⟩ again
  by_cases him : i < m
  · have hb := hB i
    repeat (refine sx ?_; try intro _)
    refine JO_callv (us := []) (cs := []) rfl Tryz.call239 rfl rfl fun w hw => (Big_c (B.getD i 0) hb w hw).mono ?_
    rintro e w' ⟨rfl, hw'⟩
    refine ⟨_, rfl, _, hw', ?_⟩
    clear hw' hw w w'
    by_cases h15 : 15 < B.getD i 0
    · rw [decide_eq_true h15]
      repeat (refine sx ?_; try intro _)
      refine JS_ret Tryz.func251 rfl rfl ?_
      intro w hw
      exact ⟨_, rfl, hw, .inr ⟨by omega, i, h15⟩⟩
    · rw [decide_eq_false h15]
      repeat (refine sx ?_; try intro _)
      exact JS_again1 again (i + 1) ⟨by omega, fun j hj => by
        rcases Nat.lt_or_ge j i with h | h
        · exact hall j h
        · obtain rfl : j = i := by omega
          omega⟩ (by omega) (by repeat (first | exact trivial | refine ⟨rfl, ?_⟩ | refine ⟨lookI rfl (by omega), ?_⟩)) (fun _ h => h)
  · repeat (refine sx ?_; try intro _)
    refine JS_ret Tryz.func251 rfl rfl ?_
    intro w hw
    refine ⟨_, rfl, hw, .inl ⟨rfl, fun j => ?_⟩⟩
    rcases Nat.lt_or_ge j i with h | h
    · exact hall j h
    · rw [List.getD_eq_getElem?_getD, List.getElem?_eq_none (by omega)]; decide
set_option maxHeartbeats 1000000 in
theorem Contains_c {w0 : World} {H : List Asn} (p : Option Addr) (c m : Nat) (B : List Int) (hr : Rd w0 H (.slice p m c) m (ints .u8 B)) (hm : B.length = m) (hB : OKB B) (hm1 : m ≤ 4611686018427387904) (w : World) (hw : St w0 H w) :
    Calls Tryz.prog 238 #[.slice p m c, .func (.func 239) #[] #[]] w fun e w' => ∃ o, e = .returned (.bool o) ∧ St w0 H w' ∧ ((o = false ∧ ∀ j, B.getD j 0 ≤ 15) ∨ (o = true ∧ ∃ j, 15 < B.getD j 0)) := by
  refine enter (vs := [.slice p m c, .func (.func 239) #[] #[]]) Tryz.func238 rfl rfl rfl hw ?_
  repeat (refine sx ?_; try intro _)
  refine JO_call Tryz.call251 rfl rfl fun w hw => (Index_c p c m B hr hm hB hm1 w hw).mono ?_
  rintro e w' ⟨r, rfl, hw', h⟩
  refine ⟨_, rfl, _, hw', ?_⟩
  clear hw' hw w w'
  rcases h with ⟨rfl, h⟩ | ⟨h0, h⟩
  · repeat (refine sx ?_; try intro _)
    refine JS_ret Tryz.func238 rfl rfl ?_
    intro w hw
    exact ⟨_, rfl, hw, .inl ⟨rfl, h⟩⟩
  · repeat (refine sx ?_; try intro _)
    refine JS_ret Tryz.func238 rfl rfl ?_
    intro w hw
    exact ⟨_, rfl, hw, .inr ⟨rfl, h⟩⟩
end Go.Proofs.YteelffkghidpfaaGreat

namespace Go.Proofs.YteelffkghidpfaaGreat
open Sx Go
set_option linter.unusedVariables false
set_option linter.unusedSimpArgs false
set_option maxHeartbeats 1000000 in
theorem Clone_c {w0 : World} {H : List Asn} (p : Option Addr) (c m : Nat) (B : List Int) (hr : Rd w0 H (.slice p m c) m (ints .u8 B)) (hm : B.length = m) (hB : OKB B) (hm1 : m ≤ 140737488355328) (hpm : p = none → m = 0) (w : World) (hw : St w0 H w) :
    Calls Tryz.prog 128 #[.slice p m c] w fun e w' => ∃ q d, e = .returned (.slice q m d) ∧ St w0 (vec 5 1 (.slice q m d) m (ints .u8 B) :: H) w' := by
  refine enter (vs := [.slice p m c]) Tryz.func128 rfl rfl rfl hw ?_
  repeat (first | (apply gJO; refine JO_v (V_eqNil (tb := tb) rfl rfl rfl rfl) ?_) | (apply gJR; (refine sx ?_; try intro _)) | (apply gJO; (refine sx ?_; try intro _)) | apply JS_seq | apply JS_region)
  cases p with
  | none =>
    obtain rfl : m = 0 := hpm rfl
    obtain rfl : B = [] := List.eq_nil_of_length_eq_zero hm
    repeat (refine sx ?_; try intro _)
    refine JS_ret Tryz.func128 rfl rfl ?_
    intro w hw
    exact ⟨none, 0, rfl, St.nilvec hw⟩
  | some a =>
    repeat (refine sx ?_; try intro _)
    refine JO_app (tb := tb) rfl rfl rfl rfl rfl rfl (by repeat (first | exact Sel.here _ _ | apply Sel.there)) (Rd_weak hr fun w hw => dS hw) (by rw [ints_len]; omega) (by first | exact ints_one | (repeat (first | exact trivial | refine ⟨rfl, ?_⟩))) (by omega) rfl ?_
    intro q d
    repeat (refine sx ?_; try intro _)
    refine JS_ret Tryz.func128 rfl rfl ?_
    intro w hw
    rw [Nat.zero_add] at hw
    exact ⟨q, d, by rw [Nat.zero_add]; rfl, hw⟩
end Go.Proofs.YteelffkghidpfaaGreat

namespace Go.Proofs.YteelffkghidpfaaGreat
open Sx Go
set_option linter.unusedVariables false
set_option linter.unusedSimpArgs false
def lowN : List Int → Int
  | [] => 0
  | x :: r => x + 256 * lowN r
def hiN (L : List Int) : Int := L.foldl (fun a x => a * 256 + x) 0
def dFix (hi : Bool) (s : Nat) (R : List Int) : Int × Nat × Int :=
  if R.length < s then (0, 0, 20) else (if hi then hiN (R.take s) else lowN (R.take s), s, 0)
def dLeb : Nat → Int → List Int → Int × Nat × Int
  | _, _, [] => (0, 0, 20)
  | i, a, x :: r => if i = 9 ∧ 1 < x then (0, 0, 21) else
      if 127 < x then dLeb (i + 1) (a + x % 128 * 128 ^ i) r else if x = 0 ∧ 0 < i then (0, 0, 21) else (a + x % 128 * 128 ^ i, i + 1, 0)
def dNine : Nat → Int → List Int → Int × Nat × Int
  | _, _, [] => (0, 0, 20)
  | i, a, x :: r =>
      if i < 8 ∧ 127 < x then dNine (i + 1) (a + x % 128 * 128 ^ i) r else if x = 0 ∧ 0 < i then (0, 0, 21) else
        (uns (if i = 8 then a + x * 128 ^ i else a + x % 128 * 128 ^ i), i + 1, 0)
def dec : Nat → List Int → Int × Nat × Int
  | 0, R => dFix false 1 R
  | 1, R => dFix false 2 R
  | 2, R => dFix true 2 R
  | 3, R => dFix false 4 R
  | 4, R => dFix true 4 R
  | 5, R => dFix false 8 R
  | 6, R => dFix true 8 R
  | 7, R => dLeb 0 0 R
  | 8, R => (uns (dLeb 0 0 R).1, (dLeb 0 0 R).2.1, (dLeb 0 0 R).2.2)
  | _, R => dNine 0 0 R
theorem lowN_app (x : Int) : ∀ A : List Int, lowN (A ++ [x]) = lowN A + x * 256 ^ A.length
  | [] => by simp [lowN]
  | y :: A => by
    rw [List.cons_append, lowN, lowN, lowN_app x A, List.length_cons, Int.pow_succ, Int.mul_add]
    have : 256 * (x * 256 ^ A.length) = x * (256 ^ A.length * 256) := by rw [← Int.mul_assoc, Int.mul_comm 256 x, Int.mul_assoc, Int.mul_comm 256]
    rw [this]; omega
theorem lowN_bd : ∀ A : List Int, (∀ x ∈ A, 0 ≤ x ∧ x < 256) → 0 ≤ lowN A ∧ lowN A < 256 ^ A.length
  | [], _ => by simp [lowN]
  | y :: A, h => by
    have h1 := lowN_bd A fun x hx => h x (List.mem_cons_of_mem _ hx)
    have h2 := h y List.mem_cons_self
    rw [lowN, List.length_cons, Int.pow_succ]
    generalize (256 : Int) ^ A.length = z at *
    omega
theorem hiN_app (x : Int) (A : List Int) : hiN (A ++ [x]) = hiN A * 256 + x := by unfold hiN; rw [List.foldl_append]; rfl
theorem snoc_in2 {α : Type} {p : List α → Prop} (h0 : p []) (h1 : ∀ A x, p A → p (A ++ [x])) : ∀ A, p A := fun A => by
  have : ∀ n, ∀ A : List α, A.length = n → p A := by
    intro n
    induction n with
    | zero => intro A h; rw [List.eq_nil_of_length_eq_zero h]; exact h0
    | succ n ih =>
      intro A h
      have hne : A ≠ [] := fun h' => by rw [h'] at h; simp at h
      rw [← List.dropLast_concat_getLast hne]
      exact h1 _ _ (ih _ (by rw [List.length_dropLast]; omega))
  exact this _ A rfl
theorem hiN_bd (A : List Int) : (∀ x ∈ A, 0 ≤ x ∧ x < 256) → 0 ≤ hiN A ∧ hiN A < 256 ^ A.length := by
  refine snoc_in2 (p := fun A => (∀ x ∈ A, 0 ≤ x ∧ x < 256) → 0 ≤ hiN A ∧ hiN A < 256 ^ A.length) (fun _ => by decide) (fun A x ih h => ?_) A
  have h1 := ih fun y hy => h y (List.mem_append_left _ hy)
  have h2 := h x (List.mem_append_right _ List.mem_cons_self)
  rw [hiN_app, List.length_append, List.length_singleton, Int.pow_succ]
  generalize (256 : Int) ^ A.length = z at *
  omega
theorem takeB_step (B : List Int) (i : Nat) (h : i < B.length) : B.take (i + 1) = B.take i ++ [B.getD i 0] := by
  rw [List.take_succ_eq_append_getElem h, List.getD_eq_getElem?_getD, List.getElem?_eq_getElem h]; rfl
theorem dropB_step (B : List Int) (i : Nat) (h : i < B.length) : B.drop i = B.getD i 0 :: B.drop (i + 1) := by
  rw [List.drop_eq_getElem_cons h, List.getD_eq_getElem?_getD, List.getElem?_eq_getElem h]; rfl
theorem dropB_get (B : List Int) (a i : Nat) : (B.drop a).getD i 0 = B.getD (a + i) 0 := by
  rw [List.getD_eq_getElem?_getD, List.getElem?_drop, ← List.getD_eq_getElem?_getD]
theorem OKB.mem {B : List Int} (h : OKB B) : ∀ x ∈ B, 0 ≤ x ∧ x < 256 := fun x hx => by
  obtain ⟨i, hi, rfl⟩ := List.getElem_of_mem hx
  have := h i
  rw [List.getD_eq_getElem?_getD, List.getElem?_eq_getElem hi] at this
  exact this
theorem OKB.drop {B : List Int} (h : OKB B) (a : Nat) : OKB (B.drop a) := fun j => by rw [dropB_get]; exact h _
theorem or_hi {a b : Int} (k : Nat) (ha : 0 ≤ a ∧ a < 2 ^ k) (hb : 0 ≤ b) (h : a + b * 2 ^ k < 18446744073709551616) :
    IntKind.u64.wrap ((BitVec.ofInt IntKind.u64.bits a ||| BitVec.ofInt IntKind.u64.bits (b * 2 ^ k)).toNat) = a + b * 2 ^ k := by
  obtain ⟨x, rfl⟩ := Int.eq_ofNat_of_zero_le ha.1
  obtain ⟨y, rfl⟩ := Int.eq_ofNat_of_zero_le hb
  have e : ((y : Int) * 2 ^ k) = ((2 ^ k * y : Nat) : Int) := by simp [Int.mul_comm]
  have hx : x < 2 ^ k := by have := ha.2; exact_mod_cast this
  rw [e] at h ⊢
  have h1 := or_nat .u64 (a := (x : Int)) (b := ((2 ^ k * y : Nat) : Int)) (by rw [show IntKind.u64.bits = 64 from rfl]; omega) (by rw [show IntKind.u64.bits = 64 from rfl]; omega)
  rw [h1, Int.toNat_natCast, Int.toNat_natCast, Nat.or_comm, ← Nat.two_pow_add_eq_or_of_lt hx, mu64]
  omega
theorem mask7_u8 {a : Int} (ha : 0 ≤ a ∧ a < 256) : IntKind.u8.wrap ((BitVec.ofInt IntKind.u8.bits a &&& BitVec.ofInt IntKind.u8.bits 127).toNat) = a % 128 := by
  obtain ⟨x, rfl⟩ := Int.eq_ofNat_of_zero_le ha.1
  have h1 := and_nat .u8 (a := (x : Int)) (b := 127) (by rw [show IntKind.u8.bits = 8 from rfl]; omega) (by decide)
  rw [h1, Int.toNat_natCast, show (127 : Int).toNat = 2 ^ 7 - 1 from rfl, Nat.and_two_pow_sub_one_eq_mod, mu8]
  omega
abbrev rdC (u : Value) (at_ : Nat) : List Value := [u, .int .i64 at_]
section
variable {w0 : World} {H : List Asn}
set_option maxRecDepth 10000 in
theorem RLeft_c (b : Nat) (p : Option Addr) (c m at_ : Nat) (hb : blk b (rdC (.slice p m c) at_) ∈ H) (ha : at_ ≤ m) (hm : m ≤ 140737488355328) (w : World) (hw : St w0 H w) :
    Calls Tryz.prog 116 #[.pointer (some ⟨b, 0, none⟩)] w fun e w' => e = .returned (.int .i64 (m - at_ : Nat)) ∧ St w0 H w' := by
  have c1 : IntKind.i64.wrap ((m : Int) - at_) = (m - at_ : Nat) := (wi64 (by omega)).trans (by omega)
  refine enter (vs := [.pointer (some ⟨b, 0, none⟩)]) Tryz.func116 rfl rfl rfl hw ?_
  clear hw w
  repeat (first | (apply gQO; first | refine QO_v rfl (oL (V_load (tb := tb) rfl hb rfl rfl rfl rfl)) ?_ | refine QO_v rfl (V_sub rfl rfl c1 rfl) ?_) | (refine sx ?_; try intro _))
  exact JS_ret Tryz.func116 rfl rfl fun w hw => ⟨rfl, hw⟩
set_option maxRecDepth 10000 in
theorem Unsign_c (a : Int) (ha : 0 ≤ a ∧ a < 18446744073709551616) (w : World) (hw : St w0 H w) :
    Calls Tryz.prog 228 #[.int .u64 a] w fun e w' => e = .returned (.int .i64 (i64v (uns a))) ∧ St w0 H w' := by
  refine enter (vs := [.int .u64 a]) Tryz.func228 rfl rfl rfl hw ?_
  clear hw w
  have c1 : a / 2 ^ 1 = a / 2 := rfl
  have c2 : IntKind.i64.wrap (a / 2) = a / 2 := wi64 (by omega)
  have c3 : IntKind.u64.wrap ((BitVec.ofInt IntKind.u64.bits a &&& BitVec.ofInt IntKind.u64.bits 1).toNat) = a % 2 := (mask_u64 1 (by decide) ha rfl).trans rfl
  have c4 : IntKind.i64.wrap (a % 2) = a % 2 := wi64 (by omega)
  have hp : 0 ≤ a / 2 ∧ a / 2 < 9223372036854775808 := by omega
  rcases Int.emod_two_eq a with h | h
  · have hu : i64v (uns a) = a / 2 := by unfold uns; rw [if_pos h]; unfold i64v; rw [if_pos (by omega)]
    rw [hu]
    rw [h] at c3 c4
    have c6 : IntKind.i64.wrap ((BitVec.ofInt IntKind.i64.bits (a / 2) ^^^ BitVec.ofInt IntKind.i64.bits 0).toNat) = a / 2 := by
      have h1 := xor_nat .i64 (a := a / 2) (b := 0) (by rw [show IntKind.i64.bits = 64 from rfl]; omega) (by decide)
      rw [h1, show (0 : Int).toNat = 0 from rfl, Nat.xor_zero, mi64]; omega
    generalize a / 2 = q at *
    repeat (first | (apply gJO; first | refine JO_v (V_shr (m := 1) rfl rfl (by decide) rfl c1 rfl) ?_ | refine JO_v (V_conv (tb := tb) rfl rfl rfl c2 rfl) ?_ | refine JO_v (V_and rfl rfl c3 rfl) ?_ | refine JO_v (V_xor rfl rfl c6 rfl) ?_) | (refine sx ?_; try intro _))
    exact JS_ret Tryz.func228 rfl rfl fun w hw => ⟨rfl, hw⟩
  · have hu : i64v (uns a) = -(a / 2) - 1 := by unfold uns; rw [if_neg (by omega)]; unfold i64v; rw [if_neg (by omega)]; omega
    rw [hu]
    rw [h] at c3 c4
    have c6 : IntKind.i64.wrap ((BitVec.ofInt IntKind.i64.bits (a / 2) ^^^ BitVec.ofInt IntKind.i64.bits (-1)).toNat) = -(a / 2) - 1 := by
      have e : BitVec.ofInt 64 (-1) = BitVec.allOnes 64 := by rfl
      have key : ((BitVec.ofInt 64 (a / 2) ^^^ BitVec.ofInt 64 (-1)).toNat : Int) = 18446744073709551615 - a / 2 := by
        rw [e, BitVec.xor_allOnes, BitVec.toNat_not, BitVec.toNat_ofInt]; omega
      show IntKind.i64.wrap ((BitVec.ofInt 64 (a / 2) ^^^ BitVec.ofInt 64 (-1)).toNat : Int) = _
      rw [key, mi64]; omega
    generalize a / 2 = q at *
    repeat (first | (apply gJO; first | refine JO_v (V_shr (m := 1) rfl rfl (by decide) rfl c1 rfl) ?_ | refine JO_v (V_conv (tb := tb) rfl rfl rfl c2 rfl) ?_ | refine JO_v (V_and rfl rfl c3 rfl) ?_ | refine JO_v (V_xor rfl rfl c6 rfl) ?_) | (refine sx ?_; try intro _))
    exact JS_ret Tryz.func228 rfl rfl fun w hw => ⟨rfl, hw⟩
end
end Go.Proofs.YteelffkghidpfaaGreat

namespace Sx
open Go
@[irreducible] def mapA (b : Nat) (es : Array MapEntry) (clock : Nat) : Asn where
  holds w fp := fp = [b] ∧ w.heap[b]? = some (.map es clock)
  frame w w' fp h hk := ⟨h.1, by rw [hk b (by simp [h.1])]; exact h.2⟩
  live w fp h b' hb := by
    obtain ⟨rfl, hT⟩ := h
    simp at hb; subst hb
    exact (Array.getElem?_eq_some_iff.1 hT).1
theorem mapA_holds {b es clock w fp} : (mapA b es clock).holds w fp ↔ fp = [b] ∧ w.heap[b]? = some (.map es clock) := by unfold mapA; exact Iff.rfl
theorem St.newMap {w0 H w} (h : St w0 H w) : St w0 (mapA w.heap.size #[] 0 :: H) (w.alloc (.map #[] 0)) := by
  refine St.step («as» := []) (bs := [mapA w.heap.size #[] 0]) h rfl rfl rfl (by simp) ?_
  intro f1 hf _ _
  simp [All] at hf
  subst hf
  refine ⟨fun b hb _ => heap_alloc_old w _ hb, [w.heap.size], by simp, by simp, [w.heap.size], [], by simp, mapA_holds.2 ⟨rfl, heap_alloc_new w _⟩, rfl⟩
section
variable {P : Program} {f n : Nat} {R : Ending → World → Prop} {D : List Deferred} {w0 : World} {k : List Item} {ov : Ov} {H : List Asn}
  {ops : Array Oper} {l : List Oper} {d : Option Nat} {T : Nat} {pos : String} {af : Array Edge} {g : Option (Nat × Bool)}
theorem kMm {t : Nat} {r : Option Operand} (h : JO P f n R D w0 ops ⟨d, .makeMap t r, T, pos, af, g⟩ l k ov H) : JO P f n R D w0 ops ⟨d, .makeMap t r, T, pos, af, g⟩ l k ov H := h
theorem JO_makeMap {t : Nat} (hd : dOk d n = true) (hn : ∀ b, JR P f n R D w0 ops l k (put d (.map (some b)) ov) (mapA b #[] 0 :: H)) : JO P f n R D w0 ops ⟨d, .makeMap t none, T, pos, af, g⟩ l k ov H :=
  JO_step fun a w ha hw => ⟨.map (some w.heap.size), w.alloc (.map #[] 0), by simp [execOp, RowKit.run_makeMap], hd, _, hw.newMap, hn w.heap.size⟩
end
end Sx

set_option linter.unusedVariables false
set_option linter.unusedSimpArgs false
namespace Sx
open Go
def isKey (P : Program) (k : TypeId) (v : Value) : Prop := ∃ l, keyOf P k v = some l
structure KeyT (P : Program) (k : TypeId) : Prop where
  check : ∀ (w : World) (em : Bool) {v : Value}, isKey P k v → (Instr.checkKey em 10000 k v).run P w = .ok () w
  find : ∀ (w : World) {x : Value}, isKey P k x → ∀ es : List MapEntry, (∀ e ∈ es, isKey P k e.key) →
    ((Instr.findKey k x es).run P w = .ok none w ∧ ∀ e ∈ es, e.key ≠ x) ∨ ∃ j e, (Instr.findKey k x es).run P w = .ok (some (j, e.val)) w ∧ es[j]? = some e ∧ e.key = x
  stays : ∀ (w : World) {v : Value}, isKey P k v → (Instr.keyThatStays v v).run P w = .ok v w
theorem KeyT.of {P : Program} {k : TypeId} (K : Maps.Keyed P k) : KeyT P k :=
  ⟨fun w em _ ⟨_, h⟩ => K.check w em h, fun w _ ⟨_, h⟩ es hes => K.find w h es hes, fun w _ ⟨_, h⟩ => K.stays w h⟩
structure MOk (P : Program) (k : TypeId) (es : List MapEntry) (clock : Nat) : Prop where
  key : ∀ e ∈ es, isKey P k e.key
  nodup : (es.map (·.key)).Nodup
  lt : ∀ e ∈ es, e.born < clock
  born : (es.map (·.born)).Nodup
theorem MOk.nil {P : Program} {k : TypeId} {clock : Nat} : MOk P k [] clock := ⟨by simp, by simp, by simp, by simp⟩
theorem MOk.push {P : Program} {k : TypeId} {es : List MapEntry} {clock : Nat} (h : MOk P k es clock) {key v : Value} (hk : isKey P k key) (hn : ∀ e ∈ es, e.key ≠ key) : MOk P k (es ++ [⟨key, v, clock⟩]) (clock + 1) := by
  refine ⟨?_, ?_, ?_, ?_⟩
  · intro e he
    rcases List.mem_append.1 he with he | he
    · exact h.key e he
    · simp at he; subst he; exact hk
  · rw [List.map_append, List.map_cons, List.map_nil]
    refine List.nodup_append.2 ⟨h.nodup, by simp, fun a ha b hb e => ?_⟩
    simp only [List.mem_singleton] at hb
    obtain ⟨x, hx, rfl⟩ := List.mem_map.1 ha
    exact hn x hx (e.trans hb)
  · intro e he
    rcases List.mem_append.1 he with he | he
    · have := h.lt e he; omega
    · simp at he; subst he; simp
  · rw [List.map_append, List.map_cons, List.map_nil]
    refine List.nodup_append.2 ⟨h.born, by simp, fun a ha b hb e => ?_⟩
    simp only [List.mem_singleton] at hb
    obtain ⟨x, hx, rfl⟩ := List.mem_map.1 ha
    have := h.lt x hx
    omega
theorem MOk.setv {P : Program} {k : TypeId} {A B : List MapEntry} {e : MapEntry} {clock : Nat} (h : MOk P k (A ++ e :: B) clock) (v : Value) : MOk P k (A ++ { e with val := v } :: B) clock := by
  refine ⟨?_, ?_, ?_, ?_⟩
  · intro x hx
    rcases List.mem_append.1 hx with hx | hx
    · exact h.key x (List.mem_append_left _ hx)
    · rcases List.mem_cons.1 hx with rfl | hx
      · exact h.key e (by simp)
      · exact h.key x (by simp [hx])
  · have := h.nodup
    simpa using this
  · intro x hx
    rcases List.mem_append.1 hx with hx | hx
    · exact h.lt x (List.mem_append_left _ hx)
    · rcases List.mem_cons.1 hx with rfl | hx
      · exact h.lt e (by simp)
      · exact h.lt x (by simp [hx])
  · have := h.born
    simpa using this
theorem key_inj : ∀ {es : List MapEntry}, (es.map (·.key)).Nodup → ∀ {x y : MapEntry}, x ∈ es → y ∈ es → x.key = y.key → x = y
  | [], _, _, _, hx, _, _ => absurd hx (by simp)
  | e :: r, h, x, y, hx, hy, hk => by
    rw [List.map_cons, List.nodup_cons] at h
    rcases List.mem_cons.1 hx with hx | hx <;> rcases List.mem_cons.1 hy with hy | hy
    · rw [hx, hy]
    · rw [hx] at hk; exact absurd (List.mem_map.2 ⟨y, hy, hk.symm⟩) h.1
    · rw [hy] at hk; exact absurd (List.mem_map.2 ⟨x, hx, hk⟩) h.1
    · exact key_inj h.2 hx hy hk
abbrev mapL (b : Nat) (es : List MapEntry) (clock : Nat) : Asn := mapA b es.toArray clock
theorem St.map_get {w0 H w b es clock} (h : St w0 H w) (hm : mapL b es clock ∈ H) : w.heap[b]? = some (.map es.toArray clock) := by
  obtain ⟨f, hf⟩ := h.mem hm
  exact (mapA_holds.1 hf).2
theorem St.map_put {w0 H w b es clock} {F : Asn → List Asn} (es' : List MapEntry) (clock' : Nat) (h : St w0 H w) (hu : Sel H (mapL b es clock) F) : St w0 (F (mapL b es' clock')) { w with heap := w.heap.setIfInBounds b (.map es'.toArray clock') } := by
  refine h.upd (hu.upd _) rfl rfl rfl (by simp) ?_
  intro f1 hf
  obtain ⟨rfl, hb⟩ := mapA_holds.1 hf
  have hs := MapKept.heap_set (o' := .map es'.toArray clock') hb
  exact ⟨fun b' _ hb' => hs.2 b' (by simpa using hb'), [b], by simp, by simp, mapA_holds.2 ⟨rfl, hs.1⟩⟩
section
variable {P : Program} {n : Nat} {D : List Deferred} {w0 : World} {ov : Ov} {H : List Asn}
  {d : Option Nat} {T : Nat} {pos : String} {af : Array Edge} {g : Option (Nat × Bool)} {x y y2 : Operand} {tb : Tb P} {t k e : TypeId} {s1 b1 : Nat} {z1 : Option (List Value)} {b clock : Nat} {es : List MapEntry} {key v : Value}
theorem KeyT.found (K : KeyT P k) (w : World) (hM : MOk P k es clock) {e0 : MapEntry} (he : e0 ∈ es) : ∃ j, (Instr.findKey k e0.key es).run P w = .ok (some (j, e0.val)) w ∧ es[j]? = some e0 := by
  rcases K.find w (hM.key e0 he) es hM.key with ⟨_, h⟩ | ⟨j, e1, h1, h2, h3⟩
  · exact absurd rfl (h e0 he)
  · have : e1 = e0 := key_inj hM.nodup (List.mem_of_getElem? h2) he h3
    subst this
    exact ⟨j, h1, h2⟩
theorem KeyT.missed (K : KeyT P k) (w : World) (hM : MOk P k es clock) (hk : isKey P k key) (hn : ∀ e ∈ es, e.key ≠ key) : (Instr.findKey k key es).run P w = .ok none w := by
  rcases K.find w hk es hM.key with ⟨h, _⟩ | ⟨j, e1, h1, h2, h3⟩
  · exact h
  · exact absurd h3 (hn e1 (List.mem_of_getElem? h2))
theorem V_lookupT (K : KeyT P k) (h : tlook tb.l t = some ⟨.map k e, s1, b1, z1⟩) (hx : ev ov x = some (.map (some b))) (hy : ev ov y = some key) (hb : mapL b es clock ∈ H) (hM : MOk P k es clock) {e0 : MapEntry} (he : e0 ∈ es) (hk : e0.key = key) (hd : dOk d n = true) :
    OpV P n D w0 ov H ⟨d, .lookup t x y false, T, pos, af, g⟩ e0.val := by
  unfold OpV
  refine ⟨hd, fun a w ha hw => ?_⟩
  subst hk
  obtain ⟨j, h1, h2⟩ := K.found w hM he
  simp [execOp, ha.ev hx, ha.ev hy, Instr.lookup, run_underlying (und_map h), MapKept.run_getObj_map (hw.map_get hb), K.check w _ (hM.key e0 he), h1]
theorem V_lookupF (K : KeyT P k) (h : tlook tb.l t = some ⟨.map k e, s1, b1, z1⟩) (hx : ev ov x = some (.map (some b))) (hy : ev ov y = some key) (hb : mapL b es clock ∈ H) (hM : MOk P k es clock) (hkey : isKey P k key) (hn : ∀ e ∈ es, e.key ≠ key) (hz : ∀ w, (zeroValue e).run P w = .ok v w) (hd : dOk d n = true) :
    OpV P n D w0 ov H ⟨d, .lookup t x y false, T, pos, af, g⟩ v := by
  unfold OpV
  refine ⟨hd, fun a w ha hw => ?_⟩
  have h1 := K.missed w hM hkey hn
  simp [execOp, ha.ev hx, ha.ev hy, Instr.lookup, run_underlying (und_map h), MapKept.run_getObj_map (hw.map_get hb), K.check w _ hkey, h1, hz]
theorem setIf_same {w : World} {o : Obj} (hb : w.heap[b]? = some o) : { w with heap := w.heap.setIfInBounds b o } = w := by
  have hlt := (Array.getElem?_eq_some_iff.1 hb).1
  have : w.heap.setIfInBounds b o = w.heap := by
    apply Array.ext_getElem?
    intro i
    by_cases hi : b = i
    · subst hi
      rw [Array.getElem?_setIfInBounds_self_of_lt hlt, hb]
    · rw [Array.getElem?_setIfInBounds_ne hi]
  rw [this]
theorem E_entryT (K : KeyT P k) (h : tlook tb.l t = some ⟨.map k e, s1, b1, z1⟩) (hx : ev ov x = some (.map (some b))) (hy : ev ov y = some key) (hb : mapL b es clock ∈ H) (hM : MOk P k es clock) {e0 : MapEntry} (he : e0 ∈ es) (hk : e0.key = key) (hd : dOk d n = true) :
    OpE (ι := Unit) P n D w0 ov H ⟨d, .mapEntry t x y, T, pos, af, g⟩ (fun _ => .tuple #[e0.val, .int .i64 e0.born]) (fun _ => H) := by
  unfold OpE
  refine ⟨hd, fun a w ha hw => ?_⟩
  subst hk
  obtain ⟨j, h1, h2⟩ := K.found w hM he
  have hg := hw.map_get hb
  have hj : es.toArray[j]? = some e0 := by simpa using h2
  have hsame : es.modify j (fun e => { e with key := e0.key }) = es := by
    rw [ChangeMaps.modify_eq_set _ _ _ _ h2]
    exact WideElems.set_self _ _ _ h2
  refine ⟨(), w, ?_, hw⟩
  have hs := setIf_same hg
  simp [execOp, ha.ev hx, ha.ev hy, Instr.mapEntry, run_underlying (und_map h), MapKept.run_getObj_map hg, K.check w _ (hM.key e0 he), h1, hj, h2, K.stays w (hM.key e0 he), MapKept.run_setObj_map _ hg, goInt]
  rw [hsame] ; exact hs
theorem E_entryF {F : Asn → List Asn} (K : KeyT P k) (h : tlook tb.l t = some ⟨.map k e, s1, b1, z1⟩) (hx : ev ov x = some (.map (some b))) (hy : ev ov y = some key) (hu : Sel H (mapL b es clock) F) (hM : MOk P k es clock) (hkey : isKey P k key) (hn : ∀ e ∈ es, e.key ≠ key) (hz : ∀ w, (zeroValue e).run P w = .ok v w) (hd : dOk d n = true) :
    OpE (ι := Unit) P n D w0 ov H ⟨d, .mapEntry t x y, T, pos, af, g⟩ (fun _ => .tuple #[v, .int .i64 clock]) (fun _ => F (mapL b (es ++ [⟨key, v, clock⟩]) (clock + 1))) := by
  unfold OpE
  refine ⟨hd, fun a w ha hw => ?_⟩
  have h1 := K.missed w hM hkey hn
  have hg := hw.map_get hu.mem
  refine ⟨(), _, ?_, hw.map_put (es ++ [⟨key, v, clock⟩]) (clock + 1) hu⟩
  simp [execOp, ha.ev hx, ha.ev hy, Instr.mapEntry, run_underlying (und_map h), MapKept.run_getObj_map hg, K.check w _ hkey, h1, hz, MapKept.run_setObj_map _ hg, goInt]
theorem K_entryStore {F : Asn → List Asn} {A B : List MapEntry} {e0 : MapEntry} (hx : ev ov x = some (.map (some b))) (hy : ev ov y = some (.int .i64 e0.born)) (hv : ev ov y2 = some v) (hu : Sel H (mapL b (A ++ e0 :: B) clock) F) (hM : MOk P k (A ++ e0 :: B) clock) (hd : dOk d n = true) :
    OpK P n D w0 ov H ⟨d, .entryStore t x y y2, T, pos, af, g⟩ (F (mapL b (A ++ { e0 with val := v } :: B) clock)) := by
  unfold OpK
  refine ⟨hd, fun a w ha hw => ?_⟩
  have hg := hw.map_get hu.mem
  refine ⟨_, ?_, hw.map_put (A ++ { e0 with val := v } :: B) clock hu⟩
  have hj : (A ++ e0 :: B)[A.length]? = some e0 := by simp
  have hidx : (A ++ e0 :: B).toArray.findIdx? (fun e => ((e.born : Nat) : Int) == ((e0.born : Nat) : Int)) = some A.length := by
    rw [WideElems.findIdx_arr]
    exact WideElems.findIdx_born hM.born hj
  have hmod : (A ++ e0 :: B).toArray.modify A.length (fun e => { e with val := v }) = (A ++ { e0 with val := v } :: B).toArray := by
    apply Array.ext'
    rw [Array.toList_modify, ChangeMaps.modify_eq_set _ _ _ _ hj]
    simp
  simp [execOp, ha.ev hx, ha.ev hy, ha.ev hv, Instr.entryStore, MapKept.run_getObj_map hg, asInt, asIntOf, hidx, hmod, MapKept.run_setObj_map _ hg]
theorem V_arrayAt {a : Option Addr} {m c q e : Nat} (hx : ev ov x = some (.slice a m c)) (h : tlook tb.l t = some ⟨.arr q e, s1, b1, z1⟩) (hq : q ≤ m) (hd : dOk d n = true) :
    OpV P n D w0 ov H ⟨d, .sliceToArrayPointer t x, T, pos, af, g⟩ (.pointer a) := by
  unfold OpV
  refine ⟨hd, fun A w ha hw => ?_⟩
  simp [execOp, ha.ev hx, Instr.arrayAt, run_underlying (und_arr h), Nat.not_lt.2 hq]
end
@[irreducible] def bigA (l : List Asn) : Asn where
  holds w fp := All l w fp ∧ fp.Nodup
  frame w w' fp h hk := ⟨h.1.frame hk, h.2⟩
  live w fp h := h.1.live
theorem bigA_holds {l w fp} : (bigA l).holds w fp ↔ All l w fp ∧ fp.Nodup := by unfold bigA; exact Iff.rfl
theorem St.unbig {w0 : World} {l H : List Asn} {w : World} (h : St w0 (bigA l :: H) w) : St w0 (l ++ H) w := by
  refine h.step («as» := [bigA l]) (bs := l) rfl rfl rfl (Nat.le_refl _) fun f1 hf hn _ => ?_
  obtain ⟨g1, g2, rfl, hg, hnil⟩ := hf
  simp [All] at hnil
  subst hnil
  rw [List.append_nil] at hn ⊢
  exact ⟨fun _ _ _ => rfl, g1, hn, fun _ hb => .inl hb, (bigA_holds.1 hg).1⟩
theorem St.big {w0 : World} {l H : List Asn} {w : World} (h : St w0 (l ++ H) w) : St w0 (bigA l :: H) w := by
  refine h.step («as» := l) (bs := [bigA l]) rfl rfl rfl (Nat.le_refl _) fun f1 hf hn _ => ?_
  exact ⟨fun _ _ _ => rfl, f1, hn, fun _ hb => .inl hb, f1, [], by simp, bigA_holds.2 ⟨hf, hn⟩, rfl⟩
theorem St.big_out {w0 : World} {A B H : List Asn} {a : Asn} {w : World} (h : St w0 (bigA (A ++ a :: B) :: H) w) : St w0 (a :: bigA (A ++ B) :: H) w := by
  have h1 := h.unbig
  have h2 : St w0 ((A ++ B) ++ (a :: H)) w := h1.perm (by
    simp only [List.append_assoc, List.cons_append]
    exact List.Perm.append_left A (List.perm_middle.symm))
  exact h2.big.perm (List.Perm.swap _ _ _)
theorem St.big_in {w0 : World} {A B H : List Asn} {a : Asn} {w : World} (h : St w0 (a :: bigA (A ++ B) :: H) w) : St w0 (bigA (A ++ a :: B) :: H) w := by
  have h1 : St w0 (bigA (A ++ B) :: a :: H) w := h.perm (List.Perm.swap _ _ _)
  have h2 := h1.unbig
  refine St.big (h2.perm ?_)
  simp only [List.append_assoc, List.cons_append]
  exact List.Perm.append_left A (List.perm_middle)
theorem St.big_nil {w0 : World} {H : List Asn} {w : World} (h : St w0 H w) : St w0 (bigA [] :: H) w := St.big (l := []) h
end Sx
namespace Sx
open Go
section
variable {P : Program} {n : Nat} {D : List Deferred} {w0 : World} {ov : Ov} {H : List Asn}
  {d : Option Nat} {T : Nat} {pos : String} {af : Array Edge} {g : Option (Nat × Bool)} {x y : Operand} {tb : Tb P} {op : Op} {v : Value}
theorem OpE_ofV (h : OpV P n D w0 ov H ⟨d, op, T, pos, af, g⟩ v) : OpE (ι := Unit) P n D w0 ov H ⟨d, op, T, pos, af, g⟩ (fun _ => v) (fun _ => H) :=
  by
  unfold OpV at h
  unfold OpE
  exact ⟨h.1, fun a w ha hw => ⟨(), w, h.2 a w ha hw, hw⟩⟩
theorem V_loadSub {t m c lo q sz sz1 by' : Nat} {ty : Ty} {z : Option (List Value)} {p : Option Addr} {cs vs : List Value} (hx : ev ov x = some (.pointer (subB p lo c sz1))) (hr : Rd w0 H (.slice p m c) m cs) (h : tlook tb.l t = some ⟨ty, sz, by', z⟩) (ha : aggT ty = true)
    (hq : lo + q ≤ m) (hsz : q * sz1 = sz) (hp : 0 < sz) (hl : vs.length = sz) (hv : (cs.drop (lo * sz1)).take sz = vs) (hd : dOk d n = true) : OpV P n D w0 ov H ⟨d, .load t x, T, pos, af, g⟩ (.agg vs.toArray) :=
  by
    unfold OpV
    refine ⟨hd, fun A w haa hw => ?_⟩
    have hs := Rd_sub (lo := lo) (hi := lo + q) (sz := sz1) hr (by omega) hq
    rw [Nat.add_sub_cancel_left, hsz, hv] at hs
    have hq0 : 0 < q := by
      rcases Nat.eq_zero_or_pos q with h | h
      · rw [h, Nat.zero_mul] at hsz; omega
      · exact h
    have hx' : ev ov x = some (cellPtr (.slice (subB p lo c sz1) q (c - lo)) 0) := by
      rw [hx]
      have hc := (hr.lcap hw).1
      cases p with
      | none => have := Rd.nil hr hw rfl; omega
      | some a =>
        rw [cellPtr_sub (by omega), subB, if_neg (by omega), Option.map_some, Nat.add_zero]
    have hv := V_loadCA (tb := tb) (T := T) (pos := pos) (af := af) (g := g) (n := n) (D := D) hx' hs h ha hl hp (by rw [List.drop_zero, ← hl, List.take_length]) hd
    unfold OpV at hv
    exact hv.2 A w haa hw
end
end Sx
namespace Sx
open Go
def Hold (p : Prop) : Prop := p
theorem Hold.go {p : Prop} (h : p) : Hold p := h
theorem hIx {P : Program} {f n : Nat} {R : Ending → World → Prop} {D : List Deferred} {w0 : World} {k : List Item} {ov : Ov} {H : List Asn} (i : Nat) {l : Array Oper} {b : Bool} {y : Code} (h : Hold (JS P f n R D w0 (.code (.seq (.region i l b) y) :: k) ov H)) : JS P f n R D w0 (.code (.seq (.region i l b) y) :: k) ov H := h
theorem hIx' {P : Program} {f n : Nat} {R : Ending → World → Prop} {D : List Deferred} {w0 : World} {k : List Item} {ov : Ov} {H : List Asn} (i : Nat) {l : Array Oper} {b : Bool} (h : Hold (JS P f n R D w0 (.code (.region i l b) :: k) ov H)) : JS P f n R D w0 (.code (.region i l b) :: k) ov H := h
attribute [irreducible] Hold
end Sx

namespace Go.Proofs.YteelffkghidpfaaGreat
open Sx Go
set_option linter.unusedVariables false
set_option linter.unusedSimpArgs false
theorem hIc {P : Program} {f n : Nat} {R : Ending → World → Prop} {D : List Deferred} {w0 : World} {k : List Item} {ov : Ov} {H : List Asn} (i : Nat) {l : Array Oper} {b : Bool} {y z : Code} (h : Hold (JS P f n R D w0 (.code (.seq (.seq (.region i l b) y) z) :: k) ov H)) : JS P f n R D w0 (.code (.seq (.seq (.region i l b) y) z) :: k) ov H := by
  unfold Hold at h; exact h
theorem mem_okb {B : List Int} (h : ∀ x ∈ B, 0 ≤ x ∧ x < 256) : OKB B := fun j => by
  rcases Nat.lt_or_ge j B.length with hj | hj
  · rw [List.getD_eq_getElem?_getD, List.getElem?_eq_getElem hj]; exact h _ (List.getElem_mem _)
  · rw [List.getD_eq_getElem?_getD, List.getElem?_eq_none hj]; decide
theorem okb_take {B : List Int} (h : OKB B) (n : Nat) : OKB (B.take n) := mem_okb fun x hx => h.mem x (List.mem_of_mem_take hx)
theorem Rd_dropC {w0 : World} {H : List Asn} {p : Option Addr} {m c n : Nat} {X : List Int} (h : Rd w0 H (.slice p m c) m (ints .u8 X)) (hm : X.length = m) (hn : n ≤ m) : Rd w0 H (.slice (subB p n c 1) (m - n) (c - n)) (m - n) (ints .u8 (X.drop n)) := by
  have := Rd_sub (lo := n) (hi := m) (sz := 1) h hn (Nat.le_refl _)
  rw [Nat.mul_one, Nat.mul_one, List.take_of_length_le (by simp [ints, hm])] at this
  unfold ints at this ⊢
  rw [List.map_drop]
  exact this
end Go.Proofs.YteelffkghidpfaaGreat

namespace Go.Proofs.YteelffkghidpfaaGreat
open Sx Go
set_option linter.unusedVariables false
set_option linter.unusedSimpArgs false
set_option maxRecDepth 100000
def crcL (c : Nat) (B : List Int) : Nat := B.foldl (fun c x => crcB c x.toNat) c
theorem crcL_lt : ∀ (B : List Int) {c : Nat}, c < 4294967296 → OKB B → crcL c B < 4294967296
  | [], _, h, _ => h
  | x :: r, c, h, hB => by
    have hx := hB 0
    rw [show (x :: r).getD 0 0 = x from rfl] at hx
    exact crcL_lt r (crcB_lt h (by omega)) (fun j => hB (j + 1))
theorem crcL_snoc (c : Nat) (B : List Int) (x : Int) : crcL c (B ++ [x]) = crcB (crcL c B) x.toNat := by unfold crcL; rw [List.foldl_append]; rfl
theorem crcL_step (c : Nat) (B : List Int) {i : Nat} (h : i < B.length) : crcL c (B.take (i + 1)) = crcB (crcL c (B.take i)) (B.getD i 0).toNat := by
  rw [List.take_add_one, List.getElem?_eq_getElem h, Option.toList_some, crcL_snoc, List.getD_eq_getElem?_getD, List.getElem?_eq_getElem h]; rfl
def crcS (B : List Int) : Nat := 4294967295 - crcL 4294967295 B
section
variable {w0 : World} {H : List Asn}
theorem RMore_c (c m : Nat) (hc : c < 4294967296) (p : Option Addr) (cp : Nat) (B : List Int) (hr : Rd w0 H (.slice p m cp) m (ints .u8 B)) (hm : B.length = m) (hB : OKB B) (hm1 : m ≤ 140737488355328) (w : World) (hw : St w0 H w) :
    Calls Tryz.prog 97 #[.int .u32 c, .slice p m cp] w fun e w' => e = .returned (.int .u32 (4294967295 - crcL (4294967295 - c) B : Nat)) ∧ St w0 H w' := by
  have c1 : IntKind.u32.wrap (4294967295 - (c : Int)) = ((4294967295 - c : Nat) : Int) := by rw [wu32 (by omega)]; omega
  have hl0 : 4294967295 - c < 4294967296 := by omega
  refine enter (vs := [.int .u32 c, .slice p m cp]) Tryz.func97 rfl rfl rfl hw ?_
  clear hw w
  generalize 4294967295 - c = z at *
  repeat (first | (apply gJO; first | refine JO_v (V_sub rfl rfl c1 rfl) ?_) | (apply gJO; (refine sx ?_; try intro _)) | (apply gJR; (refine sx ?_; try intro _)) | apply JS_seq | apply JS_region | apply JS_skip)
  refine JS_block ?_
  refine JS_loop1 (fun (i : Nat) => [(0, .int .u32 (crcL z (B.take i))), (1, .slice p m cp), (5, .int .i64 i)]) (fun _ => H) (fun i => i ≤ m) (fun i => m - i) 0 (by omega) (by repeat (first | exact trivial | refine ⟨rfl, ?_⟩ | refine ⟨lookI rfl (by omega), ?_⟩)) (fun w hw => hw) ?_
  intro i hi again
  by_cases h8 : i < m
  · have ag := again (i + 1) (by omega) (by omega)
    rw [crcL_step z B (by omega : i < B.length)] at ag
    have hl := crcL_lt (B.take i) hl0 (fun j => okb_take hB i j)
    have hb := hB i
    have gB := ints_get (K := .u8) (l := B) (j := i) (by omega)
    clear again
    generalize crcL z (B.take i) = y at *
    generalize B.getD i 0 = x at *
    obtain ⟨k, rfl⟩ := Int.eq_ofNat_of_zero_le hb.1
    rw [Int.toNat_natCast] at ag
    repeat (first | (apply gJO; first | refine JO_v (oIA (V_index (tb := tb) rfl rfl rfl rfl (Rd.sl hr) (by omega) (by (try simp only [tn, tna, tn1, tn2, tn3, tn4, tnd16, tnd8, Int.reduceToNat]); first | exact Nat.mul_one _ | exact rfl) rfl)) ?_ | refine JO_v (oL (V_loadC (tb := tb) rfl hr rfl rfl gB rfl)) ?_) | (refine sx ?_; try intro _))
    refine JO_call Tryz.call137 rfl rfl fun w hw => (Feed_c y k hl (by omega) w hw).mono ?_
    rintro e w' ⟨rfl, hw'⟩
    (refine ⟨_, rfl, _, hw', ?_⟩; clear hw' hw w w')
    repeat (first | (apply gJS; exact JS_weak ag (by repeat (first | exact trivial | refine ⟨rfl, ?_⟩ | refine ⟨lookI rfl (by omega), ?_⟩)) (fun w hw => hw)) | (refine sx ?_; try intro _))
  · obtain rfl : i = m := by omega
    clear again
    rw [List.take_of_length_le (by omega)]
    have hl := crcL_lt B hl0 hB
    generalize crcL z B = y at *
    have c2 : IntKind.u32.wrap (4294967295 - (y : Int)) = ((4294967295 - y : Nat) : Int) := by rw [wu32 (by omega)]; omega
    repeat (first | (apply gJO; first | refine JO_v (V_sub rfl rfl c2 rfl) ?_) | (refine sx ?_; try intro _))
    exact JS_ret Tryz.func97 rfl rfl fun w hw => ⟨rfl, hw⟩
theorem RSum_c (m : Nat) (p : Option Addr) (cp : Nat) (B : List Int) (hr : Rd w0 H (.slice p m cp) m (ints .u8 B)) (hm : B.length = m) (hB : OKB B) (hm1 : m ≤ 140737488355328) (w : World) (hw : St w0 H w) :
    Calls Tryz.prog 54 #[.slice p m cp] w fun e w' => e = .returned (.int .u32 (crcS B)) ∧ St w0 H w' := by
  have h0 := fun w hw => RMore_c (w0 := w0) (H := H) 0 m (by decide) p cp B hr hm hB hm1 w hw
  refine enter (vs := [.slice p m cp]) Tryz.func54 rfl rfl rfl hw ?_
  clear hw w
  repeat (refine sx ?_; try intro _)
  refine JO_call Tryz.call97 rfl rfl fun w hw => (h0 w hw).mono ?_
  rintro e w' ⟨rfl, hw'⟩
  (refine ⟨_, rfl, _, hw', ?_⟩; clear hw' hw w w')
  repeat (refine sx ?_; try intro _)
  exact JS_ret Tryz.func54 rfl rfl fun w hw => ⟨rfl, hw⟩
end
end Go.Proofs.YteelffkghidpfaaGreat

namespace Go.Proofs.YteelffkghidpfaaGreat
open Sx Go
set_option linter.unusedVariables false
set_option linter.unusedSimpArgs false
set_option maxRecDepth 100000
def leB : Nat → Nat → List Int
  | 0, _ => []
  | n + 1, c => ((c % 256 : Nat) : Int) :: leB n (c / 256)
theorem leB_len : ∀ n c, (leB n c).length = n
  | 0, _ => rfl
  | n + 1, c => by rw [leB, List.length_cons, leB_len n]
theorem leB_snoc : ∀ (n c : Nat), leB (n + 1) c = leB n c ++ [((c / 256 ^ n % 256 : Nat) : Int)]
  | 0, c => by simp [leB]
  | n + 1, c => by
    rw [leB, leB_snoc n (c / 256)]
    rw [leB, List.cons_append, Nat.div_div_eq_div_mul, show 256 * 256 ^ n = 256 ^ (n + 1) by rw [Nat.pow_succ, Nat.mul_comm]]
section
variable {w0 : World} {H : List Asn}
theorem RBytes_c4 (c : Nat) (hc : c < 4294967296) (w : World) (hw : St w0 H w) :
    Calls Tryz.prog 53 #[.int .u32 c] w fun e w' => ∃ q d, e = .returned (.slice q 4 d) ∧ St w0 (vec 5 1 (.slice q 4 d) 4 (ints .u8 (leB 4 c)) :: H) w' := by
  refine enter (vs := [.int .u32 c]) Tryz.func53 rfl rfl rfl hw ?_
  clear hw w
  repeat (first | (apply gJR; (refine sx ?_; try intro _)) | (apply gJO; (refine sx ?_; try intro _)) | apply JS_skip | apply JS_seq | apply JS_region)
  refine JS_block ?_
  refine JS_loop3 (fun (i : Nat) (p : Option Addr) (d : Nat) => [(0, .int .u32 (c / 256 ^ i : Nat)), (3, .slice p (leB i c).length d), (4, .int .i64 i)]) (fun i p d => vec 5 1 (.slice p (leB i c).length d) (leB i c).length (ints .u8 (leB i c)) :: H) (fun i _ _ => i ≤ 4) (fun i _ _ => 4 - i) 0 none 0 (Nat.zero_le _) (by exact ⟨lookI rfl (by simp), rfl, rfl, trivial⟩) (fun w hw => St.nilvec hw) ?_
  intro i p d hi again
  by_cases his : i < 4
  · have hsn := leB_snoc i c
    have hl := leB_len i c
    have hd : c / 256 ^ (i + 1) = c / 256 ^ i / 256 := by rw [Nat.pow_succ, Nat.div_div_eq_div_mul]
    have hlt : c / 256 ^ i < 4294967296 := Nat.lt_of_le_of_lt (Nat.div_le_self _ _) hc
    have again' := again (i + 1)
    clear again
    rw [hsn, hd] at again'
    generalize leB i c = X at *
    generalize c / 256 ^ i = m at *
    have hr : Int.tmod (m : Int) 256 = ((m % 256 : Nat) : Int) := by rw [Int.tmod_eq_emod_of_nonneg (by omega)]; omega
    have hq : IntKind.u32.wrap (Int.tdiv (m : Int) 256) = ((m / 256 : Nat) : Int) := by rw [Int.tdiv_eq_ediv_of_nonneg (by omega), wu32 (by omega)]; omega
    have c8 : IntKind.u8.wrap ((m % 256 : Nat) : Int) = ((m % 256 : Nat) : Int) := by rw [mu8]; omega
    repeat (first | (apply gJO; first | refine JO_v (V_rem rfl rfl (by omega) hr rfl) ?_ | refine JO_v (V_quo rfl rfl (by omega) hq rfl) ?_ | refine JO_v (V_conv (tb := tb) rfl rfl rfl c8 rfl) ?_ | (refine JO_app (tb := tb) rfl rfl rfl rfl rfl rfl (by repeat (first | exact Sel.here _ _ | apply Sel.there)) (by first | exact vec_rd (by repeat (first | apply List.Mem.head | apply List.Mem.tail)) | assumption | exact ArgRd.rd (by assumption) _ | (apply Rd_weak; assumption; intro _ hx; exact dS hx)) (by simp only [ints_len, List.length_cons, List.length_nil]; first | omega | rfl) (by first | exact ints_one | (repeat (first | exact trivial | refine ⟨rfl, ?_⟩))) (by omega) rfl ?_; intro _ _)) | (refine sx ?_; try intro _))
    generalize m % 256 = z at *
    have e1 : ints .u8 X ++ [Value.int .u8 z] = ints .u8 (X ++ [(z : Int)]) := by rw [← ints_app]; rfl
    exact JS_weak (again' _ _ (by omega) (by omega)) (by rw [List.length_append]; exact ⟨rfl, rfl, rfl, trivial⟩) (fun w hw => by rw [List.length_append, ← e1]; exact dS hw)
  · obtain rfl : i = 4 := by omega
    repeat (refine sx ?_; try intro _)
    exact JS_ret Tryz.func53 rfl rfl fun w hw => ⟨p, d, by rw [leB_len]; rfl, by rw [leB_len] at hw; exact hw⟩
end
end Go.Proofs.YteelffkghidpfaaGreat

namespace Go.Proofs.YteelffkghidpfaaGreat
open Sx Go
set_option linter.unusedVariables false
set_option linter.unusedSimpArgs false
set_option maxRecDepth 100000
def sealB (B : List Int) : List Int := B ++ leB 4 (crcS B)
theorem sealB_len (B : List Int) : (sealB B).length = B.length + 4 := by unfold sealB; rw [List.length_append, leB_len]
theorem crcS_lt {B : List Int} : crcS B < 4294967296 := by unfold crcS; omega
section
variable {w0 : World} {H : List Asn}
theorem RSeal_c (m : Nat) (p : Option Addr) (cp : Nat) (B : List Int) (hr : Rd w0 H (.slice p m cp) m (ints .u8 B)) (hm : B.length = m) (hB : OKB B) (hm1 : m ≤ 100000000) (w : World) (hw : St w0 H w) :
    Calls Tryz.prog 25 #[.slice p m cp] w fun e w' => ∃ q d, e = .returned (.slice q (sealB B).length d) ∧ St w0 (vec 5 1 (.slice q (sealB B).length d) (sealB B).length (ints .u8 (sealB B)) :: H) w' := by
  have hS := fun {H'} (hr' : Rd w0 H' (.slice p m cp) m (ints .u8 B)) w hw => RSum_c (w0 := w0) (H := H') m p cp B hr' hm hB (by omega) w hw
  have hlt := crcS_lt (B := B)
  have hsl := sealB_len B
  have hse : B ++ leB 4 (crcS B) = sealB B := rfl
  have hll := leB_len 4 (crcS B)
  refine enter (vs := [.slice p m cp]) Tryz.func25 rfl rfl rfl hw ?_
  clear hw w
  refine JS_weak (ov' := [(0, .slice p m cp)]) (H' := vec 5 1 (.slice none 0 0) 0 (ints .u8 []) :: H) ?_ (by repeat (first | exact trivial | refine ⟨rfl, ?_⟩ | refine ⟨lookI rfl (by omega), ?_⟩)) (fun w hw => St.nilvec hw)
  repeat (refine sx ?_; try intro _)
  refine JO_app (tb := tb) rfl rfl rfl rfl rfl rfl (by repeat (first | exact Sel.here _ _ | apply Sel.there)) (Rd_weak hr fun w hw => dS hw) (by rw [ints_len, Nat.mul_one]; exact hm) ints_one (by omega) rfl ?_
  intro q1 d1
  rw [ints_app, List.nil_append, Nat.zero_add]
  repeat (refine sx ?_; try intro _)
  refine JO_call Tryz.call54 rfl rfl fun w hw => (hS (Rd_weak hr fun w hw => dS hw) w hw).mono ?_
  rintro e w' ⟨rfl, hw'⟩
  (refine ⟨_, rfl, _, hw', ?_⟩; clear hw' hw w w')
  repeat (refine sx ?_; try intro _)
  refine JO_call Tryz.call53 rfl rfl fun w hw => (RBytes_c4 _ hlt w hw).mono ?_
  rintro e w' ⟨q2, d2, rfl, hw'⟩
  (refine ⟨_, rfl, _, hw', ?_⟩; clear hw' hw w w')
  repeat (refine sx ?_; try intro _)
  refine JO_app (tb := tb) rfl rfl rfl rfl rfl rfl (by repeat (first | exact Sel.here _ _ | apply Sel.there)) (vec_rd (cs := ints .u8 (leB 4 (crcS B))) (by repeat (first | apply List.Mem.head | apply List.Mem.tail))) (by rw [ints_len, Nat.mul_one]; exact hll) ints_one (by omega) rfl ?_
  intro q3 d3
  rw [ints_app, hse]
  repeat (refine sx ?_; try intro _)
  refine JS_ret Tryz.func25 rfl rfl fun w hw => ?_
  have hn : m + 4 = (sealB B).length := by omega
  rw [hn] at hw
  exact ⟨_, _, by rw [hn]; rfl, dS hw⟩
end
end Go.Proofs.YteelffkghidpfaaGreat

namespace Go.Proofs.YteelffkghidpfaaGreat
open Sx Go
set_option linter.unusedVariables false
set_option linter.unusedSimpArgs false
set_option maxRecDepth 100000
def tabT (n : Nat) : List Int := (List.range 256).map fun i => if i < n then ((stpN 8 i : Nat) : Int) else 0
theorem tabT_len (n : Nat) : (tabT n).length = 256 := by unfold tabT; rw [List.length_map, List.length_range]
theorem tabT_get {n i : Nat} (h : i < 256) : (tabT n).getD i 0 = if i < n then ((stpN 8 i : Nat) : Int) else 0 := by
  unfold tabT
  rw [List.getD_eq_getElem?_getD, List.getElem?_map, List.getElem?_range h]; rfl
theorem tabT_set {n : Nat} (h : n < 256) : (tabT n).set n ((stpN 8 n : Nat) : Int) = tabT (n + 1) := by
  refine List.ext_getElem? fun i => ?_
  rw [List.getElem?_set]
  rcases Nat.lt_or_ge i 256 with hi | hi
  · have e : ∀ m, (tabT m)[i]? = some (if i < m then ((stpN 8 i : Nat) : Int) else 0) := fun m => by
      unfold tabT; rw [List.getElem?_map, List.getElem?_range hi]; rfl
    rw [e, e, tabT_len]
    by_cases h2 : n = i
    · subst h2; rw [if_pos rfl, if_pos hi, if_pos (by omega)]
    · rw [if_neg h2]
      by_cases h3 : i < n
      · rw [if_pos h3, if_pos (by omega)]
      · rw [if_neg h3, if_neg (by omega)]
  · rw [if_neg (by omega), List.getElem?_eq_none (by rw [tabT_len]; omega), List.getElem?_eq_none (by rw [tabT_len]; omega)]
def tbCl : List (Nat × Inf) := [(31, ⟨.int .u32, 1, 4, some [.int .u32 0]⟩), (167, ⟨.arr 256 31, 256, 1024, some (List.replicate 256 (.int .u32 0))⟩), (169, ⟨.struct [(167, 0)], 256, 1024, some (List.replicate 256 (.int .u32 0))⟩)]
theorem tbCl_ok : AllGood Tryz.prog tbCl := by
  refine ⟨⟨?_, ?_⟩, ⟨?_, ?_⟩, ⟨?_, ?_⟩, trivial⟩ <;> kernel_rfl
def tbC : Tb Tryz.prog := ⟨tbCl, tbCl_ok⟩
section
variable {w0 : World} {H : List Asn}
theorem Fill_c (t : Nat) (w : World) (hw : St w0 (blk t (ints .u32 (tabT 0)) :: H) w) :
    Calls Tryz.prog 127 #[.pointer (some ⟨t, 0, none⟩)] w fun e w' => e = .returned (.tuple #[]) ∧ St w0 (blk t (ints .u32 (tabT 256)) :: H) w' := by
  refine enter (vs := [.pointer (some ⟨t, 0, none⟩)]) Tryz.func127 rfl rfl rfl hw ?_
  clear hw w
  repeat (first | (apply gJR; (refine sx ?_; try intro _)) | (apply gJO; (refine sx ?_; try intro _)) | apply JS_skip | apply JS_seq | apply JS_region)
  refine JS_block ?_
  refine JS_loop1 (fun (i : Nat) => [(0, .pointer (some ⟨t, 0, none⟩)), (4, .int .i64 i)]) (fun i => blk t (ints .u32 (tabT i)) :: H) (fun i => i ≤ 256) (fun i => 256 - i) 0 (by omega) (by repeat (first | exact trivial | refine ⟨rfl, ?_⟩ | refine ⟨lookI rfl (by omega), ?_⟩)) (fun w hw => hw) ?_
  intro i hi again
  by_cases h8 : i < 256
  · have ag := again (i + 1) (by omega) (by omega)
    rw [← tabT_set h8] at ag
    have hl := tabT_len i
    have c1 : IntKind.u32.wrap (i : Int) = i := wu32 (by omega)
    clear again
    generalize tabT i = X at *
    repeat (first | (apply gJO; first | refine JO_v (V_conv (tb := tb) rfl rfl rfl c1 rfl) ?_) | (apply gJR; (refine sx ?_; try intro _)) | (apply gJO; (refine sx ?_; try intro _)) | (apply gJS; first | refine JS_condT rfl ?_ | refine JS_cond_T rfl (by omega) ?_) | apply JS_skip | apply JS_seq | apply JS_region | apply JS_inBlock)
    refine JS_block ?_
    repeat (first | (apply gJO; first | refine JO_v (V_conv (tb := tb) rfl rfl rfl c1 rfl) ?_) | (apply gJR; (refine sx ?_; try intro _)) | (apply gJO; (refine sx ?_; try intro _)) | apply JS_skip | apply JS_seq | apply JS_region | apply JS_inBlock)
    refine JS_block ?_
    refine JS_loop1 (fun (j : Nat) => [(0, .pointer (some ⟨t, 0, none⟩)), (2, .int .i64 i), (3, .int .u32 (stpN j i)), (4, .int .i64 i), (9, .int .i64 j)]) (fun _ => blk t (ints .u32 X) :: H) (fun j => j ≤ 8) (fun j => 8 - j) 0 (by omega) (by repeat (first | exact trivial | refine ⟨rfl, ?_⟩ | refine ⟨lookI rfl (by omega), ?_⟩)) (fun w hw => hw) ?_
    intro j hj more
    by_cases hj8 : j < 8
    · have mo := more (j + 1) (by omega) (by omega)
      rw [stpN_succ j] at mo
      have hlt := stpN_lt j (c := i) (by omega)
      clear more ag
      generalize stpN j i = y at *
      repeat (refine sx ?_; try intro _)
      refine JO_call Tryz.call177 rfl rfl fun w hw => (Step_c y hlt w hw).mono ?_
      rintro e w' ⟨rfl, hw'⟩
      (refine ⟨_, rfl, _, hw', ?_⟩; clear hw' hw w w')
      repeat (first | (apply gJS; exact JS_weak mo (by repeat (first | exact trivial | refine ⟨rfl, ?_⟩ | refine ⟨lookI rfl (by omega), ?_⟩)) (fun w hw => hw)) | (refine sx ?_; try intro _))
    · obtain rfl : j = 8 := by omega
      clear more
      generalize stpN 8 i = y at *
      repeat (first | (apply gJS; exact JS_weak ag (by repeat (first | exact trivial | refine ⟨rfl, ?_⟩ | refine ⟨lookI rfl (by omega), ?_⟩)) (fun w hw => hw)) | (apply gJO; first | refine JO_v (V_field (tb := tbC) rfl rfl rfl rfl rfl rfl) ?_ | refine JO_v (V_indexA (tb := tbC) rfl rfl rfl rfl (by omega) rfl) ?_) | (apply kS; refine JO_k (K_store (tb := tb) rfl rfl (by repeat (first | apply Upd.here | apply Upd.there)) rfl rfl rfl (by repeat (first | exact trivial | refine ⟨rfl, ?_⟩)) (by rw [show 0 + ((i : Nat) : Int).toNat * 1 = i by omega]; exact setSeg_ints (by omega)) rfl) ?_) | (refine sx ?_; try intro _))
  · obtain rfl : i = 256 := by omega
    clear again
    repeat (refine sx ?_; try intro _)
    exact JS_fin Tryz.func127 rfl rfl fun w hw => ⟨rfl, hw⟩
end
end Go.Proofs.YteelffkghidpfaaGreat

namespace Go.Proofs.YteelffkghidpfaaGreat
open Sx Go
set_option linter.unusedVariables false
set_option linter.unusedSimpArgs false
set_option maxRecDepth 100000
def numB : List Int → Nat
  | [] => 0
  | x :: r => x.toNat + 256 * numB r
theorem xor_add256 {d h : Nat} (hd : d < 256) : d + 256 * h = d ^^^ 2 ^ 8 * h := by
  have h1 := Nat.xor_div_two_pow (a := d) (b := 2 ^ 8 * h) (n := 8)
  have h2 := Nat.xor_mod_two_pow (a := d) (b := 2 ^ 8 * h) (n := 8)
  rw [show 2 ^ 8 * h / 2 ^ 8 = h by omega, show d / 2 ^ 8 = 0 by omega, Nat.zero_xor] at h1
  rw [show 2 ^ 8 * h % 2 ^ 8 = 0 by omega, show d % 2 ^ 8 = d by omega, Nat.xor_zero] at h2
  generalize d ^^^ 2 ^ 8 * h = y at *
  omega
theorem leB_okb : ∀ (n c : Nat), OKB (leB n c)
  | 0, _ => fun j => by simp [leB]
  | n + 1, c => fun j => by
    cases j with
    | zero => rw [leB]; exact ⟨by simp; omega, by simp; omega⟩
    | succ j => exact leB_okb n (c / 256) j
theorem numB_inj : ∀ (A B : List Int), OKB A → OKB B → A.length = B.length → numB A = numB B → A = B
  | [], [], _, _, _, _ => rfl
  | [], _ :: _, _, _, h, _ => by simp at h
  | _ :: _, [], _, _, h, _ => by simp at h
  | x :: r, y :: s, hA, hB, hl, h => by
    have hx := hA 0
    have hy := hB 0
    rw [show (x :: r).getD 0 0 = x from rfl] at hx
    rw [show (y :: s).getD 0 0 = y from rfl] at hy
    rw [numB, numB] at h
    have e1 : x = y := by omega
    have e2 := numB_inj r s (fun j => hA (j + 1)) (fun j => hB (j + 1)) (by simpa using hl) (by omega)
    rw [e1, e2]
theorem compl32 {s : Nat} (h : s < 4294967296) : 4294967295 - s = 4294967295 ^^^ s := by
  refine Nat.eq_of_testBit_eq fun i => ?_
  have h1 := Nat.testBit_two_pow_sub_succ (n := 32) (x := s) h i
  have h2 := Nat.testBit_two_pow_sub_one 32 i
  rw [show (2 : Nat) ^ 32 - (s + 1) = 4294967295 - s by omega] at h1
  rw [show (2 : Nat) ^ 32 - 1 = 4294967295 from rfl] at h2
  rw [Nat.testBit_xor, h1, h2]
  rcases Nat.lt_or_ge i 32 with hi | hi
  · simp [hi]
  · have : s.testBit i = false := Nat.testBit_lt_two_pow (Nat.lt_of_lt_of_le h (Nat.pow_le_pow_right (by decide) hi : 2 ^ 32 ≤ 2 ^ i))
    simp [this]
def crcK : Nat := stpN 32 4294967295
def fitB (B : List Int) : Prop := 4 ≤ B.length ∧ leB 4 (crcS (B.take (B.length - 4))) = B.drop (B.length - 4)
theorem add_xor2 {e i : Nat} (h : e < 2 ^ i) : e + 2 ^ i = e ^^^ 2 ^ i := by
  have h1 := Nat.xor_div_two_pow (a := e) (b := 2 ^ i) (n := i)
  have h2 := Nat.xor_mod_two_pow (a := e) (b := 2 ^ i) (n := i)
  have hp : 0 < 2 ^ i := Nat.pow_pos (by decide)
  rw [Nat.div_self hp, Nat.div_eq_of_lt h, Nat.zero_xor] at h1
  rw [Nat.mod_self, Nat.mod_eq_of_lt h, Nat.xor_zero] at h2
  have h3 := Nat.div_add_mod (e ^^^ 2 ^ i) (2 ^ i)
  rw [h1, h2, Nat.mul_one] at h3
  omega
theorem mul_xor2 (s a b : Nat) : 2 ^ s * (a ^^^ b) = 2 ^ s * a ^^^ 2 ^ s * b := by
  have h := Nat.shiftLeft_xor_distrib (a := a) (b := b) (i := s)
  rw [Nat.shiftLeft_eq, Nat.shiftLeft_eq, Nat.shiftLeft_eq] at h
  rw [Nat.mul_comm, h, Nat.mul_comm a, Nat.mul_comm b]
theorem numB_turn : ∀ (B : List Int) (j r : Nat), OKB B → j < B.length → r < 8 → numB (B.set j (((B.getD j 0).toNat ^^^ 2 ^ r : Nat) : Int)) = numB B ^^^ 2 ^ (8 * j + r)
  | [], _, _, _, h, _ => absurd h (by simp)
  | x :: l, 0, r, hB, _, hr => by
    have hx := hB 0
    rw [show (x :: l).getD 0 0 = x from rfl] at *
    have hp : 2 ^ r < 256 := Nat.pow_lt_pow_right (by decide) hr (m := r) (n := 8)
    have hlt : x.toNat ^^^ 2 ^ r < 256 := Nat.xor_lt_two_pow (n := 8) (by omega) hp
    rw [List.set_cons_zero, numB, numB, Int.toNat_natCast, xor_add256 hlt, xor_add256 (by omega), Nat.mul_zero, Nat.zero_add, Nat.xor_assoc, Nat.xor_assoc, Nat.xor_comm (2 ^ r)]
  | x :: l, j + 1, r, hB, hj, hr => by
    have hx := hB 0
    rw [show (x :: l).getD 0 0 = x from rfl] at hx
    have ih := numB_turn l j r (fun j => hB (j + 1)) (by simpa using hj) hr
    rw [show (x :: l).getD (j + 1) 0 = l.getD j 0 from rfl, List.set_cons_succ, numB, numB, ih, xor_add256 (by omega), xor_add256 (by omega), mul_xor2, Nat.xor_assoc]
    congr 2
    rw [← Nat.pow_add]; congr 1; omega
theorem turn_okb {B : List Int} (hB : OKB B) (j r : Nat) (hr : r < 8) : OKB (B.set j (((B.getD j 0).toNat ^^^ 2 ^ r : Nat) : Int)) := fun k => by
  have hx := hB j
  have hp : 2 ^ r < 256 := Nat.pow_lt_pow_right (by decide) hr (m := r) (n := 8)
  have hlt : (B.getD j 0).toNat ^^^ 2 ^ r < 256 := Nat.xor_lt_two_pow (n := 8) (by omega) hp
  generalize (B.getD j 0).toNat ^^^ 2 ^ r = z at *
  rw [List.getD_eq_getElem?_getD, List.getElem?_set]
  split
  · split
    · rw [Option.getD_some]; omega
    · exact ⟨by decide, by decide⟩
  · have := hB k; rw [List.getD_eq_getElem?_getD] at this; exact this
def bstE (u s n : Nat) : Nat → Nat
  | 0 => 0
  | i + 1 => if u / 2 ^ i % 2 = 1 ∧ s + i < 8 * n then bstE u s n i + 2 ^ i else bstE u s n i
structure Trn (B C : List Int) (s e : Nat) : Prop where
  ok : OKB C
  len : C.length = B.length
  num : numB C = numB B ^^^ 2 ^ s * e
theorem Trn.nil {B : List Int} (hB : OKB B) (s : Nat) : Trn B B s 0 := ⟨hB, rfl, by simp⟩
theorem Trn.next {B C : List Int} {s e i : Nat} (h : Trn B C s e) (he : e < 2 ^ i) (hi : s + i < 8 * B.length) : Trn B (C.set ((s + i) / 8) (((C.getD ((s + i) / 8) 0).toNat ^^^ 2 ^ ((s + i) % 8) : Nat) : Int)) s (e + 2 ^ i) := by
  refine ⟨turn_okb h.ok _ _ (Nat.mod_lt _ (by decide)), by rw [List.length_set]; exact h.len, ?_⟩
  rw [numB_turn C _ _ h.ok (by rw [h.len]; omega) (Nat.mod_lt _ (by decide)), h.num, add_xor2 he, mul_xor2, ← Nat.pow_add, Nat.xor_assoc]
  congr 3; omega
theorem Trn.same {B C : List Int} {s : Nat} (hB : OKB B) (h : Trn B C s 0) : C = B := numB_inj _ _ h.ok hB h.len (by rw [h.num]; simp)
end Go.Proofs.YteelffkghidpfaaGreat

namespace Go.Proofs.YteelffkghidpfaaGreat
open Sx Go
set_option linter.unusedVariables false
set_option linter.unusedSimpArgs false
set_option maxRecDepth 100000
section
variable {P : Program} {n : Nat} {D : List Deferred} {w0 : World} {ov : Ov} {H : List Asn} {d : Option Nat} {T T1 : Nat} {pos : String} {af : Array Edge} {g : Option (Nat × Bool)} {x : Operand} {tb : Tb P}
  {t e s1 b1 sz b2 : Nat} {z1 z2 : Option (List Value)} {ty2 : Ty}
theorem V_cpl32 {a c : Int} (hx : ev ov x = some (.int .u32 a)) (hc : IntKind.u32.wrap ((BitVec.ofInt IntKind.u32.bits 4294967295 ^^^ BitVec.ofInt IntKind.u32.bits a).toNat) = c) (hd : dOk d n = true) : OpV P n D w0 ov H ⟨d, .unOp .xor T1 x, T, pos, af, g⟩ (.int .u32 c) := by
  unfold OpV
  exact ⟨hd, (fun A w ha _ => by subst hc; simp [execOp, ha.ev hx, Op.unary, Op.intBits, IntKind.signed, IntKind.max]; rfl)⟩
theorem V_slice3 {a : Option Addr} {m c hi : Nat} {K K2 : IntKind} {ih ix : Int} {o1 o2 : Operand} (hx : ev ov x = some (.slice a m c)) (h : tlook tb.l t = some ⟨.slice e, s1, b1, z1⟩) (h2 : tlook tb.l e = some ⟨ty2, sz, b2, z2⟩)
    (hhi : ev ov o1 = some (.int K ih)) (hmx : ev ov o2 = some (.int K2 ix)) (e1 : ih = (hi : Int)) (e2 : ix = (hi : Int)) (hb : ∀ w, St w0 H w → hi ≤ c) (hd : dOk d n = true) :
    OpV P n D w0 ov H ⟨d, .slice t x none (some o1) (some o2), T, pos, af, g⟩ (.slice a hi hi) := by
  unfold OpV
  exact ⟨hd, (fun A w ha hw => by
    have hbb := hb w hw
    subst e1 e2
    have q1 := run_underlying (und_slice h) w
    have hS : (Instr.sliceBounds true m c none (some (.int K (hi : Int))) (some (.int K2 (hi : Int)))).run P w = .ok (0, hi, hi) w := by
      have b1 := Sx.run_sliceBound (P := P) (K := K2) (i := (hi : Int)) (y := c) (code := .slice3Acap) w (by omega)
      have b2 := Sx.run_sliceBound (P := P) (K := K) (i := (hi : Int)) (y := hi) (code := .slice3B) w (by omega)
      rw [Int.toNat_natCast] at b1 b2
      simp [Instr.sliceBounds, b1, b2]
    have ez : (if hi = 0 then a else Option.map (fun x => x.add (0 * sz)) a) = a := by
      split
      · rfl
      · cases a with
        | none => rfl
        | some q => simp [Addr.add]
    simp [execOp, ha.ev hx, ha.ev hhi, ha.ev hmx, Instr.sliceAt, Instr.slice, q1, hS, Tb.run_size w h2]
    try simpa using ez)⟩
end
theorem Rd_cap {w0 : World} {H : List Asn} {a : Option Addr} {m m' c hi sz : Nat} {cs : List Value} (h : Rd w0 H (.slice a m c) m' cs) (h2 : hi ≤ m) :
    Rd w0 H (.slice a hi hi) hi (cs.take (hi * sz)) := by
  unfold Rd at h ⊢
  intro w hw
  obtain ⟨⟨b, c', e, hn, hle⟩, hr⟩ := h w hw
  cases e
  refine ⟨⟨a, hi, rfl, fun hb => ?_, Nat.le_refl _⟩, fun j v hv => ?_⟩
  · have := hn hb; omega
  · rw [List.getElem?_take] at hv
    split at hv
    · obtain ⟨q, hq, hc⟩ := hr j v hv
      refine ⟨q, ?_, hc⟩
      rw [← hq]
      cases a with
      | none => unfold cellPtr; rfl
      | some a => rw [cellPtr_eq, cellPtr_eq]
    · cases hv
theorem Rd_capI {w0 : World} {H : List Asn} {a : Option Addr} {m m' c hi : Nat} {K : IntKind} {B : List Int} (h : Rd w0 H (.slice a m c) m' (ints K B)) (h2 : hi ≤ m) :
    Rd w0 H (.slice a hi hi) hi (ints K (B.take hi)) := by
  have := Rd_cap (sz := 1) h h2
  rw [Nat.mul_one] at this
  unfold ints at this ⊢
  rw [List.map_take]
  exact this
theorem xor8 {a b : Nat} (ha : a < 256) (hb : b < 256) : IntKind.u8.wrap ((BitVec.ofInt IntKind.u8.bits a ^^^ BitVec.ofInt IntKind.u8.bits b).toNat) = ((a ^^^ b : Nat) : Int) := by
  have h1 := xor_nat .u8 (a := a) (b := b) (by rw [show IntKind.u8.bits = 8 from rfl]; omega) (by rw [show IntKind.u8.bits = 8 from rfl]; omega)
  have h2 : a ^^^ b < 256 := Nat.xor_lt_two_pow (n := 8) (by omega) (by omega)
  rw [h1, Int.toNat_natCast, Int.toNat_natCast, wu8 (by omega)]
theorem crcB_tab {y k : Nat} (hk : k < 256) : crcB y k = y / 256 ^^^ stpN 8 (y % 256 ^^^ k) := by
  have h1 := Nat.xor_div_two_pow (a := y) (b := k) (n := 8)
  have h2 := Nat.xor_mod_two_pow (a := y) (b := k) (n := 8)
  rw [show (2 : Nat) ^ 8 = 256 from rfl, Nat.div_eq_of_lt hk, Nat.xor_zero] at h1
  rw [show (2 : Nat) ^ 8 = 256 from rfl, Nat.mod_eq_of_lt hk] at h2
  unfold crcB
  rw [stp8, h1, h2]
theorem tab256 {i : Nat} (h : i < 256) : nth (ints .u32 (tabT 256)) i = some (.int .u32 (stpN 8 i : Nat)) := by
  rw [nth_eq, ints_get (by rw [tabT_len]; exact h), tabT_get h, if_pos h]
section
variable {w0 : World} {H : List Asn}
theorem CNew_c (w : World) (hw : St w0 H w) :
    Calls Tryz.prog 86 #[] w fun e w' => ∃ t, e = .returned (.pointer (some ⟨t, 0, none⟩)) ∧ St w0 (blk t (ints .u32 (tabT 256)) :: H) w' := by
  refine enter (vs := []) Tryz.func86 rfl rfl rfl hw ?_
  clear hw w
  repeat (first | (apply gJO; refine JO_v (oBd (V_build (tb := tbC) rfl rfl rfl rfl rfl)) ?_) | (apply kX; refine JO_box (cs := ints .u32 (tabT 0)) rfl (by kernel_rfl) rfl ?_; intro tt) | (refine sx ?_; try intro _))
  refine JO_callv rfl Tryz.call127 rfl rfl fun w hw => (Fill_c _ w hw).mono ?_
  rintro e w' ⟨rfl, hw'⟩
  (refine ⟨_, rfl, _, hw', ?_⟩; clear hw' hw w w')
  repeat (refine sx ?_; try intro _)
  exact JS_ret Tryz.func86 rfl rfl fun w hw => ⟨_, rfl, hw⟩
theorem CFeed_c (t : Nat) (ht : blk t (ints .u32 (tabT 256)) ∈ H) (c m : Nat) (hc : c < 4294967296) (p : Option Addr) (cp : Nat) (B : List Int) (hr : Rd w0 H (.slice p m cp) m (ints .u8 B)) (hm : B.length = m) (hB : OKB B) (hm1 : m ≤ 140737488355328) (w : World) (hw : St w0 H w) :
    Calls Tryz.prog 212 #[.pointer (some ⟨t, 0, none⟩), .int .u32 c, .slice p m cp] w fun e w' => e = .returned (.int .u32 (crcL c B)) ∧ St w0 H w' := by
  refine enter (vs := [.pointer (some ⟨t, 0, none⟩), .int .u32 c, .slice p m cp]) Tryz.func212 rfl rfl rfl hw ?_
  clear hw w
  repeat (first | (apply gJR; (refine sx ?_; try intro _)) | (apply gJO; (refine sx ?_; try intro _)) | apply JS_skip | apply JS_seq | apply JS_region)
  refine JS_block ?_
  refine JS_loop1 (fun (i : Nat) => [(0, .pointer (some ⟨t, 0, none⟩)), (1, .int .u32 (crcL c (B.take i))), (9, .slice p m cp), (10, .int .i64 m), (11, .int .i64 i)]) (fun _ => H) (fun i => i ≤ m) (fun i => m - i) 0 (by omega) (by repeat (first | exact trivial | refine ⟨rfl, ?_⟩ | refine ⟨lookI rfl (by omega), ?_⟩)) (fun w hw => hw) ?_
  intro i hi again
  by_cases h8 : i < m
  · have ag := again (i + 1) (by omega) (by omega)
    rw [crcL_step c B (by omega : i < B.length)] at ag
    have hl := crcL_lt (B.take i) hc (fun j => okb_take hB i j)
    have hb := hB i
    have gB := ints_get (K := .u8) (l := B) (j := i) (by omega)
    clear again
    generalize crcL c (B.take i) = y at *
    generalize B.getD i 0 = x at *
    obtain ⟨k, rfl⟩ := Int.eq_ofNat_of_zero_le hb.1
    rw [Int.toNat_natCast, crcB_tab (by omega)] at ag
    have hk : k < 256 := by omega
    have s1 : (y : Int) / 2 ^ 8 = ((y / 256 : Nat) : Int) := by omega
    have c1 : IntKind.u8.wrap (y : Int) = ((y % 256 : Nat) : Int) := by rw [mu8]; omega
    have x1 := xor8 (a := y % 256) (b := k) (by omega) hk
    have hz : y % 256 ^^^ k < 256 := Nat.xor_lt_two_pow (n := 8) (by omega) (by omega)
    have hsz := stpN_lt 8 (c := y % 256 ^^^ k) (by omega)
    have ht2 := tab256 hz
    have x2 := xor32 (a := y / 256) (b := stpN 8 (y % 256 ^^^ k)) (by omega) hsz
    generalize y % 256 ^^^ k = z at *
    repeat (first | (apply gJO; first | refine JO_v (oIA (V_index (tb := tb) rfl rfl rfl rfl (Rd.sl hr) (by omega) (by (try simp only [tn, tna, tn1, tn2, tn3, tn4, tnd16, tnd8, Int.reduceToNat]); first | exact Nat.mul_one _ | exact rfl) rfl)) ?_ | refine JO_v (oL (V_loadC (tb := tb) rfl hr rfl rfl gB rfl)) ?_ | refine JO_v (oFA (V_field (tb := tbC) rfl rfl rfl rfl rfl rfl)) ?_ | refine JO_v (oIA (V_indexA (tb := tbC) rfl rfl rfl rfl (by omega) rfl)) ?_ | refine JO_v (V_shr (m := 8) rfl rfl (by decide) rfl s1 rfl) ?_ | refine JO_v (V_conv (tb := tb) rfl rfl rfl c1 rfl) ?_ | refine JO_v (V_xor rfl rfl x1 rfl) ?_ | refine JO_v (V_xor rfl rfl x2 rfl) ?_ | refine JO_v (oL (V_load (tb := tb) rfl ht rfl rfl (by rw [show 0 + ((z : Nat) : Int).toNat * 1 = z by omega]; exact ht2) rfl)) ?_) | (apply gJS; exact JS_weak ag (by repeat (first | exact trivial | refine ⟨rfl, ?_⟩ | refine ⟨lookI rfl (by omega), ?_⟩)) (fun w hw => hw)) | (refine sx ?_; try intro _))
  · obtain rfl : i = m := by omega
    clear again
    rw [List.take_of_length_le (by omega)]
    repeat (refine sx ?_; try intro _)
    exact JS_ret Tryz.func212 rfl rfl fun w hw => ⟨rfl, hw⟩
theorem CMore_c (t : Nat) (ht : blk t (ints .u32 (tabT 256)) ∈ H) (m : Nat) (p : Option Addr) (cp : Nat) (B : List Int) (hr : Rd w0 H (.slice p m cp) m (ints .u8 B)) (hm : B.length = m) (hB : OKB B) (hm1 : m ≤ 140737488355328) (w : World) (hw : St w0 H w) :
    Calls Tryz.prog 155 #[.pointer (some ⟨t, 0, none⟩), .int .u32 0, .slice p m cp] w fun e w' => e = .returned (.int .u32 (crcS B)) ∧ St w0 H w' := by
  have hF := fun w hw => CFeed_c (w0 := w0) (H := H) t ht 4294967295 m (by decide) p cp B hr hm hB hm1 w hw
  have hl := crcL_lt B (c := 4294967295) (by decide) hB
  have e2 : IntKind.u32.wrap ((BitVec.ofInt IntKind.u32.bits 4294967295 ^^^ BitVec.ofInt IntKind.u32.bits (crcL 4294967295 B : Nat)).toNat) = (crcS B : Nat) := by
    have := xor32 (a := 4294967295) (b := crcL 4294967295 B) (by decide) hl
    rw [← compl32 hl] at this
    exact this
  have e1 : IntKind.u32.wrap ((BitVec.ofInt IntKind.u32.bits 4294967295 ^^^ BitVec.ofInt IntKind.u32.bits 0).toNat) = ((4294967295 : Nat) : Int) := by decide
  refine enter (vs := [.pointer (some ⟨t, 0, none⟩), .int .u32 0, .slice p m cp]) Tryz.func155 rfl rfl rfl hw ?_
  clear hw w
  repeat (first | (apply gJO; refine JO_v (V_cpl32 rfl e1 rfl) ?_) | (refine sx ?_; try intro _))
  refine JO_call Tryz.call212 rfl rfl fun w hw => (hF w hw).mono ?_
  rintro e w' ⟨rfl, hw'⟩
  (refine ⟨_, rfl, _, hw', ?_⟩; clear hw' hw w w')
  repeat (first | (apply gJO; refine JO_v (V_cpl32 rfl e2 rfl) ?_) | (refine sx ?_; try intro _))
  exact JS_ret Tryz.func155 rfl rfl fun w hw => ⟨rfl, hw⟩
theorem CSum_c (t : Nat) (ht : blk t (ints .u32 (tabT 256)) ∈ H) (m : Nat) (p : Option Addr) (cp : Nat) (B : List Int) (hr : Rd w0 H (.slice p m cp) m (ints .u8 B)) (hm : B.length = m) (hB : OKB B) (hm1 : m ≤ 140737488355328) (w : World) (hw : St w0 H w) :
    Calls Tryz.prog 118 #[.pointer (some ⟨t, 0, none⟩), .slice p m cp] w fun e w' => e = .returned (.int .u32 (crcS B)) ∧ St w0 H w' := by
  have hF := fun w hw => CMore_c (w0 := w0) (H := H) t ht m p cp B hr hm hB hm1 w hw
  refine enter (vs := [.pointer (some ⟨t, 0, none⟩), .slice p m cp]) Tryz.func118 rfl rfl rfl hw ?_
  clear hw w
  repeat (refine sx ?_; try intro _)
  refine JO_call Tryz.call155 rfl rfl fun w hw => (hF w hw).mono ?_
  rintro e w' ⟨rfl, hw'⟩
  (refine ⟨_, rfl, _, hw', ?_⟩; clear hw' hw w w')
  repeat (refine sx ?_; try intro _)
  exact JS_ret Tryz.func118 rfl rfl fun w hw => ⟨rfl, hw⟩
end
theorem fit_by {B : List Int} {n : Nat} (h : B.length = n + 4) : fitB B ↔ (B.getD n 0 = (crcS (B.take n) % 256 : Nat) ∧ B.getD (n + 1) 0 = (crcS (B.take n) / 256 % 256 : Nat) ∧ B.getD (n + 2) 0 = (crcS (B.take n) / 65536 % 256 : Nat) ∧ B.getD (n + 3) 0 = (crcS (B.take n) / 16777216 % 256 : Nat)) := by
  have e : B.drop n = [B.getD n 0, B.getD (n + 1) 0, B.getD (n + 2) 0, B.getD (n + 3) 0] := by
    rw [dropB_step B n (by omega), dropB_step B (n + 1) (by omega), dropB_step B (n + 1 + 1) (by omega), dropB_step B (n + 1 + 1 + 1) (by omega), List.drop_of_length_le (by omega)]
  unfold fitB
  rw [h, show n + 4 - 4 = n by omega, e]
  generalize crcS (B.take n) = s
  simp only [leB, List.cons.injEq, and_true]
  constructor
  · rintro ⟨_, h1, h2, h3, h4⟩
    refine ⟨h1.symm, h2.symm, ?_, ?_⟩ <;> omega
  · rintro ⟨h1, h2, h3, h4⟩
    refine ⟨by omega, h1.symm, h2.symm, ?_, ?_⟩ <;> omega
section
variable {w0 : World} {H : List Asn}
set_option maxHeartbeats 4000000 in
theorem CFits_c (t : Nat) (ht : blk t (ints .u32 (tabT 256)) ∈ H) (m : Nat) (p : Option Addr) (cp : Nat) (B : List Int) (hr : Rd w0 H (.slice p m cp) m (ints .u8 B)) (hm : B.length = m) (hB : OKB B) (hm1 : m ≤ 140737488355328) (w : World) (hw : St w0 H w) :
    Calls Tryz.prog 87 #[.pointer (some ⟨t, 0, none⟩), .slice p m cp] w fun e w' => (∃ b, e = .returned (.bool b) ∧ (b = true ↔ fitB B)) ∧ St w0 H w' := by
  rcases Nat.lt_or_ge m 4 with h4 | h4
  · have hn : ¬ fitB B := fun h => by have := h.1; omega
    refine enter (vs := [.pointer (some ⟨t, 0, none⟩), .slice p m cp]) Tryz.func87 rfl rfl rfl hw ?_
    clear hw w
    repeat (refine sx ?_; try intro _)
    exact JS_ret Tryz.func87 rfl rfl fun w hw => ⟨⟨false, rfl, by simp [hn]⟩, hw⟩
  · obtain ⟨n, rfl⟩ : ∃ n, m = n + 4 := ⟨m - 4, by omega⟩
    have hf := fit_by hm
    have hS := fun w hw => CSum_c (w0 := w0) (H := H) t ht n p n (B.take n) (Rd_capI hr (by omega)) (by rw [List.length_take]; omega) (okb_take hB n) (by omega) w hw
    have g0 := ints_get (K := .u8) (l := B) (j := n) (by omega)
    have g1 := ints_get (K := .u8) (l := B) (j := n + 1) (by omega)
    have g2 := ints_get (K := .u8) (l := B) (j := n + 2) (by omega)
    have g3 := ints_get (K := .u8) (l := B) (j := n + 3) (by omega)
    have c1 : IntKind.i64.wrap (((n + 4 : Nat) : Int) - 4) = (n : Int) := by rw [wi64 (by omega)]; omega
    have a1 : IntKind.i64.wrap ((n : Int) + 1) = ((n + 1 : Nat) : Int) := by rw [wi64 (by omega)]; omega
    have a2 : IntKind.i64.wrap ((n : Int) + 2) = ((n + 2 : Nat) : Int) := by rw [wi64 (by omega)]; omega
    have a3 : IntKind.i64.wrap ((n : Int) + 3) = ((n + 3 : Nat) : Int) := by rw [wi64 (by omega)]; omega
    have hs4 : crcS (B.take n) < 4294967296 := crcS_lt
    have hle : ∀ w, St w0 H w → n ≤ cp := fun w hw => by have := (hr.lcap hw).1; omega
    generalize crcS (B.take n) = s at *
    generalize B.getD n 0 = y0 at *
    generalize B.getD (n + 1) 0 = y1 at *
    generalize B.getD (n + 2) 0 = y2 at *
    generalize B.getD (n + 3) 0 = y3 at *
    refine enter (vs := [.pointer (some ⟨t, 0, none⟩), .slice p (n + 4) cp]) Tryz.func87 rfl rfl rfl hw ?_
    clear hw w
    repeat (first | (apply gJO; first | refine JO_v (V_sub rfl rfl c1 rfl) ?_ | refine JO_v (V_slice3 (tb := tb) rfl rfl rfl rfl rfl rfl rfl hle rfl) ?_) | (refine sx ?_; try intro _))
    refine JO_call Tryz.call118 rfl rfl fun w hw => (hS w hw).mono ?_
    rintro e w' ⟨rfl, hw'⟩
    (refine ⟨_, rfl, _, hw', ?_⟩; clear hw' hw w w')
    have k0 : IntKind.u8.wrap (s : Int) = ((s % 256 : Nat) : Int) := by rw [mu8]; omega
    have d1 : (s : Int) / 2 ^ 8 = ((s / 256 : Nat) : Int) := by omega
    have d2 : (s : Int) / 2 ^ 16 = ((s / 65536 : Nat) : Int) := by omega
    have d3 : (s : Int) / 2 ^ 24 = ((s / 16777216 : Nat) : Int) := by omega
    have k1 : IntKind.u8.wrap ((s / 256 : Nat) : Int) = ((s / 256 % 256 : Nat) : Int) := by rw [mu8]; omega
    have k2 : IntKind.u8.wrap ((s / 65536 : Nat) : Int) = ((s / 65536 % 256 : Nat) : Int) := by rw [mu8]; omega
    have k3 : IntKind.u8.wrap ((s / 16777216 : Nat) : Int) = ((s / 16777216 % 256 : Nat) : Int) := by rw [mu8]; omega
    generalize s % 256 = s0 at *
    generalize s / 256 % 256 = s1 at *
    generalize s / 65536 % 256 = s2 at *
    generalize s / 16777216 % 256 = s3 at *
    by_cases q0 : y0 = (s0 : Int)
    · by_cases q1 : y1 = (s1 : Int)
      · by_cases q2 : y2 = (s2 : Int)
        · by_cases q3 : y3 = (s3 : Int)
          · have hg := hf.2 ⟨q0, q1, q2, q3⟩
            clear hf
            repeat (first | (apply gJO; first | refine JO_v (V_add rfl rfl a1 rfl) ?_ | refine JO_v (V_add rfl rfl a2 rfl) ?_ | refine JO_v (V_add rfl rfl a3 rfl) ?_ | refine JO_v (V_shr (m := 8) rfl rfl (by decide) rfl d1 rfl) ?_ | refine JO_v (V_shr (m := 16) rfl rfl (by decide) rfl d2 rfl) ?_ | refine JO_v (V_shr (m := 24) rfl rfl (by decide) rfl d3 rfl) ?_ | refine JO_v (V_conv (tb := tb) rfl rfl rfl k0 rfl) ?_ | refine JO_v (V_conv (tb := tb) rfl rfl rfl k1 rfl) ?_ | refine JO_v (V_conv (tb := tb) rfl rfl rfl k2 rfl) ?_ | refine JO_v (V_conv (tb := tb) rfl rfl rfl k3 rfl) ?_ | refine JO_v (oIA (V_index (tb := tb) rfl rfl rfl rfl (Rd.sl hr) (by omega) (by (try simp only [tn, tna, tn1, tn2, tn3, tn4, tnd16, tnd8, Int.reduceToNat]); first | exact Nat.mul_one _ | exact rfl) rfl)) ?_ | refine JO_v (oL (V_loadC (tb := tb) rfl hr rfl rfl g0 rfl)) ?_ | refine JO_v (oL (V_loadC (tb := tb) rfl hr rfl rfl g1 rfl)) ?_ | refine JO_v (oL (V_loadC (tb := tb) rfl hr rfl rfl g2 rfl)) ?_ | refine JO_v (oL (V_loadC (tb := tb) rfl hr rfl rfl g3 rfl)) ?_) | (refine sx ?_; try intro _))
            exact JS_ret Tryz.func87 rfl rfl fun w hw => ⟨⟨true, rfl, by simp [hg]⟩, hw⟩
          all_goals
            have hg : ¬ fitB B := fun h => q3 (hf.1 h).2.2.2
            clear hf
            repeat (first | (apply gJO; first | refine JO_v (V_add rfl rfl a1 rfl) ?_ | refine JO_v (V_add rfl rfl a2 rfl) ?_ | refine JO_v (V_add rfl rfl a3 rfl) ?_ | refine JO_v (V_shr (m := 8) rfl rfl (by decide) rfl d1 rfl) ?_ | refine JO_v (V_shr (m := 16) rfl rfl (by decide) rfl d2 rfl) ?_ | refine JO_v (V_shr (m := 24) rfl rfl (by decide) rfl d3 rfl) ?_ | refine JO_v (V_conv (tb := tb) rfl rfl rfl k0 rfl) ?_ | refine JO_v (V_conv (tb := tb) rfl rfl rfl k1 rfl) ?_ | refine JO_v (V_conv (tb := tb) rfl rfl rfl k2 rfl) ?_ | refine JO_v (V_conv (tb := tb) rfl rfl rfl k3 rfl) ?_ | refine JO_v (oIA (V_index (tb := tb) rfl rfl rfl rfl (Rd.sl hr) (by omega) (by (try simp only [tn, tna, tn1, tn2, tn3, tn4, tnd16, tnd8, Int.reduceToNat]); first | exact Nat.mul_one _ | exact rfl) rfl)) ?_ | refine JO_v (oL (V_loadC (tb := tb) rfl hr rfl rfl g0 rfl)) ?_ | refine JO_v (oL (V_loadC (tb := tb) rfl hr rfl rfl g1 rfl)) ?_ | refine JO_v (oL (V_loadC (tb := tb) rfl hr rfl rfl g2 rfl)) ?_ | refine JO_v (oL (V_loadC (tb := tb) rfl hr rfl rfl g3 rfl)) ?_) | (refine sx ?_; try intro _))
            exact JS_ret Tryz.func87 rfl rfl fun w hw => ⟨⟨false, rfl, by simp [hg]⟩, hw⟩
        all_goals
          have hg : ¬ fitB B := fun h => q2 (hf.1 h).2.2.1
          clear hf
          repeat (first | (apply gJO; first | refine JO_v (V_add rfl rfl a1 rfl) ?_ | refine JO_v (V_add rfl rfl a2 rfl) ?_ | refine JO_v (V_shr (m := 8) rfl rfl (by decide) rfl d1 rfl) ?_ | refine JO_v (V_shr (m := 16) rfl rfl (by decide) rfl d2 rfl) ?_ | refine JO_v (V_conv (tb := tb) rfl rfl rfl k0 rfl) ?_ | refine JO_v (V_conv (tb := tb) rfl rfl rfl k1 rfl) ?_ | refine JO_v (V_conv (tb := tb) rfl rfl rfl k2 rfl) ?_ | refine JO_v (oIA (V_index (tb := tb) rfl rfl rfl rfl (Rd.sl hr) (by omega) (by (try simp only [tn, tna, tn1, tn2, tn3, tn4, tnd16, tnd8, Int.reduceToNat]); first | exact Nat.mul_one _ | exact rfl) rfl)) ?_ | refine JO_v (oL (V_loadC (tb := tb) rfl hr rfl rfl g0 rfl)) ?_ | refine JO_v (oL (V_loadC (tb := tb) rfl hr rfl rfl g1 rfl)) ?_ | refine JO_v (oL (V_loadC (tb := tb) rfl hr rfl rfl g2 rfl)) ?_) | (refine sx ?_; try intro _))
          exact JS_ret Tryz.func87 rfl rfl fun w hw => ⟨⟨false, rfl, by simp [hg]⟩, hw⟩
      all_goals
        have hg : ¬ fitB B := fun h => q1 (hf.1 h).2.1
        clear hf
        repeat (first | (apply gJO; first | refine JO_v (V_add rfl rfl a1 rfl) ?_ | refine JO_v (V_shr (m := 8) rfl rfl (by decide) rfl d1 rfl) ?_ | refine JO_v (V_conv (tb := tb) rfl rfl rfl k0 rfl) ?_ | refine JO_v (V_conv (tb := tb) rfl rfl rfl k1 rfl) ?_ | refine JO_v (oIA (V_index (tb := tb) rfl rfl rfl rfl (Rd.sl hr) (by omega) (by (try simp only [tn, tna, tn1, tn2, tn3, tn4, tnd16, tnd8, Int.reduceToNat]); first | exact Nat.mul_one _ | exact rfl) rfl)) ?_ | refine JO_v (oL (V_loadC (tb := tb) rfl hr rfl rfl g0 rfl)) ?_ | refine JO_v (oL (V_loadC (tb := tb) rfl hr rfl rfl g1 rfl)) ?_) | (refine sx ?_; try intro _))
        exact JS_ret Tryz.func87 rfl rfl fun w hw => ⟨⟨false, rfl, by simp [hg]⟩, hw⟩
    all_goals
      have hg : ¬ fitB B := fun h => q0 (hf.1 h).1
      clear hf
      repeat (first | (apply gJO; first | refine JO_v (V_conv (tb := tb) rfl rfl rfl k0 rfl) ?_ | refine JO_v (oIA (V_index (tb := tb) rfl rfl rfl rfl (Rd.sl hr) (by omega) (by (try simp only [tn, tna, tn1, tn2, tn3, tn4, tnd16, tnd8, Int.reduceToNat]); first | exact Nat.mul_one _ | exact rfl) rfl)) ?_ | refine JO_v (oL (V_loadC (tb := tb) rfl hr rfl rfl g0 rfl)) ?_) | (refine sx ?_; try intro _))
      exact JS_ret Tryz.func87 rfl rfl fun w hw => ⟨⟨false, rfl, by simp [hg]⟩, hw⟩
end
end Go.Proofs.YteelffkghidpfaaGreat

namespace Go.Proofs.YteelffkghidpfaaGreat
open Sx Go
set_option linter.unusedVariables false
set_option linter.unusedSimpArgs false
set_option maxRecDepth 100000
theorem Rd_takeC {w0 : World} {H : List Asn} {p : Option Addr} {m c n : Nat} {X : List Int} (h : Rd w0 H (.slice p m c) m (ints .u8 X)) (hn : n ≤ m) : Rd w0 H (.slice (subB p 0 c 1) (n - 0) (c - 0)) (n - 0) (ints .u8 (X.take n)) := by
  have := Rd_sub (lo := 0) (hi := n) (sz := 1) h (Nat.zero_le _) hn
  rw [Nat.zero_mul, List.drop_zero, Nat.mul_one, Nat.sub_zero] at this
  rw [Nat.sub_zero]
  unfold ints at this ⊢
  rw [List.map_take]
  exact this
section
variable {w0 : World} {H : List Asn}
theorem RFits_c (m : Nat) (p : Option Addr) (cp : Nat) (B : List Int) (hr : Rd w0 H (.slice p m cp) m (ints .u8 B)) (hm : B.length = m) (hB : OKB B) (hm1 : m ≤ 140737488355328) (w : World) (hw : St w0 H w) :
    Calls Tryz.prog 50 #[.slice p m cp] w fun e w' => ∃ b, e = .returned (.bool b) ∧ (b = true ↔ fitB B) ∧ St w0 H w' := by
  rcases Nat.lt_or_ge m 4 with h4 | h4
  · have hn : ¬ fitB B := fun h => by have := h.1; omega
    refine enter (vs := [.slice p m cp]) Tryz.func50 rfl rfl rfl hw ?_
    clear hw w
    repeat (first | apply hIx 1 | (refine sx ?_; try intro _))
    refine Hold.go ?_
    refine JS_seq ?_
    refine JS_order [0, 1, 2, 3, 4, 5, 6, 7, 8, 12, 13, 14, 15, 16, 17, 9, 10, 11, 18, 19, 20] [] (Picks.cons rfl (Picks.cons rfl (Picks.cons rfl (Picks.cons rfl (Picks.cons rfl (Picks.cons rfl (Picks.cons rfl (Picks.cons rfl (Picks.cons rfl (Picks.cons rfl (Picks.cons rfl (Picks.cons rfl (Picks.cons rfl (Picks.cons rfl (Picks.cons rfl (Picks.cons rfl (Picks.cons rfl (Picks.cons rfl (Picks.cons rfl (Picks.cons rfl (Picks.cons rfl (Picks.nil)))))))))))))))))))))) (by kernel_rfl) (by kernel_rfl) rfl (by decide +kernel) ?_
    repeat (refine sx ?_; try intro _)
    exact JS_ret Tryz.func50 rfl rfl fun w hw => ⟨false, rfl, by simp [hn], hw⟩
  · obtain ⟨n, rfl⟩ : ∃ n, m = n + 4 := ⟨m - 4, by omega⟩
    have hT := Rd_takeC (n := n) hr (by omega)
    have hD := Rd_dropC (n := n) hr hm (by omega)
    have hok := okb_take hB n
    have hokd := hB.drop n
    have hlt : (B.take n).length = n := by rw [List.length_take]; omega
    have hld : (B.drop n).length = n + 4 - n := by rw [List.length_drop, hm]
    have hfe : fitB B ↔ leB 4 (crcS (B.take n)) = B.drop n := by
      unfold fitB
      rw [hm, show n + 4 - 4 = n by omega]
      exact ⟨fun h => h.2, fun h => ⟨by omega, h⟩⟩
    have c1 : IntKind.i64.wrap (((n + 4 : Nat) : Int) - 4) = (n : Int) := by rw [wi64 (by omega)]; omega
    have hS := fun w hw => RSum_c (w0 := w0) (H := H) (n - 0) (subB p 0 cp 1) (cp - 0) (B.take n) hT (by omega) hok (by omega) w hw
    have hs4 : crcS (B.take n) < 4294967296 := crcS_lt
    have hb4 := leB_okb 4 (crcS (B.take n))
    have hl4 := leB_len 4 (crcS (B.take n))
    have hcap := fun w hw => (hr.lcap (w := w) hw).1
    generalize B.take n = X at *
    generalize B.drop n = Y at *
    have hBy := fun {H'} w hw => RBytes_c4 (w0 := w0) (H := H') (crcS X) hs4 w hw
    generalize crcS X = s at *
    generalize leB 4 s = L4 at *
    refine enter (vs := [.slice p (n + 4) cp]) Tryz.func50 rfl rfl rfl hw ?_
    clear hw w
    repeat (first | apply hIx 1 | (refine sx ?_; try intro _))
    refine Hold.go ?_
    refine JS_seq ?_
    refine JS_order [0, 1, 2, 3, 4, 5, 6, 7, 8, 12, 13, 14, 15, 16, 17, 9, 10, 11, 18, 19, 20] [] (Picks.cons rfl (Picks.cons rfl (Picks.cons rfl (Picks.cons rfl (Picks.cons rfl (Picks.cons rfl (Picks.cons rfl (Picks.cons rfl (Picks.cons rfl (Picks.cons rfl (Picks.cons rfl (Picks.cons rfl (Picks.cons rfl (Picks.cons rfl (Picks.cons rfl (Picks.cons rfl (Picks.cons rfl (Picks.cons rfl (Picks.cons rfl (Picks.cons rfl (Picks.cons rfl (Picks.nil)))))))))))))))))))))) (by kernel_rfl) (by kernel_rfl) rfl (by decide +kernel) ?_
    repeat (first | (apply gQO; first | refine QO_v rfl (V_sub rfl rfl c1 rfl) ?_ | refine QO_v rfl (V_slice (tb := tb) (lo := 0) (hi := n) rfl rfl rfl rfl rfl rfl rfl (fun w hw => ⟨by omega, by have := hcap w hw; omega⟩) rfl) ?_ | refine QO_v rfl (V_slice (tb := tb) (lo := n) (hi := n + 4) rfl rfl rfl rfl rfl rfl rfl (fun w hw => ⟨by omega, by have := hcap w hw; omega⟩) rfl) ?_ | refine QO_v rfl (V_str (tb := tb) rfl hD hld rfl rfl rfl rfl) ?_) | (refine sx ?_; try intro _))
    refine QO_call Tryz.call54 rfl rfl fun w hw => (hS w hw).mono ?_
    rintro e w' ⟨rfl, hw'⟩
    (refine ⟨_, rfl, _, hw', .inl fun w hw => dS hw, ?_⟩; clear hw' hw w w')
    repeat (refine sx ?_; try intro _)
    refine QO_call Tryz.call53 rfl rfl fun w hw => (hBy w hw).mono ?_
    rintro e w' ⟨q1, d1, rfl, hw'⟩
    (refine ⟨_, rfl, _, hw', .inl fun w hw => dS hw, ?_⟩; clear hw' hw w w')
    by_cases he : L4 = Y
    · repeat (first | (apply gQO; first | refine QO_v rfl (V_str (tb := tb) rfl (vec_rd (List.Mem.head _)) hl4 rfl rfl rfl rfl) ?_ | refine QO_v rfl (V_eqStr rfl rfl hb4 hokd rfl) ?_) | (refine sx ?_; try intro _))
      refine JS_ret Tryz.func50 rfl rfl fun w hw => ⟨_, rfl, ?_, dS hw⟩
      simp [hfe]
    · repeat (first | (apply gQO; first | refine QO_v rfl (V_str (tb := tb) rfl (vec_rd (List.Mem.head _)) hl4 rfl rfl rfl rfl) ?_ | refine QO_v rfl (V_eqStr rfl rfl hb4 hokd rfl) ?_) | (refine sx ?_; try intro _))
      refine JS_ret Tryz.func50 rfl rfl fun w hw => ⟨_, rfl, ?_, dS hw⟩
      simp [hfe]
end
end Go.Proofs.YteelffkghidpfaaGreat

set_option linter.unusedVariables false
set_option linter.unusedSimpArgs false
namespace Go.Proofs.YteelffkghidpfaaGreat
open Sx Go
def adS (B : List Int) : Nat → Int × Int
  | 0 => (1, 0)
  | i + 1 => (((adS B i).1 + B.getD i 0) % 65521, ((adS B i).2 + ((adS B i).1 + B.getD i 0) % 65521) % 65521)
def adl (B : List Int) : Int := 65536 * (adS B B.length).2 + (adS B B.length).1
theorem adS_bd (B : List Int) (hB : OKB B) : ∀ i, 0 ≤ (adS B i).1 ∧ (adS B i).1 < 65521 ∧ 0 ≤ (adS B i).2 ∧ (adS B i).2 < 65521
  | 0 => by simp [adS]
  | i + 1 => by
    have h := adS_bd B hB i
    have hb := hB i
    simp only [adS]
    omega
theorem adl_bd {B : List Int} (hB : OKB B) : 0 ≤ adl B ∧ adl B < 4294967296 := by
  have h := adS_bd B hB B.length
  unfold adl; omega
theorem or16_u64 {a b : Int} (ha : 0 ≤ a ∧ a < 65536) (hb : 0 ≤ b ∧ b < 65536) : IntKind.u64.wrap ((BitVec.ofInt IntKind.u64.bits (b * 65536) ||| BitVec.ofInt IntKind.u64.bits a).toNat) = 65536 * b + a := by
  have hbits : (2 : Int) ^ IntKind.u64.bits = 18446744073709551616 := by decide
  rw [or_nat .u64 ⟨by omega, by rw [hbits]; omega⟩ ⟨by omega, by rw [hbits]; omega⟩]
  have h := Nat.two_pow_add_eq_or_of_lt (i := 16) (b := a.toNat) (by omega) b.toNat
  have e : (b * 65536).toNat = 2 ^ 16 * b.toNat := by omega
  rw [e, ← h]
  exact (wu64 (by omega)).trans (by omega)
section
variable {w0 : World} {H : List Asn}
set_option maxRecDepth 10000 in
theorem AOf_c (w : World) (hw : St w0 H w) : Calls Tryz.prog 156 #[.int .u32 1] w fun e w' => e = .returned (.agg #[.int .u64 1, .int .u64 0]) ∧ St w0 H w' := by
  refine enter (vs := [.int .u32 1]) Tryz.func156 rfl rfl rfl hw ?_
  clear hw w
  repeat (first | (apply gJO; refine JO_v (V_and rfl rfl (c := 1) (by decide) rfl) ?_) | (refine sx ?_; try intro _))
  refine JS_retC (tb := tb) (vs := [.agg #[.int .u64 1, .int .u64 0]]) Tryz.func156 rfl (by first | exact ResV.agg (tb := tb) rfl (by repeat (first | apply List.Mem.head | apply List.Mem.tail)) rfl rfl rfl ResV.nil | exact ResV.agg (tb := tb) rfl (by repeat (first | apply List.Mem.head | apply List.Mem.tail)) rfl rfl rfl (ResV.tmp rfl ResV.nil) | exact ResV.agg (tb := tb) rfl (by repeat (first | apply List.Mem.head | apply List.Mem.tail)) rfl rfl rfl (ResV.tmp rfl (ResV.tmp rfl ResV.nil)) | exact ResV.one (tb := tb) rfl (by repeat (first | apply List.Mem.head | apply List.Mem.tail)) rfl rfl rfl ResV.nil | exact ResV.one (tb := tb) rfl (by repeat (first | apply List.Mem.head | apply List.Mem.tail)) rfl rfl rfl (ResV.tmp rfl ResV.nil) | exact ResV.one (tb := tb) rfl (by repeat (first | apply List.Mem.head | apply List.Mem.tail)) rfl rfl rfl (ResV.one (tb := tb) rfl (by repeat (first | apply List.Mem.head | apply List.Mem.tail)) rfl rfl rfl ResV.nil) | exact ResV.tmp rfl (ResV.agg (tb := tb) rfl (by repeat (first | apply List.Mem.head | apply List.Mem.tail)) rfl rfl rfl ResV.nil) | exact ResV.tmp rfl (ResV.one (tb := tb) rfl (by repeat (first | apply List.Mem.head | apply List.Mem.tail)) rfl rfl rfl ResV.nil)) ?_
  intro w hw
  exact ⟨rfl, hw.drop⟩
set_option maxRecDepth 10000 in
theorem AAdd_c (b : Nat) (p q x : Int) (hp : 0 ≤ p ∧ p < 65521) (hq : 0 ≤ q ∧ q < 65521) (hx : 0 ≤ x ∧ x < 256) (w : World) (hw : St w0 (blk b [.int .u64 p, .int .u64 q] :: H) w) :
    Calls Tryz.prog 157 #[.pointer (some ⟨b, 0, none⟩), .int .u8 x] w fun e w' => e = .returned (.tuple #[]) ∧ St w0 (blk b [.int .u64 ((p + x) % 65521), .int .u64 ((q + (p + x) % 65521) % 65521)] :: H) w' := by
  refine enter (vs := [.pointer (some ⟨b, 0, none⟩), .int .u8 x]) Tryz.func157 rfl rfl rfl hw ?_
  clear hw w
  repeat (refine sx ?_; try intro _)
  refine JS_fin Tryz.func157 rfl rfl (vs := []) fun w hw => ⟨rfl, hw⟩
set_option maxRecDepth 10000 in
theorem ASumP_c (p q : Int) (hp : 0 ≤ p ∧ p < 65521) (hq : 0 ≤ q ∧ q < 65521) (w : World) (hw : St w0 H w) :
    Calls Tryz.prog 158 #[.agg #[.int .u64 p, .int .u64 q]] w fun e w' => e = .returned (.int .u32 (65536 * q + p)) ∧ St w0 H w' := by
  refine enter (vs := [.agg #[.int .u64 p, .int .u64 q]]) Tryz.func158 rfl rfl rfl hw ?_
  clear hw w
  have hsh : IntKind.u64.wrap (q * 2 ^ 16) = q * 65536 := wu64 (by omega)
  repeat (first | (apply gJO; refine JO_v (V_shl (m := 16) rfl rfl (by decide) rfl hsh rfl) ?_) | (apply gJO; refine JO_v (V_or rfl rfl (or16_u64 ⟨hp.1, by omega⟩ ⟨hq.1, by omega⟩) rfl) ?_) | (refine sx ?_; try intro _))
  refine JS_ret Tryz.func158 rfl rfl fun w hw => ⟨rfl, hw.drop⟩
set_option maxRecDepth 10000 in
set_option maxHeartbeats 2000000 in
theorem AMore_c (p : Option Addr) (c m : Nat) (B : List Int) (hr : Rd w0 H (.slice p m c) m (ints .u8 B)) (hm : B.length = m) (hB : OKB B) (hmx : m ≤ 140737488355328) (w : World) (hw : St w0 H w) :
    Calls Tryz.prog 120 #[.int .u32 1, .slice p m c] w fun e w' => e = .returned (.int .u32 (adl B)) ∧ St w0 H w' := by
  refine enter (vs := [.int .u32 1, .slice p m c]) Tryz.func120 rfl rfl rfl hw ?_
  clear hw w
  repeat (refine sx ?_; try intro _)
  refine JO_call Tryz.call156 rfl rfl fun w hw => (AOf_c w hw).mono ?_
  rintro e w' ⟨rfl, hw'⟩
  refine ⟨_, rfl, _, hw', ?_⟩
  clear hw' hw w w'
  repeat (refine sx ?_; try intro _)
  rename_i b
  refine JS_loop1 (fun (i : Nat) => [(1, .slice p m c), (5, .pointer (some ⟨b, 0, none⟩)), (6, .func (.func 157) #[.pointer (some ⟨b, 0, none⟩)] #[]), (12, .slice p m c), (13, .int .i64 m), (14, .int .i64 i)]) (fun i => blk b [.int .u64 (adS B i).1, .int .u64 (adS B i).2] :: H) (fun i => i ≤ m) (fun i => m - i) 0 (Nat.zero_le _) (by repeat (first | exact trivial | refine ⟨rfl, ?_⟩ | refine ⟨lookI rfl (by omega), ?_⟩)) (fun w h => h) ?_
  intro i hi again
  have hbd := adS_bd B hB i
  by_cases him : i < m
  · have gB : (ints .u8 B)[i]? = some (.int .u8 (B.getD i 0)) := ints_get (by omega)
    have hb := hB i
    have hs : adS B (i + 1) = (((adS B i).1 + B.getD i 0) % 65521, ((adS B i).2 + ((adS B i).1 + B.getD i 0) % 65521) % 65521) := rfl
    repeat (first | (apply gJO; refine JO_v (oL (V_loadC (tb := tb) rfl (Rd_weak hr fun w hw => dS hw) rfl rfl gB rfl)) ?_) | (refine sx ?_; try intro _))
    refine JO_callv (us := [.pointer (some ⟨b, 0, none⟩)]) (cs := []) rfl Tryz.call157 rfl rfl fun w hw => (AAdd_c b (adS B i).1 (adS B i).2 (B.getD i 0) ⟨hbd.1, hbd.2.1⟩ ⟨hbd.2.2.1, hbd.2.2.2⟩ hb w hw).mono ?_
    rintro e w' ⟨rfl, hw'⟩
    refine ⟨_, rfl, _, hw', ?_⟩
    clear hw' hw w w'
    repeat (refine sx ?_; try intro _)
    exact JS_again1 again (i + 1) (by omega) (by omega) (by repeat (first | exact trivial | refine ⟨rfl, ?_⟩ | refine ⟨lookI rfl (by omega), ?_⟩)) (fun w hw => by rw [hs]; exact hw)
  · obtain rfl : i = m := by omega
    clear again
    repeat (refine sx ?_; try intro _)
    refine JO_call Tryz.call158 rfl rfl fun w hw => (ASumP_c (adS B i).1 (adS B i).2 ⟨hbd.1, hbd.2.1⟩ ⟨hbd.2.2.1, hbd.2.2.2⟩ w hw).mono ?_
    rintro e w' ⟨rfl, hw'⟩
    refine ⟨_, rfl, _, hw', ?_⟩
    clear hw' hw w w'
    repeat (refine sx ?_; try intro _)
    refine JS_ret Tryz.func120 rfl rfl fun w hw => ⟨by unfold adl; rw [hm]; rfl, hw.drop⟩
theorem ASum_c (p : Option Addr) (c m : Nat) (B : List Int) (hr : Rd w0 H (.slice p m c) m (ints .u8 B)) (hm : B.length = m) (hB : OKB B) (hmx : m ≤ 140737488355328) (w : World) (hw : St w0 H w) :
    Calls Tryz.prog 79 #[.slice p m c] w fun e w' => e = .returned (.int .u32 (adl B)) ∧ St w0 H w' := by
  refine enter (vs := [.slice p m c]) Tryz.func79 rfl rfl rfl hw ?_
  clear hw w
  repeat (refine sx ?_; try intro _)
  refine JO_call Tryz.call120 rfl rfl fun w hw => (AMore_c p c m B hr hm hB hmx w hw).mono ?_
  rintro e w' ⟨rfl, hw'⟩
  refine ⟨_, rfl, _, hw', ?_⟩
  clear hw' hw w w'
  repeat (refine sx ?_; try intro _)
  refine JS_ret Tryz.func79 rfl rfl fun w hw => ⟨rfl, hw⟩
set_option maxRecDepth 10000 in
set_option maxHeartbeats 2000000 in
theorem RMore3_c (p : Option Addr) (c m : Nat) (B : List Int) (hr : Rd w0 H (.slice p m c) m (ints .u8 B)) (hm : B.length = m) (hB : OKB B) (hmx : m ≤ 140737488355328) (w : World) (hw : St w0 H w) :
    Calls Tryz.prog 176 #[.int .u32 1, .slice p m c] w fun e w' => e = .returned (.int .u32 (adl B)) ∧ St w0 H w' := by
  refine enter (vs := [.int .u32 1, .slice p m c]) Tryz.func176 rfl rfl rfl hw ?_
  clear hw w
  repeat (refine sx ?_; try intro _)
  refine JS_loop1 (fun (i : Nat) => [(1, .slice p m c), (5, .int .u32 (adS B i).1), (6, .int .u32 (adS B i).2), (7, .int .i64 i)]) (fun i => H) (fun i => i ≤ m) (fun i => m - i) 0 (Nat.zero_le _) (by repeat (first | exact trivial | refine ⟨rfl, ?_⟩ | refine ⟨lookI rfl (by omega), ?_⟩)) (fun w h => h) ?_
  intro i hi again
  have hbd := adS_bd B hB i
  by_cases him : i < m
  · have gB : (ints .u8 B)[i]? = some (.int .u8 (B.getD i 0)) := ints_get (by omega)
    have hb := hB i
    have hs : adS B (i + 1) = (((adS B i).1 + B.getD i 0) % 65521, ((adS B i).2 + ((adS B i).1 + B.getD i 0) % 65521) % 65521) := rfl
    have hs2 : (((adS B i).1 + B.getD i 0) % 65521 + (adS B i).2) % 65521 = (adS B (i + 1)).2 := by rw [hs, Int.add_comm]
    repeat (first | (apply gJO; refine JO_v (oL (V_loadC (tb := tb) rfl (Rd_weak hr fun w hw => dS hw) rfl rfl gB rfl)) ?_) | (refine sx ?_; try intro _))
    rw [hs2, show ((adS B i).1 + B.getD i 0) % 65521 = (adS B (i + 1)).1 by rw [hs]]
    exact JS_again1 again (i + 1) (by omega) (by omega) (by repeat (first | exact trivial | refine ⟨rfl, ?_⟩ | refine ⟨lookI rfl (by omega), ?_⟩)) (fun w hw => hw)
  · obtain rfl : i = m := by omega
    clear again
    have hfin : 65536 * (adS B i).2 + (adS B i).1 = adl B := by unfold adl; rw [hm]
    repeat (refine sx ?_; try intro _)
    refine JS_ret Tryz.func176 rfl rfl fun w hw => ⟨by rw [← hfin]; rfl, hw⟩
theorem RSum3_c (p : Option Addr) (c m : Nat) (B : List Int) (hr : Rd w0 H (.slice p m c) m (ints .u8 B)) (hm : B.length = m) (hB : OKB B) (hmx : m ≤ 140737488355328) (w : World) (hw : St w0 H w) :
    Calls Tryz.prog 126 #[.slice p m c] w fun e w' => e = .returned (.int .u32 (adl B)) ∧ St w0 H w' := by
  refine enter (vs := [.slice p m c]) Tryz.func126 rfl rfl rfl hw ?_
  clear hw w
  repeat (refine sx ?_; try intro _)
  refine JO_call Tryz.call176 rfl rfl fun w hw => (RMore3_c p c m B hr hm hB hmx w hw).mono ?_
  rintro e w' ⟨rfl, hw'⟩
  refine ⟨_, rfl, _, hw', ?_⟩
  clear hw' hw w w'
  repeat (refine sx ?_; try intro _)
  refine JS_ret Tryz.func126 rfl rfl fun w hw => ⟨rfl, hw⟩
end
end Go.Proofs.YteelffkghidpfaaGreat

set_option linter.unusedVariables false
set_option linter.unusedSimpArgs false
namespace Sx
open Go
def RoIn (e size : Nat) (v : Value) (n : Nat) (cs : List Value) (w : World) (fp : List Nat) : Prop :=
  cs.length = n * size ∧ ∃ g cap cur fr, v = .slice (some ⟨g, 0, none⟩) n cap ∧ fp = [g] ∧ w.heap[g]? = some (.cells cur e fr) ∧ n ≤ cap ∧ cur.size = cap * size ∧ cur.toList.take (n * size) = cs
@[irreducible] def roV (e size : Nat) (v : Value) (n : Nat) (cs : List Value) : Asn where
  holds := RoIn e size v n cs
  frame w w' fp h hk := by
    obtain ⟨h1, g, cap, cur, fr, h3, rfl, h4, h5⟩ := h
    exact ⟨h1, g, cap, cur, fr, h3, rfl, by rw [hk g (by simp)]; exact h4, h5⟩
  live w fp h b hb := by
    obtain ⟨h1, g, cap, cur, fr, h3, rfl, h4, h5⟩ := h
    simp at hb; subst hb; exact (Array.getElem?_eq_some_iff.1 h4).1
theorem roV_holds {e size v n cs w fp} : (roV e size v n cs).holds w fp ↔ RoIn e size v n cs w fp := by unfold roV; exact Iff.rfl
theorem roV_rd {w0 H e size v n cs} (h : roV e size v n cs ∈ H) : Rd w0 H v n cs := by
  unfold Rd
  intro w hw
  obtain ⟨f, hf⟩ := hw.mem h
  rw [roV_holds] at hf
  obtain ⟨h1, g, cap, cur, fr, rfl, rfl, hg, hn, hs, ht⟩ := hf
  refine ⟨⟨_, cap, rfl, (fun h => nomatch h), hn⟩, fun j u hu => ⟨⟨g, j, none⟩, by simp [cellPtr_eq, add_blk], ?_⟩⟩
  have hc : w.cell? ⟨g, j, none⟩ = cur[j]? := by simp [World.cell?, hg]
  rw [hc]
  rw [← ht, List.getElem?_take] at hu
  split at hu
  · simpa using hu
  · cases hu
theorem E_convSl {P : Program} {n : Nat} {D : List Deferred} {w0 : World} {ov : Ov} {H : List Asn} {d : Option Nat} {T : Nat} {pos : String} {af : Array Edge} {g : Option (Nat × Bool)} {x : Operand} {tb : Tb P} {T1 e s1 b1 s2 b2 m : Nat} {z1 z2 : Option (List Value)} {u : Value} {cs : List Value} {F : Asn → List Asn}
    (hx : ev ov x = some u) (h1 : tlook tb.l T1 = some ⟨.slice e, s1, b1, z1⟩) (h2 : tlook tb.l e = some ⟨.int .u8, s2, b2, z2⟩) (hu : Sel H (vec e 1 u m cs) F) (hm : 0 < m) (hd : dOk d n = true) :
    OpE (ι := Unit) P n D w0 ov H ⟨d, .convert T1 T1 x, T, pos, af, g⟩ (fun _ => u) (fun _ => F (roV e 1 u m cs)) := by
  unfold OpE
  refine ⟨hd, fun A w ha hw => ?_⟩
  obtain ⟨fp, hfp⟩ := hw.mem hu.mem
  rw [vec_holds] at hfp
  rcases hfp.2 with ⟨base, rfl, rfl, _⟩ | ⟨gb, cap, cur, rfl, _, hg, hn, hcm, hsz, ht⟩
  · omega
  · have hlt := (Array.getElem?_eq_some_iff.1 hg).1
    have hsh : w.shape? gb = some (e, cur.size) := by simp [World.shape?, hg]
    refine ⟨(), w.freeze ⟨gb, cur.size, none⟩ 1, ?_, ?_⟩
    · simp [execOp, ha.ev hx, convert, run_underlying (und_slice h1), run_underlying (und_int h2), markStringish, shape, freeze, Sem.run, hsh]
    · have hheap : (w.freeze ⟨gb, cur.size, none⟩ 1).heap[gb]? = some (.cells cur e (cur.size, cur.size + 1)) := by
        simp [World.freeze, Array.getElem?_modify, hg]
      refine hw.upd (hu.upd _) (by simp [World.freeze]) (by simp [World.freeze]) (by simp [World.freeze]) (by simp [World.freeze]) fun f1 hf1 => ?_
      rw [vec_holds] at hf1
      rcases hf1.2 with ⟨base, hb, _⟩ | ⟨g', cap', cur', hv', hfq, hg', _⟩
      · simp at hb; omega
      · simp at hv'
        obtain ⟨rfl, rfl⟩ := hv'
        subst hfq
        refine ⟨fun b hb hne => ?_, [gb], by simp, by simp, roV_holds.2 ⟨hfp.1, gb, cap, cur, _, rfl, rfl, hheap, hn, hsz, ht⟩⟩
        have : gb ≠ b := fun h => hne (by simp [h])
        simp [World.freeze, Array.getElem?_modify, this]
end Sx

set_option linter.unusedVariables false
set_option linter.unusedSimpArgs false
namespace Go.Proofs.YteelffkghidpfaaGreat
open Sx Go
def sb4 (s : Int) : List Int := [s / 16777216, s / 65536 % 256, s / 256 % 256, s % 256]
def hdOK (B : List Int) : Prop := 2 ≤ B.length ∧ B.getD 0 0 % 16 = 8 ∧ B.getD 0 0 / 16 ≤ 7 ∧ B.getD 1 0 / 32 % 2 = 0 ∧ (256 * B.getD 0 0 + B.getD 1 0) % 31 = 0
instance (B : List Int) : Decidable (hdOK B) := by unfold hdOK; infer_instance
theorem and15_u8 {x : Int} (hx : 0 ≤ x ∧ x < 256) : IntKind.u8.wrap ((BitVec.ofInt IntKind.u8.bits x &&& BitVec.ofInt IntKind.u8.bits 15).toNat) = x % 16 := by
  obtain ⟨n, rfl⟩ : ∃ n : Nat, x = n := ⟨x.toNat, by omega⟩
  have h : ∀ k : Fin 256, IntKind.u8.wrap ((BitVec.ofInt IntKind.u8.bits (k.val : Int) &&& BitVec.ofInt IntKind.u8.bits 15).toNat) = (k.val : Int) % 16 := by decide +kernel
  exact h ⟨n, by omega⟩
theorem and32_u8 {x : Int} (hx : 0 ≤ x ∧ x < 256) : IntKind.u8.wrap ((BitVec.ofInt IntKind.u8.bits x &&& BitVec.ofInt IntKind.u8.bits 32).toNat) = x / 32 % 2 * 32 := by
  obtain ⟨n, rfl⟩ : ∃ n : Nat, x = n := ⟨x.toNat, by omega⟩
  have h : ∀ k : Fin 256, IntKind.u8.wrap ((BitVec.ofInt IntKind.u8.bits (k.val : Int) &&& BitVec.ofInt IntKind.u8.bits 32).toNat) = (k.val : Int) / 32 % 2 * 32 := by decide +kernel
  exact h ⟨n, by omega⟩
theorem or8_i64 {a b : Int} (ha : 0 ≤ a ∧ a < 256) (hb : 0 ≤ b ∧ b < 256) : IntKind.i64.wrap ((BitVec.ofInt IntKind.i64.bits (b * 256) ||| BitVec.ofInt IntKind.i64.bits a).toNat) = 256 * b + a := by
  have hbits : (2 : Int) ^ IntKind.i64.bits = 18446744073709551616 := by decide
  rw [or_nat .i64 ⟨by omega, by rw [hbits]; omega⟩ ⟨by omega, by rw [hbits]; omega⟩]
  have h := Nat.two_pow_add_eq_or_of_lt (i := 8) (b := a.toNat) (by omega) b.toNat
  have e : (b * 256).toNat = 2 ^ 8 * b.toNat := by omega
  rw [e, ← h]
  exact (wi64 (by omega)).trans (by omega)
section
variable {w0 : World} {H : List Asn}
set_option maxRecDepth 10000 in
set_option maxHeartbeats 2000000 in
theorem ZHead_c (p : Option Addr) (c m : Nat) (B : List Int) (hr : Rd w0 H (.slice p m c) m (ints .u8 B)) (hm : B.length = m) (hB : OKB B) (w : World) (hw : St w0 H w) :
    Calls Tryz.prog 152 #[.slice p m c] w fun e w' => e = .returned (.bool (decide (hdOK B))) ∧ St w0 H w' := by
  refine enter (vs := [.slice p m c]) Tryz.func152 rfl rfl rfl hw ?_
  clear hw w
  by_cases h2 : m < 2
  · have hd : decide (hdOK B) = false := by rw [decide_eq_false_iff_not]; unfold hdOK; omega
    rw [hd]
    repeat (refine sx ?_; try intro _)
    refine JS_ret Tryz.func152 rfl rfl fun w hw => ⟨rfl, hw⟩
  have b0 := hB 0
  have b1 := hB 1
  have g0 : (ints .u8 B)[0]? = some (.int .u8 (B.getD 0 0)) := ints_get (by omega)
  have g1 : (ints .u8 B)[1]? = some (.int .u8 (B.getD 1 0)) := ints_get (by omega)
  have hdef : decide (hdOK B) = decide (B.getD 0 0 % 16 = 8 ∧ B.getD 0 0 / 16 ≤ 7 ∧ B.getD 1 0 / 32 % 2 = 0 ∧ (256 * B.getD 0 0 + B.getD 1 0) % 31 = 0) := decide_eq_decide.2 ⟨fun h => h.2, fun h => ⟨by omega, h⟩⟩
  rw [hdef]
  clear hdef
  obtain ⟨x, hx⟩ : ∃ x, B.getD 0 0 = x := ⟨_, rfl⟩
  obtain ⟨y, hy⟩ : ∃ y, B.getD 1 0 = y := ⟨_, rfl⟩
  rw [hx] at b0 g0
  rw [hy] at b1 g1
  rw [hx, hy]
  have a1 := and15_u8 b0
  have a2 := and32_u8 b1
  have sh : IntKind.i64.wrap (x * 2 ^ 8) = x * 256 := wi64 (by omega)
  have a3 := or8_i64 b1 b0
  by_cases h8 : x % 16 = 8
  case' neg => have hd : decide (x % 16 = 8 ∧ x / 16 ≤ 7 ∧ y / 32 % 2 = 0 ∧ (256 * x + y) % 31 = 0) = false := by rw [decide_eq_false_iff_not]; omega
  case' pos =>
    by_cases h7 : x / 16 ≤ 7
    case' neg => have hd : decide (x % 16 = 8 ∧ x / 16 ≤ 7 ∧ y / 32 % 2 = 0 ∧ (256 * x + y) % 31 = 0) = false := by rw [decide_eq_false_iff_not]; omega
    case' pos =>
      by_cases h5 : y / 32 % 2 = 0
      case' neg => have hd : decide (x % 16 = 8 ∧ x / 16 ≤ 7 ∧ y / 32 % 2 = 0 ∧ (256 * x + y) % 31 = 0) = false := by rw [decide_eq_false_iff_not]; omega
      case' pos =>
        by_cases h31 : (256 * x + y) % 31 = 0
        case' neg => have hd : decide (x % 16 = 8 ∧ x / 16 ≤ 7 ∧ y / 32 % 2 = 0 ∧ (256 * x + y) % 31 = 0) = false := by rw [decide_eq_false_iff_not]; omega
        case' pos => have hd : decide (x % 16 = 8 ∧ x / 16 ≤ 7 ∧ y / 32 % 2 = 0 ∧ (256 * x + y) % 31 = 0) = true := by rw [decide_eq_true_iff]; omega
  all_goals
    rw [hd]
    clear hd
    repeat (first | (apply gQO; refine QO_v rfl (oL (V_loadC (tb := tb) rfl (Rd_weak hr fun w hw => dS hw) rfl rfl g0 rfl)) ?_) | (apply gQO; refine QO_v rfl (oL (V_loadC (tb := tb) rfl (Rd_weak hr fun w hw => dS hw) rfl rfl g1 rfl)) ?_) | (apply gQO; refine QO_v rfl (V_and rfl rfl a1 rfl) ?_) | (apply gQO; refine QO_v rfl (V_and rfl rfl a2 rfl) ?_) | (apply gQO; refine QO_v rfl (V_shl (m := 8) rfl rfl (by decide) rfl sh rfl) ?_) | (apply gQO; refine QO_v rfl (V_or rfl rfl a3 rfl) ?_) | (apply gQO; refine QO_v rfl (V_shr (m := 4) rfl rfl (by decide) rfl rfl rfl) ?_) | (refine sx ?_; try intro _))
    refine JS_ret Tryz.func152 rfl rfl fun w hw => ⟨rfl, hw⟩
set_option maxRecDepth 10000 in
set_option maxHeartbeats 2000000 in
theorem RHead_c (p : Option Addr) (c m : Nat) (B : List Int) (hr : Rd w0 H (.slice p m c) m (ints .u8 B)) (hm : B.length = m) (hB : OKB B) (w : World) (hw : St w0 H w) :
    Calls Tryz.prog 95 #[.slice p m c] w fun e w' => e = .returned (.bool (decide (hdOK B))) ∧ St w0 H w' := by
  refine enter (vs := [.slice p m c]) Tryz.func95 rfl rfl rfl hw ?_
  clear hw w
  by_cases h2 : m < 2
  · have hd : decide (hdOK B) = false := by rw [decide_eq_false_iff_not]; unfold hdOK; omega
    rw [hd]
    repeat (refine sx ?_; try intro _)
    refine JS_ret Tryz.func95 rfl rfl fun w hw => ⟨rfl, hw⟩
  have b0 := hB 0
  have b1 := hB 1
  have g0 : (ints .u8 B)[0]? = some (.int .u8 (B.getD 0 0)) := ints_get (by omega)
  have g1 : (ints .u8 B)[1]? = some (.int .u8 (B.getD 1 0)) := ints_get (by omega)
  have hdef : decide (hdOK B) = decide (B.getD 0 0 % 16 = 8 ∧ B.getD 0 0 / 16 ≤ 7 ∧ B.getD 1 0 / 32 % 2 = 0 ∧ (256 * B.getD 0 0 + B.getD 1 0) % 31 = 0) := decide_eq_decide.2 ⟨fun h => h.2, fun h => ⟨by omega, h⟩⟩
  rw [hdef]
  clear hdef
  obtain ⟨x, hx⟩ : ∃ x, B.getD 0 0 = x := ⟨_, rfl⟩
  obtain ⟨y, hy⟩ : ∃ y, B.getD 1 0 = y := ⟨_, rfl⟩
  rw [hx] at b0 g0
  rw [hy] at b1 g1
  rw [hx, hy]
  by_cases h8 : x % 16 = 8
  case' neg => have hd : decide (x % 16 = 8 ∧ x / 16 ≤ 7 ∧ y / 32 % 2 = 0 ∧ (256 * x + y) % 31 = 0) = false := by rw [decide_eq_false_iff_not]; omega
  case' pos =>
    by_cases h7 : x / 16 ≤ 7
    case' neg => have hd : decide (x % 16 = 8 ∧ x / 16 ≤ 7 ∧ y / 32 % 2 = 0 ∧ (256 * x + y) % 31 = 0) = false := by rw [decide_eq_false_iff_not]; omega
    case' pos =>
      by_cases h5 : y / 32 % 2 = 0
      case' neg => have hd : decide (x % 16 = 8 ∧ x / 16 ≤ 7 ∧ y / 32 % 2 = 0 ∧ (256 * x + y) % 31 = 0) = false := by rw [decide_eq_false_iff_not]; omega
      case' pos =>
        by_cases h31 : (256 * x + y) % 31 = 0
        case' neg => have hd : decide (x % 16 = 8 ∧ x / 16 ≤ 7 ∧ y / 32 % 2 = 0 ∧ (256 * x + y) % 31 = 0) = false := by rw [decide_eq_false_iff_not]; omega
        case' pos => have hd : decide (x % 16 = 8 ∧ x / 16 ≤ 7 ∧ y / 32 % 2 = 0 ∧ (256 * x + y) % 31 = 0) = true := by rw [decide_eq_true_iff]; omega
  all_goals
    rw [hd]
    clear hd
    repeat (first | (apply gQO; refine QO_v rfl (oL (V_loadC (tb := tb) rfl (Rd_weak hr fun w hw => dS hw) rfl rfl g0 rfl)) ?_) | (apply gQO; refine QO_v rfl (oL (V_loadC (tb := tb) rfl (Rd_weak hr fun w hw => dS hw) rfl rfl g1 rfl)) ?_) | (refine sx ?_; try intro _))
    refine JS_ret Tryz.func95 rfl rfl fun w hw => ⟨rfl, hw⟩
set_option maxRecDepth 10000 in
theorem ZSum_c (p : Option Addr) (c m : Nat) (B : List Int) (hr : Rd w0 H (.slice p m c) m (ints .u8 B)) (hm : B.length = m) (hB : OKB B) (hmx : m ≤ 140737488355328) (w : World) (hw : St w0 H w) :
    Calls Tryz.prog 78 #[.slice p m c, .func (.func 79) #[] #[]] w fun e w' => e = .returned (.agg #[.int .u8 (adl B / 16777216), .int .u8 (adl B / 65536 % 256), .int .u8 (adl B / 256 % 256), .int .u8 (adl B % 256)]) ∧ St w0 H w' := by
  have hbd := adl_bd hB
  refine enter (vs := [.slice p m c, .func (.func 79) #[] #[]]) Tryz.func78 rfl rfl rfl hw ?_
  clear hw w
  repeat (refine sx ?_; try intro _)
  refine JO_callv (us := []) (cs := []) rfl Tryz.call79 rfl rfl fun w hw => (ASum_c p c m B (Rd_weak hr fun w hw => dS hw) hm hB hmx w hw).mono ?_
  rintro e w' ⟨rfl, hw'⟩
  obtain ⟨s, hs⟩ : ∃ s, adl B = s := ⟨_, rfl⟩
  rw [hs] at hbd ⊢
  refine ⟨_, rfl, _, hw', ?_⟩
  clear hw' hw w w'
  have c1 : IntKind.u8.wrap (s / 2 ^ 24) = s / 16777216 := wu8 (by omega)
  have c2 : IntKind.u8.wrap (s / 2 ^ 16) = s / 65536 % 256 := (mu8 _).trans (by omega)
  have c3 : IntKind.u8.wrap (s / 2 ^ 8) = s / 256 % 256 := (mu8 _).trans (by omega)
  have c4 : IntKind.u8.wrap s = s % 256 := mu8 _
  repeat (first | (apply gJO; refine JO_v (V_shr (m := 24) rfl rfl (by decide) rfl rfl rfl) ?_) | (apply gJO; refine JO_v (V_shr (m := 16) rfl rfl (by decide) rfl rfl rfl) ?_) | (apply gJO; refine JO_v (V_shr (m := 8) rfl rfl (by decide) rfl rfl rfl) ?_) | (apply gJO; first | refine JO_v (oCv (V_conv (tb := tb) rfl rfl rfl c1 rfl)) ?_ | refine JO_v (oCv (V_conv (tb := tb) rfl rfl rfl c2 rfl)) ?_ | refine JO_v (oCv (V_conv (tb := tb) rfl rfl rfl c3 rfl)) ?_ | refine JO_v (oCv (V_conv (tb := tb) rfl rfl rfl c4 rfl)) ?_) | (apply gJO; refine JO_v (V_buildA (tb := tb) rfl rfl rfl rfl rfl) ?_) | (refine sx ?_; try intro _))
  refine JS_retC Tryz.func78 rfl (by first | exact ResV.agg (tb := tb) rfl (by repeat (first | apply List.Mem.head | apply List.Mem.tail)) rfl rfl rfl ResV.nil | exact ResV.agg (tb := tb) rfl (by repeat (first | apply List.Mem.head | apply List.Mem.tail)) rfl rfl rfl (ResV.tmp rfl ResV.nil) | exact ResV.agg (tb := tb) rfl (by repeat (first | apply List.Mem.head | apply List.Mem.tail)) rfl rfl rfl (ResV.tmp rfl (ResV.tmp rfl ResV.nil)) | exact ResV.one (tb := tb) rfl (by repeat (first | apply List.Mem.head | apply List.Mem.tail)) rfl rfl rfl ResV.nil | exact ResV.one (tb := tb) rfl (by repeat (first | apply List.Mem.head | apply List.Mem.tail)) rfl rfl rfl (ResV.tmp rfl ResV.nil) | exact ResV.one (tb := tb) rfl (by repeat (first | apply List.Mem.head | apply List.Mem.tail)) rfl rfl rfl (ResV.one (tb := tb) rfl (by repeat (first | apply List.Mem.head | apply List.Mem.tail)) rfl rfl rfl ResV.nil) | exact ResV.tmp rfl (ResV.agg (tb := tb) rfl (by repeat (first | apply List.Mem.head | apply List.Mem.tail)) rfl rfl rfl ResV.nil) | exact ResV.tmp rfl (ResV.one (tb := tb) rfl (by repeat (first | apply List.Mem.head | apply List.Mem.tail)) rfl rfl rfl ResV.nil)) ?_
  intro w hw
  exact ⟨rfl, dS hw⟩
set_option maxRecDepth 10000 in
theorem RSum9_c (p : Option Addr) (c m : Nat) (B : List Int) (hr : Rd w0 H (.slice p m c) m (ints .u8 B)) (hm : B.length = m) (hB : OKB B) (hmx : m ≤ 140737488355328) (w : World) (hw : St w0 H w) :
    Calls Tryz.prog 83 #[.slice p m c] w fun e w' => ∃ q d, e = .returned (.slice q 4 d) ∧ St w0 (vec 5 1 (.slice q 4 d) 4 (ints .u8 (sb4 (adl B))) :: H) w' := by
  have hbd := adl_bd hB
  refine enter (vs := [.slice p m c]) Tryz.func83 rfl rfl rfl hw ?_
  clear hw w
  repeat (refine sx ?_; try intro _)
  refine JO_call Tryz.call126 rfl rfl fun w hw => (RSum3_c p c m B hr hm hB hmx w hw).mono ?_
  rintro e w' ⟨rfl, hw'⟩
  obtain ⟨s, hs⟩ : ∃ s, adl B = s := ⟨_, rfl⟩
  rw [hs] at hbd ⊢
  refine ⟨_, rfl, _, hw', ?_⟩
  clear hw' hw w w'
  repeat (refine sx ?_; try intro _)
  rename_i pq
  refine JS_ret Tryz.func83 rfl rfl fun w hw => ⟨some pq, 4, rfl, hw⟩
end
end Go.Proofs.YteelffkghidpfaaGreat

/- Numbers with weights: plain facts. -/
namespace Go.Proofs.YteelffkghidpfaaGreat
open Sx Go
def flat : List (Int × Int) → List Value
  | [] => []
  | t :: r => .int .i64 t.1 :: .int .u64 t.2 :: flat r
def sw : List (Int × Int) → Int
  | [] => 0
  | t :: r => t.2 + sw r
def sp (low : Int) : List (Int × Int) → Int
  | [] => 0
  | t :: r => (t.1 - low) * t.2 + sp low r
def OKT (T : List (Int × Int)) : Prop := ∀ t ∈ T, (-9223372036854775808 ≤ t.1 ∧ t.1 < 9223372036854775808) ∧ (0 ≤ t.2 ∧ t.2 < 18446744073709551616)
theorem OKT.take {T : List (Int × Int)} (h : OKT T) (i : Nat) : OKT (T.take i) := fun t ht => h t (List.mem_of_mem_take ht)
theorem OKT.drop {T : List (Int × Int)} (h : OKT T) (i : Nat) : OKT (T.drop i) := fun t ht => h t (List.mem_of_mem_drop ht)
end Go.Proofs.YteelffkghidpfaaGreat

namespace Go.Proofs.YteelffkghidpfaaGreat
open Sx Go
set_option linter.unusedVariables false
set_option linter.unusedSimpArgs false
def lbase (n : Int) : Int × Int := if n < 257 ∨ 285 < n then (0, 0) else if n = 285 then (258, 0) else if n < 265 then (3 + (n - 257), 0) else (3 + (4 + (n - 257) % 4) * 2 ^ ((n - 257) / 4 - 1).toNat, (n - 257) / 4 - 1)
theorem Base_c {w0 : World} {H : List Asn} (s : Int) (hs : -9223372036854775808 ≤ s ∧ s < 9223372036854775808) (w : World) (hw : St w0 H w) :
    Calls Tryz.prog 242 #[.int .i64 s] w fun e w' => e = .returned (.tuple #[.int .i64 (lbase s).1, .int .i64 (lbase s).2]) ∧ St w0 H w' := by
  refine enter (vs := [.int .i64 s]) Tryz.func242 rfl rfl rfl hw ?_
  unfold lbase
  by_cases h1 : s < 257
  · rw [if_pos (.inl h1)]
    repeat (refine sx ?_; try intro _)
    exact JS_ret Tryz.func242 rfl rfl fun w hw => ⟨rfl, hw⟩
  by_cases h2 : 285 < s
  · rw [if_pos (.inr h2)]
    repeat (refine sx ?_; try intro _)
    exact JS_ret Tryz.func242 rfl rfl fun w hw => ⟨rfl, hw⟩
  rw [if_neg (by omega)]
  by_cases h3 : s = 285
  · rw [if_pos h3]
    repeat (refine sx ?_; try intro _)
    exact JS_ret Tryz.func242 rfl rfl fun w hw => ⟨rfl, hw⟩
  rw [if_neg h3]
  by_cases h4 : s < 265
  · rw [if_pos h4]
    repeat (refine sx ?_; try intro _)
    exact JS_ret Tryz.func242 rfl rfl fun w hw => ⟨rfl, hw⟩
  rw [if_neg h4]
  have h5 : ∃ k : Nat, (s - 257) / 4 - 1 = k ∧ (k = 1 ∨ k = 2 ∨ k = 3 ∨ k = 4 ∨ k = 5) := ⟨((s - 257) / 4 - 1).toNat, by omega, by omega⟩
  obtain ⟨k, hk, hk5⟩ := h5
  have hp : (2 : Int) ^ k ≤ 32 ∧ 1 ≤ (2 : Int) ^ k := by rcases hk5 with rfl | rfl | rfl | rfl | rfl <;> decide
  have hm : 0 ≤ (4 + (s - 257) % 4) * (2 : Int) ^ k ∧ (4 + (s - 257) % 4) * (2 : Int) ^ k ≤ 224 := by
    rcases hk5 with rfl | rfl | rfl | rfl | rfl <;> (simp only [Int.reducePow]; omega)
  have hw9 : IntKind.i64.wrap ((4 + (s - 257) % 4) * (2 : Int) ^ k) = (4 + (s - 257) % 4) * (2 : Int) ^ k := wi64 (by omega)
  have hmin : min ((s - 257) / 4 - 1).toNat IntKind.i64.bits = k := by
    rw [hk]; show min k 64 = k; omega
  have hkt : ((s - 257) / 4 - 1).toNat = k := by omega
  simp only [hkt]
  repeat (first | (apply gJO; refine JO_v (V_shl (m := k) rfl rfl (by omega) hmin hw9 rfl) ?_) | (refine sx ?_; try intro _))
  exact JS_ret Tryz.func242 rfl rfl fun w hw => ⟨rfl, hw⟩
theorem lbase_step : ∀ i : Nat, i < 27 → (lbase (257 + i)).1 + 2 ^ (lbase (257 + i)).2.toNat = (lbase (257 + (i + 1 : Nat))).1 := by
  have h : ∀ i : Fin 27, (lbase (257 + (i.val : Int))).1 + 2 ^ (lbase (257 + (i.val : Int))).2.toNat = (lbase (257 + ((i.val + 1 : Nat) : Int))).1 := by decide +kernel
  exact fun i hi => h ⟨i, hi⟩
theorem lbase_bd : ∀ i : Nat, i < 28 → 3 ≤ (lbase (257 + i)).1 ∧ (lbase (257 + i)).1 ≤ 258 ∧ 0 ≤ (lbase (257 + i)).2 ∧ (lbase (257 + i)).2 ≤ 5 ∧ (lbase (257 + i)).2 = if i < 8 then 0 else ((i : Int) - 4) / 4 := by
  have h : ∀ i : Fin 28, 3 ≤ (lbase (257 + (i.val : Int))).1 ∧ (lbase (257 + (i.val : Int))).1 ≤ 258 ∧ 0 ≤ (lbase (257 + (i.val : Int))).2 ∧ (lbase (257 + (i.val : Int))).2 ≤ 5 ∧ (lbase (257 + (i.val : Int))).2 = if i.val < 8 then 0 else ((i.val : Int) - 4) / 4 := by decide +kernel
  exact fun i hi => h ⟨i, hi⟩
set_option maxHeartbeats 1000000 in
theorem RBase_c {w0 : World} {H : List Asn} (s : Int) (hs : -9223372036854775808 ≤ s ∧ s < 9223372036854775808) (w : World) (hw : St w0 H w) :
    Calls Tryz.prog 181 #[.int .i64 s] w fun e w' => e = .returned (.tuple #[.int .i64 (lbase s).1, .int .i64 (lbase s).2]) ∧ St w0 H w' := by
  refine enter (vs := [.int .i64 s]) Tryz.func181 rfl rfl rfl hw ?_
  by_cases h1 : s < 257
  · rw [show lbase s = (0, 0) from if_pos (.inl h1)]
    repeat (refine sx ?_; try intro _)
    exact JS_ret Tryz.func181 rfl rfl fun w hw => ⟨rfl, hw⟩
  by_cases h2 : 285 < s
  · rw [show lbase s = (0, 0) from if_pos (.inr h2)]
    repeat (refine sx ?_; try intro _)
    exact JS_ret Tryz.func181 rfl rfl fun w hw => ⟨rfl, hw⟩
  by_cases h3 : s = 285
  · subst h3
    repeat (refine sx ?_; try intro _)
    exact JS_ret Tryz.func181 rfl rfl fun w hw => ⟨rfl, hw⟩
  repeat (first | (apply gJR; (refine sx ?_; try intro _)) | (apply gJO; (refine sx ?_; try intro _)) | apply JS_seq | apply JS_region | refine JS_condF rfl ?_ | refine JS_cond_F rfl (by omega) ?_ | apply JS_skip)
  refine JS_block ?_
  refine JS_loop1 (fun (i : Nat) => [(0, .int .i64 s), (4, .int .i64 (lbase (257 + i)).1), (5, .int .i64 (257 + i))]) (fun _ => H) (fun i => (i : Int) ≤ s - 257) (fun i => 100 - i) 0 (by omega) (by repeat (first | exact trivial | refine ⟨rfl, ?_⟩ | refine ⟨lookI rfl (by omega), ?_⟩)) (fun _ h => h) ?_
  intro i hi again
  obtain ⟨b1, b2, b3, b4, b5⟩ := lbase_bd i (by omega)
  by_cases he : (i : Int) = s - 257
  · obtain rfl : s = 257 + i := by omega
    clear again
    by_cases h8 : i < 8
    · rw [if_pos h8] at b5
      repeat (refine sx ?_; try intro _)
      refine JS_ret Tryz.func181 rfl rfl fun w hw => ⟨?_, hw⟩
      rw [b5]; rfl
    · rw [if_neg h8] at b5
      repeat (refine sx ?_; try intro _)
      refine JS_ret Tryz.func181 rfl rfl fun w hw => ⟨?_, hw⟩
      rw [b5, show (257 + (i : Int) - 261) = i - 4 by omega]; rfl
  · have hst := lbase_step i (by omega)
    obtain ⟨c1, c2, _⟩ := lbase_bd (i + 1) (by omega)
    have hcast : (257 + (i : Int)) + 1 = 257 + ((i + 1 : Nat) : Int) := by omega
    by_cases h8 : i < 8
    · rw [if_pos h8] at b5
      rw [b5] at hst
      have hst' : (lbase (257 + i)).1 + 1 = (lbase (257 + (i + 1 : Nat))).1 := hst
      repeat (first | (apply gJO; refine JO_v (V_shl (m := 0) (c := 1) rfl rfl (by omega) (by decide) (by decide) rfl) ?_) | (refine sx ?_; try intro _))
      exact JS_again1 again (i + 1) (by omega) (by omega) (by exact ⟨rfl, lookI rfl (by omega), lookI rfl (by omega), trivial⟩) (fun w hw => hw)
    · rw [if_neg h8] at b5
      have hk : ∃ k : Nat, ((i : Int) - 4) / 4 = k ∧ k ≤ 5 := ⟨(((i : Int) - 4) / 4).toNat, by omega, by omega⟩
      obtain ⟨k, hk, hk5⟩ := hk
      rw [b5, hk] at hst
      have hpw : (2 : Int) ^ k ≤ 32 ∧ 1 ≤ (2 : Int) ^ k := by
        rcases (show k = 0 ∨ k = 1 ∨ k = 2 ∨ k = 3 ∨ k = 4 ∨ k = 5 by omega) with rfl | rfl | rfl | rfl | rfl | rfl <;> decide
      have hst' : (lbase (257 + i)).1 + 2 ^ k = (lbase (257 + (i + 1 : Nat))).1 := hst
      have e1 : (257 + (i : Int) - 261) / 4 = k := by rw [show (257 + (i : Int) - 261) = i - 4 by omega]; exact hk
      have hw9 : IntKind.i64.wrap (1 * (2 : Int) ^ k) = (2 : Int) ^ k := (congrArg _ (Int.one_mul _)).trans (wi64 (by omega))
      have hmin : min ((257 + (i : Int) - 261) / 4).toNat IntKind.i64.bits = k := by
        rw [e1]; show min k 64 = k; omega
      repeat (first | (apply gJO; refine JO_v (V_shl (m := k) rfl rfl (by omega) hmin hw9 rfl) ?_) | (refine sx ?_; try intro _))
      exact JS_again1 again (i + 1) (by omega) (by omega) (by exact ⟨rfl, lookI rfl (by omega), lookI rfl (by omega), trivial⟩) (fun w hw => hw)
end Go.Proofs.YteelffkghidpfaaGreat

namespace Go.Proofs.YteelffkghidpfaaGreat
open Sx Go
set_option linter.unusedVariables false
set_option linter.unusedSimpArgs false
def lfar (n : Int) : Int × Int := if n < 0 ∨ 29 < n then (0, 0) else if n < 4 then (1 + n, 0) else (1 + (2 + n % 2) * 2 ^ (n / 2 - 1).toNat, n / 2 - 1)
theorem Far_c {w0 : World} {H : List Asn} (s : Int) (hs : -9223372036854775808 ≤ s ∧ s < 9223372036854775808) (w : World) (hw : St w0 H w) :
    Calls Tryz.prog 243 #[.int .i64 s] w fun e w' => e = .returned (.tuple #[.int .i64 (lfar s).1, .int .i64 (lfar s).2]) ∧ St w0 H w' := by
  refine enter (vs := [.int .i64 s]) Tryz.func243 rfl rfl rfl hw ?_
  unfold lfar
  by_cases h1 : s < 0
  · rw [if_pos (.inl h1)]
    repeat (refine sx ?_; try intro _)
    exact JS_ret Tryz.func243 rfl rfl fun w hw => ⟨rfl, hw⟩
  by_cases h2 : 29 < s
  · rw [if_pos (.inr h2)]
    repeat (refine sx ?_; try intro _)
    exact JS_ret Tryz.func243 rfl rfl fun w hw => ⟨rfl, hw⟩
  rw [if_neg (by omega)]
  by_cases h4 : s < 4
  · rw [if_pos h4]
    repeat (refine sx ?_; try intro _)
    exact JS_ret Tryz.func243 rfl rfl fun w hw => ⟨rfl, hw⟩
  rw [if_neg h4]
  have h5 : ∃ k : Nat, s / 2 - 1 = k ∧ k ≤ 13 := ⟨(s / 2 - 1).toNat, by omega, by omega⟩
  obtain ⟨k, hk, hk5⟩ := h5
  have hp : (2 : Int) ^ k ≤ 8192 ∧ 1 ≤ (2 : Int) ^ k := by
    have h : ∀ j : Fin 14, (2 : Int) ^ j.val ≤ 8192 ∧ 1 ≤ (2 : Int) ^ j.val := by decide +kernel
    exact h ⟨k, by omega⟩
  have hm : 0 ≤ (2 + s % 2) * (2 : Int) ^ k ∧ (2 + s % 2) * (2 : Int) ^ k ≤ 24576 := by
    rcases (show s % 2 = 0 ∨ s % 2 = 1 by omega) with h | h <;> (rw [h]; omega)
  have hw9 : IntKind.i64.wrap ((2 + s % 2) * (2 : Int) ^ k) = (2 + s % 2) * (2 : Int) ^ k := wi64 (by omega)
  have hmin : min (s / 2 - 1).toNat IntKind.i64.bits = k := by
    rw [hk]; show min k 64 = k; omega
  have hkt : (s / 2 - 1).toNat = k := by omega
  simp only [hkt]
  repeat (first | (apply gJO; refine JO_v (V_shl (m := k) rfl rfl (by omega) hmin hw9 rfl) ?_) | (refine sx ?_; try intro _))
  exact JS_ret Tryz.func243 rfl rfl fun w hw => ⟨rfl, hw⟩
theorem lfar_step : ∀ i : Nat, i < 29 → (lfar i).1 + 2 ^ (lfar i).2.toNat = (lfar (i + 1 : Nat)).1 := by
  have h : ∀ i : Fin 29, (lfar (i.val : Int)).1 + 2 ^ (lfar (i.val : Int)).2.toNat = (lfar ((i.val + 1 : Nat) : Int)).1 := by decide +kernel
  exact fun i hi => h ⟨i, hi⟩
theorem lfar_bd : ∀ i : Nat, i < 30 → 1 ≤ (lfar i).1 ∧ (lfar i).1 ≤ 24577 ∧ 0 ≤ (lfar i).2 ∧ (lfar i).2 ≤ 13 ∧ (lfar i).2 = if i < 4 then 0 else ((i : Int) - 2) / 2 := by
  have h : ∀ i : Fin 30, 1 ≤ (lfar (i.val : Int)).1 ∧ (lfar (i.val : Int)).1 ≤ 24577 ∧ 0 ≤ (lfar (i.val : Int)).2 ∧ (lfar (i.val : Int)).2 ≤ 13 ∧ (lfar (i.val : Int)).2 = if i.val < 4 then 0 else ((i.val : Int) - 2) / 2 := by decide +kernel
  exact fun i hi => h ⟨i, hi⟩
set_option maxHeartbeats 1000000 in
theorem RFar_c {w0 : World} {H : List Asn} (s : Int) (hs : -9223372036854775808 ≤ s ∧ s < 9223372036854775808) (w : World) (hw : St w0 H w) :
    Calls Tryz.prog 182 #[.int .i64 s] w fun e w' => e = .returned (.tuple #[.int .i64 (lfar s).1, .int .i64 (lfar s).2]) ∧ St w0 H w' := by
  refine enter (vs := [.int .i64 s]) Tryz.func182 rfl rfl rfl hw ?_
  by_cases h1 : s < 0
  · rw [show lfar s = (0, 0) from if_pos (.inl h1)]
    repeat (refine sx ?_; try intro _)
    exact JS_ret Tryz.func182 rfl rfl fun w hw => ⟨rfl, hw⟩
  by_cases h2 : 29 < s
  · rw [show lfar s = (0, 0) from if_pos (.inr h2)]
    repeat (refine sx ?_; try intro _)
    exact JS_ret Tryz.func182 rfl rfl fun w hw => ⟨rfl, hw⟩
  repeat (first | (apply gJR; (refine sx ?_; try intro _)) | (apply gJO; (refine sx ?_; try intro _)) | apply JS_seq | apply JS_region | refine JS_condF rfl ?_ | refine JS_cond_F rfl (by omega) ?_ | apply JS_skip)
  refine JS_block ?_
  refine JS_loop1 (fun (i : Nat) => [(0, .int .i64 s), (4, .int .i64 (lfar i).1), (5, .int .i64 i)]) (fun _ => H) (fun i => (i : Int) ≤ s) (fun i => 100 - i) 0 (by omega) (by exact ⟨rfl, rfl, rfl, trivial⟩) (fun _ h => h) ?_
  intro i hi again
  obtain ⟨b1, b2, b3, b4, b5⟩ := lfar_bd i (by omega)
  by_cases he : (i : Int) = s
  · obtain rfl : s = i := by omega
    clear again
    by_cases h8 : i < 4
    · rw [if_pos h8] at b5
      repeat (refine sx ?_; try intro _)
      refine JS_ret Tryz.func182 rfl rfl fun w hw => ⟨?_, hw⟩
      rw [b5]; rfl
    · rw [if_neg h8] at b5
      repeat (refine sx ?_; try intro _)
      refine JS_ret Tryz.func182 rfl rfl fun w hw => ⟨?_, hw⟩
      rw [b5]; rfl
  · have hst := lfar_step i (by omega)
    obtain ⟨c1, c2, _⟩ := lfar_bd (i + 1) (by omega)
    by_cases h8 : i < 4
    · rw [if_pos h8] at b5
      rw [b5] at hst
      have hst' : (lfar i).1 + 1 = (lfar (i + 1 : Nat)).1 := hst
      repeat (first | (apply gJO; refine JO_v (V_shl (m := 0) (c := 1) rfl rfl (by omega) (by decide) (by decide) rfl) ?_) | (refine sx ?_; try intro _))
      exact JS_again1 again (i + 1) (by omega) (by omega) (by exact ⟨rfl, lookI rfl (by omega), lookI rfl (by omega), trivial⟩) (fun w hw => hw)
    · rw [if_neg h8] at b5
      have hk : ∃ k : Nat, ((i : Int) - 2) / 2 = k ∧ k ≤ 13 := ⟨(((i : Int) - 2) / 2).toNat, by omega, by omega⟩
      obtain ⟨k, hk, hk5⟩ := hk
      rw [b5, hk] at hst
      have hpw : (2 : Int) ^ k ≤ 8192 ∧ 1 ≤ (2 : Int) ^ k := by
        have h : ∀ j : Fin 14, (2 : Int) ^ j.val ≤ 8192 ∧ 1 ≤ (2 : Int) ^ j.val := by decide +kernel
        exact h ⟨k, by omega⟩
      have hst' : (lfar i).1 + 2 ^ k = (lfar (i + 1 : Nat)).1 := hst
      have hw9 : IntKind.i64.wrap (1 * (2 : Int) ^ k) = (2 : Int) ^ k := (congrArg _ (Int.one_mul _)).trans (wi64 (by omega))
      have hmin : min (((i : Int) - 2) / 2).toNat IntKind.i64.bits = k := by
        rw [hk]; show min k 64 = k; omega
      repeat (first | (apply gJO; refine JO_v (V_shl (m := k) rfl rfl (by omega) hmin hw9 rfl) ?_) | (refine sx ?_; try intro _))
      exact JS_again1 again (i + 1) (by omega) (by omega) (by exact ⟨rfl, lookI rfl (by omega), lookI rfl (by omega), trivial⟩) (fun w hw => hw)
end Go.Proofs.YteelffkghidpfaaGreat
