import Derived.Test.YtmnilpjgkjkecaaGreatTb
import Derived.Shelf.SlSortCmp.NoneTotal
import Derived.Laws.MathBits
import Derived.Carry
import Derived.Maps.Keyed
import Derived.WideKeyEntry
import Derived.Test.YtmnilpjgkjkecaaGreatSxG
/- Steps whose side goals are sought by a default tactic: one word an operation. -/
namespace Go.Proofs.YtmnilpjgkjkecaaGreat
open Sx Go
section
variable {f n : Nat} {R : Ending → World → Prop} {D : List Deferred} {w0 : World} {k : List Item} {ov : Ov} {H H' : List Asn} {K : KC} {Z : Array Oper × List Nat}
  {ops : Array Oper} {l : List Oper} {d : Option Nat} {T T1 T2 : Nat} {pos : String} {af : Array Edge} {g : Option (Nat × Bool)} {x y z : Operand} {v u : Value} {op : Op} {bop : BinOp} {c : Call}
theorem oB (h : OpV Tryz.prog n D w0 ov H ⟨d, .binOp bop T1 x y T2, T, pos, af, g⟩ v) : OpV Tryz.prog n D w0 ov H ⟨d, .binOp bop T1 x y T2, T, pos, af, g⟩ v := h
theorem oK (h : OpV Tryz.prog n D w0 ov H ⟨d, .binOp bop T1 x (.const u) T2, T, pos, af, g⟩ v) : OpV Tryz.prog n D w0 ov H ⟨d, .binOp bop T1 x (.const u) T2, T, pos, af, g⟩ v := h
theorem ob_add (h : OpV Tryz.prog n D w0 ov H ⟨d, .binOp .add T1 x y T2, T, pos, af, g⟩ v) : OpV Tryz.prog n D w0 ov H ⟨d, .binOp .add T1 x y T2, T, pos, af, g⟩ v := h
theorem ob_sub (h : OpV Tryz.prog n D w0 ov H ⟨d, .binOp .sub T1 x y T2, T, pos, af, g⟩ v) : OpV Tryz.prog n D w0 ov H ⟨d, .binOp .sub T1 x y T2, T, pos, af, g⟩ v := h
theorem ob_mul (h : OpV Tryz.prog n D w0 ov H ⟨d, .binOp .mul T1 x y T2, T, pos, af, g⟩ v) : OpV Tryz.prog n D w0 ov H ⟨d, .binOp .mul T1 x y T2, T, pos, af, g⟩ v := h
theorem ob_quo (h : OpV Tryz.prog n D w0 ov H ⟨d, .binOp .quo T1 x y T2, T, pos, af, g⟩ v) : OpV Tryz.prog n D w0 ov H ⟨d, .binOp .quo T1 x y T2, T, pos, af, g⟩ v := h
theorem ob_rem (h : OpV Tryz.prog n D w0 ov H ⟨d, .binOp .rem T1 x y T2, T, pos, af, g⟩ v) : OpV Tryz.prog n D w0 ov H ⟨d, .binOp .rem T1 x y T2, T, pos, af, g⟩ v := h
theorem ob_and (h : OpV Tryz.prog n D w0 ov H ⟨d, .binOp .and T1 x y T2, T, pos, af, g⟩ v) : OpV Tryz.prog n D w0 ov H ⟨d, .binOp .and T1 x y T2, T, pos, af, g⟩ v := h
theorem ob_or (h : OpV Tryz.prog n D w0 ov H ⟨d, .binOp .or T1 x y T2, T, pos, af, g⟩ v) : OpV Tryz.prog n D w0 ov H ⟨d, .binOp .or T1 x y T2, T, pos, af, g⟩ v := h
theorem ob_xor (h : OpV Tryz.prog n D w0 ov H ⟨d, .binOp .xor T1 x y T2, T, pos, af, g⟩ v) : OpV Tryz.prog n D w0 ov H ⟨d, .binOp .xor T1 x y T2, T, pos, af, g⟩ v := h
theorem ob_shl (h : OpV Tryz.prog n D w0 ov H ⟨d, .binOp .shl T1 x y T2, T, pos, af, g⟩ v) : OpV Tryz.prog n D w0 ov H ⟨d, .binOp .shl T1 x y T2, T, pos, af, g⟩ v := h
theorem ob_shr (h : OpV Tryz.prog n D w0 ov H ⟨d, .binOp .shr T1 x y T2, T, pos, af, g⟩ v) : OpV Tryz.prog n D w0 ov H ⟨d, .binOp .shr T1 x y T2, T, pos, af, g⟩ v := h
theorem ob_eql (h : OpV Tryz.prog n D w0 ov H ⟨d, .binOp .eql T1 x y T2, T, pos, af, g⟩ v) : OpV Tryz.prog n D w0 ov H ⟨d, .binOp .eql T1 x y T2, T, pos, af, g⟩ v := h
theorem ob_neq (h : OpV Tryz.prog n D w0 ov H ⟨d, .binOp .neq T1 x y T2, T, pos, af, g⟩ v) : OpV Tryz.prog n D w0 ov H ⟨d, .binOp .neq T1 x y T2, T, pos, af, g⟩ v := h
theorem ob_lss (h : OpV Tryz.prog n D w0 ov H ⟨d, .binOp .lss T1 x y T2, T, pos, af, g⟩ v) : OpV Tryz.prog n D w0 ov H ⟨d, .binOp .lss T1 x y T2, T, pos, af, g⟩ v := h
theorem ob_leq (h : OpV Tryz.prog n D w0 ov H ⟨d, .binOp .leq T1 x y T2, T, pos, af, g⟩ v) : OpV Tryz.prog n D w0 ov H ⟨d, .binOp .leq T1 x y T2, T, pos, af, g⟩ v := h
theorem ob_gtr (h : OpV Tryz.prog n D w0 ov H ⟨d, .binOp .gtr T1 x y T2, T, pos, af, g⟩ v) : OpV Tryz.prog n D w0 ov H ⟨d, .binOp .gtr T1 x y T2, T, pos, af, g⟩ v := h
theorem ob_geq (h : OpV Tryz.prog n D w0 ov H ⟨d, .binOp .geq T1 x y T2, T, pos, af, g⟩ v) : OpV Tryz.prog n D w0 ov H ⟨d, .binOp .geq T1 x y T2, T, pos, af, g⟩ v := h
theorem oc_len {xs : Array Operand} {ts : Array Nat} (h : OpV Tryz.prog n D w0 ov H ⟨d, .call ⟨.builtin .len, xs, ts⟩, T, pos, af, g⟩ v) : OpV Tryz.prog n D w0 ov H ⟨d, .call ⟨.builtin .len, xs, ts⟩, T, pos, af, g⟩ v := h
theorem oc_cap {xs : Array Operand} {ts : Array Nat} (h : OpV Tryz.prog n D w0 ov H ⟨d, .call ⟨.builtin .cap, xs, ts⟩, T, pos, af, g⟩ v) : OpV Tryz.prog n D w0 ov H ⟨d, .call ⟨.builtin .cap, xs, ts⟩, T, pos, af, g⟩ v := h
theorem oc_min {xs : Array Operand} {ts : Array Nat} (h : OpV Tryz.prog n D w0 ov H ⟨d, .call ⟨.builtin .min, xs, ts⟩, T, pos, af, g⟩ v) : OpV Tryz.prog n D w0 ov H ⟨d, .call ⟨.builtin .min, xs, ts⟩, T, pos, af, g⟩ v := h
theorem oc_max {xs : Array Operand} {ts : Array Nat} (h : OpV Tryz.prog n D w0 ov H ⟨d, .call ⟨.builtin .max, xs, ts⟩, T, pos, af, g⟩ v) : OpV Tryz.prog n D w0 ov H ⟨d, .call ⟨.builtin .max, xs, ts⟩, T, pos, af, g⟩ v := h
theorem oMv (h : OpV Tryz.prog n D w0 ov H ⟨d, .move x, T, pos, af, g⟩ v) : OpV Tryz.prog n D w0 ov H ⟨d, .move x, T, pos, af, g⟩ v := h
theorem oAs (h : OpV Tryz.prog n D w0 ov H ⟨d, .assign x, T, pos, af, g⟩ v) : OpV Tryz.prog n D w0 ov H ⟨d, .assign x, T, pos, af, g⟩ v := h
theorem oL (h : OpV Tryz.prog n D w0 ov H ⟨d, .load T1 x, T, pos, af, g⟩ v) : OpV Tryz.prog n D w0 ov H ⟨d, .load T1 x, T, pos, af, g⟩ v := h
theorem oE (h : OpV Tryz.prog n D w0 ov H ⟨d, .extract x T1, T, pos, af, g⟩ v) : OpV Tryz.prog n D w0 ov H ⟨d, .extract x T1, T, pos, af, g⟩ v := h
theorem oCv (h : OpV Tryz.prog n D w0 ov H ⟨d, .convert T1 T2 x, T, pos, af, g⟩ v) : OpV Tryz.prog n D w0 ov H ⟨d, .convert T1 T2 x, T, pos, af, g⟩ v := h
theorem oP (h : OpV Tryz.prog n D w0 ov H ⟨d, .pick x y z, T, pos, af, g⟩ v) : OpV Tryz.prog n D w0 ov H ⟨d, .pick x y z, T, pos, af, g⟩ v := h
theorem oN (h : OpV Tryz.prog n D w0 ov H ⟨d, .nilCheck x, T, pos, af, g⟩ v) : OpV Tryz.prog n D w0 ov H ⟨d, .nilCheck x, T, pos, af, g⟩ v := h
theorem oFA (h : OpV Tryz.prog n D w0 ov H ⟨d, .fieldAddr T1 x T2, T, pos, af, g⟩ v) : OpV Tryz.prog n D w0 ov H ⟨d, .fieldAddr T1 x T2, T, pos, af, g⟩ v := h
theorem oIA (h : OpV Tryz.prog n D w0 ov H ⟨d, .indexAddr T1 x y, T, pos, af, g⟩ v) : OpV Tryz.prog n D w0 ov H ⟨d, .indexAddr T1 x y, T, pos, af, g⟩ v := h
theorem oI (h : OpV Tryz.prog n D w0 ov H ⟨d, .index T1 x y, T, pos, af, g⟩ v) : OpV Tryz.prog n D w0 ov H ⟨d, .index T1 x y, T, pos, af, g⟩ v := h
theorem oU {uop : UnOp} (h : OpV Tryz.prog n D w0 ov H ⟨d, .unOp uop T1 x, T, pos, af, g⟩ v) : OpV Tryz.prog n D w0 ov H ⟨d, .unOp uop T1 x, T, pos, af, g⟩ v := h
theorem oBd {ps : Array (Nat × Operand)} (h : OpV Tryz.prog n D w0 ov H ⟨d, .build T1 ps, T, pos, af, g⟩ v) : OpV Tryz.prog n D w0 ov H ⟨d, .build T1 ps, T, pos, af, g⟩ v := h
theorem oF {fn : Fn} {xs ys : Array Operand} (h : OpV Tryz.prog n D w0 ov H ⟨d, .makeFunc fn xs ys, T, pos, af, g⟩ v) : OpV Tryz.prog n D w0 ov H ⟨d, .makeFunc fn xs ys, T, pos, af, g⟩ v := h
theorem oSl {lo hi mx : Option Operand} (h : OpV Tryz.prog n D w0 ov H ⟨d, .slice T1 x lo hi mx, T, pos, af, g⟩ v) : OpV Tryz.prog n D w0 ov H ⟨d, .slice T1 x lo hi mx, T, pos, af, g⟩ v := h
theorem oJL (h : JO Tryz.prog f n R D w0 ops ⟨d, .load T1 x, T, pos, af, g⟩ l k ov H) : JO Tryz.prog f n R D w0 ops ⟨d, .load T1 x, T, pos, af, g⟩ l k ov H := h
theorem kS (h : JO Tryz.prog f n R D w0 ops ⟨d, .store T1 x y, T, pos, af, g⟩ l k ov H) : JO Tryz.prog f n R D w0 ops ⟨d, .store T1 x y, T, pos, af, g⟩ l k ov H := h
theorem kX (h : JO Tryz.prog f n R D w0 ops ⟨d, .box T1 x, T, pos, af, g⟩ l k ov H) : JO Tryz.prog f n R D w0 ops ⟨d, .box T1 x, T, pos, af, g⟩ l k ov H := h
theorem kA (h : JO Tryz.prog f n R D w0 ops ⟨d, .alloc T1, T, pos, af, g⟩ l k ov H) : JO Tryz.prog f n R D w0 ops ⟨d, .alloc T1, T, pos, af, g⟩ l k ov H := h
theorem kBs {ps : Array (Nat × Operand)} (h : JO Tryz.prog f n R D w0 ops ⟨d, .buildSlice T1 T2 ps, T, pos, af, g⟩ l k ov H) : JO Tryz.prog f n R D w0 ops ⟨d, .buildSlice T1 T2 ps, T, pos, af, g⟩ l k ov H := h
theorem kM (h : JO Tryz.prog f n R D w0 ops ⟨d, .makeSlice T1 x y, T, pos, af, g⟩ l k ov H) : JO Tryz.prog f n R D w0 ops ⟨d, .makeSlice T1 x y, T, pos, af, g⟩ l k ov H := h
theorem kC {xs : Array Operand} {ts : Array Nat} (h : JO Tryz.prog f n R D w0 ops ⟨d, .call ⟨.value x, xs, ts⟩, T, pos, af, g⟩ l k ov H) : JO Tryz.prog f n R D w0 ops ⟨d, .call ⟨.value x, xs, ts⟩, T, pos, af, g⟩ l k ov H := h
theorem aO (hn : JR Tryz.prog f n R D w0 ops l k (put d v ov) H) (h : OpV Tryz.prog n D w0 ov H ⟨d, op, T, pos, af, g⟩ v := by first | (apply oMv; exact V_move rfl rfl) | (apply oAs; exact V_assign rfl rfl) | (apply oL; first | exact V_load (tb := tb) rfl (by repeat (first | apply List.Mem.head | apply List.Mem.tail)) rfl rfl rfl rfl | exact V_loadC (tb := tb) rfl (by first | exact vec_rd (by repeat (first | apply List.Mem.head | apply List.Mem.tail)) | assumption | exact ArgRd.rd (by assumption) _ | (apply Rd_weak; assumption; intro _ hx; exact St.sub (by repeat (first | exact List.Sublist.refl _ | apply List.Sublist.cons_cons | apply List.Sublist.cons)) hx)) rfl rfl (by first | exact ints_get (by omega) | exact rfl) rfl | exact V_loadA (tb := tb) rfl (by repeat (first | apply List.Mem.head | apply List.Mem.tail)) rfl rfl rfl rfl) | (apply oB; first | (apply ob_add; first | exact V_add rfl rfl (by first | exact wi64 (by omega) | exact wu64 (by omega) | exact wu32 (by omega) | exact wu8 (by omega) | exact mu64 _ | exact mu32 _ | exact mu8 _ | exact mi64 _ | exact rfl) rfl) | (apply ob_sub; first | exact V_sub rfl rfl (by first | exact wi64 (by omega) | exact wu64 (by omega) | exact wu32 (by omega) | exact wu8 (by omega) | exact mu64 _ | exact mu32 _ | exact mu8 _ | exact mi64 _ | exact rfl) rfl) | (apply ob_mul; first | exact V_mul rfl rfl (by first | exact wi64 (by omega) | exact wu64 (by omega) | exact wu32 (by omega) | exact wu8 (by omega) | exact mu64 _ | exact mu32 _ | exact mu8 _ | exact mi64 _ | exact rfl) rfl) | (apply ob_eql; first | exact V_eqlT rfl rfl (by omega) rfl | exact V_eqlF rfl rfl (by omega) rfl | exact V_eql rfl rfl rfl) | (apply ob_neq; first | exact V_neqT rfl rfl (by omega) rfl | exact V_neqF rfl rfl (by omega) rfl | exact V_neq rfl rfl rfl) | (apply ob_lss; first | exact V_lssT rfl rfl (by omega) rfl | exact V_lssF rfl rfl (by omega) rfl | exact V_lss rfl rfl rfl) | (apply ob_leq; first | exact V_leqT rfl rfl (by omega) rfl | exact V_leqF rfl rfl (by omega) rfl | exact V_leq rfl rfl rfl) | (apply ob_gtr; first | exact V_gtrT rfl rfl (by omega) rfl | exact V_gtrF rfl rfl (by omega) rfl | exact V_gtr rfl rfl rfl) | (apply ob_geq; first | exact V_geqT rfl rfl (by omega) rfl | exact V_geqF rfl rfl (by omega) rfl | exact V_geq rfl rfl rfl) | (apply ob_quo; first | exact V_quo rfl rfl (by omega) (by first | exact IntWalk.i64_quo _ _ (by omega) | exact IntWalk.u64_quo _ _ (by omega) | exact IntWalk.u32_quo _ _ (by omega) | exact IntWalk.u8_quo _ _ (by omega)) rfl) | (apply ob_rem; first | exact V_rem rfl rfl (by omega) (Int.tmod_eq_emod_of_nonneg (by omega)) rfl) | (apply ob_and; first | exact V_and rfl rfl (by first | exact mask32_u64 (by omega) | exact mask_u64 8 (by decide) (by omega) rfl | exact mask_u64 16 (by decide) (by omega) rfl) rfl) | (apply ob_eql; first | exact V_eqP (tb := tb) rfl rfl rfl rfl | exact V_eqBB (tb := tb) rfl rfl rfl rfl | exact V_eqB (tb := tb) rfl rfl rfl rfl | exact V_eqNil (tb := tb) rfl rfl rfl rfl | exact V_eqStr rfl rfl (by assumption) (by assumption) rfl) | (apply ob_neq; first | exact V_neP (tb := tb) rfl rfl rfl rfl | exact V_neBB (tb := tb) rfl rfl rfl rfl | exact V_neB (tb := tb) rfl rfl rfl rfl | exact V_neStr rfl rfl (by assumption) (by assumption) rfl) | (apply oK; first | (apply ob_shr; exact V_shr (m := _) rfl rfl (by omega) (by simp only [IntKind.bits, Int.reduceToNat, Nat.reduceLeDiff, Nat.min_eq_left]; exact rfl) (by first | (simp only [Int.reducePow]; exact rfl) | exact rfl) rfl) | (apply ob_shl; exact V_shl (m := _) rfl rfl (by omega) (by simp only [IntKind.bits, Int.reduceToNat, Nat.reduceLeDiff, Nat.min_eq_left]; exact rfl) (by (try simp only [Int.reducePow]); first | exact wi64 (by omega) | exact wu64 (by omega) | exact wu32 (by omega) | exact wu8 (by omega) | exact mu64 _ | exact mu32 _ | exact mu8 _ | exact mi64 _ | exact rfl) rfl))) | (apply oE; first | exact V_extract rfl rfl rfl) | (apply oc_len; exact V_len (tb := tb) rfl rfl rfl) | (apply oc_len; exact V_lenS (tb := tb) rfl rfl rfl) | (apply oc_min; exact V_min rfl rfl rfl rfl) | (apply oc_max; exact V_max rfl rfl rfl rfl) | (apply oCv; first | exact V_conv (tb := tb) rfl rfl rfl (by first | exact wi64 (by omega) | exact wu64 (by omega) | exact wu32 (by omega) | exact wu8 (by omega) | exact mu64 _ | exact mu32 _ | exact mu8 _ | exact mi64 _ | exact rfl) rfl | exact V_str (tb := tb) rfl (by first | exact vec_rd (by repeat (first | apply List.Mem.head | apply List.Mem.tail)) | assumption | exact ArgRd.rd (by assumption) _ | (apply Rd_weak; assumption; intro _ hx; exact St.sub (by repeat (first | exact List.Sublist.refl _ | apply List.Sublist.cons_cons | apply List.Sublist.cons)) hx)) (by first | assumption | rfl | omega) rfl rfl rfl rfl) | (apply oP; first | exact V_pickT rfl rfl rfl | exact V_pickF rfl rfl rfl | exact V_pickB rfl rfl rfl rfl) | (apply oU; first | exact V_notD rfl rfl | exact V_not rfl rfl | exact V_neg rfl (by first | exact wi64 (by omega) | exact wu64 (by omega) | exact wu32 (by omega) | exact wu8 (by omega) | exact mu64 _ | exact mu32 _ | exact mu8 _ | exact mi64 _ | exact rfl) rfl) | (apply oN; first | exact V_nilCheck rfl rfl) | (apply oFA; first | exact V_field (tb := tb) rfl rfl rfl rfl rfl rfl | exact V_fieldC (tb := tb) rfl (by first | exact Rd.sl (vec_rd (by repeat (first | apply List.Mem.head | apply List.Mem.tail))) | exact Rd.sl (by assumption) | exact Rd.sl (ArgRd.rd (by assumption) _) | (apply Rd.sl; (apply Rd_weak; assumption; intro _ hx; exact St.sub (by repeat (first | exact List.Sublist.refl _ | apply List.Sublist.cons_cons | apply List.Sublist.cons)) hx))) (by omega) rfl rfl rfl rfl rfl) | (apply oIA; first | exact V_index (tb := tb) rfl rfl rfl rfl (by first | exact Rd.sl (vec_rd (by repeat (first | apply List.Mem.head | apply List.Mem.tail))) | exact Rd.sl (by assumption) | exact Rd.sl (ArgRd.rd (by assumption) _) | (apply Rd.sl; (apply Rd_weak; assumption; intro _ hx; exact St.sub (by repeat (first | exact List.Sublist.refl _ | apply List.Sublist.cons_cons | apply List.Sublist.cons)) hx))) (by omega) (by (try simp only [tn, tna, tn1, tn2, tn3, tn4, tnd16, tnd8, Int.reduceToNat]); first | exact Nat.mul_one _ | exact rfl) rfl | exact V_indexA (tb := tb) rfl rfl rfl rfl (by omega) rfl) | (apply oBd; first | exact V_build (tb := tb) rfl rfl rfl rfl rfl) | (apply oF; first | exact V_makeFunc rfl rfl rfl)) : JO Tryz.prog f n R D w0 ops ⟨d, op, T, pos, af, g⟩ l k ov H := JO_v h hn
theorem aU (hn : JR Tryz.prog f n R D w0 ops l k (put d v ov) H) (h : OpV Tryz.prog n D w0 ov H ⟨d, op, T, pos, af, g⟩ v := by first | (apply oMv; exact V_move rfl rfl) | (apply oAs; exact V_assign rfl rfl) | (apply oL; first | exact V_load (tb := tb) rfl (by repeat (first | apply List.Mem.head | apply List.Mem.tail)) rfl rfl rfl rfl | exact V_loadC (tb := tb) rfl (by first | exact vec_rd (by repeat (first | apply List.Mem.head | apply List.Mem.tail)) | assumption | exact ArgRd.rd (by assumption) _ | (apply Rd_weak; assumption; intro _ hx; exact St.sub (by repeat (first | exact List.Sublist.refl _ | apply List.Sublist.cons_cons | apply List.Sublist.cons)) hx)) rfl rfl (by first | exact ints_get (by omega) | exact rfl) rfl | exact V_loadA (tb := tb) rfl (by repeat (first | apply List.Mem.head | apply List.Mem.tail)) rfl rfl rfl rfl) | (apply oB; first | (apply ob_add; first | exact V_add rfl rfl (by first | exact mu64 _ | exact mu32 _ | exact mu8 _ | exact rfl) rfl) | (apply ob_sub; first | exact V_sub rfl rfl (by first | exact mu64 _ | exact mu32 _ | exact mu8 _ | exact rfl) rfl) | (apply ob_mul; first | exact V_mul rfl rfl (by first | exact mu64 _ | exact mu32 _ | exact mu8 _ | exact rfl) rfl) | (apply ob_eql; first | exact V_eqlT rfl rfl (by omega) rfl | exact V_eqlF rfl rfl (by omega) rfl | exact V_eql rfl rfl rfl) | (apply ob_neq; first | exact V_neqT rfl rfl (by omega) rfl | exact V_neqF rfl rfl (by omega) rfl | exact V_neq rfl rfl rfl) | (apply ob_lss; first | exact V_lssT rfl rfl (by omega) rfl | exact V_lssF rfl rfl (by omega) rfl | exact V_lss rfl rfl rfl) | (apply ob_leq; first | exact V_leqT rfl rfl (by omega) rfl | exact V_leqF rfl rfl (by omega) rfl | exact V_leq rfl rfl rfl) | (apply ob_gtr; first | exact V_gtrT rfl rfl (by omega) rfl | exact V_gtrF rfl rfl (by omega) rfl | exact V_gtr rfl rfl rfl) | (apply ob_geq; first | exact V_geqT rfl rfl (by omega) rfl | exact V_geqF rfl rfl (by omega) rfl | exact V_geq rfl rfl rfl) | (apply ob_quo; first | exact V_quo rfl rfl (by omega) (by first | exact IntWalk.i64_quo _ _ (by omega) | exact IntWalk.u64_quo _ _ (by omega) | exact IntWalk.u32_quo _ _ (by omega) | exact IntWalk.u8_quo _ _ (by omega)) rfl) | (apply ob_rem; first | exact V_rem rfl rfl (by omega) (Int.tmod_eq_emod_of_nonneg (by omega)) rfl) | (apply ob_and; first | exact V_and rfl rfl (by first | exact mask32_u64 (by omega) | exact mask_u64 8 (by decide) (by omega) rfl | exact mask_u64 16 (by decide) (by omega) rfl) rfl) | (apply ob_eql; first | exact V_eqP (tb := tb) rfl rfl rfl rfl | exact V_eqBB (tb := tb) rfl rfl rfl rfl | exact V_eqB (tb := tb) rfl rfl rfl rfl | exact V_eqNil (tb := tb) rfl rfl rfl rfl | exact V_eqStr rfl rfl (by assumption) (by assumption) rfl) | (apply ob_neq; first | exact V_neP (tb := tb) rfl rfl rfl rfl | exact V_neBB (tb := tb) rfl rfl rfl rfl | exact V_neB (tb := tb) rfl rfl rfl rfl | exact V_neStr rfl rfl (by assumption) (by assumption) rfl) | (apply oK; first | (apply ob_shr; exact V_shr (m := _) rfl rfl (by omega) (by simp only [IntKind.bits, Int.reduceToNat, Nat.reduceLeDiff, Nat.min_eq_left]; exact rfl) (by first | (simp only [Int.reducePow]; exact rfl) | exact rfl) rfl) | (apply ob_shl; exact V_shl (m := _) rfl rfl (by omega) (by simp only [IntKind.bits, Int.reduceToNat, Nat.reduceLeDiff, Nat.min_eq_left]; exact rfl) (by (try simp only [Int.reducePow]); first | exact mu64 _ | exact mu32 _ | exact mu8 _ | exact rfl) rfl))) | (apply oE; first | exact V_extract rfl rfl rfl) | (apply oc_len; exact V_len (tb := tb) rfl rfl rfl) | (apply oc_len; exact V_lenS (tb := tb) rfl rfl rfl) | (apply oc_min; exact V_min rfl rfl rfl rfl) | (apply oc_max; exact V_max rfl rfl rfl rfl) | (apply oCv; first | exact V_conv (tb := tb) rfl rfl rfl (by first | exact mu64 _ | exact mu32 _ | exact mu8 _ | exact rfl) rfl | exact V_str (tb := tb) rfl (by first | exact vec_rd (by repeat (first | apply List.Mem.head | apply List.Mem.tail)) | assumption | exact ArgRd.rd (by assumption) _ | (apply Rd_weak; assumption; intro _ hx; exact St.sub (by repeat (first | exact List.Sublist.refl _ | apply List.Sublist.cons_cons | apply List.Sublist.cons)) hx)) (by first | assumption | rfl | omega) rfl rfl rfl rfl) | (apply oP; first | exact V_pickT rfl rfl rfl | exact V_pickF rfl rfl rfl | exact V_pickB rfl rfl rfl rfl) | (apply oU; first | exact V_notD rfl rfl | exact V_not rfl rfl | exact V_neg rfl (by first | exact mu64 _ | exact mu32 _ | exact mu8 _ | exact rfl) rfl) | (apply oN; first | exact V_nilCheck rfl rfl) | (apply oFA; first | exact V_field (tb := tb) rfl rfl rfl rfl rfl rfl | exact V_fieldC (tb := tb) rfl (by first | exact Rd.sl (vec_rd (by repeat (first | apply List.Mem.head | apply List.Mem.tail))) | exact Rd.sl (by assumption) | exact Rd.sl (ArgRd.rd (by assumption) _) | (apply Rd.sl; (apply Rd_weak; assumption; intro _ hx; exact St.sub (by repeat (first | exact List.Sublist.refl _ | apply List.Sublist.cons_cons | apply List.Sublist.cons)) hx))) (by omega) rfl rfl rfl rfl rfl) | (apply oIA; first | exact V_index (tb := tb) rfl rfl rfl rfl (by first | exact Rd.sl (vec_rd (by repeat (first | apply List.Mem.head | apply List.Mem.tail))) | exact Rd.sl (by assumption) | exact Rd.sl (ArgRd.rd (by assumption) _) | (apply Rd.sl; (apply Rd_weak; assumption; intro _ hx; exact St.sub (by repeat (first | exact List.Sublist.refl _ | apply List.Sublist.cons_cons | apply List.Sublist.cons)) hx))) (by omega) (by (try simp only [tn, tna, tn1, tn2, tn3, tn4, tnd16, tnd8, Int.reduceToNat]); first | exact Nat.mul_one _ | exact rfl) rfl | exact V_indexA (tb := tb) rfl rfl rfl rfl (by omega) rfl) | (apply oBd; first | exact V_build (tb := tb) rfl rfl rfl rfl rfl) | (apply oF; first | exact V_makeFunc rfl rfl rfl)) : JO Tryz.prog f n R D w0 ops ⟨d, op, T, pos, af, g⟩ l k ov H := JO_v h hn
theorem aK (hn : JR Tryz.prog f n R D w0 ops l k (put d undef ov) H') (h : OpK Tryz.prog n D w0 ov H ⟨d, op, T, pos, af, g⟩ H' := by first | exact K_store (tb := tb) rfl rfl (by repeat (first | apply Upd.here | apply Upd.there)) rfl rfl rfl (by repeat (first | exact trivial | refine ⟨rfl, ?_⟩)) rfl rfl | exact K_storeC1 (tb := tb) rfl rfl ints_set (by repeat (first | apply Upd.here | apply Upd.there)) rfl rfl (by rw [ints_len]; omega) rfl) : JO Tryz.prog f n R D w0 ops ⟨d, op, T, pos, af, g⟩ l k ov H := JO_k h hn
theorem aQ (hn : QR Tryz.prog n D w0 Z l (put d v ov) H K) (h : OpV Tryz.prog n D w0 ov H ⟨d, op, T, pos, af, g⟩ v := by first | (apply oMv; exact V_move rfl rfl) | (apply oAs; exact V_assign rfl rfl) | (apply oL; first | exact V_load (tb := tb) rfl (by repeat (first | apply List.Mem.head | apply List.Mem.tail)) rfl rfl rfl rfl | exact V_loadC (tb := tb) rfl (by first | exact vec_rd (by repeat (first | apply List.Mem.head | apply List.Mem.tail)) | assumption | exact ArgRd.rd (by assumption) _ | (apply Rd_weak; assumption; intro _ hx; exact St.sub (by repeat (first | exact List.Sublist.refl _ | apply List.Sublist.cons_cons | apply List.Sublist.cons)) hx)) rfl rfl (by first | exact ints_get (by omega) | exact rfl) rfl | exact V_loadA (tb := tb) rfl (by repeat (first | apply List.Mem.head | apply List.Mem.tail)) rfl rfl rfl rfl) | (apply oB; first | (apply ob_add; first | exact V_add rfl rfl (by first | exact wi64 (by omega) | exact wu64 (by omega) | exact wu32 (by omega) | exact wu8 (by omega) | exact mu64 _ | exact mu32 _ | exact mu8 _ | exact mi64 _ | exact rfl) rfl) | (apply ob_sub; first | exact V_sub rfl rfl (by first | exact wi64 (by omega) | exact wu64 (by omega) | exact wu32 (by omega) | exact wu8 (by omega) | exact mu64 _ | exact mu32 _ | exact mu8 _ | exact mi64 _ | exact rfl) rfl) | (apply ob_mul; first | exact V_mul rfl rfl (by first | exact wi64 (by omega) | exact wu64 (by omega) | exact wu32 (by omega) | exact wu8 (by omega) | exact mu64 _ | exact mu32 _ | exact mu8 _ | exact mi64 _ | exact rfl) rfl) | (apply ob_eql; first | exact V_eqlT rfl rfl (by omega) rfl | exact V_eqlF rfl rfl (by omega) rfl | exact V_eql rfl rfl rfl) | (apply ob_neq; first | exact V_neqT rfl rfl (by omega) rfl | exact V_neqF rfl rfl (by omega) rfl | exact V_neq rfl rfl rfl) | (apply ob_lss; first | exact V_lssT rfl rfl (by omega) rfl | exact V_lssF rfl rfl (by omega) rfl | exact V_lss rfl rfl rfl) | (apply ob_leq; first | exact V_leqT rfl rfl (by omega) rfl | exact V_leqF rfl rfl (by omega) rfl | exact V_leq rfl rfl rfl) | (apply ob_gtr; first | exact V_gtrT rfl rfl (by omega) rfl | exact V_gtrF rfl rfl (by omega) rfl | exact V_gtr rfl rfl rfl) | (apply ob_geq; first | exact V_geqT rfl rfl (by omega) rfl | exact V_geqF rfl rfl (by omega) rfl | exact V_geq rfl rfl rfl) | (apply ob_quo; first | exact V_quo rfl rfl (by omega) (by first | exact IntWalk.i64_quo _ _ (by omega) | exact IntWalk.u64_quo _ _ (by omega) | exact IntWalk.u32_quo _ _ (by omega) | exact IntWalk.u8_quo _ _ (by omega)) rfl) | (apply ob_rem; first | exact V_rem rfl rfl (by omega) (Int.tmod_eq_emod_of_nonneg (by omega)) rfl) | (apply ob_and; first | exact V_and rfl rfl (by first | exact mask32_u64 (by omega) | exact mask_u64 8 (by decide) (by omega) rfl | exact mask_u64 16 (by decide) (by omega) rfl) rfl) | (apply ob_eql; first | exact V_eqP (tb := tb) rfl rfl rfl rfl | exact V_eqBB (tb := tb) rfl rfl rfl rfl | exact V_eqB (tb := tb) rfl rfl rfl rfl | exact V_eqNil (tb := tb) rfl rfl rfl rfl | exact V_eqStr rfl rfl (by assumption) (by assumption) rfl) | (apply ob_neq; first | exact V_neP (tb := tb) rfl rfl rfl rfl | exact V_neBB (tb := tb) rfl rfl rfl rfl | exact V_neB (tb := tb) rfl rfl rfl rfl | exact V_neStr rfl rfl (by assumption) (by assumption) rfl) | (apply oK; first | (apply ob_shr; exact V_shr (m := _) rfl rfl (by omega) (by simp only [IntKind.bits, Int.reduceToNat, Nat.reduceLeDiff, Nat.min_eq_left]; exact rfl) (by first | (simp only [Int.reducePow]; exact rfl) | exact rfl) rfl) | (apply ob_shl; exact V_shl (m := _) rfl rfl (by omega) (by simp only [IntKind.bits, Int.reduceToNat, Nat.reduceLeDiff, Nat.min_eq_left]; exact rfl) (by (try simp only [Int.reducePow]); first | exact wi64 (by omega) | exact wu64 (by omega) | exact wu32 (by omega) | exact wu8 (by omega) | exact mu64 _ | exact mu32 _ | exact mu8 _ | exact mi64 _ | exact rfl) rfl))) | (apply oE; first | exact V_extract rfl rfl rfl) | (apply oc_len; exact V_len (tb := tb) rfl rfl rfl) | (apply oc_len; exact V_lenS (tb := tb) rfl rfl rfl) | (apply oc_min; exact V_min rfl rfl rfl rfl) | (apply oc_max; exact V_max rfl rfl rfl rfl) | (apply oCv; first | exact V_conv (tb := tb) rfl rfl rfl (by first | exact wi64 (by omega) | exact wu64 (by omega) | exact wu32 (by omega) | exact wu8 (by omega) | exact mu64 _ | exact mu32 _ | exact mu8 _ | exact mi64 _ | exact rfl) rfl | exact V_str (tb := tb) rfl (by first | exact vec_rd (by repeat (first | apply List.Mem.head | apply List.Mem.tail)) | assumption | exact ArgRd.rd (by assumption) _ | (apply Rd_weak; assumption; intro _ hx; exact St.sub (by repeat (first | exact List.Sublist.refl _ | apply List.Sublist.cons_cons | apply List.Sublist.cons)) hx)) (by first | assumption | rfl | omega) rfl rfl rfl rfl) | (apply oP; first | exact V_pickT rfl rfl rfl | exact V_pickF rfl rfl rfl | exact V_pickB rfl rfl rfl rfl) | (apply oU; first | exact V_notD rfl rfl | exact V_not rfl rfl | exact V_neg rfl (by first | exact wi64 (by omega) | exact wu64 (by omega) | exact wu32 (by omega) | exact wu8 (by omega) | exact mu64 _ | exact mu32 _ | exact mu8 _ | exact mi64 _ | exact rfl) rfl) | (apply oN; first | exact V_nilCheck rfl rfl) | (apply oFA; first | exact V_field (tb := tb) rfl rfl rfl rfl rfl rfl | exact V_fieldC (tb := tb) rfl (by first | exact Rd.sl (vec_rd (by repeat (first | apply List.Mem.head | apply List.Mem.tail))) | exact Rd.sl (by assumption) | exact Rd.sl (ArgRd.rd (by assumption) _) | (apply Rd.sl; (apply Rd_weak; assumption; intro _ hx; exact St.sub (by repeat (first | exact List.Sublist.refl _ | apply List.Sublist.cons_cons | apply List.Sublist.cons)) hx))) (by omega) rfl rfl rfl rfl rfl) | (apply oIA; first | exact V_index (tb := tb) rfl rfl rfl rfl (by first | exact Rd.sl (vec_rd (by repeat (first | apply List.Mem.head | apply List.Mem.tail))) | exact Rd.sl (by assumption) | exact Rd.sl (ArgRd.rd (by assumption) _) | (apply Rd.sl; (apply Rd_weak; assumption; intro _ hx; exact St.sub (by repeat (first | exact List.Sublist.refl _ | apply List.Sublist.cons_cons | apply List.Sublist.cons)) hx))) (by omega) (by (try simp only [tn, tna, tn1, tn2, tn3, tn4, tnd16, tnd8, Int.reduceToNat]); first | exact Nat.mul_one _ | exact rfl) rfl | exact V_indexA (tb := tb) rfl rfl rfl rfl (by omega) rfl) | (apply oBd; first | exact V_build (tb := tb) rfl rfl rfl rfl rfl) | (apply oF; first | exact V_makeFunc rfl rfl rfl)) (hlo : loud op = false := by rfl) : QO Tryz.prog n D w0 Z ⟨d, op, T, pos, af, g⟩ l ov H K := QO_v hlo h hn
theorem aQK (hs : Z.2.contains l.length = true) (hn : QR Tryz.prog n D w0 Z l (put d undef ov) H' K) (h : OpK Tryz.prog n D w0 ov H ⟨d, op, T, pos, af, g⟩ H' := by first | exact K_store (tb := tb) rfl rfl (by repeat (first | apply Upd.here | apply Upd.there)) rfl rfl rfl (by repeat (first | exact trivial | refine ⟨rfl, ?_⟩)) rfl rfl | exact K_storeC1 (tb := tb) rfl rfl ints_set (by repeat (first | apply Upd.here | apply Upd.there)) rfl rfl (by rw [ints_len]; omega) rfl) (hlo : loud op = true := by rfl) : QO Tryz.prog n D w0 Z ⟨d, op, T, pos, af, g⟩ l ov H K := QO_k hlo h hs hn
end
end Go.Proofs.YtmnilpjgkjkecaaGreat

set_option linter.unusedVariables false
set_option linter.unusedSimpArgs false
namespace Go.Proofs.YtmnilpjgkjkecaaGreat
open Sx Go
/-! one step of a walk, as a lemma: the goal behind it is found by the default tactic -/
section
variable {f n : Nat} {R : Ending → World → Prop} {D : List Deferred} {w0 : World} {k : List Item} {ov : Ov} {H H' : List Asn} {K : KC} {Z : Array Oper × List Nat} {G' : Prop}
  {ops : Array Oper} {l : List Oper} {d : Option Nat} {T T1 T2 : Nat} {pos : String} {af : Array Edge} {g : Option (Nat × Bool)} {x y : Operand} {v : Value} {op : Op} {o : Oper}
theorem igJS (h : G' → JS Tryz.prog f n R D w0 k ov H) : G' → JS Tryz.prog f n R D w0 k ov H := h
theorem igJR (h : G' → JR Tryz.prog f n R D w0 ops l k ov H) : G' → JR Tryz.prog f n R D w0 ops l k ov H := h
theorem igQR (h : G' → QR Tryz.prog n D w0 Z l ov H K) : G' → QR Tryz.prog n D w0 Z l ov H K := h
theorem igQO (h : G' → QO Tryz.prog n D w0 Z o l ov H K) : G' → QO Tryz.prog n D w0 Z o l ov H K := h
theorem igJO (h : G' → JO Tryz.prog f n R D w0 ops o l k ov H) : G' → JO Tryz.prog f n R D w0 ops o l k ov H := h
theorem ikS (h : G' → JO Tryz.prog f n R D w0 ops ⟨d, .store T1 x y, T, pos, af, g⟩ l k ov H) : G' → JO Tryz.prog f n R D w0 ops ⟨d, .store T1 x y, T, pos, af, g⟩ l k ov H := h
theorem ikX (h : G' → JO Tryz.prog f n R D w0 ops ⟨d, .box T1 x, T, pos, af, g⟩ l k ov H) : G' → JO Tryz.prog f n R D w0 ops ⟨d, .box T1 x, T, pos, af, g⟩ l k ov H := h
theorem ikA (h : G' → JO Tryz.prog f n R D w0 ops ⟨d, .alloc T1, T, pos, af, g⟩ l k ov H) : G' → JO Tryz.prog f n R D w0 ops ⟨d, .alloc T1, T, pos, af, g⟩ l k ov H := h
theorem ikBs {ps : Array (Nat × Operand)} (h : G' → JO Tryz.prog f n R D w0 ops ⟨d, .buildSlice T1 T2 ps, T, pos, af, g⟩ l k ov H) : G' → JO Tryz.prog f n R D w0 ops ⟨d, .buildSlice T1 T2 ps, T, pos, af, g⟩ l k ov H := h
theorem ikM (h : G' → JO Tryz.prog f n R D w0 ops ⟨d, .makeSlice T1 x y, T, pos, af, g⟩ l k ov H) : G' → JO Tryz.prog f n R D w0 ops ⟨d, .makeSlice T1 x y, T, pos, af, g⟩ l k ov H := h
theorem iO (h : OpV Tryz.prog n D w0 ov H ⟨d, op, T, pos, af, g⟩ v := by first | (apply oMv; exact V_move rfl rfl) | (apply oAs; exact V_assign rfl rfl) | (apply oL; first | exact V_load (tb := tb) rfl (by repeat (first | apply List.Mem.head | apply List.Mem.tail)) rfl rfl rfl rfl | exact V_loadC (tb := tb) rfl (by first | exact vec_rd (by repeat (first | apply List.Mem.head | apply List.Mem.tail)) | assumption | exact ArgRd.rd (by assumption) _ | (apply Rd_weak; assumption; intro _ hx; exact St.sub (by repeat (first | exact List.Sublist.refl _ | apply List.Sublist.cons_cons | apply List.Sublist.cons)) hx)) rfl rfl (by first | exact ints_get (by omega) | exact rfl) rfl | exact V_loadA (tb := tb) rfl (by repeat (first | apply List.Mem.head | apply List.Mem.tail)) rfl rfl rfl rfl) | (apply oB; first | (apply ob_add; first | exact V_add rfl rfl (by first | exact wi64 (by omega) | exact wu64 (by omega) | exact wu32 (by omega) | exact wu8 (by omega) | exact mu64 _ | exact mu32 _ | exact mu8 _ | exact mi64 _ | exact rfl) rfl) | (apply ob_sub; first | exact V_sub rfl rfl (by first | exact wi64 (by omega) | exact wu64 (by omega) | exact wu32 (by omega) | exact wu8 (by omega) | exact mu64 _ | exact mu32 _ | exact mu8 _ | exact mi64 _ | exact rfl) rfl) | (apply ob_mul; first | exact V_mul rfl rfl (by first | exact wi64 (by omega) | exact wu64 (by omega) | exact wu32 (by omega) | exact wu8 (by omega) | exact mu64 _ | exact mu32 _ | exact mu8 _ | exact mi64 _ | exact rfl) rfl) | (apply ob_eql; first | exact V_eqlT rfl rfl (by omega) rfl | exact V_eqlF rfl rfl (by omega) rfl | exact V_eql rfl rfl rfl) | (apply ob_neq; first | exact V_neqT rfl rfl (by omega) rfl | exact V_neqF rfl rfl (by omega) rfl | exact V_neq rfl rfl rfl) | (apply ob_lss; first | exact V_lssT rfl rfl (by omega) rfl | exact V_lssF rfl rfl (by omega) rfl | exact V_lss rfl rfl rfl) | (apply ob_leq; first | exact V_leqT rfl rfl (by omega) rfl | exact V_leqF rfl rfl (by omega) rfl | exact V_leq rfl rfl rfl) | (apply ob_gtr; first | exact V_gtrT rfl rfl (by omega) rfl | exact V_gtrF rfl rfl (by omega) rfl | exact V_gtr rfl rfl rfl) | (apply ob_geq; first | exact V_geqT rfl rfl (by omega) rfl | exact V_geqF rfl rfl (by omega) rfl | exact V_geq rfl rfl rfl) | (apply ob_quo; first | exact V_quo rfl rfl (by omega) (by first | exact IntWalk.i64_quo _ _ (by omega) | exact IntWalk.u64_quo _ _ (by omega) | exact IntWalk.u32_quo _ _ (by omega) | exact IntWalk.u8_quo _ _ (by omega)) rfl) | (apply ob_rem; first | exact V_rem rfl rfl (by omega) (Int.tmod_eq_emod_of_nonneg (by omega)) rfl) | (apply ob_and; first | exact V_and rfl rfl (by first | exact mask32_u64 (by omega) | exact mask_u64 8 (by decide) (by omega) rfl | exact mask_u64 16 (by decide) (by omega) rfl) rfl) | (apply ob_eql; first | exact V_eqP (tb := tb) rfl rfl rfl rfl | exact V_eqBB (tb := tb) rfl rfl rfl rfl | exact V_eqB (tb := tb) rfl rfl rfl rfl | exact V_eqNil (tb := tb) rfl rfl rfl rfl | exact V_eqStr rfl rfl (by assumption) (by assumption) rfl) | (apply ob_neq; first | exact V_neP (tb := tb) rfl rfl rfl rfl | exact V_neBB (tb := tb) rfl rfl rfl rfl | exact V_neB (tb := tb) rfl rfl rfl rfl | exact V_neStr rfl rfl (by assumption) (by assumption) rfl) | (apply oK; first | (apply ob_shr; exact V_shr (m := _) rfl rfl (by omega) (by simp only [IntKind.bits, Int.reduceToNat, Nat.reduceLeDiff, Nat.min_eq_left]; exact rfl) (by first | (simp only [Int.reducePow]; exact rfl) | exact rfl) rfl) | (apply ob_shl; exact V_shl (m := _) rfl rfl (by omega) (by simp only [IntKind.bits, Int.reduceToNat, Nat.reduceLeDiff, Nat.min_eq_left]; exact rfl) (by (try simp only [Int.reducePow]); first | exact wi64 (by omega) | exact wu64 (by omega) | exact wu32 (by omega) | exact wu8 (by omega) | exact mu64 _ | exact mu32 _ | exact mu8 _ | exact mi64 _ | exact rfl) rfl))) | (apply oE; first | exact V_extract rfl rfl rfl) | (apply oc_len; exact V_len (tb := tb) rfl rfl rfl) | (apply oc_len; exact V_lenS (tb := tb) rfl rfl rfl) | (apply oc_min; exact V_min rfl rfl rfl rfl) | (apply oc_max; exact V_max rfl rfl rfl rfl) | (apply oCv; first | exact V_conv (tb := tb) rfl rfl rfl (by first | exact wi64 (by omega) | exact wu64 (by omega) | exact wu32 (by omega) | exact wu8 (by omega) | exact mu64 _ | exact mu32 _ | exact mu8 _ | exact mi64 _ | exact rfl) rfl | exact V_str (tb := tb) rfl (by first | exact vec_rd (by repeat (first | apply List.Mem.head | apply List.Mem.tail)) | assumption | exact ArgRd.rd (by assumption) _ | (apply Rd_weak; assumption; intro _ hx; exact St.sub (by repeat (first | exact List.Sublist.refl _ | apply List.Sublist.cons_cons | apply List.Sublist.cons)) hx)) (by first | assumption | rfl | omega) rfl rfl rfl rfl) | (apply oP; first | exact V_pickT rfl rfl rfl | exact V_pickF rfl rfl rfl | exact V_pickB rfl rfl rfl rfl) | (apply oU; first | exact V_notD rfl rfl | exact V_not rfl rfl | exact V_neg rfl (by first | exact wi64 (by omega) | exact wu64 (by omega) | exact wu32 (by omega) | exact wu8 (by omega) | exact mu64 _ | exact mu32 _ | exact mu8 _ | exact mi64 _ | exact rfl) rfl) | (apply oN; first | exact V_nilCheck rfl rfl) | (apply oFA; first | exact V_field (tb := tb) rfl rfl rfl rfl rfl rfl | exact V_fieldC (tb := tb) rfl (by first | exact Rd.sl (vec_rd (by repeat (first | apply List.Mem.head | apply List.Mem.tail))) | exact Rd.sl (by assumption) | exact Rd.sl (ArgRd.rd (by assumption) _) | (apply Rd.sl; (apply Rd_weak; assumption; intro _ hx; exact St.sub (by repeat (first | exact List.Sublist.refl _ | apply List.Sublist.cons_cons | apply List.Sublist.cons)) hx))) (by omega) rfl rfl rfl rfl rfl) | (apply oIA; first | exact V_index (tb := tb) rfl rfl rfl rfl (by first | exact Rd.sl (vec_rd (by repeat (first | apply List.Mem.head | apply List.Mem.tail))) | exact Rd.sl (by assumption) | exact Rd.sl (ArgRd.rd (by assumption) _) | (apply Rd.sl; (apply Rd_weak; assumption; intro _ hx; exact St.sub (by repeat (first | exact List.Sublist.refl _ | apply List.Sublist.cons_cons | apply List.Sublist.cons)) hx))) (by omega) (by (try simp only [tn, tna, tn1, tn2, tn3, tn4, tnd16, tnd8, Int.reduceToNat]); first | exact Nat.mul_one _ | exact rfl) rfl | exact V_indexA (tb := tb) rfl rfl rfl rfl (by omega) rfl) | (apply oBd; first | exact V_build (tb := tb) rfl rfl rfl rfl rfl) | (apply oF; first | exact V_makeFunc rfl rfl rfl)) : JR Tryz.prog f n R D w0 ops l k (put d v ov) H → JO Tryz.prog f n R D w0 ops ⟨d, op, T, pos, af, g⟩ l k ov H := fun hn => JO_v h hn
theorem iU (h : OpV Tryz.prog n D w0 ov H ⟨d, op, T, pos, af, g⟩ v := by first | (apply oMv; exact V_move rfl rfl) | (apply oAs; exact V_assign rfl rfl) | (apply oL; first | exact V_load (tb := tb) rfl (by repeat (first | apply List.Mem.head | apply List.Mem.tail)) rfl rfl rfl rfl | exact V_loadC (tb := tb) rfl (by first | exact vec_rd (by repeat (first | apply List.Mem.head | apply List.Mem.tail)) | assumption | exact ArgRd.rd (by assumption) _ | (apply Rd_weak; assumption; intro _ hx; exact St.sub (by repeat (first | exact List.Sublist.refl _ | apply List.Sublist.cons_cons | apply List.Sublist.cons)) hx)) rfl rfl (by first | exact ints_get (by omega) | exact rfl) rfl | exact V_loadA (tb := tb) rfl (by repeat (first | apply List.Mem.head | apply List.Mem.tail)) rfl rfl rfl rfl) | (apply oB; first | (apply ob_add; first | exact V_add rfl rfl (by first | exact mu64 _ | exact mu32 _ | exact mu8 _ | exact rfl) rfl) | (apply ob_sub; first | exact V_sub rfl rfl (by first | exact mu64 _ | exact mu32 _ | exact mu8 _ | exact rfl) rfl) | (apply ob_mul; first | exact V_mul rfl rfl (by first | exact mu64 _ | exact mu32 _ | exact mu8 _ | exact rfl) rfl) | (apply ob_eql; first | exact V_eqlT rfl rfl (by omega) rfl | exact V_eqlF rfl rfl (by omega) rfl | exact V_eql rfl rfl rfl) | (apply ob_neq; first | exact V_neqT rfl rfl (by omega) rfl | exact V_neqF rfl rfl (by omega) rfl | exact V_neq rfl rfl rfl) | (apply ob_lss; first | exact V_lssT rfl rfl (by omega) rfl | exact V_lssF rfl rfl (by omega) rfl | exact V_lss rfl rfl rfl) | (apply ob_leq; first | exact V_leqT rfl rfl (by omega) rfl | exact V_leqF rfl rfl (by omega) rfl | exact V_leq rfl rfl rfl) | (apply ob_gtr; first | exact V_gtrT rfl rfl (by omega) rfl | exact V_gtrF rfl rfl (by omega) rfl | exact V_gtr rfl rfl rfl) | (apply ob_geq; first | exact V_geqT rfl rfl (by omega) rfl | exact V_geqF rfl rfl (by omega) rfl | exact V_geq rfl rfl rfl) | (apply ob_quo; first | exact V_quo rfl rfl (by omega) (by first | exact IntWalk.i64_quo _ _ (by omega) | exact IntWalk.u64_quo _ _ (by omega) | exact IntWalk.u32_quo _ _ (by omega) | exact IntWalk.u8_quo _ _ (by omega)) rfl) | (apply ob_rem; first | exact V_rem rfl rfl (by omega) (Int.tmod_eq_emod_of_nonneg (by omega)) rfl) | (apply ob_and; first | exact V_and rfl rfl (by first | exact mask32_u64 (by omega) | exact mask_u64 8 (by decide) (by omega) rfl | exact mask_u64 16 (by decide) (by omega) rfl) rfl) | (apply ob_eql; first | exact V_eqP (tb := tb) rfl rfl rfl rfl | exact V_eqBB (tb := tb) rfl rfl rfl rfl | exact V_eqB (tb := tb) rfl rfl rfl rfl | exact V_eqNil (tb := tb) rfl rfl rfl rfl | exact V_eqStr rfl rfl (by assumption) (by assumption) rfl) | (apply ob_neq; first | exact V_neP (tb := tb) rfl rfl rfl rfl | exact V_neBB (tb := tb) rfl rfl rfl rfl | exact V_neB (tb := tb) rfl rfl rfl rfl | exact V_neStr rfl rfl (by assumption) (by assumption) rfl) | (apply oK; first | (apply ob_shr; exact V_shr (m := _) rfl rfl (by omega) (by simp only [IntKind.bits, Int.reduceToNat, Nat.reduceLeDiff, Nat.min_eq_left]; exact rfl) (by first | (simp only [Int.reducePow]; exact rfl) | exact rfl) rfl) | (apply ob_shl; exact V_shl (m := _) rfl rfl (by omega) (by simp only [IntKind.bits, Int.reduceToNat, Nat.reduceLeDiff, Nat.min_eq_left]; exact rfl) (by (try simp only [Int.reducePow]); first | exact mu64 _ | exact mu32 _ | exact mu8 _ | exact rfl) rfl))) | (apply oE; first | exact V_extract rfl rfl rfl) | (apply oc_len; exact V_len (tb := tb) rfl rfl rfl) | (apply oc_len; exact V_lenS (tb := tb) rfl rfl rfl) | (apply oc_min; exact V_min rfl rfl rfl rfl) | (apply oc_max; exact V_max rfl rfl rfl rfl) | (apply oCv; first | exact V_conv (tb := tb) rfl rfl rfl (by first | exact mu64 _ | exact mu32 _ | exact mu8 _ | exact rfl) rfl | exact V_str (tb := tb) rfl (by first | exact vec_rd (by repeat (first | apply List.Mem.head | apply List.Mem.tail)) | assumption | exact ArgRd.rd (by assumption) _ | (apply Rd_weak; assumption; intro _ hx; exact St.sub (by repeat (first | exact List.Sublist.refl _ | apply List.Sublist.cons_cons | apply List.Sublist.cons)) hx)) (by first | assumption | rfl | omega) rfl rfl rfl rfl) | (apply oP; first | exact V_pickT rfl rfl rfl | exact V_pickF rfl rfl rfl | exact V_pickB rfl rfl rfl rfl) | (apply oU; first | exact V_notD rfl rfl | exact V_not rfl rfl | exact V_neg rfl (by first | exact mu64 _ | exact mu32 _ | exact mu8 _ | exact rfl) rfl) | (apply oN; first | exact V_nilCheck rfl rfl) | (apply oFA; first | exact V_field (tb := tb) rfl rfl rfl rfl rfl rfl | exact V_fieldC (tb := tb) rfl (by first | exact Rd.sl (vec_rd (by repeat (first | apply List.Mem.head | apply List.Mem.tail))) | exact Rd.sl (by assumption) | exact Rd.sl (ArgRd.rd (by assumption) _) | (apply Rd.sl; (apply Rd_weak; assumption; intro _ hx; exact St.sub (by repeat (first | exact List.Sublist.refl _ | apply List.Sublist.cons_cons | apply List.Sublist.cons)) hx))) (by omega) rfl rfl rfl rfl rfl) | (apply oIA; first | exact V_index (tb := tb) rfl rfl rfl rfl (by first | exact Rd.sl (vec_rd (by repeat (first | apply List.Mem.head | apply List.Mem.tail))) | exact Rd.sl (by assumption) | exact Rd.sl (ArgRd.rd (by assumption) _) | (apply Rd.sl; (apply Rd_weak; assumption; intro _ hx; exact St.sub (by repeat (first | exact List.Sublist.refl _ | apply List.Sublist.cons_cons | apply List.Sublist.cons)) hx))) (by omega) (by (try simp only [tn, tna, tn1, tn2, tn3, tn4, tnd16, tnd8, Int.reduceToNat]); first | exact Nat.mul_one _ | exact rfl) rfl | exact V_indexA (tb := tb) rfl rfl rfl rfl (by omega) rfl) | (apply oBd; first | exact V_build (tb := tb) rfl rfl rfl rfl rfl) | (apply oF; first | exact V_makeFunc rfl rfl rfl)) : JR Tryz.prog f n R D w0 ops l k (put d v ov) H → JO Tryz.prog f n R D w0 ops ⟨d, op, T, pos, af, g⟩ l k ov H := fun hn => JO_v h hn
theorem iK (h : OpK Tryz.prog n D w0 ov H ⟨d, op, T, pos, af, g⟩ H' := by first | exact K_store (tb := tb) rfl rfl (by repeat (first | apply Upd.here | apply Upd.there)) rfl rfl rfl (by repeat (first | exact trivial | refine ⟨rfl, ?_⟩)) rfl rfl | exact K_storeC1 (tb := tb) rfl rfl ints_set (by repeat (first | apply Upd.here | apply Upd.there)) rfl rfl (by rw [ints_len]; omega) rfl) : JR Tryz.prog f n R D w0 ops l k (put d undef ov) H' → JO Tryz.prog f n R D w0 ops ⟨d, op, T, pos, af, g⟩ l k ov H := fun hn => JO_k h hn
theorem iQ (h : OpV Tryz.prog n D w0 ov H ⟨d, op, T, pos, af, g⟩ v := by first | (apply oMv; exact V_move rfl rfl) | (apply oAs; exact V_assign rfl rfl) | (apply oL; first | exact V_load (tb := tb) rfl (by repeat (first | apply List.Mem.head | apply List.Mem.tail)) rfl rfl rfl rfl | exact V_loadC (tb := tb) rfl (by first | exact vec_rd (by repeat (first | apply List.Mem.head | apply List.Mem.tail)) | assumption | exact ArgRd.rd (by assumption) _ | (apply Rd_weak; assumption; intro _ hx; exact St.sub (by repeat (first | exact List.Sublist.refl _ | apply List.Sublist.cons_cons | apply List.Sublist.cons)) hx)) rfl rfl (by first | exact ints_get (by omega) | exact rfl) rfl | exact V_loadA (tb := tb) rfl (by repeat (first | apply List.Mem.head | apply List.Mem.tail)) rfl rfl rfl rfl) | (apply oB; first | (apply ob_add; first | exact V_add rfl rfl (by first | exact wi64 (by omega) | exact wu64 (by omega) | exact wu32 (by omega) | exact wu8 (by omega) | exact mu64 _ | exact mu32 _ | exact mu8 _ | exact mi64 _ | exact rfl) rfl) | (apply ob_sub; first | exact V_sub rfl rfl (by first | exact wi64 (by omega) | exact wu64 (by omega) | exact wu32 (by omega) | exact wu8 (by omega) | exact mu64 _ | exact mu32 _ | exact mu8 _ | exact mi64 _ | exact rfl) rfl) | (apply ob_mul; first | exact V_mul rfl rfl (by first | exact wi64 (by omega) | exact wu64 (by omega) | exact wu32 (by omega) | exact wu8 (by omega) | exact mu64 _ | exact mu32 _ | exact mu8 _ | exact mi64 _ | exact rfl) rfl) | (apply ob_eql; first | exact V_eqlT rfl rfl (by omega) rfl | exact V_eqlF rfl rfl (by omega) rfl | exact V_eql rfl rfl rfl) | (apply ob_neq; first | exact V_neqT rfl rfl (by omega) rfl | exact V_neqF rfl rfl (by omega) rfl | exact V_neq rfl rfl rfl) | (apply ob_lss; first | exact V_lssT rfl rfl (by omega) rfl | exact V_lssF rfl rfl (by omega) rfl | exact V_lss rfl rfl rfl) | (apply ob_leq; first | exact V_leqT rfl rfl (by omega) rfl | exact V_leqF rfl rfl (by omega) rfl | exact V_leq rfl rfl rfl) | (apply ob_gtr; first | exact V_gtrT rfl rfl (by omega) rfl | exact V_gtrF rfl rfl (by omega) rfl | exact V_gtr rfl rfl rfl) | (apply ob_geq; first | exact V_geqT rfl rfl (by omega) rfl | exact V_geqF rfl rfl (by omega) rfl | exact V_geq rfl rfl rfl) | (apply ob_quo; first | exact V_quo rfl rfl (by omega) (by first | exact IntWalk.i64_quo _ _ (by omega) | exact IntWalk.u64_quo _ _ (by omega) | exact IntWalk.u32_quo _ _ (by omega) | exact IntWalk.u8_quo _ _ (by omega)) rfl) | (apply ob_rem; first | exact V_rem rfl rfl (by omega) (Int.tmod_eq_emod_of_nonneg (by omega)) rfl) | (apply ob_and; first | exact V_and rfl rfl (by first | exact mask32_u64 (by omega) | exact mask_u64 8 (by decide) (by omega) rfl | exact mask_u64 16 (by decide) (by omega) rfl) rfl) | (apply ob_eql; first | exact V_eqP (tb := tb) rfl rfl rfl rfl | exact V_eqBB (tb := tb) rfl rfl rfl rfl | exact V_eqB (tb := tb) rfl rfl rfl rfl | exact V_eqNil (tb := tb) rfl rfl rfl rfl | exact V_eqStr rfl rfl (by assumption) (by assumption) rfl) | (apply ob_neq; first | exact V_neP (tb := tb) rfl rfl rfl rfl | exact V_neBB (tb := tb) rfl rfl rfl rfl | exact V_neB (tb := tb) rfl rfl rfl rfl | exact V_neStr rfl rfl (by assumption) (by assumption) rfl) | (apply oK; first | (apply ob_shr; exact V_shr (m := _) rfl rfl (by omega) (by simp only [IntKind.bits, Int.reduceToNat, Nat.reduceLeDiff, Nat.min_eq_left]; exact rfl) (by first | (simp only [Int.reducePow]; exact rfl) | exact rfl) rfl) | (apply ob_shl; exact V_shl (m := _) rfl rfl (by omega) (by simp only [IntKind.bits, Int.reduceToNat, Nat.reduceLeDiff, Nat.min_eq_left]; exact rfl) (by (try simp only [Int.reducePow]); first | exact wi64 (by omega) | exact wu64 (by omega) | exact wu32 (by omega) | exact wu8 (by omega) | exact mu64 _ | exact mu32 _ | exact mu8 _ | exact mi64 _ | exact rfl) rfl))) | (apply oE; first | exact V_extract rfl rfl rfl) | (apply oc_len; exact V_len (tb := tb) rfl rfl rfl) | (apply oc_len; exact V_lenS (tb := tb) rfl rfl rfl) | (apply oc_min; exact V_min rfl rfl rfl rfl) | (apply oc_max; exact V_max rfl rfl rfl rfl) | (apply oCv; first | exact V_conv (tb := tb) rfl rfl rfl (by first | exact wi64 (by omega) | exact wu64 (by omega) | exact wu32 (by omega) | exact wu8 (by omega) | exact mu64 _ | exact mu32 _ | exact mu8 _ | exact mi64 _ | exact rfl) rfl | exact V_str (tb := tb) rfl (by first | exact vec_rd (by repeat (first | apply List.Mem.head | apply List.Mem.tail)) | assumption | exact ArgRd.rd (by assumption) _ | (apply Rd_weak; assumption; intro _ hx; exact St.sub (by repeat (first | exact List.Sublist.refl _ | apply List.Sublist.cons_cons | apply List.Sublist.cons)) hx)) (by first | assumption | rfl | omega) rfl rfl rfl rfl) | (apply oP; first | exact V_pickT rfl rfl rfl | exact V_pickF rfl rfl rfl | exact V_pickB rfl rfl rfl rfl) | (apply oU; first | exact V_notD rfl rfl | exact V_not rfl rfl | exact V_neg rfl (by first | exact wi64 (by omega) | exact wu64 (by omega) | exact wu32 (by omega) | exact wu8 (by omega) | exact mu64 _ | exact mu32 _ | exact mu8 _ | exact mi64 _ | exact rfl) rfl) | (apply oN; first | exact V_nilCheck rfl rfl) | (apply oFA; first | exact V_field (tb := tb) rfl rfl rfl rfl rfl rfl | exact V_fieldC (tb := tb) rfl (by first | exact Rd.sl (vec_rd (by repeat (first | apply List.Mem.head | apply List.Mem.tail))) | exact Rd.sl (by assumption) | exact Rd.sl (ArgRd.rd (by assumption) _) | (apply Rd.sl; (apply Rd_weak; assumption; intro _ hx; exact St.sub (by repeat (first | exact List.Sublist.refl _ | apply List.Sublist.cons_cons | apply List.Sublist.cons)) hx))) (by omega) rfl rfl rfl rfl rfl) | (apply oIA; first | exact V_index (tb := tb) rfl rfl rfl rfl (by first | exact Rd.sl (vec_rd (by repeat (first | apply List.Mem.head | apply List.Mem.tail))) | exact Rd.sl (by assumption) | exact Rd.sl (ArgRd.rd (by assumption) _) | (apply Rd.sl; (apply Rd_weak; assumption; intro _ hx; exact St.sub (by repeat (first | exact List.Sublist.refl _ | apply List.Sublist.cons_cons | apply List.Sublist.cons)) hx))) (by omega) (by (try simp only [tn, tna, tn1, tn2, tn3, tn4, tnd16, tnd8, Int.reduceToNat]); first | exact Nat.mul_one _ | exact rfl) rfl | exact V_indexA (tb := tb) rfl rfl rfl rfl (by omega) rfl) | (apply oBd; first | exact V_build (tb := tb) rfl rfl rfl rfl rfl) | (apply oF; first | exact V_makeFunc rfl rfl rfl)) (hlo : loud op = false := by rfl) : QR Tryz.prog n D w0 Z l (put d v ov) H K → QO Tryz.prog n D w0 Z ⟨d, op, T, pos, af, g⟩ l ov H K := fun hn => QO_v hlo h hn
theorem iQK (hs : Z.2.contains l.length = true) (h : OpK Tryz.prog n D w0 ov H ⟨d, op, T, pos, af, g⟩ H' := by first | exact K_store (tb := tb) rfl rfl (by repeat (first | apply Upd.here | apply Upd.there)) rfl rfl rfl (by repeat (first | exact trivial | refine ⟨rfl, ?_⟩)) rfl rfl | exact K_storeC1 (tb := tb) rfl rfl ints_set (by repeat (first | apply Upd.here | apply Upd.there)) rfl rfl (by rw [ints_len]; omega) rfl) (hlo : loud op = true := by rfl) : QR Tryz.prog n D w0 Z l (put d undef ov) H' K → QO Tryz.prog n D w0 Z ⟨d, op, T, pos, af, g⟩ l ov H K := fun hn => QO_k hlo h hs hn
end
theorem sx {G G' : Prop} (h : G') (t : G' → G := by first | (apply igJO; first | (apply ikS; exact iK) | (apply ikX; exact JO_box rfl rfl rfl) | (apply ikA; exact JO_alloc (tb := tb) rfl rfl) | (apply ikBs; exact JO_buildSlice (tb := tb) rfl rfl rfl rfl rfl rfl rfl rfl rfl) | (apply ikM; exact JO_make (tb := tb) rfl rfl rfl rfl rfl rfl (by omega) rfl) | exact iO) | (apply igJR; first | exact JR_un | exact JR_nil | exact JR_yes rfl rfl | exact JR_no rfl rfl rfl rfl | exact JR_noU rfl rfl rfl) | (apply igJS; first | exact JS_seq | exact JS_region | exact JS_skip | exact JS_block | exact JS_inBlock | exact JS_label | exact JS_exit rfl | exact JS_condT rfl | exact JS_condF rfl | exact JS_draw [0] (by kernel_rfl) (by kernel_rfl) (by decide +kernel) | exact JS_draw [] (by kernel_rfl) (by kernel_rfl) (by decide +kernel) | exact JS_cond_T rfl (by omega) | exact JS_cond_F rfl (by omega)) | (apply igQR; first | exact QR_un | exact QR_nil | exact QR_yes rfl rfl | exact QR_no rfl rfl rfl rfl | exact QR_noU rfl rfl rfl) | (apply igQO; first | exact iQ | exact iQK rfl)) : G := t h
theorem sy {G G' : Prop} (h : G') (t : G' → G := by first | (apply igJO; first | (apply ikS; exact iK) | (apply ikX; exact JO_box rfl rfl rfl) | (apply ikA; exact JO_alloc (tb := tb) rfl rfl) | (apply ikBs; exact JO_buildSlice (tb := tb) rfl rfl rfl rfl rfl rfl rfl rfl rfl) | (apply ikM; exact JO_make (tb := tb) rfl rfl rfl rfl rfl rfl (by omega) rfl) | exact iO) | (apply igJR; first | exact JR_un | exact JR_nil | exact JR_yes rfl rfl | exact JR_no rfl rfl rfl rfl | exact JR_noU rfl rfl rfl) | (apply igJS; first | exact JS_seq | exact JS_region | exact JS_skip | exact JS_block | exact JS_inBlock | exact JS_label | exact JS_exit rfl | exact JS_condT rfl | exact JS_condF rfl | exact JS_draw [0] (by kernel_rfl) (by kernel_rfl) (by decide +kernel) | exact JS_draw [] (by kernel_rfl) (by kernel_rfl) (by decide +kernel)) | (apply igQR; first | exact QR_un | exact QR_nil | exact QR_yes rfl rfl | exact QR_no rfl rfl rfl rfl | exact QR_noU rfl rfl rfl) | (apply igQO; first | exact iQ | exact iQK rfl)) : G := t h
theorem su {G G' : Prop} (h : G') (t : G' → G := by first | (apply igJO; first | (apply ikS; exact iK) | (apply ikX; exact JO_box rfl rfl rfl) | (apply ikA; exact JO_alloc (tb := tb) rfl rfl) | (apply ikBs; exact JO_buildSlice (tb := tb) rfl rfl rfl rfl rfl rfl rfl rfl rfl) | (apply ikM; exact JO_make (tb := tb) rfl rfl rfl rfl rfl rfl (by omega) rfl) | exact iU) | (apply igJR; first | exact JR_un | exact JR_nil | exact JR_yes rfl rfl | exact JR_no rfl rfl rfl rfl | exact JR_noU rfl rfl rfl) | (apply igJS; first | exact JS_seq | exact JS_region | exact JS_skip | exact JS_block | exact JS_inBlock | exact JS_label | exact JS_exit rfl | exact JS_condT rfl | exact JS_condF rfl | exact JS_draw [0] (by kernel_rfl) (by kernel_rfl) (by decide +kernel) | exact JS_draw [] (by kernel_rfl) (by kernel_rfl) (by decide +kernel)) | (apply igQR; first | exact QR_un | exact QR_nil | exact QR_yes rfl rfl | exact QR_no rfl rfl rfl rfl | exact QR_noU rfl rfl rfl) | (apply igQO; first | exact iQ | exact iQK rfl)) : G := t h
end Go.Proofs.YtmnilpjgkjkecaaGreat

namespace Go.Proofs.YtmnilpjgkjkecaaGreat
open Go Go.Shelf Go.Proofs
def sortP_ren : Go.Shelf.Ren := ⟨fun | 6 => 96 | 15 => 104 | 14 => 103 | 28 => 114 | 29 => 76 | 20 => 106 | 21 => 107 | 22 => 108 | 23 => 109 | 24 => 110 | 25 => 111 | 26 => 112 | 27 => 113 | 46 => 117 | 47 => 118 | 48 => 119 | 49 => 120 | 50 => 121 | 57 => 124 | n => n, fun | 22 => 34 | 24 => 63 | 25 => 145 | 3 => 3 | 39 => 146 | 0 => 0 | 53 => 160 | 55 => 22 | 4 => 4 | 46 => 153 | 45 => 152 | 50 => 157 | 5 => 5 | 9 => 9 | 66 => 166 | 70 => 169 | 76 => 172 | 77 => 128 | n => n, fun n => n⟩
theorem sortP_lays : SlLaysF0.n6 Tryz.prog sortP_ren where
  mixed := by kernel_rfl
  f6 := ⟨"slices.SortFunc[[]theodolite/api.Pair,theodolite/api.Pair]", by decide, Tryz.func96.trans (congrArg some (by kernel_rfl))⟩
  f14 := ⟨"slices.pdqsortCmpFunc[theodolite/api.Pair]", by decide, Tryz.func103.trans (congrArg some (by kernel_rfl))⟩
  f15 := Tryz.func104.trans (congrArg some (by kernel_rfl))
  f20 := ⟨"slices.insertionSortCmpFunc[theodolite/api.Pair]", by decide, Tryz.func106.trans (congrArg some (by kernel_rfl))⟩
  f21 := ⟨"slices.heapSortCmpFunc[theodolite/api.Pair]", by decide, Tryz.func107.trans (congrArg some (by kernel_rfl))⟩
  f22 := ⟨"slices.breakPatternsCmpFunc[theodolite/api.Pair]", by decide, Tryz.func108.trans (congrArg some (by kernel_rfl))⟩
  f23 := ⟨"slices.choosePivotCmpFunc[theodolite/api.Pair]", by decide, Tryz.func109.trans (congrArg some (by kernel_rfl))⟩
  f24 := ⟨"slices.reverseRangeCmpFunc[theodolite/api.Pair]", by decide, Tryz.func110.trans (congrArg some (by kernel_rfl))⟩
  f25 := ⟨"slices.partialInsertionSortCmpFunc[theodolite/api.Pair]", by decide, Tryz.func111.trans (congrArg some (by kernel_rfl))⟩
  f26 := ⟨"slices.partitionEqualCmpFunc[theodolite/api.Pair]", by decide, Tryz.func112.trans (congrArg some (by kernel_rfl))⟩
  f27 := ⟨"slices.partitionCmpFunc[theodolite/api.Pair]", by decide, Tryz.func113.trans (congrArg some (by kernel_rfl))⟩
  f28 := Tryz.func114.trans (congrArg some (by kernel_rfl))
  f29 := Tryz.func76.trans (congrArg some (by kernel_rfl))
  f46 := ⟨"slices.siftDownCmpFunc[theodolite/api.Pair]", by decide, Tryz.func117.trans (congrArg some (by kernel_rfl))⟩
  f47 := Tryz.func118.trans (congrArg some (by kernel_rfl))
  f48 := Tryz.func119.trans (congrArg some (by kernel_rfl))
  f49 := ⟨"slices.medianAdjacentCmpFunc[theodolite/api.Pair]", by decide, Tryz.func120.trans (congrArg some (by kernel_rfl))⟩
  f50 := ⟨"slices.medianCmpFunc[theodolite/api.Pair]", by decide, Tryz.func121.trans (congrArg some (by kernel_rfl))⟩
  f57 := ⟨"slices.order2CmpFunc[theodolite/api.Pair]", by decide, Tryz.func124.trans (congrArg some (by kernel_rfl))⟩
  t0 := Tryz.underlying0
  a0 := Tryz.isAgg0
  z0 := Tryz.sizeOf0
  v0 := Tryz.zeroValue0
  t3 := Tryz.underlying3
  a3 := Tryz.isAgg3
  z3 := Tryz.sizeOf3
  v3 := Tryz.zeroValue3
  t4 := Tryz.underlying4
  a4 := Tryz.isAgg4
  z4 := Tryz.sizeOf4
  v4 := Tryz.zeroValue4
  t5 := Tryz.underlying5
  a5 := Tryz.isAgg5
  z5 := Tryz.sizeOf5
  v5 := Tryz.zeroValue5
  t9 := Tryz.underlying9
  a9 := Tryz.isAgg9
  z9 := Tryz.sizeOf9
  v9 := Tryz.zeroValue9
  t22 := Tryz.underlying34
  a22 := Tryz.isAgg34
  z22 := Tryz.sizeOf34
  v22 := Tryz.zeroValue34
  t25 := Tryz.underlying145
  a25 := Tryz.isAgg145
  z25 := Tryz.sizeOf145
  v25 := Tryz.zeroValue145
  t39 := Tryz.underlying146
  a39 := Tryz.isAgg146
  z39 := Tryz.sizeOf146
  v39 := Tryz.zeroValue146
  t45 := Tryz.underlying152
  a45 := Tryz.isAgg152
  z45 := Tryz.sizeOf152
  v45 := Tryz.zeroValue152
  t46 := Tryz.underlying153
  a46 := Tryz.isAgg153
  z46 := Tryz.sizeOf153
  v46 := Tryz.zeroValue153
  t50 := Tryz.underlying157
  a50 := Tryz.isAgg157
  z50 := Tryz.sizeOf157
  v50 := Tryz.zeroValue157
  t53 := Tryz.underlying160
  a53 := Tryz.isAgg160
  z53 := Tryz.sizeOf160
  v53 := Tryz.zeroValue160
  t55 := Tryz.underlying22
  a55 := Tryz.isAgg22
  z55 := Tryz.sizeOf22
  v55 := Tryz.zeroValue22
  t66 := Tryz.underlying166
  a66 := Tryz.isAgg166
  z66 := Tryz.sizeOf166
  v66 := Tryz.zeroValue166
  t70 := Tryz.underlying169
  a70 := Tryz.isAgg169
  z70 := Tryz.sizeOf169
  v70 := Tryz.zeroValue169
  t76 := Tryz.underlying172
  a76 := Tryz.isAgg172
  z76 := Tryz.sizeOf172
  v76 := Tryz.zeroValue172
  t77 := Tryz.underlying128
  a77 := Tryz.isAgg128
  z77 := Tryz.sizeOf128
  v77 := Tryz.zeroValue128

end Go.Proofs.YtmnilpjgkjkecaaGreat

/- Plain facts on numbers of 64 and 128 bits, for the walks of math/bits and wide: the length in bits, the long division of 128 by 64 bits. -/
namespace Go.Proofs.YtmnilpjgkjkecaaGreat
/-- the length in bits -/
def BL (x L : Int) : Prop := 0 ≤ L ∧ L ≤ 64 ∧ (x = 0 → L = 0) ∧ (x ≠ 0 → 1 ≤ L ∧ 2 ^ (L - 1).toNat ≤ x.toNat ∧ x.toNat < 2 ^ L.toNat)
theorem pow_split (a b : Nat) : (2 : Nat) ^ (a + b) = 2 ^ a * 2 ^ b := Nat.pow_add 2 a b
theorem BL_of {x : Int} (h0 : 0 ≤ x) (h : x < 18446744073709551616) : BL x (bitLen x.toNat) := by
  obtain ⟨h1, h2⟩ := bitLen_spec x.toNat
  have h3 : bitLen x.toNat ≤ 64 := by
    by_cases hx : x.toNat = 0
    · simp [bitLen, hx]
    · have := h2 hx
      rcases Nat.lt_or_ge 64 (bitLen x.toNat) with h4 | h4
      · have : (2 : Nat) ^ 64 ≤ 2 ^ (bitLen x.toNat - 1) := Nat.pow_le_pow_right (by omega) (by omega)
        omega
      · exact h4
  refine ⟨by omega, by omega, fun hx => by subst hx; rfl, fun hx => ?_⟩
  have hx' : x.toNat ≠ 0 := by omega
  have h4 : 1 ≤ bitLen x.toNat := by
    rcases Nat.eq_zero_or_pos (bitLen x.toNat) with h5 | h5
    · rw [h5] at h1; omega
    · exact h5
  refine ⟨by omega, ?_, by simpa using h1⟩
  rw [show (((bitLen x.toNat : Nat) : Int) - 1).toNat = bitLen x.toNat - 1 from by omega]
  exact h2 hx'
/-- a shift by whole bytes takes its bits off the length -/
theorem bitLen_cut (x : Int) (b : Nat) (h0 : 0 ≤ x) (h : (2 : Int) ^ b ≤ x) : (bitLen x.toNat : Int) = b + bitLen (x / 2 ^ b).toNat := by
  have e : (x / 2 ^ b).toNat = x.toNat / 2 ^ b := by
    obtain ⟨n, rfl⟩ := Int.eq_ofNat_of_zero_le h0
    rw [show ((2 : Int) ^ b) = ((2 ^ b : Nat) : Int) from by simp, ← Int.natCast_ediv]; rfl
  have hp : 0 < 2 ^ b := Nat.two_pow_pos b
  have : x.toNat / 2 ^ b ≠ 0 := by
    have : 2 ^ b ≤ x.toNat := by
      have h' : ((2 ^ b : Nat) : Int) ≤ x := by simpa using h
      omega
    have := (Nat.le_div_iff_mul_le hp).2 (by simpa using this : 1 * 2 ^ b ≤ x.toNat)
    omega
  rw [bitLen_shift x.toNat b this, e]
  omega

/-! the long division -/
/-- a step's trial quotient: it is not too small, and what is left fits -/
theorem div_start {u y1 : Int} (hy : 0 < y1) : u = u / y1 * y1 + (u - u / y1 * y1) ∧ 0 ≤ u - u / y1 * y1 ∧ u - u / y1 * y1 < y1 := by
  have h1 := Int.emod_nonneg u (Int.ne_of_gt hy)
  have h2 := Int.emod_lt_of_pos u hy
  have h3 := Int.mul_ediv_add_emod u y1
  rw [Int.mul_comm] at h3
  refine ⟨by omega, by omega, by omega⟩
/-- the trial quotient is not below the true one -/
theorem div_over {u y1 y0 u1 q r : Int} (hy0 : 0 ≤ y0) (hu1 : u1 < 4294967296) (hu : u = q * y1 + r) (hr : r < y1) (hq : 0 ≤ q) :
    u * 4294967296 + u1 < (q + 1) * (y1 * 4294967296 + y0) := by
  have h1 : 0 ≤ (q + 1) * y0 := Int.mul_nonneg (by omega) hy0
  have e : (q + 1) * (y1 * 4294967296 + y0) = q * y1 * 4294967296 + y1 * 4294967296 + (q + 1) * y0 := by grind
  rw [e, hu]
  generalize q * y1 = A at *
  omega
/-- the trial quotient is at most two too great -/
theorem div_top {u y1 y0 q r : Int} (hy0 : 0 ≤ y0) (hy0' : y0 < 4294967296) (hy1 : 2147483648 ≤ y1) (hlt : u < y1 * 4294967296 + y0) (hu : u = q * y1 + r) (hr : 0 ≤ r) : q ≤ 4294967297 := by
  refine Int.not_lt.1 fun h => ?_
  have h1 : 4294967298 * y1 ≤ q * y1 := Int.mul_le_mul_of_nonneg_right (by omega) (by omega)
  omega
theorem mul_bd {a b A B : Int} (ha : 0 ≤ a) (hb : 0 ≤ b) (hA : a ≤ A) (hB : b ≤ B) (hA0 : 0 ≤ A) : 0 ≤ a * b ∧ a * b ≤ A * B :=
  ⟨Int.mul_nonneg ha hb, Int.mul_le_mul hA hB hb hA0⟩
/-- the test that ends the loop -/
theorem div_test {u y1 y0 u1 q r : Int} (hu : u = q * y1 + r) : (q * (y1 * 4294967296 + y0) ≤ u * 4294967296 + u1) ↔ q * y0 ≤ 4294967296 * r + u1 := by
  have e : q * (y1 * 4294967296 + y0) = q * y1 * 4294967296 + q * y0 := by grind
  rw [e, hu]
  generalize q * y1 = A at *
  generalize q * y0 = B at *
  omega
/-- the true quotient is below 2^32 -/
theorem div_big {u Y u1 q : Int} (hu : 0 ≤ u ∧ u < Y) (hu1 : u1 < 4294967296) (hq : 4294967296 ≤ q) : u * 4294967296 + u1 < q * Y := by
  have h1 : 4294967296 * Y ≤ q * Y := Int.mul_le_mul_of_nonneg_right hq (by omega)
  omega
theorem div_over' {u y1 y0 u1 q r : Int} (hu : u = q * y1 + r) (h : 4294967296 * r + u1 < q * y0) : u * 4294967296 + u1 < q * (y1 * 4294967296 + y0) := by
  have := (div_test (y0 := y0) (u1 := u1) hu).1
  omega
theorem div_top2 {u Y u1 q : Int} (hu : 0 ≤ u ∧ u < Y) (hu1 : u1 < 4294967296) (h : q * Y ≤ u * 4294967296 + u1) : q < 4294967296 := by
  rcases Int.lt_or_le q 4294967296 with h1 | h1
  · exact h1
  · have := div_big hu hu1 h1
    omega
/-- one less -/
theorem div_less {u y1 q r : Int} (hu : u = q * y1 + r) : u = (q - 1) * y1 + (r + y1) := by
  rw [hu]; grind
theorem div_done {N Y q : Int} (h1 : q * Y ≤ N) (h2 : N < (q + 1) * Y) (hY : 0 < Y) : q = N / Y ∧ N - q * Y = N % Y := by
  have h3 : N / Y = q := by
    have a1 : q ≤ N / Y := Int.le_ediv_of_mul_le hY h1
    have a2 : N / Y < q + 1 := Int.ediv_lt_of_lt_mul hY h2
    omega
  refine ⟨h3.symm, ?_⟩
  have := Int.mul_ediv_add_emod N Y
  rw [h3, Int.mul_comm] at this
  omega
/-- both halves together -/
theorem div_join {U Y un32 un1 un0 q1 q0 : Int} (hU : U = un32 * 18446744073709551616 + un1 * 4294967296 + un0) (h1 : q1 = (un32 * 4294967296 + un1) / Y) (hq0 : q0 = ((un32 * 4294967296 + un1) % Y * 4294967296 + un0) / Y) (hY : 0 < Y) :
    q1 * 4294967296 + q0 = U / Y ∧ ((un32 * 4294967296 + un1) % Y * 4294967296 + un0) % Y = U % Y := by
  have e1 := Int.mul_ediv_add_emod (un32 * 4294967296 + un1) Y
  rw [← h1] at e1
  have e : U = ((un32 * 4294967296 + un1) % Y * 4294967296 + un0) + Y * (q1 * 4294967296) := by
    rw [hU]
    generalize (un32 * 4294967296 + un1) % Y = m at *
    have : un32 * 18446744073709551616 + un1 * 4294967296 + un0 = (un32 * 4294967296 + un1) * 4294967296 + un0 := by omega
    rw [this, ← e1]; grind
  constructor
  · rw [e, Int.add_mul_ediv_left _ _ (Int.ne_of_gt hY), ← hq0]; omega
  · rw [e, Int.add_mul_emod_self_left]
theorem scale_div {a b c : Int} (hc : 0 < c) : a * c / (b * c) = a / b := Int.mul_ediv_mul_of_pos_left a b hc
theorem scale_mod {a b c : Int} (hc : 0 < c) : a * c % (b * c) / c = a % b := by
  rw [Int.mul_comm a c, Int.mul_comm b c, Int.mul_emod_mul_of_pos a b hc, Int.mul_comm]
  exact Int.mul_ediv_cancel _ (Int.ne_of_gt hc)
/-- a number shifted left, with the next one's upper bits -/
theorem or_add {a b : Nat} {s : Nat} (h : b < 2 ^ s) : a * 2 ^ s ||| b = a * 2 ^ s + b := by
  rw [Nat.mul_comm]; exact (Nat.two_pow_add_eq_or_of_lt h a).symm
end Go.Proofs.YtmnilpjgkjkecaaGreat

set_option linter.unusedVariables false
set_option linter.unusedSimpArgs false
namespace Hd
open Go
/-! ## the cells of a histogram (plain): u the unit's bits, g the magnitude -/
theorem p2pos (k : Nat) : 0 < 2 ^ k := Nat.two_pow_pos k
theorem bl_le {n k : Nat} : bitLen n ≤ k ↔ n < 2 ^ k := by
  obtain ⟨h1, h2⟩ := bitLen_spec n
  constructor
  · intro h
    exact Nat.lt_of_lt_of_le h1 (Nat.pow_le_pow_right (by decide) h)
  · intro h
    rcases Nat.lt_or_ge k (bitLen n) with h3 | h3
    · exfalso
      by_cases h0 : n = 0
      · subst h0
        have : bitLen 0 = 0 := by simp [bitLen]
        omega
      · have := h2 h0
        have h4 : 2 ^ k ≤ 2 ^ (bitLen n - 1) := Nat.pow_le_pow_right (by decide) (by omega)
        omega
    · exact h3
theorem bl_gt {n k : Nat} : k < bitLen n ↔ 2 ^ k ≤ n := by
  have := bl_le (n := n) (k := k)
  omega
theorem bl_mono {a b : Nat} (h : a ≤ b) : bitLen a ≤ bitLen b := bl_le.2 (Nat.lt_of_le_of_lt h (bl_le.1 (Nat.le_refl _)))
/-- the bucket of a value -/
def bkt (u g v : Nat) : Nat := bitLen v - (u + g)
/-- its cell's index -/
def idx (u g v : Nat) : Nat := bkt u g v * 2 ^ (g - 1) + v / 2 ^ (bkt u g v + u)
/-- where its cell begins -/
def low (u g v : Nat) : Nat := v / 2 ^ (bkt u g v + u) * 2 ^ (bkt u g v + u)
def siz (u g v : Nat) : Nat := 2 ^ (bkt u g v + u)
/-- where the cell with an index begins, if there is one -/
def ivb (g i : Nat) : Nat := i / 2 ^ (g - 1) - 1
def ivk (g i : Nat) : Nat := if i / 2 ^ (g - 1) = 0 then i else i % 2 ^ (g - 1) + 2 ^ (g - 1)
def isI (u g i : Nat) : Prop := ivb g i ≤ 64 ∧ bitLen (ivk g i) + ivb g i + u ≤ 63
def ival (u g i : Nat) : Nat := ivk g i * 2 ^ (ivb g i + u)
def topv (u g n : Nat) : Nat := if 63 ≤ min (max n 1) 64 - 1 + u + g then 9223372036854775807 else 2 ^ (min (max n 1) 64 - 1 + u + g) - 1
theorem bkt_mono {u g v w : Nat} (h : v ≤ w) : bkt u g v ≤ bkt u g w := by
  have := bl_mono h
  unfold bkt; omega
/-- a value's place in its bucket -/
theorem cel_lt {u g v : Nat} : v / 2 ^ (bkt u g v + u) < 2 ^ g := by
  rw [Nat.div_lt_iff_lt_mul (p2pos _), ← Nat.pow_add]
  refine bl_le.1 ?_
  unfold bkt; omega
theorem cel_ge {u g v : Nat} (hg : 1 ≤ g) (h : 0 < bkt u g v) : 2 ^ (g - 1) ≤ v / 2 ^ (bkt u g v + u) := by
  rw [Nat.le_div_iff_mul_le (p2pos _), ← Nat.pow_add]
  refine bl_gt.1 ?_
  unfold bkt at h ⊢; omega
theorem half_two {g : Nat} (hg : 1 ≤ g) : 2 ^ g = 2 * 2 ^ (g - 1) := by
  have := Nat.pow_succ (n := 2) (m := g - 1)
  rw [show (g - 1).succ = g by omega] at this; omega
/-- parts of an index -/
theorem idx_parts {u g v : Nat} (hg : 1 ≤ g) : ivb g (idx u g v) = bkt u g v ∧ ivk g (idx u g v) = v / 2 ^ (bkt u g v + u) := by
  have h1 := cel_lt (u := u) (g := g) (v := v)
  have h2 := half_two hg
  have hp := p2pos (g - 1)
  unfold ivb ivk idx
  generalize hc : v / 2 ^ (bkt u g v + u) = c at *
  generalize hh : 2 ^ (g - 1) = h at *
  rcases Nat.eq_zero_or_pos (bkt u g v) with h0 | h0
  · rw [h0, Nat.zero_mul, Nat.zero_add]
    by_cases hl : c < h
    · rw [Nat.div_eq_of_lt hl]; exact ⟨rfl, if_pos rfl⟩
    · have e : c / h = 1 := by
        rw [Nat.div_eq_iff hp]
        omega
      have e2 : c % h = c - h := by
        have := Nat.div_add_mod c h
        rw [e] at this; omega
      rw [e, if_neg (by decide), e2]
      omega
  · have h3 := cel_ge hg h0
    rw [hc, hh] at h3
    have e : (bkt u g v * h + c) / h = bkt u g v + 1 := by
      rw [Nat.div_eq_iff hp, Nat.add_mul]
      omega
    have e2 : (bkt u g v * h + c) % h = c - h := by
      have := Nat.div_add_mod (bkt u g v * h + c) h
      rw [e, Nat.mul_add, Nat.mul_comm h (bkt u g v)] at this; omega
    rw [e, e2, if_neg (by omega)]
    omega
theorem idx_val {u g v : Nat} (hg : 1 ≤ g) : ival u g (idx u g v) = low u g v := by
  obtain ⟨h1, h2⟩ := idx_parts (u := u) (v := v) hg
  unfold ival low
  rw [h1, h2]
theorem idx_is {u g v : Nat} (hg : 1 ≤ g) (hug : u + g ≤ 62) (hv : v < 2 ^ 63) : isI u g (idx u g v) := by
  obtain ⟨h1, h2⟩ := idx_parts (u := u) (v := v) hg
  have hb : bitLen v ≤ 63 := bl_le.2 hv
  have hc := cel_lt (u := u) (g := g) (v := v)
  have hc2 := bl_le.2 hc
  unfold isI
  rw [h1, h2]
  rcases Nat.eq_zero_or_pos (bkt u g v) with h0 | h0
  · rw [h0] at hc2 ⊢; omega
  · have : bkt u g v + (u + g) ≤ 63 := by unfold bkt at h0 ⊢; omega
    omega
theorem low_le (u g v : Nat) : low u g v ≤ v := Nat.div_mul_le_self _ _
theorem low_hi (u g v : Nat) : v < low u g v + siz u g v := by
  unfold low siz
  have := Nat.div_add_mod v (2 ^ (bkt u g v + u))
  have h2 := Nat.mod_lt v (p2pos (bkt u g v + u))
  rw [Nat.mul_comm] at this; omega
theorem low_bkt {u g v : Nat} (hg : 1 ≤ g) : bkt u g (low u g v) = bkt u g v := by
  have h1 := bkt_mono (u := u) (g := g) (low_le u g v)
  rcases Nat.eq_zero_or_pos (bkt u g v) with h0 | h0
  · omega
  · have h2 := cel_ge hg h0
    have h3 : 2 ^ (g - 1) * 2 ^ (bkt u g v + u) ≤ low u g v := Nat.mul_le_mul_right _ h2
    rw [← Nat.pow_add] at h3
    have h4 := bl_gt.2 h3
    have h5 : bkt u g (low u g v) = bitLen (low u g v) - (u + g) := rfl
    omega
theorem low_cel {u g v : Nat} (hg : 1 ≤ g) : low u g v / 2 ^ (bkt u g v + u) = v / 2 ^ (bkt u g v + u) := by
  unfold low
  rw [Nat.mul_div_cancel _ (p2pos _)]
theorem idx_low {u g v : Nat} (hg : 1 ≤ g) : idx u g (low u g v) = idx u g v := by
  unfold idx
  rw [low_bkt hg, low_cel hg]
theorem low_low {u g v : Nat} (hg : 1 ≤ g) : low u g (low u g v) = low u g v := by
  show low u g v / 2 ^ (bkt u g (low u g v) + u) * 2 ^ (bkt u g (low u g v) + u) = _
  rw [low_bkt hg, low_cel hg]; rfl
/-- a greater value has no lesser index -/
theorem idx_mono {u g v w : Nat} (hg : 1 ≤ g) (h : v ≤ w) : idx u g v ≤ idx u g w := by
  have hb := bkt_mono (u := u) (g := g) h
  have h1 := cel_lt (u := u) (g := g) (v := v)
  have h2 := half_two hg
  unfold idx
  rcases Nat.lt_or_ge (bkt u g v) (bkt u g w) with h3 | h3
  · have h4 := cel_ge (u := u) (v := w) hg (by omega)
    have h5 : (bkt u g v + 1) * 2 ^ (g - 1) ≤ bkt u g w * 2 ^ (g - 1) := Nat.mul_le_mul_right _ h3
    rw [Nat.add_mul] at h5
    omega
  · have e : bkt u g v = bkt u g w := by omega
    rw [e]
    exact Nat.add_le_add_left (Nat.div_le_div_right h) _
/-- the same index: the same cell -/
theorem idx_same {u g v w : Nat} (hg : 1 ≤ g) (h : idx u g v = idx u g w) : low u g v = low u g w ∧ bkt u g v = bkt u g w := by
  obtain ⟨a1, a2⟩ := idx_parts (u := u) (v := v) hg
  obtain ⟨b1, b2⟩ := idx_parts (u := u) (v := w) hg
  rw [h] at a1 a2
  unfold low
  rw [← a2, ← b2, ← a1, ← b1]
  exact ⟨rfl, rfl⟩
/-- the cell with an index begins at a value of that index -/
theorem ival_idx {u g i : Nat} (hg : 1 ≤ g) (h : isI u g i) : idx u g (ival u g i) = i ∧ low u g (ival u g i) = ival u g i := by
  obtain ⟨h1, h2⟩ := h
  have hp := p2pos (g - 1)
  have hh := half_two hg
  have hdm := Nat.div_add_mod i (2 ^ (g - 1))
  have hml := Nat.mod_lt i hp
  have hb : bkt u g (ival u g i) = ivb g i := by
    unfold bkt ival
    by_cases h0 : i / 2 ^ (g - 1) = 0
    · have hb0 : ivb g i = 0 := by unfold ivb; omega
      have hk : ivk g i = i := by unfold ivk; rw [if_pos h0]
      rw [hb0, hk, Nat.zero_add]
      rw [h0] at hdm
      have : bitLen (i * 2 ^ u) ≤ u + g := bl_le.2 (by
        rw [Nat.pow_add 2 u g, Nat.mul_comm]
        exact Nat.mul_lt_mul_of_pos_left (by omega) (p2pos u))
      omega
    · have hk : ivk g i = i % 2 ^ (g - 1) + 2 ^ (g - 1) := by unfold ivk; rw [if_neg h0]
      have l1 : bitLen (ivk g i * 2 ^ (ivb g i + u)) ≤ g + (ivb g i + u) := bl_le.2 (by
        rw [Nat.pow_add 2 g]
        exact Nat.mul_lt_mul_of_pos_right (by omega) (p2pos _))
      have l2 : g - 1 + (ivb g i + u) < bitLen (ivk g i * 2 ^ (ivb g i + u)) := bl_gt.2 (by
        rw [Nat.pow_add 2 (g - 1)]
        exact Nat.mul_le_mul_right _ (by omega))
      omega
  have hc : ival u g i / 2 ^ (ivb g i + u) = ivk g i := by unfold ival; rw [Nat.mul_div_cancel _ (p2pos _)]
  have hi : ivb g i * 2 ^ (g - 1) + ivk g i = i := by
    by_cases h0 : i / 2 ^ (g - 1) = 0
    · have hb0 : ivb g i = 0 := by unfold ivb; omega
      have hk : ivk g i = i := by unfold ivk; rw [if_pos h0]
      rw [hb0, hk]; omega
    · have hk : ivk g i = i % 2 ^ (g - 1) + 2 ^ (g - 1) := by unfold ivk; rw [if_neg h0]
      have e : i / 2 ^ (g - 1) = ivb g i + 1 := (Nat.sub_add_cancel (Nat.pos_of_ne_zero h0)).symm
      rw [e, Nat.mul_add, Nat.mul_comm (2 ^ (g - 1)) (ivb g i), Nat.mul_one] at hdm
      rw [hk]; omega
  refine ⟨?_, ?_⟩
  · unfold idx; rw [hb, hc, hi]
  · unfold low; rw [hb, hc]; rfl
theorem ival_lt {u g i : Nat} (h : isI u g i) : ival u g i < 2 ^ 63 := by
  obtain ⟨h1, h2⟩ := h
  have := bl_le.1 (Nat.le_refl (bitLen (ivk g i)))
  unfold ival
  refine Nat.lt_of_lt_of_le (Nat.mul_lt_mul_of_pos_right this (p2pos _)) ?_
  rw [← Nat.pow_add]
  exact Nat.pow_le_pow_right (by decide) (by omega)
/-- the end of a cell is a value too -/
theorem hi_lt {u g v : Nat} (hg : 1 ≤ g) (hug : u + g ≤ 62) (hv : v < 2 ^ 63) : low u g v + siz u g v ≤ 2 ^ 63 := by
  have hb : bitLen v ≤ 63 := bl_le.2 hv
  unfold low siz
  rw [← Nat.succ_mul]
  have hs : bkt u g v + u ≤ 63 - g ∨ bkt u g v = 0 := by unfold bkt; omega
  have hle : bkt u g v + u ≤ 63 := by unfold bkt; omega
  have : v / 2 ^ (bkt u g v + u) < 2 ^ (63 - (bkt u g v + u)) := by
    rw [Nat.div_lt_iff_lt_mul (p2pos _), ← Nat.pow_add]
    rwa [show 63 - (bkt u g v + u) + (bkt u g v + u) = 63 by omega]
  refine Nat.le_trans (Nat.mul_le_mul_right _ (show (v / 2 ^ (bkt u g v + u)).succ ≤ 2 ^ (63 - (bkt u g v + u)) from this)) ?_
  rw [← Nat.pow_add]
  exact Nat.pow_le_pow_right (by decide) (by omega)
end Hd

namespace Go.Proofs.YtmnilpjgkjkecaaGreat
open Sx Go
set_option linter.unusedVariables false
set_option linter.unusedSimpArgs false
theorem Len64_c {w0 : World} {H : List Asn} (x : Int) (hx : 0 ≤ x ∧ x < 18446744073709551616) (w : World) (hw : St w0 H w) :
    Calls Tryz.prog 76 #[.int .u64 x] w fun e w' => ∃ L, e = .returned (.int .i64 L) ∧ St w0 H w' ∧ BL x L := by
  refine enter (vs := [.int .u64 x]) Tryz.func76 rfl rfl rfl hw ?_
  repeat (first | (refine sy ?_; try intro _))
  refine JS_join2 (fun (y L : Int) => [(0, .int .u64 y), (2, .int .i64 L)]) (fun _ _ => H) (fun y L => 0 ≤ y ∧ y < 4294967296 ∧ 0 ≤ L ∧ L ≤ 32 ∧ (bitLen x.toNat : Int) = L + bitLen y.toNat) ?_ ?_
  · rintro y L ⟨h1, h2, h3, h4, h5⟩
    repeat (first | (refine sy ?_; try intro _))
    refine JS_join2 (fun (y L : Int) => [(0, .int .u64 y), (2, .int .i64 L)]) (fun _ _ => H) (fun y L => 0 ≤ y ∧ y < 65536 ∧ 0 ≤ L ∧ L ≤ 48 ∧ (bitLen x.toNat : Int) = L + bitLen y.toNat) ?_ ?_
    · clear h1 h2 h3 h4 h5 y L
      rintro y L ⟨h1, h2, h3, h4, h5⟩
      repeat (first | (refine sy ?_; try intro _))
      refine JS_join2 (fun (y L : Int) => [(0, .int .u64 y), (2, .int .i64 L)]) (fun _ _ => H) (fun y L => 0 ≤ y ∧ y < 256 ∧ 0 ≤ L ∧ L ≤ 56 ∧ (bitLen x.toNat : Int) = L + bitLen y.toNat) ?_ ?_
      · clear h1 h2 h3 h4 h5 y L
        rintro y L ⟨h1, h2, h3, h4, h5⟩
        have h8 := bitLen_le8 y.toNat (by omega)
        repeat (first | (refine sy ?_; try intro _))
        refine JO_v (V_indexS (tb := tb) bitLen 256 rfl rfl rfl (by kernel_rfl) (by omega) rfl) ?_
        repeat (first | (refine sy ?_; try intro _))
        refine JS_ret Tryz.func76 rfl rfl ?_
        intro w hw
        refine ⟨_, rfl, hw, ?_⟩
        rw [← h5]
        exact BL_of hx.1 hx.2
      · intro K
        refine JS_condD rfl (fun hc => ?_) (fun hc => ?_)
        · have e := bitLen_cut y 8 h1 (by omega)
          simp only [Int.reducePow] at e
          repeat (first | exact JS_to2 K (y / 256) (L + 8) ⟨by omega, by omega, by omega, by omega, by omega⟩ (by repeat (first | exact trivial | refine ⟨rfl, ?_⟩ | refine ⟨lookI rfl (by omega), ?_⟩)) (fun _ h => h) | (first | (refine sy ?_; try intro _)))
        · repeat (first | exact JS_to2 K (y) (L) ⟨by omega, by omega, by omega, by omega, by omega⟩ (by repeat (first | exact trivial | refine ⟨rfl, ?_⟩ | refine ⟨lookI rfl (by omega), ?_⟩)) (fun _ h => h) | (first | (refine sy ?_; try intro _)))
    · intro K
      refine JS_condD rfl (fun hc => ?_) (fun hc => ?_)
      · have e := bitLen_cut y 16 h1 (by omega)
        simp only [Int.reducePow] at e
        repeat (first | exact JS_to2 K (y / 65536) (L + 16) ⟨by omega, by omega, by omega, by omega, by omega⟩ (by repeat (first | exact trivial | refine ⟨rfl, ?_⟩ | refine ⟨lookI rfl (by omega), ?_⟩)) (fun _ h => h) | (first | (refine sy ?_; try intro _)))
      · repeat (first | exact JS_to2 K (y) (L) ⟨by omega, by omega, by omega, by omega, by omega⟩ (by repeat (first | exact trivial | refine ⟨rfl, ?_⟩ | refine ⟨lookI rfl (by omega), ?_⟩)) (fun _ h => h) | (first | (refine sy ?_; try intro _)))
  · intro K
    refine JS_condD rfl (fun hc => ?_) (fun hc => ?_)
    · have e := bitLen_cut x 32 hx.1 (by omega)
      simp only [Int.reducePow] at e
      repeat (first | exact JS_to2 K (x / 4294967296) (32) ⟨by omega, by omega, by omega, by omega, by omega⟩ (by repeat (first | exact trivial | refine ⟨rfl, ?_⟩ | refine ⟨lookI rfl (by omega), ?_⟩)) (fun _ h => h) | (first | (refine sy ?_; try intro _)))
    · repeat (first | exact JS_to2 K (x) (0) ⟨by omega, by omega, by omega, by omega, by omega⟩ (by repeat (first | exact trivial | refine ⟨rfl, ?_⟩ | refine ⟨lookI rfl (by omega), ?_⟩)) (fun _ h => h) | (first | (refine sy ?_; try intro _)))
theorem LeadingZeros64_c {w0 : World} {H : List Asn} (x : Int) (hx : 0 ≤ x ∧ x < 18446744073709551616) (w : World) (hw : St w0 H w) :
    Calls Tryz.prog 125 #[.int .u64 x] w fun e w' => ∃ L, e = .returned (.int .i64 (64 - L)) ∧ St w0 H w' ∧ BL x L := by
  refine enter (vs := [.int .u64 x]) Tryz.func125 rfl rfl rfl hw ?_
  repeat (first | (refine sy ?_; try intro _))
  refine JO_call Tryz.call76 rfl rfl fun w hw => (Len64_c x hx w hw).mono ?_
  rintro e w' ⟨L, rfl, hw', hL⟩
  have h2 := hL.1
  have h3 := hL.2.1
  refine ⟨_, rfl, _, hw', ?_⟩
  repeat (first | (refine sy ?_; try intro _))
  refine JS_ret Tryz.func125 rfl rfl ?_
  intro w hw
  exact ⟨_, rfl, hw, hL⟩
end Go.Proofs.YtmnilpjgkjkecaaGreat

namespace Sx
open Go
/-! operations that hand back a value and change memory -/
section
variable {P : Program} {f n : Nat} {R : Ending → World → Prop} {D : List Deferred} {w0 : World} {k : List Item} {ov : Ov} {H : List Asn} {K : KC} {Z : Array Oper × List Nat}
  {ops : Array Oper} {l : List Oper} {d : Option Nat} {T : Nat} {pos : String} {af : Array Edge} {g : Option (Nat × Bool)} {x y : Operand} {op : Op} {tb : Tb P}
/-- operation o yields v c, for some c, and the assertions become H' c -/
def OpE {ι : Type} (P : Program) (n : Nat) (D : List Deferred) (w0 : World) (ov : Ov) (H : List Asn) (o : Oper) (v : ι → Value) (H' : ι → List Asn) : Prop :=
  dOk o.dst n = true ∧ ∀ a w, Rep n D ov a → St w0 H w → ∃ c w', (execOp a.eval o).run P w = .ok (.value (v c)) w' ∧ St w0 (H' c) w'
theorem JO_e {ι : Type} {v : ι → Value} {H' : ι → List Asn} (h : OpE P n D w0 ov H ⟨d, op, T, pos, af, g⟩ v H') (hn : ∀ c, JR P f n R D w0 ops l k (put d (v c) ov) (H' c)) : JO P f n R D w0 ops ⟨d, op, T, pos, af, g⟩ l k ov H :=
  JO_step fun a w ha hw => let ⟨c, w', h1, h2⟩ := h.2 a w ha hw; ⟨v c, w', h1, h.1, H' c, h2, hn c⟩
theorem QO_e {ι : Type} {v : ι → Value} {H' : ι → List Asn} (h : OpE P n D w0 ov H ⟨d, op, T, pos, af, g⟩ v H') (hlo : loud op = true) (hs : Z.2.contains l.length = true ∨ ∀ c w, St w0 (H' c) w → St w0 H w) (hn : ∀ c, QR P n D w0 Z l (put d (v c) ov) (H' c) K) : QO P n D w0 Z ⟨d, op, T, pos, af, g⟩ l ov H K := by
  unfold QO
  intro a ha
  refine .inr ⟨hlo, fun w hw => ?_⟩
  obtain ⟨c, w', hrun, hw'⟩ := h.2 a w ha hw
  simp only [Oper.wpN, hrun, Oper.upN]
  exact ⟨St w0 (H' c), hw', hs.symm.imp (fun h => h c) id, by have := hn c; unfold QR at this; exact this _ (ha.put h.1 _)⟩
theorem Rd.nil {p : Option Addr} {m c m' : Nat} {cs : List Value} {w : World} (h : Rd w0 H (.slice p m c) m' cs) (hw : St w0 H w) : p = none → m = 0 := by
  unfold Rd at h
  obtain ⟨⟨b, c', e, hn, _⟩, _⟩ := h w hw
  cases e
  exact hn
theorem Sel.self {H a F} (h : Sel H a F) : F a = H := by
  induction h with
  | here a r => rfl
  | there y a r F _ ih => simp [ih]
theorem Sel.mem {H a F} (h : Sel H a F) : a ∈ H := by
  induction h with
  | here a r => exact List.Mem.head _
  | there y a r F _ ih => exact List.Mem.tail _ ih
theorem add_zero' (a : Addr) : a.add 0 = a := by unfold Addr.add; simp
theorem run_storeSeg {e size m j : Nat} {u : Value} {cs vs : List Value} {w : World} {F : Asn → List Asn} (hu : Sel H (vec e size u m cs) F) (hw : St w0 H w) (hp : 0 < vs.length) (h1 : All1 vs) (hf : j + vs.length ≤ cs.length) :
    ∃ b c w', u = .slice (some ⟨b, 0, none⟩) m c ∧ (storeCells ⟨b, j, none⟩ vs).run P w = .ok () w' ∧ St w0 (F (vec e size u m (cs.take j ++ vs ++ cs.drop (j + vs.length)))) w' := by
  obtain ⟨fp, hfp⟩ := hw.mem hu.mem
  rw [vec_holds] at hfp
  rcases hfp.2 with ⟨base, rfl, rfl, _⟩ | ⟨gb, cap, cur, rfl, _, hg, hn, hcm, hsz, ht⟩
  · have := hfp.1; rw [Nat.zero_mul] at this; omega
  · have hcl := hfp.1
    have hlen : cs.length ≤ cur.size := by rw [hcl, hsz]; exact Nat.mul_le_mul_right _ hn
    have hst := run_storeCells_at P gb j e vs 0 cur w hg (by omega) h1.mem
    simp only [Nat.add_zero] at hst
    refine ⟨gb, cap, _, rfl, hst, ?_⟩
    refine hw.row (hu.upd _) (cs := cur.toList) (by simpa using hg) (fun fq hq2 => ?_) fun w' h' => ?_
    · rw [vec_holds] at hq2
      rcases hq2.2 with ⟨base, hb, _⟩ | ⟨g', cap', cur', hv', hfq, _⟩
      · simp at hb; rw [hb.2.1, Nat.zero_mul] at hcl; omega
      · simp at hv'; rw [hfq, hv'.1]
    · rw [vec_holds]
      refine ⟨by rw [← hcl]; simp; omega, .inr ⟨gb, cap, _, rfl, rfl, h', hn, hcm, by simp; omega, ?_⟩⟩
      have hcs : cs = cur.toList.take cs.length := by rw [hcl]; exact ht.symm
      rw [← hcl]
      have e1 : cs.take j = cur.toList.take j := by rw [hcs, List.take_take]; congr 1; omega
      rw [e1, List.take_append, List.take_append]
      congr 1
      · congr 1
        · rw [List.take_take]; congr 1; omega
        · simp
          rw [List.take_of_length_le (by omega)]
      · have e2 : cs.drop (j + vs.length) = (cur.toList.drop (j + vs.length)).take (cs.length - (j + vs.length)) := by
          conv => lhs; rw [hcs]
          rw [List.drop_take]
        rw [e2]
        congr 1
        simp
        omega
theorem All1.take {l : List Value} (h : All1 l) (n : Nat) : All1 (l.take n) := All1.of fun v hv => h.mem v (List.mem_of_mem_take hv)
/-- copy into a slice, or a slice's part -/
theorem E_copy {t e sz by' m q lo kk c cd sz1 by1 : Nat} {ty2 : Ty} {z1 z2 : Option (List Value)} {a pd : Option Addr} {ux : Value} {cs news : List Value} {F : Asn → List Asn}
    (hx : ev ov x = some (.slice pd kk cd)) (hy : ev ov y = some ux) (h : tlook tb.l t = some ⟨.slice e, sz1, by1, z1⟩) (h2 : tlook tb.l e = some ⟨ty2, sz, by', z2⟩) (hsz : Nat.blt 0 sz = true)
    (hu : Sel H (vec e sz (.slice a m c) m cs) F) (hp : 0 < kk → pd = a.map (·.add (lo * sz))) (hk : lo + kk ≤ m) (hr : Rd w0 H ux q news) (hl : news.length = q * sz) (h1 : All1 news) (hd : dOk d n = true) :
    OpE (ι := Unit) P n D w0 ov H ⟨d, .call ⟨.builtin .copy, #[x, y], #[t, t]⟩, T, pos, af, g⟩ (fun _ => .int .i64 (min q kk : Nat)) (fun _ => F (vec e sz (.slice a m c) m (cs.take (lo * sz) ++ news.take (min q kk * sz) ++ cs.drop (lo * sz + min q kk * sz)))) :=
  ⟨hd, fun A w ha hw => by
    unfold Rd at hr
    obtain ⟨⟨bx, cx, rfl, hbx, _⟩, hrd⟩ := hr w hw
    have hsz' : 0 < sz := by simpa [Nat.blt_eq] using hsz
    have hcl := vec_len hu.mem hw
    have e0 := run_underlying (und_slice h) w
    have hlen : (news.take (min q kk * sz)).length = min q kk * sz := by
      rw [List.length_take, hl]
      have : min q kk * sz ≤ q * sz := Nat.mul_le_mul_right _ (Nat.min_le_left _ _)
      omega
    have hfirst : (Builtin.firstCells sz (min q kk) (.slice bx q cx)).run P w = .ok (news.take (min q kk * sz)).toArray w := by
      cases bx with
      | none =>
        have : q = 0 := hbx rfl
        subst this
        have : news = [] := List.eq_nil_of_length_eq_zero (by simpa using hl)
        subst this
        simp [Builtin.firstCells]
      | some b =>
        have := run_loadCells_list (P := P) w b (news.take (min q kk * sz)) (fun j v hv => by
          rw [List.getElem?_take] at hv
          split at hv
          · exact reads_some hrd j v hv
          · cases hv)
        rw [hlen] at this
        simpa [Builtin.firstCells] using this
    by_cases hn0 : min q kk = 0
    · refine ⟨(), w, ?_, ?_⟩
      · simp only [hn0, Nat.zero_mul, List.take_zero] at hfirst
        cases pd <;> simp [execOp, resolve, invoke, builtin, ha.ev hx, ha.ev hy, Builtin.copy_, e0, Builtin.lenOf, Tb.run_size w h2, hn0, hfirst, storeCells, goInt] <;> simp_all
      · simp only [hn0, Nat.zero_mul, List.take_zero, List.append_nil, Nat.add_zero, List.take_append_drop]
        rw [hu.self]; exact hw
    · have hmul : lo * sz + min q kk * sz ≤ m * sz := by
        rw [← Nat.add_mul]; exact Nat.mul_le_mul_right _ (by omega)
      obtain ⟨b, cc, w', hb, hst, hw'⟩ := run_storeSeg (P := P) (vs := news.take (min q kk * sz)) (j := lo * sz) hu hw (by rw [hlen]; exact Nat.mul_pos (by omega) hsz') (h1.take _) (by rw [hlen, hcl]; exact hmul)
      cases hb
      have hpd := hp (by omega)
      rw [Option.map_some, add_blk, Nat.zero_add] at hpd
      subst hpd
      rw [hlen] at hw'
      refine ⟨(), w', ?_, hw'⟩
      simp [execOp, resolve, invoke, builtin, ha.ev hx, ha.ev hy, Builtin.copy_, e0, Builtin.lenOf, Tb.run_size w h2, hfirst, hst, goInt]⟩
theorem V_eqStrT {A : List Int} {T1 T2 : Nat} (hx : ev ov x = some (.string (bstr A))) (hy : ev ov y = some (.string (bstr A))) (hA : Byt A) (hd : dOk d n = true) :
    OpV P n D w0 ov H ⟨d, .binOp .eql T1 x y T2, T, pos, af, g⟩ (.bool true) := by
  have : OpV P n D w0 ov H ⟨d, .binOp .eql T1 x y T2, T, pos, af, g⟩ (.bool (decide (A = A))) := V_eqStr hx hy hA hA hd
  simpa using this
theorem V_neStrF {A : List Int} {T1 T2 : Nat} (hx : ev ov x = some (.string (bstr A))) (hy : ev ov y = some (.string (bstr A))) (hA : Byt A) (hd : dOk d n = true) :
    OpV P n D w0 ov H ⟨d, .binOp .neq T1 x y T2, T, pos, af, g⟩ (.bool false) := by
  have : OpV P n D w0 ov H ⟨d, .binOp .neq T1 x y T2, T, pos, af, g⟩ (.bool (decide (A ≠ A))) := V_neStr hx hy hA hA hd
  simpa using this
end
end Sx

namespace Sx
open Go
/-- block b holds a map -/
@[irreducible] def mapA (b : Nat) (es : Array MapEntry) (clock : Nat) : Asn where
  holds w fp := fp = [b] ∧ w.heap[b]? = some (.map es clock)
  frame w w' fp h hk := ⟨h.1, by rw [hk b (by simp [h.1])]; exact h.2⟩
  live w fp h b' hb := by
    obtain ⟨rfl, hT⟩ := h
    simp at hb; subst hb
    exact (Array.getElem?_eq_some_iff.1 hT).1
theorem mapA_holds {b es clock w fp} : (mapA b es clock).holds w fp ↔ fp = [b] ∧ w.heap[b]? = some (.map es clock) := by unfold mapA; exact Iff.rfl
theorem St.newMap {w0 H w} (h : St w0 H w) : St w0 (mapA w.heap.size #[] 0 :: H) (w.alloc (.map #[] 0)) := by
  refine St.step («as» := []) (bs := [mapA w.heap.size #[] 0]) h rfl rfl rfl (by simp) ?_
  intro f1 hf _ _
  simp [All] at hf
  subst hf
  refine ⟨fun b hb _ => heap_alloc_old w _ hb, [w.heap.size], by simp, by simp, [w.heap.size], [], by simp, mapA_holds.2 ⟨rfl, heap_alloc_new w _⟩, rfl⟩
section
variable {P : Program} {f n : Nat} {R : Ending → World → Prop} {D : List Deferred} {w0 : World} {k : List Item} {ov : Ov} {H : List Asn}
  {ops : Array Oper} {l : List Oper} {d : Option Nat} {T : Nat} {pos : String} {af : Array Edge} {g : Option (Nat × Bool)}
theorem kMm {t : Nat} {r : Option Operand} (h : JO P f n R D w0 ops ⟨d, .makeMap t r, T, pos, af, g⟩ l k ov H) : JO P f n R D w0 ops ⟨d, .makeMap t r, T, pos, af, g⟩ l k ov H := h
theorem JO_makeMap {t : Nat} (hd : dOk d n = true) (hn : ∀ b, JR P f n R D w0 ops l k (put d (.map (some b)) ov) (mapA b #[] 0 :: H)) : JO P f n R D w0 ops ⟨d, .makeMap t none, T, pos, af, g⟩ l k ov H :=
  JO_step fun a w ha hw => ⟨.map (some w.heap.size), w.alloc (.map #[] 0), by simp [execOp, RowKit.run_makeMap], hd, _, hw.newMap, hn w.heap.size⟩
end
end Sx

set_option linter.unusedVariables false
set_option linter.unusedSimpArgs false
namespace Sx
open Go
/-! maps: entries in a list, in the order in which they came -/
def isKey (P : Program) (k : TypeId) (v : Value) : Prop := ∃ l, keyOf P k v = some l
/-- what the operations need of a key's type -/
structure KeyT (P : Program) (k : TypeId) : Prop where
  check : ∀ (w : World) (em : Bool) {v : Value}, isKey P k v → (Instr.checkKey em 10000 k v).run P w = .ok () w
  find : ∀ (w : World) {x : Value}, isKey P k x → ∀ es : List MapEntry, (∀ e ∈ es, isKey P k e.key) →
    ((Instr.findKey k x es).run P w = .ok none w ∧ ∀ e ∈ es, e.key ≠ x) ∨ ∃ j e, (Instr.findKey k x es).run P w = .ok (some (j, e.val)) w ∧ es[j]? = some e ∧ e.key = x
  stays : ∀ (w : World) {v : Value}, isKey P k v → (Instr.keyThatStays v v).run P w = .ok v w
theorem KeyT.of {P : Program} {k : TypeId} (K : Maps.Keyed P k) : KeyT P k :=
  ⟨fun w em _ ⟨_, h⟩ => K.check w em h, fun w _ ⟨_, h⟩ es hes => K.find w h es hes, fun w _ ⟨_, h⟩ => K.stays w h⟩
structure MOk (P : Program) (k : TypeId) (es : List MapEntry) (clock : Nat) : Prop where
  key : ∀ e ∈ es, isKey P k e.key
  nodup : (es.map (·.key)).Nodup
  lt : ∀ e ∈ es, e.born < clock
  born : (es.map (·.born)).Nodup
theorem MOk.nil {P : Program} {k : TypeId} {clock : Nat} : MOk P k [] clock := ⟨by simp, by simp, by simp, by simp⟩
theorem MOk.push {P : Program} {k : TypeId} {es : List MapEntry} {clock : Nat} (h : MOk P k es clock) {key v : Value} (hk : isKey P k key) (hn : ∀ e ∈ es, e.key ≠ key) : MOk P k (es ++ [⟨key, v, clock⟩]) (clock + 1) := by
  refine ⟨?_, ?_, ?_, ?_⟩
  · intro e he
    rcases List.mem_append.1 he with he | he
    · exact h.key e he
    · simp at he; subst he; exact hk
  · rw [List.map_append, List.map_cons, List.map_nil]
    refine List.nodup_append.2 ⟨h.nodup, by simp, fun a ha b hb e => ?_⟩
    simp only [List.mem_singleton] at hb
    obtain ⟨x, hx, rfl⟩ := List.mem_map.1 ha
    exact hn x hx (e.trans hb)
  · intro e he
    rcases List.mem_append.1 he with he | he
    · have := h.lt e he; omega
    · simp at he; subst he; simp
  · rw [List.map_append, List.map_cons, List.map_nil]
    refine List.nodup_append.2 ⟨h.born, by simp, fun a ha b hb e => ?_⟩
    simp only [List.mem_singleton] at hb
    obtain ⟨x, hx, rfl⟩ := List.mem_map.1 ha
    have := h.lt x hx
    omega
theorem MOk.setv {P : Program} {k : TypeId} {A B : List MapEntry} {e : MapEntry} {clock : Nat} (h : MOk P k (A ++ e :: B) clock) (v : Value) : MOk P k (A ++ { e with val := v } :: B) clock := by
  refine ⟨?_, ?_, ?_, ?_⟩
  · intro x hx
    rcases List.mem_append.1 hx with hx | hx
    · exact h.key x (List.mem_append_left _ hx)
    · rcases List.mem_cons.1 hx with rfl | hx
      · exact h.key e (by simp)
      · exact h.key x (by simp [hx])
  · have := h.nodup
    simpa using this
  · intro x hx
    rcases List.mem_append.1 hx with hx | hx
    · exact h.lt x (List.mem_append_left _ hx)
    · rcases List.mem_cons.1 hx with rfl | hx
      · exact h.lt e (by simp)
      · exact h.lt x (by simp [hx])
  · have := h.born
    simpa using this
theorem key_inj : ∀ {es : List MapEntry}, (es.map (·.key)).Nodup → ∀ {x y : MapEntry}, x ∈ es → y ∈ es → x.key = y.key → x = y
  | [], _, _, _, hx, _, _ => absurd hx (by simp)
  | e :: r, h, x, y, hx, hy, hk => by
    rw [List.map_cons, List.nodup_cons] at h
    rcases List.mem_cons.1 hx with hx | hx <;> rcases List.mem_cons.1 hy with hy | hy
    · rw [hx, hy]
    · rw [hx] at hk; exact absurd (List.mem_map.2 ⟨y, hy, hk.symm⟩) h.1
    · rw [hy] at hk; exact absurd (List.mem_map.2 ⟨x, hx, hk⟩) h.1
    · exact key_inj h.2 hx hy hk
/-- a block holds a map of these entries -/
abbrev mapL (b : Nat) (es : List MapEntry) (clock : Nat) : Asn := mapA b es.toArray clock
theorem St.map_get {w0 H w b es clock} (h : St w0 H w) (hm : mapL b es clock ∈ H) : w.heap[b]? = some (.map es.toArray clock) := by
  obtain ⟨f, hf⟩ := h.mem hm
  exact (mapA_holds.1 hf).2
theorem St.map_put {w0 H w b es clock} {F : Asn → List Asn} (es' : List MapEntry) (clock' : Nat) (h : St w0 H w) (hu : Sel H (mapL b es clock) F) : St w0 (F (mapL b es' clock')) { w with heap := w.heap.setIfInBounds b (.map es'.toArray clock') } := by
  refine h.upd (hu.upd _) rfl rfl rfl (by simp) ?_
  intro f1 hf
  obtain ⟨rfl, hb⟩ := mapA_holds.1 hf
  have hs := MapKept.heap_set (o' := .map es'.toArray clock') hb
  exact ⟨fun b' _ hb' => hs.2 b' (by simpa using hb'), [b], by simp, by simp, mapA_holds.2 ⟨rfl, hs.1⟩⟩
section
variable {P : Program} {n : Nat} {D : List Deferred} {w0 : World} {ov : Ov} {H : List Asn}
  {d : Option Nat} {T : Nat} {pos : String} {af : Array Edge} {g : Option (Nat × Bool)} {x y y2 : Operand} {tb : Tb P} {t k e : TypeId} {s1 b1 : Nat} {z1 : Option (List Value)} {b clock : Nat} {es : List MapEntry} {key v : Value}
theorem KeyT.found (K : KeyT P k) (w : World) (hM : MOk P k es clock) {e0 : MapEntry} (he : e0 ∈ es) : ∃ j, (Instr.findKey k e0.key es).run P w = .ok (some (j, e0.val)) w ∧ es[j]? = some e0 := by
  rcases K.find w (hM.key e0 he) es hM.key with ⟨_, h⟩ | ⟨j, e1, h1, h2, h3⟩
  · exact absurd rfl (h e0 he)
  · have : e1 = e0 := key_inj hM.nodup (List.mem_of_getElem? h2) he h3
    subst this
    exact ⟨j, h1, h2⟩
theorem KeyT.missed (K : KeyT P k) (w : World) (hM : MOk P k es clock) (hk : isKey P k key) (hn : ∀ e ∈ es, e.key ≠ key) : (Instr.findKey k key es).run P w = .ok none w := by
  rcases K.find w hk es hM.key with ⟨h, _⟩ | ⟨j, e1, h1, h2, h3⟩
  · exact h
  · exact absurd h3 (hn e1 (List.mem_of_getElem? h2))
theorem V_lookupT (K : KeyT P k) (h : tlook tb.l t = some ⟨.map k e, s1, b1, z1⟩) (hx : ev ov x = some (.map (some b))) (hy : ev ov y = some key) (hb : mapL b es clock ∈ H) (hM : MOk P k es clock) {e0 : MapEntry} (he : e0 ∈ es) (hk : e0.key = key) (hd : dOk d n = true) :
    OpV P n D w0 ov H ⟨d, .lookup t x y false, T, pos, af, g⟩ e0.val := by
  unfold OpV
  refine ⟨hd, fun a w ha hw => ?_⟩
  subst hk
  obtain ⟨j, h1, h2⟩ := K.found w hM he
  simp [execOp, ha.ev hx, ha.ev hy, Instr.lookup, run_underlying (und_map h), MapKept.run_getObj_map (hw.map_get hb), K.check w _ (hM.key e0 he), h1]
theorem V_lookupF (K : KeyT P k) (h : tlook tb.l t = some ⟨.map k e, s1, b1, z1⟩) (hx : ev ov x = some (.map (some b))) (hy : ev ov y = some key) (hb : mapL b es clock ∈ H) (hM : MOk P k es clock) (hkey : isKey P k key) (hn : ∀ e ∈ es, e.key ≠ key) (hz : ∀ w, (zeroValue e).run P w = .ok v w) (hd : dOk d n = true) :
    OpV P n D w0 ov H ⟨d, .lookup t x y false, T, pos, af, g⟩ v := by
  unfold OpV
  refine ⟨hd, fun a w ha hw => ?_⟩
  have h1 := K.missed w hM hkey hn
  simp [execOp, ha.ev hx, ha.ev hy, Instr.lookup, run_underlying (und_map h), MapKept.run_getObj_map (hw.map_get hb), K.check w _ hkey, h1, hz]
theorem V_lookupTk (K : KeyT P k) (h : tlook tb.l t = some ⟨.map k e, s1, b1, z1⟩) (hx : ev ov x = some (.map (some b))) (hy : ev ov y = some key) (hb : mapL b es clock ∈ H) (hM : MOk P k es clock) {e0 : MapEntry} (he : e0 ∈ es) (hk : e0.key = key) (hd : dOk d n = true) :
    OpV P n D w0 ov H ⟨d, .lookup t x y true, T, pos, af, g⟩ (.tuple #[e0.val, .bool true]) := by
  unfold OpV
  refine ⟨hd, fun a w ha hw => ?_⟩
  subst hk
  obtain ⟨j, h1, h2⟩ := K.found w hM he
  simp [execOp, ha.ev hx, ha.ev hy, Instr.lookup, run_underlying (und_map h), MapKept.run_getObj_map (hw.map_get hb), K.check w _ (hM.key e0 he), h1]
theorem V_lookupFk (K : KeyT P k) (h : tlook tb.l t = some ⟨.map k e, s1, b1, z1⟩) (hx : ev ov x = some (.map (some b))) (hy : ev ov y = some key) (hb : mapL b es clock ∈ H) (hM : MOk P k es clock) (hkey : isKey P k key) (hn : ∀ e ∈ es, e.key ≠ key) (hz : ∀ w, (zeroValue e).run P w = .ok v w) (hd : dOk d n = true) :
    OpV P n D w0 ov H ⟨d, .lookup t x y true, T, pos, af, g⟩ (.tuple #[v, .bool false]) := by
  unfold OpV
  refine ⟨hd, fun a w ha hw => ?_⟩
  have h1 := K.missed w hM hkey hn
  simp [execOp, ha.ev hx, ha.ev hy, Instr.lookup, run_underlying (und_map h), MapKept.run_getObj_map (hw.map_get hb), K.check w _ hkey, h1, hz]
theorem setIf_same {w : World} {o : Obj} (hb : w.heap[b]? = some o) : { w with heap := w.heap.setIfInBounds b o } = w := by
  have hlt := (Array.getElem?_eq_some_iff.1 hb).1
  have : w.heap.setIfInBounds b o = w.heap := by
    apply Array.ext_getElem?
    intro i
    by_cases hi : b = i
    · subst hi
      rw [Array.getElem?_setIfInBounds_self_of_lt hlt, hb]
    · rw [Array.getElem?_setIfInBounds_ne hi]
  rw [this]
/-- an entry that is there: nothing changes -/
theorem E_entryT (K : KeyT P k) (h : tlook tb.l t = some ⟨.map k e, s1, b1, z1⟩) (hx : ev ov x = some (.map (some b))) (hy : ev ov y = some key) (hb : mapL b es clock ∈ H) (hM : MOk P k es clock) {e0 : MapEntry} (he : e0 ∈ es) (hk : e0.key = key) (hd : dOk d n = true) :
    OpE (ι := Unit) P n D w0 ov H ⟨d, .mapEntry t x y, T, pos, af, g⟩ (fun _ => .tuple #[e0.val, .int .i64 e0.born]) (fun _ => H) := by
  unfold OpE
  refine ⟨hd, fun a w ha hw => ?_⟩
  subst hk
  obtain ⟨j, h1, h2⟩ := K.found w hM he
  have hg := hw.map_get hb
  have hj : es.toArray[j]? = some e0 := by simpa using h2
  have hsame : es.modify j (fun e => { e with key := e0.key }) = es := by
    rw [ChangeMaps.modify_eq_set _ _ _ _ h2]
    exact WideElems.set_self _ _ _ h2
  refine ⟨(), w, ?_, hw⟩
  have hs := setIf_same hg
  simp [execOp, ha.ev hx, ha.ev hy, Instr.mapEntry, run_underlying (und_map h), MapKept.run_getObj_map hg, K.check w _ (hM.key e0 he), h1, hj, h2, K.stays w (hM.key e0 he), MapKept.run_setObj_map _ hg, goInt]
  rw [hsame] ; exact hs
/-- a new entry -/
theorem E_entryF {F : Asn → List Asn} (K : KeyT P k) (h : tlook tb.l t = some ⟨.map k e, s1, b1, z1⟩) (hx : ev ov x = some (.map (some b))) (hy : ev ov y = some key) (hu : Sel H (mapL b es clock) F) (hM : MOk P k es clock) (hkey : isKey P k key) (hn : ∀ e ∈ es, e.key ≠ key) (hz : ∀ w, (zeroValue e).run P w = .ok v w) (hd : dOk d n = true) :
    OpE (ι := Unit) P n D w0 ov H ⟨d, .mapEntry t x y, T, pos, af, g⟩ (fun _ => .tuple #[v, .int .i64 clock]) (fun _ => F (mapL b (es ++ [⟨key, v, clock⟩]) (clock + 1))) := by
  unfold OpE
  refine ⟨hd, fun a w ha hw => ?_⟩
  have h1 := K.missed w hM hkey hn
  have hg := hw.map_get hu.mem
  refine ⟨(), _, ?_, hw.map_put (es ++ [⟨key, v, clock⟩]) (clock + 1) hu⟩
  simp [execOp, ha.ev hx, ha.ev hy, Instr.mapEntry, run_underlying (und_map h), MapKept.run_getObj_map hg, K.check w _ hkey, h1, hz, MapKept.run_setObj_map _ hg, goInt]
/-- the value of an entry is set -/
theorem K_entryStore {F : Asn → List Asn} {A B : List MapEntry} {e0 : MapEntry} (hx : ev ov x = some (.map (some b))) (hy : ev ov y = some (.int .i64 e0.born)) (hv : ev ov y2 = some v) (hu : Sel H (mapL b (A ++ e0 :: B) clock) F) (hM : MOk P k (A ++ e0 :: B) clock) (hd : dOk d n = true) :
    OpK P n D w0 ov H ⟨d, .entryStore t x y y2, T, pos, af, g⟩ (F (mapL b (A ++ { e0 with val := v } :: B) clock)) := by
  unfold OpK
  refine ⟨hd, fun a w ha hw => ?_⟩
  have hg := hw.map_get hu.mem
  refine ⟨_, ?_, hw.map_put (A ++ { e0 with val := v } :: B) clock hu⟩
  have hj : (A ++ e0 :: B)[A.length]? = some e0 := by simp
  have hidx : (A ++ e0 :: B).toArray.findIdx? (fun e => ((e.born : Nat) : Int) == ((e0.born : Nat) : Int)) = some A.length := by
    rw [WideElems.findIdx_arr]
    exact WideElems.findIdx_born hM.born hj
  have hmod : (A ++ e0 :: B).toArray.modify A.length (fun e => { e with val := v }) = (A ++ { e0 with val := v } :: B).toArray := by
    apply Array.ext'
    rw [Array.toList_modify, ChangeMaps.modify_eq_set _ _ _ _ hj]
    simp
  simp [execOp, ha.ev hx, ha.ev hy, ha.ev hv, Instr.entryStore, MapKept.run_getObj_map hg, asInt, asIntOf, hidx, hmod, MapKept.run_setObj_map _ hg]
/-- m[key] = v, key there -/
theorem K_mapUpdateT {F : Asn → List Asn} {A B : List MapEntry} {e0 : MapEntry} (K : KeyT P k) (h : tlook tb.l t = some ⟨.map k e, s1, b1, z1⟩) (hx : ev ov x = some (.map (some b))) (hy : ev ov y = some e0.key) (hv : ev ov y2 = some v) (hu : Sel H (mapL b (A ++ e0 :: B) clock) F) (hM : MOk P k (A ++ e0 :: B) clock) (hd : dOk d n = true) :
    OpK P n D w0 ov H ⟨d, .mapUpdate t x y y2, T, pos, af, g⟩ (F (mapL b (A ++ { e0 with val := v } :: B) clock)) := by
  unfold OpK
  refine ⟨hd, fun a w ha hw => ?_⟩
  have hg := hw.map_get hu.mem
  have he : e0 ∈ A ++ e0 :: B := by simp
  obtain ⟨j, h1, h2⟩ := K.found w hM he
  refine ⟨_, ?_, hw.map_put (A ++ { e0 with val := v } :: B) clock hu⟩
  have hj : (A ++ e0 :: B).toArray[j]? = some e0 := by simpa using h2
  have hjA : j = A.length := by
    have hn := hM.born
    have hA : (A ++ e0 :: B)[A.length]? = some e0 := by simp
    have i1 := WideElems.findIdx_born hn h2
    have i2 := WideElems.findIdx_born hn hA
    rw [i1] at i2
    simpa using i2
  have hmod : (A ++ e0 :: B).modify j (fun e => { e with key := e0.key, val := v }) = A ++ { e0 with val := v } :: B := by
    rw [ChangeMaps.modify_eq_set _ _ _ _ h2, hjA]
    simp
  have hj' : (A ++ e0 :: B)[j]? = some e0 := h2
  simp [-List.append_toArray, -List.push_append_toArray, execOp, ha.ev hx, ha.ev hy, ha.ev hv, Instr.mapUpdate, run_underlying (und_map h), MapKept.run_getObj_map hg, K.check w _ (hM.key e0 he), h1, hj', K.stays w (hM.key e0 he), MapKept.run_setObj_map _ hg]
  rw [hmod]
theorem K_mapUpdateF {F : Asn → List Asn} (K : KeyT P k) (h : tlook tb.l t = some ⟨.map k e, s1, b1, z1⟩) (hx : ev ov x = some (.map (some b))) (hy : ev ov y = some key) (hv : ev ov y2 = some v) (hu : Sel H (mapL b es clock) F) (hM : MOk P k es clock) (hkey : isKey P k key) (hn : ∀ e ∈ es, e.key ≠ key) (hd : dOk d n = true) :
    OpK P n D w0 ov H ⟨d, .mapUpdate t x y y2, T, pos, af, g⟩ (F (mapL b (es ++ [⟨key, v, clock⟩]) (clock + 1))) := by
  unfold OpK
  refine ⟨hd, fun a w ha hw => ?_⟩
  have h1 := K.missed w hM hkey hn
  have hg := hw.map_get hu.mem
  refine ⟨_, ?_, hw.map_put (es ++ [⟨key, v, clock⟩]) (clock + 1) hu⟩
  simp [execOp, ha.ev hx, ha.ev hy, ha.ev hv, Instr.mapUpdate, run_underlying (und_map h), MapKept.run_getObj_map hg, K.check w _ hkey, h1, MapKept.run_setObj_map _ hg]
/-- a slice's cells as an array behind a pointer -/
theorem V_arrayAt {a : Option Addr} {m c q e : Nat} (hx : ev ov x = some (.slice a m c)) (h : tlook tb.l t = some ⟨.arr q e, s1, b1, z1⟩) (hq : q ≤ m) (hd : dOk d n = true) :
    OpV P n D w0 ov H ⟨d, .sliceToArrayPointer t x, T, pos, af, g⟩ (.pointer a) := by
  unfold OpV
  refine ⟨hd, fun A w ha hw => ?_⟩
  simp [execOp, ha.ev hx, Instr.arrayAt, run_underlying (und_arr h), Nat.not_lt.2 hq]
end
/-! many assertions as one -/
@[irreducible] def bigA (l : List Asn) : Asn where
  holds w fp := All l w fp ∧ fp.Nodup
  frame w w' fp h hk := ⟨h.1.frame hk, h.2⟩
  live w fp h := h.1.live
theorem bigA_holds {l w fp} : (bigA l).holds w fp ↔ All l w fp ∧ fp.Nodup := by unfold bigA; exact Iff.rfl
theorem All_append {w : World} : ∀ {A B : List Asn} {fp}, All (A ++ B) w fp ↔ ∃ f1 f2, fp = f1 ++ f2 ∧ All A w f1 ∧ All B w f2
  | [], B, fp => by
    constructor
    · intro h; exact ⟨[], fp, rfl, rfl, h⟩
    · rintro ⟨f1, f2, rfl, h1, h2⟩; simp [All] at h1; subst h1; exact h2
  | a :: A, B, fp => by
    constructor
    · rintro ⟨f1, f2, rfl, h1, h2⟩
      obtain ⟨g1, g2, rfl, h3, h4⟩ := All_append.1 h2
      exact ⟨f1 ++ g1, g2, by simp, ⟨f1, g1, rfl, h1, h3⟩, h4⟩
    · rintro ⟨f1, f2, rfl, ⟨g1, g2, rfl, h1, h2⟩, h3⟩
      exact ⟨g1, g2 ++ f2, by simp, h1, All_append.2 ⟨g2, f2, rfl, h2, h3⟩⟩
theorem St.unbig {w0 : World} {l H : List Asn} {w : World} (h : St w0 (bigA l :: H) w) : St w0 (l ++ H) w := by
  refine h.step («as» := [bigA l]) (bs := l) rfl rfl rfl (Nat.le_refl _) fun f1 hf hn _ => ?_
  obtain ⟨g1, g2, rfl, hg, hnil⟩ := hf
  simp [All] at hnil
  subst hnil
  rw [List.append_nil] at hn ⊢
  exact ⟨fun _ _ _ => rfl, g1, hn, fun _ hb => .inl hb, (bigA_holds.1 hg).1⟩
theorem St.big {w0 : World} {l H : List Asn} {w : World} (h : St w0 (l ++ H) w) : St w0 (bigA l :: H) w := by
  refine h.step («as» := l) (bs := [bigA l]) rfl rfl rfl (Nat.le_refl _) fun f1 hf hn _ => ?_
  exact ⟨fun _ _ _ => rfl, f1, hn, fun _ hb => .inl hb, f1, [], by simp, bigA_holds.2 ⟨hf, hn⟩, rfl⟩
/-- one of many is taken out, and put back -/
theorem St.big_out {w0 : World} {A B H : List Asn} {a : Asn} {w : World} (h : St w0 (bigA (A ++ a :: B) :: H) w) : St w0 (a :: bigA (A ++ B) :: H) w := by
  have h1 := h.unbig
  have h2 : St w0 ((A ++ B) ++ (a :: H)) w := h1.perm (by
    simp only [List.append_assoc, List.cons_append]
    exact List.Perm.append_left A (List.perm_middle.symm))
  exact h2.big.perm (List.Perm.swap _ _ _)
theorem St.big_in {w0 : World} {A B H : List Asn} {a : Asn} {w : World} (h : St w0 (a :: bigA (A ++ B) :: H) w) : St w0 (bigA (A ++ a :: B) :: H) w := by
  have h1 : St w0 (bigA (A ++ B) :: a :: H) w := h.perm (List.Perm.swap _ _ _)
  have h2 := h1.unbig
  refine St.big (h2.perm ?_)
  simp only [List.append_assoc, List.cons_append]
  exact List.Perm.append_left A (List.perm_middle)
theorem St.big_nil {w0 : World} {H : List Asn} {w : World} (h : St w0 H w) : St w0 (bigA [] :: H) w := St.big (l := []) h
end Sx
namespace Sx
open Go
section
variable {P : Program} {n : Nat} {D : List Deferred} {w0 : World} {ov : Ov} {H : List Asn}
  {d : Option Nat} {T : Nat} {pos : String} {af : Array Edge} {g : Option (Nat × Bool)} {x y : Operand} {tb : Tb P} {op : Op} {v : Value}
theorem OpE_ofV (h : OpV P n D w0 ov H ⟨d, op, T, pos, af, g⟩ v) : OpE (ι := Unit) P n D w0 ov H ⟨d, op, T, pos, af, g⟩ (fun _ => v) (fun _ => H) :=
  by
  unfold OpV at h
  unfold OpE
  exact ⟨h.1, fun a w ha hw => ⟨(), w, h.2 a w ha hw, hw⟩⟩
/-- an array that lies within a slice -/
theorem V_loadSub {t m c lo q sz sz1 by' : Nat} {ty : Ty} {z : Option (List Value)} {p : Option Addr} {cs vs : List Value} (hx : ev ov x = some (.pointer (subB p lo c sz1))) (hr : Rd w0 H (.slice p m c) m cs) (h : tlook tb.l t = some ⟨ty, sz, by', z⟩) (ha : aggT ty = true)
    (hq : lo + q ≤ m) (hsz : q * sz1 = sz) (hp : 0 < sz) (hl : vs.length = sz) (hv : (cs.drop (lo * sz1)).take sz = vs) (hd : dOk d n = true) : OpV P n D w0 ov H ⟨d, .load t x, T, pos, af, g⟩ (.agg vs.toArray) :=
  by
    unfold OpV
    refine ⟨hd, fun A w haa hw => ?_⟩
    have hs := Rd_sub (lo := lo) (hi := lo + q) (sz := sz1) hr (by omega) hq
    rw [Nat.add_sub_cancel_left, hsz, hv] at hs
    have hq0 : 0 < q := by
      rcases Nat.eq_zero_or_pos q with h | h
      · rw [h, Nat.zero_mul] at hsz; omega
      · exact h
    have hx' : ev ov x = some (cellPtr (.slice (subB p lo c sz1) q (c - lo)) 0) := by
      rw [hx]
      have hc := (hr.lcap hw).1
      cases p with
      | none => have := Rd.nil hr hw rfl; omega
      | some a =>
        rw [cellPtr_sub (by omega), subB, if_neg (by omega), Option.map_some, Nat.add_zero]
    have hv := V_loadCA (tb := tb) (T := T) (pos := pos) (af := af) (g := g) (n := n) (D := D) hx' hs h ha hl hp (by rw [List.drop_zero, ← hl, List.take_length]) hd
    unfold OpV at hv
    exact hv.2 A w haa hw
end
end Sx
namespace Sx
open Go
/-- a walk stops in front of a region -/
def Hold (p : Prop) : Prop := p
theorem Hold.go {p : Prop} (h : p) : Hold p := h
theorem hIx {P : Program} {f n : Nat} {R : Ending → World → Prop} {D : List Deferred} {w0 : World} {k : List Item} {ov : Ov} {H : List Asn} (i : Nat) {l : Array Oper} {b : Bool} {y : Code} (h : Hold (JS P f n R D w0 (.code (.seq (.region i l b) y) :: k) ov H)) : JS P f n R D w0 (.code (.seq (.region i l b) y) :: k) ov H := h
theorem hIx' {P : Program} {f n : Nat} {R : Ending → World → Prop} {D : List Deferred} {w0 : World} {k : List Item} {ov : Ov} {H : List Asn} (i : Nat) {l : Array Oper} {b : Bool} (h : Hold (JS P f n R D w0 (.code (.region i l b) :: k) ov H)) : JS P f n R D w0 (.code (.region i l b) :: k) ov H := h
attribute [irreducible] Hold
end Sx

namespace Go.Proofs.YtmnilpjgkjkecaaGreat
open Sx Go Hd
set_option linter.unusedVariables false
set_option linter.unusedSimpArgs false
/-! ## the cells, walked -/
theorem BL_eq {x : Nat} {L : Int} (h : BL (x : Int) L) : L = ((bitLen x : Nat) : Int) := by
  obtain ⟨h1, h2, h3, h4⟩ := h
  obtain ⟨n, rfl⟩ := Int.eq_ofNat_of_zero_le h1
  congr 1
  by_cases h0 : x = 0
  · subst h0
    have := h3 rfl
    have e : bitLen 0 = 0 := by simp [bitLen]
    omega
  · obtain ⟨h5, h6, h7⟩ := h4 (by omega)
    rw [Int.toNat_natCast] at h6 h7
    have h8 : ((n : Int) - 1).toNat = n - 1 := by omega
    rw [h8] at h6
    have a1 := bl_gt.2 h6
    rw [Int.toNat_natCast] at h7
    have a2 := bl_le.2 h7
    omega
section
variable {w0 : World} {H : List Asn}
theorem Len_c (x : Nat) (hx : x < 18446744073709551616) (w : World) (hw : St w0 H w) : Calls Tryz.prog 76 #[.int .u64 x] w fun e w' => e = .returned (.int .i64 (bitLen x : Nat)) ∧ St w0 H w' := by
  refine (Len64_c x (by omega) w hw).mono ?_
  rintro e w' ⟨L, rfl, hw', hL⟩
  rw [BL_eq hL]
  exact ⟨rfl, hw'⟩
/-- the cells of a map in memory -/
abbrev mc (lo hi dg : Int) (u g : Nat) : List Value := [.int .i64 lo, .int .i64 hi, .int .i64 dg, .int .i64 u, .int .i64 g]
variable {lo hi dg : Int} {u g : Nat}
theorem bl_v {v : Nat} (hv : v < 9223372036854775808) : bitLen v ≤ 63 := bl_le.2 hv
theorem MBucket_c (b : Nat) (hM : blk b (mc lo hi dg u g) ∈ H) (hug : u + g ≤ 62) (v : Nat) (hv : v < 9223372036854775808) (w : World) (hw : St w0 H w) :
    Calls Tryz.prog 89 #[.pointer (some ⟨b, 0, none⟩), .int .i64 v] w fun e w' => e = .returned (.int .i64 (bkt u g v : Nat)) ∧ St w0 H w' := by
  have hl := bl_v hv
  have hb : max (0 : Int) (((bitLen v : Nat) : Int) - u - g) = (bkt u g v : Nat) := by unfold bkt; omega
  refine enter (vs := [.pointer (some ⟨b, 0, none⟩), .int .i64 v]) Tryz.func89 rfl rfl rfl hw ?_
  clear hw w
  repeat (first | apply hIx 1 | first | (refine sx ?_; try intro _))
  refine Hold.go ?_
  refine JS_seq ?_
  refine JS_order [0, 1, 3, 4, 5, 6, 8, 9, 10, 11, 2, 7, 12, 13, 14] [] (Picks.cons rfl (Picks.cons rfl (Picks.cons rfl (Picks.cons rfl (Picks.cons rfl (Picks.cons rfl (Picks.cons rfl (Picks.cons rfl (Picks.cons rfl (Picks.cons rfl (Picks.cons rfl (Picks.cons rfl (Picks.cons rfl (Picks.cons rfl (Picks.cons rfl (Picks.nil)))))))))))))))) (by kernel_rfl) (by kernel_rfl) rfl (by decide +kernel) ?_
  repeat (first | (apply gQO; refine QO_v rfl (oL (V_load (tb := tb) rfl hM rfl rfl rfl rfl)) ?_) | first | (refine sx ?_; try intro _))
  refine QO_call Tryz.call76 rfl rfl fun w hw => (Len_c v (by omega) w hw).mono ?_
  rintro e w' ⟨rfl, hw'⟩
  refine ⟨_, rfl, _, hw', .inl fun w hw => hw, ?_⟩
  clear hw' hw w w'
  repeat (first | (refine sx ?_; try intro _))
  exact JS_ret Tryz.func89 rfl rfl fun w hw => ⟨by rw [← hb]; rfl, hw⟩
theorem MHalf_c (b : Nat) (hM : blk b (mc lo hi dg u g) ∈ H) (hg : 1 ≤ g ∧ g ≤ 62) (w : World) (hw : St w0 H w) :
    Calls Tryz.prog 75 #[.pointer (some ⟨b, 0, none⟩)] w fun e w' => e = .returned (.int .i64 (2 ^ (g - 1) : Nat)) ∧ St w0 H w' := by
  have hp : 2 ^ (g - 1) < 9223372036854775808 := (Nat.pow_lt_pow_iff_right (a := 2) (by decide)).2 (show g - 1 < 63 by omega)
  have c1 : IntKind.i64.wrap ((g : Int) - 1) = ((g - 1 : Nat) : Int) := (wi64 (by omega)).trans (by omega)
  have c2 : IntKind.i64.wrap (1 * 2 ^ (g - 1)) = ((2 ^ (g - 1) : Nat) : Int) := by
    rw [Int.one_mul, show ((2 : Int) ^ (g - 1)) = ((2 ^ (g - 1) : Nat) : Int) by simp]
    generalize 2 ^ (g - 1) = z at hp
    exact wi64 (by omega)
  refine enter (vs := [.pointer (some ⟨b, 0, none⟩)]) Tryz.func75 rfl rfl rfl hw ?_
  clear hw w
  repeat (first | (apply gJO; refine JO_v (oL (V_load (tb := tb) rfl hM rfl rfl rfl rfl)) ?_) | (apply gJO; first | refine JO_v (V_sub rfl rfl c1 rfl) ?_ | refine JO_v (V_shl (m := g - 1) rfl rfl (by omega) (by rw [Int.toNat_natCast]; show min (g - 1) 64 = g - 1; omega) c2 rfl) ?_) | first | (refine sx ?_; try intro _))
  exact JS_ret Tryz.func75 rfl rfl fun w hw => ⟨rfl, hw⟩
theorem bkt_u {v : Nat} (hug : u + g ≤ 62) (hg : 1 ≤ g) (hv : v < 9223372036854775808) : bkt u g v + u ≤ 62 := by
  have := bl_v hv
  unfold bkt; omega
theorem MCell_c (b : Nat) (hM : blk b (mc lo hi dg u g) ∈ H) (hug : u + g ≤ 62) (hg : 1 ≤ g) (v : Nat) (hv : v < 9223372036854775808) (w : World) (hw : St w0 H w) :
    Calls Tryz.prog 82 #[.pointer (some ⟨b, 0, none⟩), .int .i64 v] w fun e w' => e = .returned (.tuple #[.int .i64 (bkt u g v : Nat), .int .i64 (v / 2 ^ (bkt u g v + u) : Nat)]) ∧ St w0 H w' := by
  have hbu := bkt_u hug hg hv
  refine enter (vs := [.pointer (some ⟨b, 0, none⟩), .int .i64 v]) Tryz.func82 rfl rfl rfl hw ?_
  clear hw w
  repeat (first | (refine sx ?_; try intro _))
  refine JO_call Tryz.call89 rfl rfl fun w hw => (MBucket_c b hM hug v hv w hw).mono ?_
  rintro e w' ⟨rfl, hw'⟩
  refine ⟨_, rfl, _, hw', ?_⟩
  clear hw' hw w w'
  have c1 : IntKind.i64.wrap (((bkt u g v : Nat) : Int) + (u : Int)) = ((bkt u g v + u : Nat) : Int) := (wi64 (by omega)).trans (by omega)
  have c2 : (v : Int) / 2 ^ (bkt u g v + u) = ((v / 2 ^ (bkt u g v + u) : Nat) : Int) := by simp
  repeat (first | (apply gQO; refine QO_v rfl (oL (V_load (tb := tb) rfl hM rfl rfl rfl rfl)) ?_) | (apply gQO; first | refine QO_v rfl (V_add rfl rfl c1 rfl) ?_ | refine QO_v rfl (V_shr (m := bkt u g v + u) rfl rfl (by omega) (by rw [Int.toNat_natCast]; show min (bkt u g v + u) 64 = bkt u g v + u; omega) c2 rfl) ?_) | first | (refine sx ?_; try intro _))
  exact JS_ret Tryz.func82 rfl rfl fun w hw => ⟨rfl, hw⟩
theorem half_lt (hg : 1 ≤ g ∧ g ≤ 62) : 2 ^ (g - 1) < 2305843009213693953 := Nat.lt_of_le_of_lt (Nat.pow_le_pow_right (by decide) (show g - 1 ≤ 61 by omega)) (by decide)
theorem idx_bd {v : Nat} (hug : u + g ≤ 62) (hg : 1 ≤ g ∧ g ≤ 18) (hv : v < 9223372036854775808) : idx u g v ≤ 8650752 ∧ bkt u g v ≤ 63 ∧ (bkt u g v + 1) * 2 ^ (g - 1) ≤ 8388608 ∧ v / 2 ^ (bkt u g v + u) < 262144 ∧ 2 ^ (g - 1) ≤ 131072 := by
  have h1 := bl_v hv
  have h2 : bkt u g v ≤ 63 := by unfold bkt; omega
  have h3 := cel_lt (u := u) (g := g) (v := v)
  have h4 : 2 ^ g ≤ 2 ^ 18 := Nat.pow_le_pow_right (by decide) hg.2
  have h5 : 2 ^ (g - 1) ≤ 2 ^ 17 := Nat.pow_le_pow_right (by decide) (by omega)
  have h6 : (bkt u g v + 1) * 2 ^ (g - 1) ≤ 64 * 2 ^ 17 := Nat.mul_le_mul (by omega) h5
  refine ⟨?_, h2, h6, by omega, h5⟩
  unfold idx
  rw [Nat.add_mul] at h6
  omega
theorem MIndex_c (b : Nat) (hM : blk b (mc lo hi dg u g) ∈ H) (hug : u + g ≤ 62) (hg : 1 ≤ g ∧ g ≤ 18) (v : Nat) (hv : v < 9223372036854775808) (w : World) (hw : St w0 H w) :
    Calls Tryz.prog 46 #[.pointer (some ⟨b, 0, none⟩), .int .i64 v] w fun e w' => e = .returned (.tuple #[.int .i64 (idx u g v : Nat), .int .i64 0]) ∧ St w0 H w' := by
  obtain ⟨b1, b2, b3, b4, b5⟩ := idx_bd hug hg hv
  refine enter (vs := [.pointer (some ⟨b, 0, none⟩), .int .i64 v]) Tryz.func46 rfl rfl rfl hw ?_
  clear hw w
  repeat (first | (refine sx ?_; try intro _))
  refine JO_call Tryz.call82 rfl rfl fun w hw => (MCell_c b hM hug hg.1 v hv w hw).mono ?_
  rintro e w' ⟨rfl, hw'⟩
  refine ⟨_, rfl, _, hw', ?_⟩
  clear hw' hw w w'
  have hi' : idx u g v = bkt u g v * 2 ^ (g - 1) + v / 2 ^ (bkt u g v + u) := rfl
  generalize hk : bkt u g v = k at *
  generalize hc : v / 2 ^ (k + u) = c at *
  generalize hh : 2 ^ (g - 1) = h at *
  have c1 : IntKind.i64.wrap (((k + 1 : Nat) : Int) * (h : Int)) = (((k + 1) * h : Nat) : Int) := by
    rw [← Int.natCast_mul]
    exact wi64 (by omega)
  have c2 : IntKind.i64.wrap ((k : Int) + 1) = ((k + 1 : Nat) : Int) := (wi64 (by omega)).trans (by omega)
  have c3 : IntKind.i64.wrap ((((k + 1) * h : Nat) : Int) + (c : Int)) = (((k + 1) * h + c : Nat) : Int) := (wi64 (by omega)).trans (by omega)
  have c4 : IntKind.i64.wrap ((((k + 1) * h + c : Nat) : Int) - (h : Int)) = (idx u g v : Nat) := by
    rw [hi', Nat.add_mul] at *
    refine (wi64 (by omega)).trans (by omega)
  repeat (first | (apply gJO; first | refine JO_v (V_add rfl rfl c2 rfl) ?_) | first | (refine sx ?_; try intro _))
  refine JO_call Tryz.call75 rfl rfl fun w hw => (MHalf_c b hM ⟨hg.1, by omega⟩ w hw).mono ?_
  rw [hh]
  rintro e w' ⟨rfl, hw'⟩
  refine ⟨_, rfl, _, hw', ?_⟩
  clear hw' hw w w'
  repeat (first | (apply gJO; first | refine JO_v (V_mul rfl rfl c1 rfl) ?_ | refine JO_v (V_add rfl rfl c3 rfl) ?_) | first | (refine sx ?_; try intro _))
  refine JO_call Tryz.call75 rfl rfl fun w hw => (MHalf_c b hM ⟨hg.1, by omega⟩ w hw).mono ?_
  rw [hh]
  rintro e w' ⟨rfl, hw'⟩
  refine ⟨_, rfl, _, hw', ?_⟩
  clear hw' hw w w'
  repeat (first | (apply gJO; first | refine JO_v (V_sub rfl rfl c4 rfl) ?_) | first | (refine sx ?_; try intro _))
  exact JS_ret Tryz.func46 rfl rfl fun w hw => ⟨rfl, hw⟩
theorem MIndexN_c (b : Nat) (v : Int) (h0 : v < 0) (h1 : -9223372036854775808 ≤ v) (w : World) (hw : St w0 H w) :
    Calls Tryz.prog 46 #[.pointer (some ⟨b, 0, none⟩), .int .i64 v] w fun e w' => e = .returned (.tuple #[.int .i64 0, .int .i64 5]) ∧ St w0 H w' := by
  refine enter (vs := [.pointer (some ⟨b, 0, none⟩), .int .i64 v]) Tryz.func46 rfl rfl rfl hw ?_
  clear hw w
  repeat (first | (refine sx ?_; try intro _))
  exact JS_ret Tryz.func46 rfl rfl fun w hw => ⟨rfl, hw⟩
theorem MBuckets_c (b : Nat) (hM : blk b (mc lo hi dg u g) ∈ H) (hug : u + g ≤ 62) (v : Int) (hv : -9223372036854775808 ≤ v ∧ v < 9223372036854775808) (w : World) (hw : St w0 H w) :
    Calls Tryz.prog 54 #[.pointer (some ⟨b, 0, none⟩), .int .i64 v] w fun e w' => e = .returned (.int .i64 (1 + bkt u g v.toNat : Nat)) ∧ St w0 H w' := by
  have hl := bl_v (v := v.toNat) (by omega)
  have hb : bkt u g v.toNat ≤ 63 := by unfold bkt; omega
  have c1 : max v 0 = ((v.toNat : Nat) : Int) := by omega
  have c2 : IntKind.i64.wrap (1 + ((bkt u g v.toNat : Nat) : Int)) = ((1 + bkt u g v.toNat : Nat) : Int) := (wi64 (by omega)).trans (by omega)
  refine enter (vs := [.pointer (some ⟨b, 0, none⟩), .int .i64 v]) Tryz.func54 rfl rfl rfl hw ?_
  clear hw w
  repeat (first | (apply gJO; refine JO_v (V_max rfl rfl c1 rfl) ?_) | first | (refine sx ?_; try intro _))
  refine JO_call Tryz.call89 rfl rfl fun w hw => (MBucket_c b hM hug v.toNat (by omega) w hw).mono ?_
  rintro e w' ⟨rfl, hw'⟩
  refine ⟨_, rfl, _, hw', ?_⟩
  clear hw' hw w w'
  repeat (first | (apply gJO; refine JO_v (V_add rfl rfl c2 rfl) ?_) | first | (refine sx ?_; try intro _))
  exact JS_ret Tryz.func54 rfl rfl fun w hw => ⟨rfl, hw⟩
end
end Go.Proofs.YtmnilpjgkjkecaaGreat

namespace Go.Proofs.YtmnilpjgkjkecaaGreat
open Sx Go Hd
set_option linter.unusedVariables false
set_option linter.unusedSimpArgs false
section
variable {w0 : World} {H : List Asn} {lo hi dg : Int} {u g : Nat}
instance (u g i : Nat) : Decidable (isI u g i) := by unfold isI; infer_instance
theorem ivk_bd {i : Nat} (hg : 1 ≤ g ∧ g ≤ 18) : ivk g i < 262144 := by
  have h5 : 2 ^ (g - 1) ≤ 2 ^ 17 := Nat.pow_le_pow_right (by decide) (by omega)
  have hp := p2pos (g - 1)
  have h6 := Nat.mod_lt i hp
  unfold ivk
  split
  · rename_i h
    have := Nat.div_add_mod i (2 ^ (g - 1))
    rw [h, Nat.mul_zero] at this
    omega
  · omega
set_option maxRecDepth 10000 in
set_option maxHeartbeats 2000000 in
/-- where the cell with an index begins -/
theorem MValue_c (b : Nat) (hM : blk b (mc lo hi dg u g) ∈ H) (hug : u + g ≤ 62) (hg : 1 ≤ g ∧ g ≤ 18) (i : Nat) (hi : i < 9223372036854775808) (w : World) (hw : St w0 H w) :
    Calls Tryz.prog 35 #[.pointer (some ⟨b, 0, none⟩), .int .i64 i] w fun e w' => e = .returned (if isI u g i then .tuple #[.int .i64 (ival u g i : Nat), .int .i64 0] else .tuple #[.int .i64 0, .int .i64 5]) ∧ St w0 H w' := by
  have h5 : 2 ^ (g - 1) ≤ 2 ^ 17 := Nat.pow_le_pow_right (by decide) (by omega)
  have hp := p2pos (g - 1)
  have hm := Nat.mod_lt i hp
  have hk := ivk_bd (i := i) hg
  have hMH := fun w hw => MHalf_c (w0 := w0) (H := H) b hM ⟨hg.1, by omega⟩ w hw
  have hbI : ivb g i ≤ i := by
    unfold ivb
    have := Nat.div_le_self i (2 ^ (g - 1))
    omega
  have hkd : ivk g i = if i / 2 ^ (g - 1) = 0 then i else i % 2 ^ (g - 1) + 2 ^ (g - 1) := rfl
  have hbd : ivb g i = i / 2 ^ (g - 1) - 1 := rfl
  have hisd : isI u g i ↔ ivb g i ≤ 64 ∧ bitLen (ivk g i) + ivb g i + u ≤ 63 := Iff.rfl
  have hlt := fun h => ival_lt (u := u) (g := g) (i := i) h
  have hiv : ival u g i = ivk g i * 2 ^ (ivb g i + u) := rfl
  have hbl : bitLen (ivk g i) ≤ 18 := bl_le.2 hk
  have hq0 := Nat.div_le_self i (2 ^ (g - 1))
  generalize hh : 2 ^ (g - 1) = h at *
  generalize hq : i / h = q at *
  generalize hr : i % h = r at *
  have c1 : IntKind.i64.wrap (Int.tdiv (i : Int) (h : Int)) = (q : Int) := by
    rw [show Int.tdiv (i : Int) (h : Int) = ((i / h : Nat) : Int) from (Int.ofNat_tdiv i h).symm, hq]
    exact wi64 (by omega)
  have c2 : Int.tmod (i : Int) (h : Int) = (r : Int) := by rw [← hr, Int.ofNat_tmod]
  refine enter (vs := [.pointer (some ⟨b, 0, none⟩), .int .i64 i]) Tryz.func35 rfl rfl rfl hw ?_
  clear hw w
  repeat (first | apply hIx 3 | first | (refine sx ?_; try intro _))
  refine Hold.go ?_
  refine JS_seq ?_
  refine JS_order [0, 1, 5, 6, 9, 2, 3, 4, 7, 8, 10, 11, 12, 13] [] (Picks.cons rfl (Picks.cons rfl (Picks.cons rfl (Picks.cons rfl (Picks.cons rfl (Picks.cons rfl (Picks.cons rfl (Picks.cons rfl (Picks.cons rfl (Picks.cons rfl (Picks.cons rfl (Picks.cons rfl (Picks.cons rfl (Picks.cons rfl (Picks.nil))))))))))))))) (by kernel_rfl) (by kernel_rfl) rfl (by decide +kernel) ?_
  repeat (first | (refine sx ?_; try intro _))
  refine QO_call Tryz.call75 rfl rfl fun w hw => (hMH w hw).mono ?_
  rintro e w' ⟨rfl, hw'⟩
  refine ⟨_, rfl, _, hw', .inl fun w hw => hw, ?_⟩
  clear hw' hw w w'
  repeat (first | (apply gQO; first | refine QO_v rfl (V_quo rfl rfl (by omega) c1 rfl) ?_) | first | (refine sx ?_; try intro _))
  refine QO_call Tryz.call75 rfl rfl fun w hw => (hMH w hw).mono ?_
  rintro e w' ⟨rfl, hw'⟩
  refine ⟨_, rfl, _, hw', .inl fun w hw => hw, ?_⟩
  clear hw' hw w w'
  repeat (first | (apply gQO; first | refine QO_v rfl (V_rem rfl rfl (by omega) c2 rfl) ?_) | first | (refine sx ?_; try intro _))
  refine QO_call Tryz.call75 rfl rfl fun w hw => (hMH w hw).mono ?_
  rintro e w' ⟨rfl, hw'⟩
  refine ⟨_, rfl, _, hw', .inl fun w hw => hw, ?_⟩
  clear hw' hw w w'
  -- the two ways to the bucket and the place
  have key : ∀ (B K : Nat), B = ivb g i → K = ivk g i → JS Tryz.prog 35 Tryz.f35.ntmps (fun e w' => e = .returned (if isI u g i then .tuple #[.int .i64 (ival u g i : Nat), .int .i64 0] else .tuple #[.int .i64 0, .int .i64 5]) ∧ St w0 H w') [] w0 (todo Tryz.f35 [.b, .b, .b, .b]) [(0, .pointer (some ⟨b, 0, none⟩)), (6, .int .i64 B), (7, .int .i64 K)] H := by
    intro B K hB hK
    rw [← hB, ← hK] at hisd hiv
    rw [← hK] at hk hbl
    rw [← hB] at hbI
    by_cases h64 : 64 < B
    · rw [if_neg (by rw [hisd]; omega)]
      repeat (first | apply hIx 6 | first | (refine sx ?_; try intro _))
      refine Hold.go ?_
      refine JS_seq ?_
      refine JS_order [0, 1, 2, 3, 4, 6, 8, 9, 10, 11, 5, 7, 12, 13, 14] [] (Picks.cons rfl (Picks.cons rfl (Picks.cons rfl (Picks.cons rfl (Picks.cons rfl (Picks.cons rfl (Picks.cons rfl (Picks.cons rfl (Picks.cons rfl (Picks.cons rfl (Picks.cons rfl (Picks.cons rfl (Picks.cons rfl (Picks.cons rfl (Picks.cons rfl (Picks.nil)))))))))))))))) (by kernel_rfl) (by kernel_rfl) rfl (by decide +kernel) ?_
      repeat (first | (refine sx ?_; try intro _))
      exact JS_ret Tryz.func35 rfl rfl fun w hw => ⟨rfl, hw⟩
    · repeat (first | apply hIx 6 | first | (refine sx ?_; try intro _))
      refine Hold.go ?_
      refine JS_seq ?_
      refine JS_order [0, 1, 2, 3, 4, 6, 8, 9, 10, 11, 5, 7, 12, 13, 14] [] (Picks.cons rfl (Picks.cons rfl (Picks.cons rfl (Picks.cons rfl (Picks.cons rfl (Picks.cons rfl (Picks.cons rfl (Picks.cons rfl (Picks.cons rfl (Picks.cons rfl (Picks.cons rfl (Picks.cons rfl (Picks.cons rfl (Picks.cons rfl (Picks.cons rfl (Picks.nil)))))))))))))))) (by kernel_rfl) (by kernel_rfl) rfl (by decide +kernel) ?_
      repeat (first | (apply gQO; refine QO_v rfl (oL (V_load (tb := tb) rfl hM rfl rfl rfl rfl)) ?_) | first | (refine sx ?_; try intro _))
      refine QO_call Tryz.call76 rfl rfl fun w hw => (Len_c K (by omega) w hw).mono ?_
      rintro e w' ⟨rfl, hw'⟩
      refine ⟨_, rfl, _, hw', .inl fun w hw => hw, ?_⟩
      clear hw' hw w w'
      generalize hL : bitLen K = L at *
      by_cases hbig : 63 < L + B + u
      · rw [if_neg (by rw [hisd]; omega)]
        repeat (first | (refine sx ?_; try intro _))
        exact JS_ret Tryz.func35 rfl rfl fun w hw => ⟨rfl, hw⟩
      · have his : isI u g i := hisd.2 (by omega)
        rw [if_pos his]
        have hl2 := hlt his
        have c4 : IntKind.i64.wrap ((B : Int) + (u : Int)) = ((B + u : Nat) : Int) := (wi64 (by omega)).trans (by omega)
        have c5 : IntKind.i64.wrap ((K : Int) * 2 ^ (B + u)) = ((ival u g i : Nat) : Int) := by
          rw [hiv] at hl2 ⊢
          rw [show ((2 : Int) ^ (B + u)) = ((2 ^ (B + u) : Nat) : Int) by simp, ← Int.natCast_mul]
          generalize K * 2 ^ (B + u) = z at hl2
          exact wi64 (by omega)
        repeat (first | (apply gJO; refine JO_v (oL (V_load (tb := tb) rfl hM rfl rfl rfl rfl)) ?_) | (apply gJO; first | refine JO_v (V_add rfl rfl c4 rfl) ?_ | refine JO_v (V_shl (m := B + u) rfl rfl (by omega) (by rw [Int.toNat_natCast]; show min (B + u) 64 = B + u; omega) c5 rfl) ?_) | first | (refine sx ?_; try intro _))
        exact JS_ret Tryz.func35 rfl rfl fun w hw => ⟨rfl, hw⟩
  by_cases hz : q = 0
  · rw [if_pos hz] at hkd
    have c3 : IntKind.i64.wrap ((q : Int) - 1) = -1 := (wi64 (by omega)).trans (by omega)
    repeat (first | exact JS_of_at (fn := Tryz.f35) (p := [.b, .b, .b, .b]) (JS_ov (by repeat (first | exact trivial | refine ⟨rfl, ?_⟩ | refine ⟨lookI rfl (by omega), ?_⟩)) (key 0 i (by omega) hkd.symm)) rfl | (apply gQO; refine QO_v rfl (V_sub rfl rfl c3 rfl) ?_) | (first | (refine sx ?_; try intro _)))
  · rw [if_neg hz] at hkd
    have c3 : IntKind.i64.wrap ((q : Int) - 1) = ((q - 1 : Nat) : Int) := (wi64 (by omega)).trans (by omega)
    have c6 : IntKind.i64.wrap ((r : Int) + (h : Int)) = ((r + h : Nat) : Int) := (wi64 (by omega)).trans (by omega)
    repeat (first | exact JS_of_at (fn := Tryz.f35) (p := [.b, .b, .b, .b]) (JS_ov (by repeat (first | exact trivial | refine ⟨rfl, ?_⟩ | refine ⟨lookI rfl (by omega), ?_⟩)) (key (q - 1) (r + h) hbd.symm hkd.symm)) rfl | (apply gQO; first | refine QO_v rfl (V_sub rfl rfl c3 rfl) ?_ | refine QO_v rfl (V_add rfl rfl c6 rfl) ?_) | (first | (refine sx ?_; try intro _)))
end
end Go.Proofs.YtmnilpjgkjkecaaGreat

namespace Go.Proofs.YtmnilpjgkjkecaaGreat
open Sx Go Hd
set_option linter.unusedVariables false
set_option linter.unusedSimpArgs false
section
variable {w0 : World} {H : List Asn} {lo hi dg : Int} {u g : Nat}
theorem MValueN_c (b : Nat) (i : Int) (h0 : i < 0) (h1 : -9223372036854775808 ≤ i) (w : World) (hw : St w0 H w) :
    Calls Tryz.prog 35 #[.pointer (some ⟨b, 0, none⟩), .int .i64 i] w fun e w' => e = .returned (.tuple #[.int .i64 0, .int .i64 5]) ∧ St w0 H w' := by
  refine enter (vs := [.pointer (some ⟨b, 0, none⟩), .int .i64 i]) Tryz.func35 rfl rfl rfl hw ?_
  clear hw w
  repeat (first | (refine sx ?_; try intro _))
  exact JS_ret Tryz.func35 rfl rfl fun w hw => ⟨rfl, hw⟩
/-- the greatest value of so many buckets -/
theorem MTop_c (b : Nat) (hM : blk b (mc lo hi dg u g) ∈ H) (hug : u + g ≤ 62) (hg : 1 ≤ g) (n : Nat) (hn : n < 9223372036854775808) (w : World) (hw : St w0 H w) :
    Calls Tryz.prog 66 #[.pointer (some ⟨b, 0, none⟩), .int .i64 n] w fun e w' => e = .returned (.int .i64 (topv u g n : Nat)) ∧ St w0 H w' := by
  have ht : topv u g n = if 63 ≤ min (max n 1) 64 - 1 + u + g then 9223372036854775807 else 2 ^ (min (max n 1) 64 - 1 + u + g) - 1 := rfl
  obtain ⟨m, hm⟩ : ∃ m, min (max n 1) 64 = m := ⟨_, rfl⟩
  rw [hm] at ht
  have k1 : max (n : Int) 1 = ((max n 1 : Nat) : Int) := by omega
  have k2 : min ((max n 1 : Nat) : Int) 64 = (m : Int) := by omega
  have k3 : IntKind.i64.wrap ((m : Int) - 1) = ((m - 1 : Nat) : Int) := (wi64 (by omega)).trans (by omega)
  have k4 : IntKind.i64.wrap (((m - 1 : Nat) : Int) + (u : Int)) = ((m - 1 + u : Nat) : Int) := (wi64 (by omega)).trans (by omega)
  have k5 : IntKind.i64.wrap (((m - 1 + u : Nat) : Int) + (g : Int)) = ((m - 1 + u + g : Nat) : Int) := (wi64 (by omega)).trans (by omega)
  refine enter (vs := [.pointer (some ⟨b, 0, none⟩), .int .i64 n]) Tryz.func66 rfl rfl rfl hw ?_
  clear hw w
  by_cases h63 : 63 ≤ m - 1 + u + g
  · rw [if_pos h63] at ht
    repeat (first | (apply gQO; refine QO_v rfl (oL (V_load (tb := tb) rfl hM rfl rfl rfl rfl)) ?_) | (apply gJO; first | refine JO_v (V_max rfl rfl k1 rfl) ?_ | refine JO_v (V_min rfl rfl k2 rfl) ?_) | (apply gQO; first | refine QO_v rfl (V_sub rfl rfl k3 rfl) ?_ | refine QO_v rfl (V_add rfl rfl k4 rfl) ?_ | refine QO_v rfl (V_add rfl rfl k5 rfl) ?_) | first | (refine sx ?_; try intro _))
    exact JS_ret Tryz.func66 rfl rfl fun w hw => ⟨by rw [ht]; rfl, hw⟩
  · rw [if_neg h63] at ht
    have hp : 2 ^ (m - 1 + u + g) ≤ 4611686018427387904 := Nat.le_trans (Nat.pow_le_pow_right (by decide) (show m - 1 + u + g ≤ 62 by omega)) (by decide)
    have hp1 := p2pos (m - 1 + u + g)
    have k6 : IntKind.i64.wrap (1 * 2 ^ (m - 1 + u + g)) = ((2 ^ (m - 1 + u + g) : Nat) : Int) := by
      rw [Int.one_mul, show ((2 : Int) ^ (m - 1 + u + g)) = ((2 ^ (m - 1 + u + g) : Nat) : Int) by simp]
      generalize 2 ^ (m - 1 + u + g) = z at hp
      exact wi64 (by omega)
    generalize hz : m - 1 + u + g = z at *
    generalize hy : 2 ^ z = y at *
    have k7 : IntKind.i64.wrap ((y : Int) - 1) = ((y - 1 : Nat) : Int) := (wi64 (by omega)).trans (by omega)
    repeat (first | (apply gQO; refine QO_v rfl (oL (V_load (tb := tb) rfl hM rfl rfl rfl rfl)) ?_) | (apply gJO; first | refine JO_v (V_max rfl rfl k1 rfl) ?_ | refine JO_v (V_min rfl rfl k2 rfl) ?_) | (apply gQO; first | refine QO_v rfl (V_sub rfl rfl k3 rfl) ?_ | refine QO_v rfl (V_add rfl rfl k4 rfl) ?_ | refine QO_v rfl (V_add rfl rfl k5 rfl) ?_ | refine QO_v rfl (V_shl (m := z) rfl rfl (by omega) (by rw [Int.toNat_natCast]; show min z 64 = z; omega) k6 rfl) ?_ | refine QO_v rfl (V_sub rfl rfl k7 rfl) ?_) | first | (refine sx ?_; try intro _))
    exact JS_ret Tryz.func66 rfl rfl fun w hw => ⟨by rw [ht]; rfl, hw⟩
/-- a cell's ends -/
theorem MEnds_c (b : Nat) (hM : blk b (mc lo hi dg u g) ∈ H) (hug : u + g ≤ 62) (hg : 1 ≤ g) (v : Nat) (hv : v < 9223372036854775808) (w : World) (hw : St w0 H w) :
    Calls Tryz.prog 100 #[.pointer (some ⟨b, 0, none⟩), .int .i64 v] w fun e w' => e = .returned (.tuple #[.int .i64 (low u g v : Nat), .int .i64 (low u g v + (siz u g v - 1) : Nat)]) ∧ St w0 H w' := by
  have hbu := bkt_u hug hg hv
  have hh := hi_lt hg hug (show v < 2 ^ 63 from hv)
  have hpz : 0 < siz u g v := p2pos _
  have hs : siz u g v = 2 ^ (bkt u g v + u) := rfl
  have hl : low u g v = v / 2 ^ (bkt u g v + u) * 2 ^ (bkt u g v + u) := rfl
  have hpb : siz u g v ≤ 4611686018427387904 := by
    rw [hs]
    exact Nat.le_trans (Nat.pow_le_pow_right (by decide) hbu) (by decide)
  refine enter (vs := [.pointer (some ⟨b, 0, none⟩), .int .i64 v]) Tryz.func100 rfl rfl rfl hw ?_
  clear hw w
  repeat (first | (refine sx ?_; try intro _))
  refine JO_call Tryz.call82 rfl rfl fun w hw => (MCell_c b hM hug hg v hv w hw).mono ?_
  rintro e w' ⟨rfl, hw'⟩
  refine ⟨_, rfl, _, hw', ?_⟩
  clear hw' hw w w'
  generalize hk : bkt u g v = k at *
  generalize hq : v / 2 ^ (k + u) = q at *
  have k1 : IntKind.i64.wrap ((k : Int) + (u : Int)) = ((k + u : Nat) : Int) := (wi64 (by omega)).trans (by omega)
  have k2 : IntKind.i64.wrap ((q : Int) * 2 ^ (k + u)) = ((low u g v : Nat) : Int) := by
    rw [show ((2 : Int) ^ (k + u)) = ((2 ^ (k + u) : Nat) : Int) by simp, ← Int.natCast_mul, ← hl]
    exact wi64 (by omega)
  have k3 : IntKind.i64.wrap (1 * 2 ^ (k + u)) = ((siz u g v : Nat) : Int) := by
    rw [Int.one_mul, show ((2 : Int) ^ (k + u)) = ((2 ^ (k + u) : Nat) : Int) by simp, ← hs]
    exact wi64 (by omega)
  clear hs hl
  generalize siz u g v = s at *
  generalize low u g v = l at *
  have k4 : IntKind.i64.wrap ((s : Int) - 1) = ((s - 1 : Nat) : Int) := (wi64 (by omega)).trans (by omega)
  have k5 : IntKind.i64.wrap ((l : Int) + ((s - 1 : Nat) : Int)) = ((l + (s - 1) : Nat) : Int) := (wi64 (by omega)).trans (by omega)
  generalize hz : k + u = z at *
  repeat (first | (apply gJO; refine JO_v (oL (V_load (tb := tb) rfl hM rfl rfl rfl rfl)) ?_) | (apply gQO; refine QO_v rfl (oL (V_load (tb := tb) rfl hM rfl rfl rfl rfl)) ?_) | (apply gJO; first | refine JO_v (V_add rfl rfl k1 rfl) ?_ | refine JO_v (V_shl (m := z) rfl rfl (by omega) (by rw [Int.toNat_natCast]; show min z 64 = z; omega) k2 rfl) ?_) | (apply gQO; first | refine QO_v rfl (V_add rfl rfl k1 rfl) ?_ | refine QO_v rfl (V_shl (m := z) rfl rfl (by omega) (by rw [Int.toNat_natCast]; show min z 64 = z; omega) k3 rfl) ?_ | refine QO_v rfl (V_sub rfl rfl k4 rfl) ?_ | refine QO_v rfl (V_add rfl rfl k5 rfl) ?_) | first | (refine sx ?_; try intro _))
  exact JS_ret Tryz.func100 rfl rfl fun w hw => ⟨rfl, hw⟩
/-- what of a cell is asked, by a closure -/
theorem MOf_c (b : Nat) (hM : blk b (mc lo hi dg u g) ∈ H) (hug : u + g ≤ 62) (hg : 1 ≤ g) (v : Nat) (hv : v < 9223372036854775808) (F : Nat) (hF : ∀ args w, (callFunc F args).run Tryz.prog w = .ok (.enter F args) w) (r : Int)
    (hc : ∀ w, St w0 H w → Calls Tryz.prog F #[.int .i64 (low u g v : Nat), .int .i64 (low u g v + (siz u g v - 1) : Nat)] w fun e w' => e = .returned (.int .i64 r) ∧ St w0 H w') (w : World) (hw : St w0 H w) :
    Calls Tryz.prog 77 #[.pointer (some ⟨b, 0, none⟩), .int .i64 v, .func (.func F) #[] #[]] w fun e w' => e = .returned (.tuple #[.int .i64 r, .int .i64 0]) ∧ St w0 H w' := by
  refine enter (vs := [.pointer (some ⟨b, 0, none⟩), .int .i64 v, .func (.func F) #[] #[]]) Tryz.func77 rfl rfl rfl hw ?_
  clear hw w
  repeat (first | (refine sx ?_; try intro _))
  refine JO_call Tryz.call100 rfl rfl fun w hw => (MEnds_c b hM hug hg v hv w hw).mono ?_
  rintro e w' ⟨rfl, hw'⟩
  refine ⟨_, rfl, _, hw', ?_⟩
  clear hw' hw w w'
  repeat (first | (refine sx ?_; try intro _))
  refine JO_callv (us := []) (cs := []) rfl hF rfl rfl fun w hw => (hc w hw).mono ?_
  rintro e w' ⟨rfl, hw'⟩
  refine ⟨_, rfl, _, hw', ?_⟩
  clear hw' hw w w'
  repeat (first | (refine sx ?_; try intro _))
  exact JS_ret Tryz.func77 rfl rfl fun w hw => ⟨rfl, hw⟩
end
end Go.Proofs.YtmnilpjgkjkecaaGreat

namespace Go.Proofs.YtmnilpjgkjkecaaGreat
open Sx Go Hd
set_option linter.unusedVariables false
set_option linter.unusedSimpArgs false
section
variable {w0 : World} {H : List Asn} {lo hi dg : Int} {u g : Nat}
theorem HighC_c (x y : Int) (w : World) (hw : St w0 H w) : Calls Tryz.prog 78 #[.int .i64 x, .int .i64 y] w fun e w' => e = .returned (.int .i64 y) ∧ St w0 H w' := by
  refine enter (vs := [.int .i64 x, .int .i64 y]) Tryz.func78 rfl rfl rfl hw ?_
  repeat (first | (refine sx ?_; try intro _))
  exact JS_ret Tryz.func78 rfl rfl fun w hw => ⟨rfl, hw⟩
theorem LowC_c (x y : Int) (w : World) (hw : St w0 H w) : Calls Tryz.prog 102 #[.int .i64 x, .int .i64 y] w fun e w' => e = .returned (.int .i64 x) ∧ St w0 H w' := by
  refine enter (vs := [.int .i64 x, .int .i64 y]) Tryz.func102 rfl rfl rfl hw ?_
  repeat (first | (refine sx ?_; try intro _))
  exact JS_ret Tryz.func102 rfl rfl fun w hw => ⟨rfl, hw⟩
theorem MHigh_c (b : Nat) (hM : blk b (mc lo hi dg u g) ∈ H) (hug : u + g ≤ 62) (hg : 1 ≤ g) (v : Nat) (hv : v < 9223372036854775808) (w : World) (hw : St w0 H w) :
    Calls Tryz.prog 36 #[.pointer (some ⟨b, 0, none⟩), .int .i64 v] w fun e w' => e = .returned (.tuple #[.int .i64 (low u g v + (siz u g v - 1) : Nat), .int .i64 0]) ∧ St w0 H w' := by
  refine enter (vs := [.pointer (some ⟨b, 0, none⟩), .int .i64 v]) Tryz.func36 rfl rfl rfl hw ?_
  clear hw w
  repeat (first | (refine sx ?_; try intro _))
  refine JO_call Tryz.call77 rfl rfl fun w hw => (MOf_c b hM hug hg v hv _ Tryz.call78 _ (fun w hw => HighC_c _ _ w hw) w hw).mono ?_
  rintro e w' ⟨rfl, hw'⟩
  refine ⟨_, rfl, _, hw', ?_⟩
  clear hw' hw w w'
  repeat (first | (refine sx ?_; try intro _))
  exact JS_ret Tryz.func36 rfl rfl fun w hw => ⟨rfl, hw⟩
theorem MLow_c (b : Nat) (hM : blk b (mc lo hi dg u g) ∈ H) (hug : u + g ≤ 62) (hg : 1 ≤ g) (v : Nat) (hv : v < 9223372036854775808) (w : World) (hw : St w0 H w) :
    Calls Tryz.prog 92 #[.pointer (some ⟨b, 0, none⟩), .int .i64 v] w fun e w' => e = .returned (.tuple #[.int .i64 (low u g v : Nat), .int .i64 0]) ∧ St w0 H w' := by
  refine enter (vs := [.pointer (some ⟨b, 0, none⟩), .int .i64 v]) Tryz.func92 rfl rfl rfl hw ?_
  clear hw w
  repeat (first | (refine sx ?_; try intro _))
  refine JO_call Tryz.call77 rfl rfl fun w hw => (MOf_c b hM hug hg v hv _ Tryz.call102 _ (fun w hw => LowC_c _ _ w hw) w hw).mono ?_
  rintro e w' ⟨rfl, hw'⟩
  refine ⟨_, rfl, _, hw', ?_⟩
  clear hw' hw w w'
  repeat (first | (refine sx ?_; try intro _))
  exact JS_ret Tryz.func92 rfl rfl fun w hw => ⟨rfl, hw⟩
theorem p2lt {k : Nat} (h : k ≤ 63) : 2 ^ k ≤ 9223372036854775808 := Nat.le_trans (Nat.pow_le_pow_right (by decide) h) (by decide)
theorem RPow2_c (n : Nat) (hn : n ≤ 63) (w : World) (hw : St w0 H w) : Calls Tryz.prog 22 #[.int .i64 n] w fun e w' => e = .returned (.int .u64 (2 ^ n : Nat)) ∧ St w0 H w' := by
  refine enter (vs := [.int .i64 n]) Tryz.func22 rfl rfl rfl hw ?_
  clear hw w
  repeat (first | (apply gJR; first | (refine sx ?_; try intro _)) | (apply gJO; first | (refine sx ?_; try intro _)) | apply JS_seq | apply JS_region)
  refine JS_block ?_
  refine JS_loop1 (fun (i : Nat) => [(0, .int .i64 n), (3, .int .u64 (2 ^ i : Nat)), (4, .int .i64 i)]) (fun _ => H) (fun i => i ≤ n) (fun i => n - i) 0 (Nat.zero_le _) (by repeat (first | exact trivial | refine ⟨rfl, ?_⟩ | refine ⟨lookI rfl (by omega), ?_⟩)) (fun w hw => hw) ?_
  intro i hi again
  by_cases hlt : i < n
  · have hp := p2lt (k := i + 1) (by omega)
    have hs := Nat.pow_succ (n := 2) (m := i)
    rw [Nat.succ_eq_add_one] at hs
    have k1 : IntKind.u64.wrap (2 * ((2 ^ i : Nat) : Int)) = ((2 ^ (i + 1) : Nat) : Int) := by
      generalize 2 ^ (i + 1) = y at *
      generalize 2 ^ i = z at *
      exact (wu64 (by omega)).trans (by omega)
    repeat (first | (apply gJO; refine JO_v (V_mul rfl rfl k1 rfl) ?_) | (first | (refine sx ?_; try intro _)))
    exact JS_again1 again (i + 1) (by omega) (by omega) (by repeat (first | exact trivial | refine ⟨rfl, ?_⟩ | refine ⟨lookI rfl (by omega), ?_⟩)) (fun w hw => hw)
  · obtain rfl : i = n := by omega
    clear again
    repeat (first | (refine sx ?_; try intro _))
    exact JS_ret Tryz.func22 rfl rfl fun w hw => ⟨rfl, hw⟩
theorem bkt_step {v b : Nat} : u + g + b < 63 ∧ 2 ^ (u + g + b) ≤ v → b < bkt u g v := by
  rintro ⟨h1, h2⟩
  have := bl_gt.2 h2
  unfold bkt; omega
theorem bkt_stop {v b : Nat} (hv : v < 9223372036854775808) (hb : b ≤ bkt u g v) (h : ¬ (u + g + b < 63 ∧ 2 ^ (u + g + b) ≤ v)) : b = bkt u g v := by
  have h1 := bl_v hv
  by_cases h2 : u + g + b < 63
  · have h3 : v < 2 ^ (u + g + b) := by
      rcases Nat.lt_or_ge v (2 ^ (u + g + b)) with h' | h'
      · exact h'
      · exact absurd ⟨h2, h'⟩ h
    have := bl_le.2 h3
    unfold bkt at hb ⊢; omega
  · unfold bkt at hb ⊢; omega
theorem RBucket_c (hug : u + g ≤ 62) (v : Nat) (hv : v < 9223372036854775808) (w : World) (hw : St w0 H w) :
    Calls Tryz.prog 45 #[.int .i64 u, .int .i64 g, .int .i64 v] w fun e w' => e = .returned (.int .i64 (bkt u g v : Nat)) ∧ St w0 H w' := by
  have hl := bl_v hv
  have hb : bkt u g v ≤ 63 := by unfold bkt; omega
  have k1 : IntKind.i64.wrap ((u : Int) + (g : Int)) = ((u + g : Nat) : Int) := (wi64 (by omega)).trans (by omega)
  refine enter (vs := [.int .i64 u, .int .i64 g, .int .i64 v]) Tryz.func45 rfl rfl rfl hw ?_
  clear hw w
  repeat (first | (apply gJR; first | (refine sx ?_; try intro _)) | (apply gJO; first | (refine sx ?_; try intro _)) | apply JS_seq | apply JS_region)
  refine JS_block ?_
  refine JS_loop1 (fun (i : Nat) => [(0, .int .i64 u), (1, .int .i64 g), (2, .int .i64 v), (7, .int .i64 i)]) (fun _ => H) (fun i => i ≤ bkt u g v) (fun i => bkt u g v - i) 0 (Nat.zero_le _) (by repeat (first | exact trivial | refine ⟨rfl, ?_⟩ | refine ⟨lookI rfl (by omega), ?_⟩)) (fun w hw => hw) ?_
  intro i hi again
  have k2 : IntKind.i64.wrap (((u + g : Nat) : Int) + (i : Int)) = ((u + g + i : Nat) : Int) := (wi64 (by omega)).trans (by omega)
  by_cases h63 : u + g + i < 63
  · repeat (first | (apply gJO; first | refine JO_v (V_add rfl rfl k1 rfl) ?_ | refine JO_v (V_add rfl rfl k2 rfl) ?_) | (first | (refine sx ?_; try intro _)))
    refine JO_call Tryz.call22 rfl rfl fun w hw => (RPow2_c (u + g + i) (by omega) w hw).mono ?_
    rintro e w' ⟨rfl, hw'⟩
    refine ⟨_, rfl, _, hw', ?_⟩
    clear hw' hw w w'
    by_cases hge : 2 ^ (u + g + i) ≤ v
    · have hst := bkt_step (v := v) ⟨h63, hge⟩
      generalize 2 ^ (u + g + i) = z at *
      repeat (first | (refine sx ?_; try intro _))
      exact JS_again1 again (i + 1) (by omega) (by omega) (by repeat (first | exact trivial | refine ⟨rfl, ?_⟩ | refine ⟨lookI rfl (by omega), ?_⟩)) (fun w hw => hw)
    · have hst := bkt_stop hv hi (fun h => hge h.2)
      clear again
      generalize 2 ^ (u + g + i) = z at *
      repeat (first | (refine sx ?_; try intro _))
      exact JS_ret Tryz.func45 rfl rfl fun w hw => ⟨by rw [← hst]; rfl, hw⟩
  · have hst := bkt_stop hv hi (fun h => h63 h.1)
    clear again
    repeat (first | (apply gJO; first | refine JO_v (V_add rfl rfl k1 rfl) ?_ | refine JO_v (V_add rfl rfl k2 rfl) ?_) | (first | (refine sx ?_; try intro _)))
    exact JS_ret Tryz.func45 rfl rfl fun w hw => ⟨by rw [← hst]; rfl, hw⟩
end
end Go.Proofs.YtmnilpjgkjkecaaGreat

namespace Go.Proofs.YtmnilpjgkjkecaaGreat
open Sx Go Hd
set_option linter.unusedVariables false
set_option linter.unusedSimpArgs false
section
variable {w0 : World} {H : List Asn} {lo hi dg : Int} {u g : Nat}
theorem RCell_c (hug : u + g ≤ 62) (hg : 1 ≤ g) (v : Nat) (hv : v < 9223372036854775808) (w : World) (hw : St w0 H w) :
    Calls Tryz.prog 40 #[.int .i64 u, .int .i64 g, .int .i64 v] w fun e w' => e = .returned (.tuple #[.int .i64 (low u g v : Nat), .int .i64 (siz u g v : Nat)]) ∧ St w0 H w' := by
  have hbu := bkt_u hug hg hv
  have hpb : 2 ^ (bkt u g v + u) ≤ 4611686018427387904 := Nat.le_trans (Nat.pow_le_pow_right (by decide) hbu) (by decide)
  have hp0 := p2pos (bkt u g v + u)
  have hs : siz u g v = 2 ^ (bkt u g v + u) := rfl
  have hl : low u g v = v / 2 ^ (bkt u g v + u) * 2 ^ (bkt u g v + u) := rfl
  have hll := low_le u g v
  refine enter (vs := [.int .i64 u, .int .i64 g, .int .i64 v]) Tryz.func40 rfl rfl rfl hw ?_
  clear hw w
  repeat (first | (refine sx ?_; try intro _))
  refine JO_call Tryz.call45 rfl rfl fun w hw => (RBucket_c hug v hv w hw).mono ?_
  rintro e w' ⟨rfl, hw'⟩
  refine ⟨_, rfl, _, hw', ?_⟩
  clear hw' hw w w'
  have k1 : IntKind.i64.wrap ((u : Int) + ((bkt u g v : Nat) : Int)) = ((bkt u g v + u : Nat) : Int) := (wi64 (by omega)).trans (by omega)
  generalize hk : bkt u g v + u = k at *
  repeat (first | (apply gJO; refine JO_v (V_add rfl rfl k1 rfl) ?_) | first | (refine sx ?_; try intro _))
  refine JO_call Tryz.call22 rfl rfl fun w hw => (RPow2_c k (by omega) w hw).mono ?_
  rintro e w' ⟨rfl, hw'⟩
  refine ⟨_, rfl, _, hw', ?_⟩
  clear hw' hw w w'
  generalize hz : 2 ^ k = z at *
  have hqv := Nat.div_le_self v z
  have k2 : IntKind.i64.wrap (Int.tdiv (v : Int) (z : Int)) = ((v / z : Nat) : Int) := by
    rw [show Int.tdiv (v : Int) (z : Int) = ((v / z : Nat) : Int) from (Int.ofNat_tdiv v z).symm]
    generalize v / z = q at *
    exact wi64 (by omega)
  have k3 : IntKind.i64.wrap (((v / z : Nat) : Int) * (z : Int)) = ((low u g v : Nat) : Int) := by
    rw [← Int.natCast_mul, ← hl]
    exact wi64 (by omega)
  have k4 : IntKind.i64.wrap (z : Int) = (z : Int) := wi64 (by omega)
  repeat (first | (apply gJO; first | refine JO_v (V_quo rfl rfl (by omega) k2 rfl) ?_ | refine JO_v (V_mul rfl rfl k3 rfl) ?_ | refine JO_v (oCv (V_conv (tb := tb) rfl rfl rfl k4 rfl)) ?_) | first | (refine sx ?_; try intro _))
  exact JS_ret Tryz.func40 rfl rfl fun w hw => ⟨by rw [hs]; rfl, hw⟩
theorem RIndex_c (hug : u + g ≤ 62) (hg : 1 ≤ g ∧ g ≤ 18) (v : Nat) (hv : v < 9223372036854775808) (w : World) (hw : St w0 H w) :
    Calls Tryz.prog 18 #[.int .i64 u, .int .i64 g, .int .i64 v] w fun e w' => e = .returned (.int .i64 (idx u g v : Nat)) ∧ St w0 H w' := by
  obtain ⟨b1, b2, b3, b4, b5⟩ := idx_bd hug hg hv
  have hbu := bkt_u hug hg.1 hv
  have hpb : 2 ^ (bkt u g v + u) ≤ 4611686018427387904 := Nat.le_trans (Nat.pow_le_pow_right (by decide) hbu) (by decide)
  have hp0 := p2pos (bkt u g v + u)
  have hi' : idx u g v = bkt u g v * 2 ^ (g - 1) + v / 2 ^ (bkt u g v + u) := rfl
  refine enter (vs := [.int .i64 u, .int .i64 g, .int .i64 v]) Tryz.func18 rfl rfl rfl hw ?_
  clear hw w
  repeat (first | (refine sx ?_; try intro _))
  refine JO_call Tryz.call45 rfl rfl fun w hw => (RBucket_c hug v hv w hw).mono ?_
  rintro e w' ⟨rfl, hw'⟩
  refine ⟨_, rfl, _, hw', ?_⟩
  clear hw' hw w w'
  have k0 : IntKind.i64.wrap ((g : Int) - 1) = ((g - 1 : Nat) : Int) := (wi64 (by omega)).trans (by omega)
  have k1 : IntKind.i64.wrap ((u : Int) + ((bkt u g v : Nat) : Int)) = ((bkt u g v + u : Nat) : Int) := (wi64 (by omega)).trans (by omega)
  repeat (first | (apply gJO; refine JO_v (V_sub rfl rfl k0 rfl) ?_) | first | (refine sx ?_; try intro _))
  refine JO_call Tryz.call22 rfl rfl fun w hw => (RPow2_c (g - 1) (by omega) w hw).mono ?_
  rintro e w' ⟨rfl, hw'⟩
  refine ⟨_, rfl, _, hw', ?_⟩
  clear hw' hw w w'
  generalize hh : 2 ^ (g - 1) = h at *
  generalize hk : bkt u g v = k at *
  have k2 : IntKind.i64.wrap (h : Int) = (h : Int) := wi64 (by omega)
  have k3 : IntKind.i64.wrap ((k : Int) + 1) = ((k + 1 : Nat) : Int) := (wi64 (by omega)).trans (by omega)
  have k4 : IntKind.i64.wrap (((k + 1 : Nat) : Int) * (h : Int)) = (((k + 1) * h : Nat) : Int) := by
    rw [← Int.natCast_mul]
    exact wi64 (by omega)
  repeat (first | (apply gJO; first | refine JO_v (oCv (V_conv (tb := tb) rfl rfl rfl k2 rfl)) ?_ | refine JO_v (V_add rfl rfl k3 rfl) ?_ | refine JO_v (V_mul rfl rfl k4 rfl) ?_ | refine JO_v (V_add rfl rfl k1 rfl) ?_) | first | (refine sx ?_; try intro _))
  refine JO_call Tryz.call22 rfl rfl fun w hw => (RPow2_c (k + u) (by omega) w hw).mono ?_
  rintro e w' ⟨rfl, hw'⟩
  refine ⟨_, rfl, _, hw', ?_⟩
  clear hw' hw w w'
  generalize hz : 2 ^ (k + u) = z at *
  generalize hq : v / z = q at *
  have k5 : IntKind.u64.wrap (Int.tdiv (v : Int) (z : Int)) = (q : Int) := by
    rw [show Int.tdiv (v : Int) (z : Int) = ((v / z : Nat) : Int) from (Int.ofNat_tdiv v z).symm, hq]
    exact wu64 (by omega)
  have k6 : IntKind.i64.wrap ((((k + 1) * h : Nat) : Int) + (q : Int)) = (((k + 1) * h + q : Nat) : Int) := (wi64 (by omega)).trans (by omega)
  have k7 : IntKind.i64.wrap ((((k + 1) * h + q : Nat) : Int) - (h : Int)) = (idx u g v : Nat) := by
    rw [hi', Nat.add_mul] at *
    refine (wi64 (by omega)).trans (by omega)
  repeat (first | (apply gJO; first | refine JO_v (V_quo rfl rfl (by omega) k5 rfl) ?_ | refine JO_v (V_add rfl rfl k6 rfl) ?_ | refine JO_v (V_sub rfl rfl k7 rfl) ?_) | first | (refine sx ?_; try intro _))
  exact JS_ret Tryz.func18 rfl rfl fun w hw => ⟨rfl, hw⟩
theorem RTop_c (hug : u + g ≤ 62) (hg : 1 ≤ g) (n : Nat) (hn : n < 9223372036854775808) (w : World) (hw : St w0 H w) :
    Calls Tryz.prog 94 #[.int .i64 u, .int .i64 g, .int .i64 n] w fun e w' => e = .returned (.int .i64 (topv u g n : Nat)) ∧ St w0 H w' := by
  have ht : topv u g n = if 63 ≤ min (max n 1) 64 - 1 + u + g then 9223372036854775807 else 2 ^ (min (max n 1) 64 - 1 + u + g) - 1 := rfl
  obtain ⟨m, hm⟩ : ∃ m, min (max n 1) 64 = m := ⟨_, rfl⟩
  rw [hm] at ht
  have k1 : max (n : Int) 1 = ((max n 1 : Nat) : Int) := by omega
  have k2 : min ((max n 1 : Nat) : Int) 64 = (m : Int) := by omega
  have k3 : IntKind.i64.wrap ((m : Int) - 1) = ((m - 1 : Nat) : Int) := (wi64 (by omega)).trans (by omega)
  have k4 : IntKind.i64.wrap (((m - 1 : Nat) : Int) + (u : Int)) = ((m - 1 + u : Nat) : Int) := (wi64 (by omega)).trans (by omega)
  have k5 : IntKind.i64.wrap (((m - 1 + u : Nat) : Int) + (g : Int)) = ((m - 1 + u + g : Nat) : Int) := (wi64 (by omega)).trans (by omega)
  refine enter (vs := [.int .i64 u, .int .i64 g, .int .i64 n]) Tryz.func94 rfl rfl rfl hw ?_
  clear hw w
  by_cases h63 : 63 ≤ m - 1 + u + g
  · rw [if_pos h63] at ht
    repeat (first | (apply gJO; first | refine JO_v (V_max rfl rfl k1 rfl) ?_ | refine JO_v (V_min rfl rfl k2 rfl) ?_ | refine JO_v (V_sub rfl rfl k3 rfl) ?_ | refine JO_v (V_add rfl rfl k4 rfl) ?_ | refine JO_v (V_add rfl rfl k5 rfl) ?_) | first | (refine sx ?_; try intro _))
    exact JS_ret Tryz.func94 rfl rfl fun w hw => ⟨by rw [ht]; rfl, hw⟩
  · rw [if_neg h63] at ht
    have hp : 2 ^ (m - 1 + u + g) ≤ 4611686018427387904 := Nat.le_trans (Nat.pow_le_pow_right (by decide) (show m - 1 + u + g ≤ 62 by omega)) (by decide)
    have hp1 := p2pos (m - 1 + u + g)
    generalize hz : m - 1 + u + g = z at *
    repeat (first | (apply gJO; first | refine JO_v (V_max rfl rfl k1 rfl) ?_ | refine JO_v (V_min rfl rfl k2 rfl) ?_ | refine JO_v (V_sub rfl rfl k3 rfl) ?_ | refine JO_v (V_add rfl rfl k4 rfl) ?_ | refine JO_v (V_add rfl rfl k5 rfl) ?_) | first | (refine sx ?_; try intro _))
    refine JO_call Tryz.call22 rfl rfl fun w hw => (RPow2_c z (by omega) w hw).mono ?_
    rintro e w' ⟨rfl, hw'⟩
    refine ⟨_, rfl, _, hw', ?_⟩
    clear hw' hw w w'
    generalize hy : 2 ^ z = y at *
    have k6 : IntKind.i64.wrap (y : Int) = (y : Int) := wi64 (by omega)
    have k7 : IntKind.i64.wrap ((y : Int) - 1) = ((y - 1 : Nat) : Int) := (wi64 (by omega)).trans (by omega)
    repeat (first | (apply gJO; first | refine JO_v (oCv (V_conv (tb := tb) rfl rfl rfl k6 rfl)) ?_ | refine JO_v (V_sub rfl rfl k7 rfl) ?_) | first | (refine sx ?_; try intro _))
    exact JS_ret Tryz.func94 rfl rfl fun w hw => ⟨by rw [ht]; rfl, hw⟩
end
end Go.Proofs.YtmnilpjgkjkecaaGreat

namespace Go.Proofs.YtmnilpjgkjkecaaGreat
open Sx Go Hd
set_option linter.unusedVariables false
set_option linter.unusedSimpArgs false
section
variable {w0 : World} {H : List Asn} {lo hi dg : Int} {u g : Nat}
theorem isI_iff {i : Nat} (hu : u ≤ 62) : isI u g i ↔ ivb g i ≤ 64 ∧ ival u g i < 9223372036854775808 := by
  constructor
  · intro h; exact ⟨h.1, ival_lt h⟩
  · rintro ⟨h1, h2⟩
    refine ⟨h1, ?_⟩
    rcases Nat.lt_or_ge 63 (bitLen (ivk g i) + ivb g i + u) with h3 | h3
    · exfalso
      have hp := p2pos (g - 1)
      by_cases h0 : ivk g i = 0
      · have e : bitLen (ivk g i) = 0 := by rw [h0]; simp [bitLen]
        have hq : i / 2 ^ (g - 1) = 0 := by
          by_cases hq : i / 2 ^ (g - 1) = 0
          · exact hq
          · unfold ivk at h0
            rw [if_neg hq] at h0
            omega
        have : ivb g i = 0 := by unfold ivb; rw [hq]
        omega
      · have h4 := (bitLen_spec (ivk g i)).2 h0
        have h5 : 2 ^ (bitLen (ivk g i) - 1) * 2 ^ (ivb g i + u) ≤ ival u g i := Nat.mul_le_mul_right _ h4
        rw [← Nat.pow_add] at h5
        have h6 : 0 < bitLen (ivk g i) := by
          rcases Nat.eq_zero_or_pos (bitLen (ivk g i)) with h | h
          · have := bl_le.1 (Nat.le_of_eq h)
            omega
          · exact h
        have h7 : 2 ^ 63 ≤ 2 ^ (bitLen (ivk g i) - 1 + (ivb g i + u)) := Nat.pow_le_pow_right (by decide) (by omega)
        omega
    · exact h3
set_option maxRecDepth 10000 in
set_option maxHeartbeats 2000000 in
theorem RValue_c (hug : u + g ≤ 62) (hg : 1 ≤ g ∧ g ≤ 18) (i : Nat) (hi : i < 9223372036854775808) (w : World) (hw : St w0 H w) :
    Calls Tryz.prog 39 #[.int .i64 u, .int .i64 g, .int .i64 i] w fun e w' => e = .returned (if isI u g i then .tuple #[.int .i64 (ival u g i : Nat), .bool true] else .tuple #[.int .i64 0, .bool false]) ∧ St w0 H w' := by
  have h5 : 2 ^ (g - 1) ≤ 2 ^ 17 := Nat.pow_le_pow_right (by decide) (by omega)
  have hp := p2pos (g - 1)
  have hm := Nat.mod_lt i hp
  have hk := ivk_bd (i := i) hg
  have hbI : ivb g i ≤ i := by
    unfold ivb
    have := Nat.div_le_self i (2 ^ (g - 1))
    omega
  have hkd : ivk g i = if i / 2 ^ (g - 1) = 0 then i else i % 2 ^ (g - 1) + 2 ^ (g - 1) := rfl
  have hbd : ivb g i = i / 2 ^ (g - 1) - 1 := rfl
  have hisd := isI_iff (u := u) (g := g) (i := i) (by omega)
  have hiv : ival u g i = ivk g i * 2 ^ (ivb g i + u) := rfl
  have hq0 := Nat.div_le_self i (2 ^ (g - 1))
  have hdm := Nat.div_add_mod i (2 ^ (g - 1))
  have hq66 : 66 * 2 ^ (g - 1) ≤ i ↔ 66 ≤ i / 2 ^ (g - 1) := (Nat.le_div_iff_mul_le hp).symm
  generalize hh : 2 ^ (g - 1) = h at *
  generalize hq : i / h = q at *
  generalize hr : i % h = r at *
  have k0 : IntKind.i64.wrap ((g : Int) - 1) = ((g - 1 : Nat) : Int) := (wi64 (by omega)).trans (by omega)
  have k1 : IntKind.i64.wrap (h : Int) = (h : Int) := wi64 (by omega)
  have c1 : IntKind.i64.wrap (Int.tdiv (i : Int) (h : Int)) = (q : Int) := by
    rw [show Int.tdiv (i : Int) (h : Int) = ((i / h : Nat) : Int) from (Int.ofNat_tdiv i h).symm, hq]
    exact wi64 (by omega)
  have c2 : Int.tmod (i : Int) (h : Int) = (r : Int) := by rw [← hr, Int.ofNat_tmod]
  have key : ∀ (B K : Nat), B = ivb g i → K = ivk g i → ivb g i ≤ 64 → JS Tryz.prog 39 Tryz.f39.ntmps (fun e w' => e = .returned (if isI u g i then .tuple #[.int .i64 (ival u g i : Nat), .bool true] else .tuple #[.int .i64 0, .bool false]) ∧ St w0 H w') [] w0 (todo Tryz.f39 [.b, .b, .b, .b, .b, .b]) [(0, .int .i64 u), (1, .int .i64 g), (9, .int .i64 B), (10, .int .u64 K)] H := by
    intro B K hB hK hB64
    rw [← hB, ← hK] at hiv
    rw [← hK] at hk
    rw [← hB] at hB64 hisd
    have c4 : IntKind.i64.wrap ((B : Int) + (u : Int)) = ((B + u : Nat) : Int) := (wi64 (by omega)).trans (by omega)
    repeat (first | (apply gJR; first | (refine sx ?_; try intro _)) | (apply gJO; first | (refine sx ?_; try intro _)) | apply JS_seq | apply JS_region)
    refine JS_block ?_
    refine JS_loop1 (fun (n : Nat) => [(0, .int .i64 u), (9, .int .i64 B), (11, .int .u64 (K * 2 ^ n : Nat)), (12, .int .i64 n)]) (fun _ => H) (fun n => n ≤ B + u ∧ K * 2 ^ n < 9223372036854775808) (fun n => B + u - n) 0 ⟨Nat.zero_le _, by rw [Nat.pow_zero]; omega⟩ (by rw [Nat.pow_zero, Nat.mul_one]; exact (by repeat (first | exact trivial | refine ⟨rfl, ?_⟩ | refine ⟨lookI rfl (by omega), ?_⟩))) (fun w hw => hw) ?_
    intro n ⟨hn, hn63⟩ again
    by_cases hlt : n < B + u
    · have hs : K * 2 ^ (n + 1) = 2 * (K * 2 ^ n) := by rw [Nat.pow_succ, Nat.mul_comm (2 ^ n) 2, Nat.mul_left_comm]
      by_cases hbig : 4611686018427387904 ≤ K * 2 ^ n
      · have hno : ¬ isI u g i := fun h => by
          have h2 := (hisd.1 h).2
          rw [hiv, show B + u = n + 1 + (B + u - (n + 1)) by omega, Nat.pow_add, ← Nat.mul_assoc, hs] at h2
          have h3 := Nat.mul_le_mul (Nat.mul_le_mul_left 2 hbig) (p2pos (B + u - (n + 1)))
          omega
        rw [if_neg hno]
        clear again
        generalize K * 2 ^ n = z at *
        repeat (first | (apply gJO; refine JO_v (V_add rfl rfl c4 rfl) ?_) | first | (refine sx ?_; try intro _))
        exact JS_ret Tryz.func39 rfl rfl fun w hw => ⟨rfl, hw⟩
      · have k3 : IntKind.u64.wrap (2 * ((K * 2 ^ n : Nat) : Int)) = ((K * 2 ^ (n + 1) : Nat) : Int) := by
          rw [hs]
          generalize K * 2 ^ n = z at *
          exact (wu64 (by omega)).trans (by omega)
        have hlt63 : K * 2 ^ (n + 1) < 9223372036854775808 := by rw [hs]; omega
        have key2 := again
        clear again
        obtain ⟨z, hz⟩ : ∃ z, K * 2 ^ n = z := ⟨_, rfl⟩
        rw [hz] at k3 hbig ⊢
        repeat (first | (apply gJO; first | refine JO_v (V_add rfl rfl c4 rfl) ?_ | refine JO_v (V_mul rfl rfl k3 rfl) ?_) | first | (refine sx ?_; try intro _))
        exact JS_again1 key2 (n + 1) ⟨by omega, hlt63⟩ (by omega) (by repeat (first | exact trivial | refine ⟨rfl, ?_⟩ | refine ⟨lookI rfl (by omega), ?_⟩)) (fun w hw => hw)
    · obtain rfl : n = B + u := by omega
      clear again
      rw [← hiv] at hn63 ⊢
      have his : isI u g i := hisd.2 ⟨hB64, hn63⟩
      rw [if_pos his]
      generalize ival u g i = z at *
      have k5 : IntKind.i64.wrap (z : Int) = (z : Int) := wi64 (by omega)
      repeat (first | (apply gJO; first | refine JO_v (V_add rfl rfl c4 rfl) ?_ | refine JO_v (oCv (V_conv (tb := tb) rfl rfl rfl k5 rfl)) ?_) | first | (refine sx ?_; try intro _))
      exact JS_ret Tryz.func39 rfl rfl fun w hw => ⟨rfl, hw⟩
  refine enter (vs := [.int .i64 u, .int .i64 g, .int .i64 i]) Tryz.func39 rfl rfl rfl hw ?_
  clear hw w
  repeat (first | (apply gJO; refine JO_v (V_sub rfl rfl k0 rfl) ?_) | first | (refine sx ?_; try intro _))
  refine JO_call Tryz.call22 rfl rfl fun w hw => (RPow2_c (g - 1) (by omega) w hw).mono ?_
  rw [hh]
  rintro e w' ⟨rfl, hw'⟩
  refine ⟨_, rfl, _, hw', ?_⟩
  clear hw' hw w w'
  by_cases hz : q = 0
  · rw [if_pos hz] at hkd
    have hib : i < 66 * h := by omega
    have c3 : IntKind.i64.wrap ((q : Int) - 1) = -1 := (wi64 (by omega)).trans (by omega)
    have hri : r = i := by rw [hz, Nat.mul_zero] at hdm; omega
    repeat (first | exact JS_of_at (fn := Tryz.f39) (p := [.b, .b, .b, .b, .b, .b]) (JS_ov (by repeat (first | exact trivial | refine ⟨rfl, ?_⟩ | refine ⟨lookI rfl (by omega), ?_⟩)) (key 0 r (by omega) (by omega) (by omega))) rfl | (apply gJO; first | refine JO_v (oCv (V_conv (tb := tb) rfl rfl rfl k1 rfl)) ?_ | refine JO_v (V_quo rfl rfl (by omega) c1 rfl) ?_ | refine JO_v (V_rem rfl rfl (by omega) c2 rfl) ?_ | refine JO_v (V_sub rfl rfl c3 rfl) ?_) | (first | (refine sx ?_; try intro _)))
  · rw [if_neg hz] at hkd
    have c3 : IntKind.i64.wrap ((q : Int) - 1) = ((q - 1 : Nat) : Int) := (wi64 (by omega)).trans (by omega)
    have c6 : IntKind.u64.wrap ((r : Int) + (h : Int)) = ((r + h : Nat) : Int) := (wu64 (by omega)).trans (by omega)
    by_cases h66 : 66 * h ≤ i
    · have hno : ¬ isI u g i := fun h => by have := h.1; omega
      rw [if_neg hno]
      clear key
      repeat (first | (apply gJO; first | refine JO_v (oCv (V_conv (tb := tb) rfl rfl rfl k1 rfl)) ?_) | (first | (refine sx ?_; try intro _)))
      exact JS_ret Tryz.func39 rfl rfl fun w hw => ⟨rfl, hw⟩
    · repeat (first | exact JS_of_at (fn := Tryz.f39) (p := [.b, .b, .b, .b, .b, .b]) (JS_ov (by repeat (first | exact trivial | refine ⟨rfl, ?_⟩ | refine ⟨lookI rfl (by omega), ?_⟩)) (key (q - 1) (r + h) (by omega) (by omega) (by omega))) rfl | (apply gJO; first | refine JO_v (oCv (V_conv (tb := tb) rfl rfl rfl k1 rfl)) ?_ | refine JO_v (V_quo rfl rfl (by omega) c1 rfl) ?_ | refine JO_v (V_rem rfl rfl (by omega) c2 rfl) ?_ | refine JO_v (V_sub rfl rfl c3 rfl) ?_ | refine JO_v (V_add rfl rfl c6 rfl) ?_) | (first | (refine sx ?_; try intro _)))
theorem RValueN_c (hg : 1 ≤ g ∧ g ≤ 18) (i : Int) (h0 : i < 0) (h1 : -9223372036854775808 ≤ i) (w : World) (hw : St w0 H w) :
    Calls Tryz.prog 39 #[.int .i64 u, .int .i64 g, .int .i64 i] w fun e w' => e = .returned (.tuple #[.int .i64 0, .bool false]) ∧ St w0 H w' := by
  have h5 : 2 ^ (g - 1) ≤ 2 ^ 17 := Nat.pow_le_pow_right (by decide) (by omega)
  have k0 : IntKind.i64.wrap ((g : Int) - 1) = ((g - 1 : Nat) : Int) := (wi64 (by omega)).trans (by omega)
  refine enter (vs := [.int .i64 u, .int .i64 g, .int .i64 i]) Tryz.func39 rfl rfl rfl hw ?_
  clear hw w
  repeat (first | (apply gJO; refine JO_v (V_sub rfl rfl k0 rfl) ?_) | first | (refine sx ?_; try intro _))
  refine JO_call Tryz.call22 rfl rfl fun w hw => (RPow2_c (g - 1) (by omega) w hw).mono ?_
  rintro e w' ⟨rfl, hw'⟩
  refine ⟨_, rfl, _, hw', ?_⟩
  clear hw' hw w w'
  generalize 2 ^ (g - 1) = h at *
  repeat (first | (refine sx ?_; try intro _))
  exact JS_ret Tryz.func39 rfl rfl fun w hw => ⟨rfl, hw⟩
end
end Go.Proofs.YtmnilpjgkjkecaaGreat

namespace Go.Proofs.YtmnilpjgkjkecaaGreat
open Sx Go
set_option linter.unusedVariables false
set_option linter.unusedSimpArgs false
theorem p10 (k : Nat) (h : k ≤ 19) : (1 : Int) ≤ 10 ^ k ∧ (10 : Int) ^ k ≤ 10000000000000000000 := by
  have : ∀ k : Fin 20, (1 : Int) ≤ 10 ^ k.val ∧ (10 : Int) ^ k.val ≤ 10000000000000000000 := by decide +kernel
  exact this ⟨k, by omega⟩
theorem p10_pos (k : Nat) : (0 : Int) < 10 ^ k := Int.pow_pos (by decide)
theorem p10_mono {j k : Nat} (h : j ≤ k) : (10 : Int) ^ j ≤ 10 ^ k := by
  have := Nat.pow_le_pow_right (n := 10) (by decide) h
  exact_mod_cast this
theorem p10_lt {k : Nat} {n : Int} (hn : n < 18446744073709551616) (h : (10 : Int) ^ k ≤ n) : k ≤ 19 := by
  rcases Nat.lt_or_ge k 20 with h1 | h1
  · omega
  · have := p10_mono h1
    have : (10 : Int) ^ 20 = 100000000000000000000 := by decide +kernel
    omega
def PW (d v r : Int) : Prop := ((d < 0 ∨ 19 < d) ∧ v = 0 ∧ r = 1) ∨ (0 ≤ d ∧ d ≤ 19 ∧ v = 10 ^ d.toNat ∧ r = 0)
set_option maxHeartbeats 1000000 in
theorem Power_c {w0 : World} {H : List Asn} (d : Int) (hd : -9223372036854775808 ≤ d ∧ d < 9223372036854775808) (w : World) (hw : St w0 H w) :
    Calls Tryz.prog 88 #[.int .i64 d] w fun e w' => ∃ v r, e = .returned (.tuple #[.int .u64 v, .int .i64 r]) ∧ St w0 H w' ∧ PW d v r := by
  refine enter (vs := [.int .i64 d]) Tryz.func88 rfl rfl rfl hw ?_
  by_cases h0 : d < 0
  · repeat (first | (refine sx ?_; try intro _))
    refine JS_ret Tryz.func88 rfl rfl ?_
    intro w hw
    exact ⟨_, _, rfl, hw, .inl ⟨.inl h0, rfl, rfl⟩⟩
  by_cases h1 : 19 < d
  · repeat (first | (refine sx ?_; try intro _))
    refine JS_ret Tryz.func88 rfl rfl ?_
    intro w hw
    exact ⟨_, _, rfl, hw, .inl ⟨.inr h1, rfl, rfl⟩⟩
  repeat (first | (apply gJR; first | (refine sy ?_; try intro _)) | (apply gJO; first | (refine sy ?_; try intro _)) | apply JS_seq | apply JS_region | refine JS_condF rfl ?_ | apply JS_skip)
  refine JS_block ?_
  refine JS_loop1 (fun (k : Nat) => [(11, .int .i64 d), (4, .int .u64 (10 ^ k)), (12, .int .i64 k)]) (fun _ => H) (fun k => (k : Int) ≤ d) (fun k => (d - k).toNat) 0 (by omega) (by repeat (first | exact trivial | refine ⟨rfl, ?_⟩ | refine ⟨lookI rfl (by omega), ?_⟩)) (fun _ h => h) ?_
  intro k hk again
  by_cases hkd : (k : Int) = d
  · repeat (first | (refine sx ?_; try intro _))
    refine JS_ret Tryz.func88 rfl rfl ?_
    intro w hw
    exact ⟨_, _, rfl, hw, .inr ⟨by omega, by omega, by rw [show d.toNat = k by omega], rfl⟩⟩
  · have hp := p10 (k + 1) (by omega)
    rw [Int.pow_succ] at hp
    have hq := p10 k (by omega)
    obtain ⟨p, hpe⟩ : ∃ p, (10 : Int) ^ k = p := ⟨_, rfl⟩
    rw [hpe] at hp hq
    rw [hpe]
    repeat (first | (refine sx ?_; try intro _))
    exact JS_again1 again (k + 1) (by omega) (by omega) (by exact ⟨rfl, lookI rfl (by simp only [Int.pow_succ, hpe] <;> omega), lookI rfl (by omega), trivial⟩) (fun _ h => h)
end Go.Proofs.YtmnilpjgkjkecaaGreat

namespace Sx
open Go
section
variable {P : Program} {n : Nat} {D : List Deferred} {w0 : World} {ov : Ov} {H : List Asn} {d : Option Nat} {T : Nat} {pos : String} {af : Array Edge} {g : Option (Nat × Bool)} {x y : Operand} {v : Value}
theorem E_box {e : Nat} {cs : List Value} (hx : ev ov x = some v) (hc : cellsL v = cs) (hd : dOk d n = true) : OpE (ι := Nat) P n D w0 ov H ⟨d, .box e x, T, pos, af, g⟩ (fun b => .pointer (some ⟨b, 0, none⟩)) (fun b => blk b cs :: H) :=
  ⟨hd, fun a w ha hw => ⟨w.heap.size, w.alloc (.cells cs.toArray e), by
    simp [execOp, ha.ev hx, Instr.box, newVar, newRow, cellsL_eq, hc], hw.new cs e _ fun w' h' => blk_holds.2 ⟨rfl, e, h'⟩⟩⟩
end
end Sx
namespace Hd
open Go
/-- a shape's unit's bits and its magnitude -/
def uOf (lo : Int) : Nat := bitLen lo.toNat - 1
def gOf (dg : Int) : Nat := bitLen (2 * 10 ^ dg.toNat - 1)
/-- shapes that may be, but for the sum -/
def sh0 (lo hi dg : Int) : Prop := 1 ≤ dg ∧ dg ≤ 5 ∧ 1 ≤ lo ∧ 2 * lo ≤ hi
def shOK (lo hi dg : Int) : Prop := sh0 lo hi dg ∧ uOf lo + gOf dg ≤ 62
instance (lo hi dg : Int) : Decidable (sh0 lo hi dg) := by unfold sh0; infer_instance
instance (lo hi dg : Int) : Decidable (shOK lo hi dg) := by unfold shOK; infer_instance
theorem gOf_at : ∀ d : Fin 6, 1 ≤ d.val → 5 ≤ gOf (d.val : Int) ∧ gOf (d.val : Int) ≤ 18 ∧ 10 ^ d.val ≤ 2 ^ (gOf (d.val : Int) - 1) ∧ 10 ^ d.val ≤ 100000 := by decide +kernel
theorem gOf_bd {dg : Int} (h : 1 ≤ dg ∧ dg ≤ 5) : 5 ≤ gOf dg ∧ gOf dg ≤ 18 ∧ 10 ^ dg.toNat ≤ 2 ^ (gOf dg - 1) ∧ 10 ^ dg.toNat ≤ 100000 := by
  have h2 := gOf_at ⟨dg.toNat, by omega⟩ (by show 1 ≤ dg.toNat; omega)
  simp only [] at h2
  rw [show ((dg.toNat : Nat) : Int) = dg by omega] at h2
  exact h2
end Hd
namespace Go.Proofs.YtmnilpjgkjkecaaGreat
open Sx Go Hd
set_option linter.unusedVariables false
set_option linter.unusedSimpArgs false
section
variable {w0 : World} {H : List Asn}
abbrev hagg (lo hi dg : Int) : Value := .agg #[.int .i64 lo, .int .i64 hi, .int .i64 dg]
set_option maxRecDepth 10000 in
set_option maxHeartbeats 2000000 in
theorem MNew_c (lo hi dg : Int) (hlo : -9223372036854775808 ≤ lo ∧ lo < 9223372036854775808) (hhi : -9223372036854775808 ≤ hi ∧ hi < 9223372036854775808) (hdg : -9223372036854775808 ≤ dg ∧ dg < 9223372036854775808) (w : World) (hw : St w0 H w) :
    Calls Tryz.prog 53 #[hagg lo hi dg] w fun e w' => (¬ shOK lo hi dg ∧ e = .returned (.tuple #[.pointer none, .int .i64 1]) ∧ St w0 H w') ∨
      (shOK lo hi dg ∧ ∃ b, e = .returned (.tuple #[.pointer (some ⟨b, 0, none⟩), .int .i64 0]) ∧ St w0 (blk b (mc lo hi dg (uOf lo) (gOf dg)) :: H) w') := by
  refine enter (vs := [hagg lo hi dg]) Tryz.func53 rfl rfl rfl hw ?_
  clear hw w
  have hno : ¬ sh0 lo hi dg → ∀ w, St w0 H w → (¬ shOK lo hi dg ∧ (Ending.returned (.tuple #[.pointer none, .int .i64 1]) : Ending) = .returned (.tuple #[.pointer none, .int .i64 1]) ∧ St w0 H w) ∨
      (shOK lo hi dg ∧ ∃ b, (Ending.returned (.tuple #[.pointer none, .int .i64 1]) : Ending) = .returned (.tuple #[.pointer (some ⟨b, 0, none⟩), .int .i64 0]) ∧ St w0 (blk b (mc lo hi dg (uOf lo) (gOf dg)) :: H) w) :=
    fun h w hw => .inl ⟨fun h2 => h h2.1, rfl, hw⟩
  obtain ⟨t2, ht2, k0⟩ : ∃ t2, Int.tdiv hi 2 = t2 ∧ ((0 ≤ hi ∧ t2 = hi / 2) ∨ (hi < 0 ∧ t2 = -((-hi) / 2))) := by
    refine ⟨_, rfl, ?_⟩
    rcases Int.lt_or_le hi 0 with h | h
    · right
      obtain ⟨m, rfl⟩ : ∃ m, hi = -m := ⟨-hi, by omega⟩
      rw [Int.neg_tdiv, Int.tdiv_eq_ediv_of_nonneg (by omega), Int.neg_neg]
      exact ⟨h, rfl⟩
    · left
      exact ⟨h, Int.tdiv_eq_ediv_of_nonneg h⟩
  have k1 : IntKind.i64.wrap (Int.tdiv hi 2) = t2 := by rw [ht2]; exact wi64 (by omega)
  by_cases h1 : dg < 1
  · repeat (first | (refine sx ?_; try intro _))
    exact JS_ret Tryz.func53 rfl rfl fun w hw => hno (by unfold sh0; omega) w hw.drop
  by_cases h2 : 5 < dg
  · repeat (first | (refine sx ?_; try intro _))
    exact JS_ret Tryz.func53 rfl rfl fun w hw => hno (by unfold sh0; omega) w hw.drop
  by_cases h3 : lo < 1
  · repeat (first | (refine sx ?_; try intro _))
    exact JS_ret Tryz.func53 rfl rfl fun w hw => hno (by unfold sh0; omega) w hw.drop
  by_cases h4 : hi < 2 * lo
  · repeat (first | (apply gJO; refine JO_v (V_quo rfl rfl (by omega) k1 rfl) ?_) | first | (refine sx ?_; try intro _))
    exact JS_ret Tryz.func53 rfl rfl fun w hw => hno (by unfold sh0; omega) w hw.drop
  have hs0 : sh0 lo hi dg := by unfold sh0; omega
  have hg := gOf_bd (dg := dg) (by omega)
  repeat (first | (apply gJO; refine JO_v (V_quo rfl rfl (by omega) k1 rfl) ?_) | first | (refine sx ?_; try intro _))
  refine JO_call Tryz.call88 rfl rfl fun w hw => (Power_c dg (by omega) w hw).mono ?_
  rintro e w' ⟨v, r, rfl, hw', hp⟩
  rcases hp with ⟨h, _⟩ | ⟨_, _, rfl, rfl⟩
  · omega
  refine ⟨_, rfl, _, hw', ?_⟩
  clear hw' hw w w'
  obtain ⟨t, ht⟩ : ∃ t, 10 ^ dg.toNat = t := ⟨_, rfl⟩
  have hti : (10 : Int) ^ dg.toNat = (t : Int) := by rw [← ht]; simp
  have hgd : gOf dg = bitLen (2 * t - 1) := by unfold gOf; rw [ht]
  have htp : 0 < t := by rw [← ht]; exact Nat.pow_pos (by decide)
  rw [ht] at hg
  rw [hti]
  obtain ⟨l, rfl⟩ := Int.eq_ofNat_of_zero_le (show 0 ≤ lo by omega)
  have hul : bitLen l ≤ 63 := bl_le.2 (show l < 2 ^ 63 by omega)
  have hul0 : 0 < bitLen l := bl_gt.2 (by omega)
  have hud : uOf ((l : Nat) : Int) = bitLen l - 1 := by unfold uOf; rw [Int.toNat_natCast]
  have k2 : IntKind.u64.wrap (2 * (t : Int)) = ((2 * t : Nat) : Int) := (wu64 (by omega)).trans (by omega)
  have k3 : IntKind.u64.wrap (((2 * t : Nat) : Int) - 1) = ((2 * t - 1 : Nat) : Int) := (wu64 (by omega)).trans (by omega)
  have k4 : IntKind.i64.wrap (((bitLen l : Nat) : Int) - 1) = ((uOf ((l : Nat) : Int) : Nat) : Int) := by
    rw [hud]
    exact (wi64 (by omega)).trans (by omega)
  have k5 : IntKind.i64.wrap (((uOf ((l : Nat) : Int) : Nat) : Int) + ((gOf dg : Nat) : Int)) = ((uOf ((l : Nat) : Int) + gOf dg : Nat) : Int) := (wi64 (by omega)).trans (by omega)
  repeat (first | apply hIx 4 | first | (refine sx ?_; try intro _))
  refine Hold.go ?_
  refine JS_seq ?_
  refine JS_order [0, 1, 2, 3, 6, 7, 8, 4, 5, 9, 10, 11, 12] [] (Picks.cons rfl (Picks.cons rfl (Picks.cons rfl (Picks.cons rfl (Picks.cons rfl (Picks.cons rfl (Picks.cons rfl (Picks.cons rfl (Picks.cons rfl (Picks.cons rfl (Picks.cons rfl (Picks.cons rfl (Picks.cons rfl (Picks.nil)))))))))))))) (by kernel_rfl) (by kernel_rfl) rfl (by decide +kernel) ?_
  repeat (first | (apply gQO; first | refine QO_v rfl (V_mul rfl rfl k2 rfl) ?_ | refine QO_v rfl (V_sub rfl rfl k3 rfl) ?_) | first | (refine sx ?_; try intro _))
  refine QO_call Tryz.call76 rfl rfl fun w hw => (Len_c l (by omega) w hw).mono ?_
  rintro e w' ⟨rfl, hw'⟩
  refine ⟨_, rfl, _, hw', .inl fun w hw => hw, ?_⟩
  clear hw' hw w w'
  repeat (first | (apply gQO; first | refine QO_v rfl (V_sub rfl rfl k4 rfl) ?_) | first | (refine sx ?_; try intro _))
  refine QO_call Tryz.call76 rfl rfl fun w hw => (Len_c (2 * t - 1) (by omega) w hw).mono ?_
  rw [← hgd]
  rintro e w' ⟨rfl, hw'⟩
  refine ⟨_, rfl, _, hw', .inl fun w hw => hw, ?_⟩
  clear hw' hw w w'
  repeat (first | (refine sx ?_; try intro _))
  refine QO_e (E_box rfl rfl rfl) rfl (.inr fun b w hw => hw.drop) ?_
  intro b
  by_cases hbig : 62 < uOf ((l : Nat) : Int) + gOf dg
  · repeat (first | (apply gQO; first | refine QO_v rfl (V_add rfl rfl k5 rfl) ?_) | first | (refine sx ?_; try intro _))
    exact JS_ret Tryz.func53 rfl rfl fun w hw => .inl ⟨fun h => by have := h.2; omega, rfl, hw.drop.drop⟩
  · repeat (first | (apply gQO; first | refine QO_v rfl (V_add rfl rfl k5 rfl) ?_) | first | (refine sx ?_; try intro _))
    exact JS_ret Tryz.func53 rfl rfl fun w hw => .inr ⟨⟨hs0, by omega⟩, b, rfl, St.sub (by repeat (first | exact List.Sublist.refl _ | apply List.Sublist.cons_cons | apply List.Sublist.cons)) hw⟩
end
end Go.Proofs.YtmnilpjgkjkecaaGreat

namespace Go.Proofs.YtmnilpjgkjkecaaGreat
open Sx Go Hd
set_option linter.unusedVariables false
set_option linter.unusedSimpArgs false
section
variable {w0 : World} {H : List Asn}
theorem half_step (l j : Nat) : l / 2 ^ j / 2 = l / 2 ^ (j + 1) := by rw [Nat.div_div_eq_div_mul, ← Nat.pow_succ]
theorem half_more {l j : Nat} (hl : 1 ≤ l) : 1 < l / 2 ^ j ↔ j < bitLen l - 1 := by
  have h1 := bl_gt (n := l) (k := j + 1)
  have h2 : 2 ≤ l / 2 ^ j ↔ 2 * 2 ^ j ≤ l := Nat.le_div_iff_mul_le (p2pos j)
  rw [show 2 * 2 ^ j = 2 ^ (j + 1) by rw [Nat.pow_succ, Nat.mul_comm]] at h2
  omega
set_option maxRecDepth 10000 in
set_option maxHeartbeats 4000000 in
/-- the document's shape -/
theorem RShape_c (lo hi dg : Int) (hlo : -9223372036854775808 ≤ lo ∧ lo < 9223372036854775808) (hhi : -9223372036854775808 ≤ hi ∧ hi < 9223372036854775808) (hdg : -9223372036854775808 ≤ dg ∧ dg < 9223372036854775808) (w : World) (hw : St w0 H w) :
    Calls Tryz.prog 93 #[hagg lo hi dg] w fun e w' => ((¬ sh0 lo hi dg ∧ e = .returned (.tuple #[.int .i64 0, .int .i64 0, .bool false])) ∨ (sh0 lo hi dg ∧ e = .returned (.tuple #[.int .i64 (uOf lo : Nat), .int .i64 (gOf dg : Nat), .bool (decide (uOf lo + gOf dg ≤ 62))]))) ∧ St w0 H w' := by
  refine enter (vs := [hagg lo hi dg]) Tryz.func93 rfl rfl rfl hw ?_
  clear hw w
  by_cases h1 : dg < 1
  · repeat (first | (refine sx ?_; try intro _))
    exact JS_ret Tryz.func93 rfl rfl fun w hw => ⟨.inl ⟨by unfold sh0; omega, rfl⟩, hw.drop⟩
  by_cases h2 : 5 < dg
  · repeat (first | (refine sx ?_; try intro _))
    exact JS_ret Tryz.func93 rfl rfl fun w hw => ⟨.inl ⟨by unfold sh0; omega, rfl⟩, hw.drop⟩
  by_cases h3 : lo < 1
  · repeat (first | (refine sx ?_; try intro _))
    exact JS_ret Tryz.func93 rfl rfl fun w hw => ⟨.inl ⟨by unfold sh0; omega, rfl⟩, hw.drop⟩
  by_cases h4 : hi < lo
  · repeat (first | (refine sx ?_; try intro _))
    exact JS_ret Tryz.func93 rfl rfl fun w hw => ⟨.inl ⟨by unfold sh0; omega, rfl⟩, hw.drop⟩
  by_cases h5 : hi - lo < lo
  · repeat (first | (refine sx ?_; try intro _))
    exact JS_ret Tryz.func93 rfl rfl fun w hw => ⟨.inl ⟨by unfold sh0; omega, rfl⟩, hw.drop⟩
  have hs0 : sh0 lo hi dg := by unfold sh0; omega
  have hg := gOf_bd (dg := dg) (by omega)
  obtain ⟨l, rfl⟩ := Int.eq_ofNat_of_zero_le (show 0 ≤ lo by omega)
  obtain ⟨k, rfl⟩ := Int.eq_ofNat_of_zero_le (show 0 ≤ dg by omega)
  have hud : uOf ((l : Nat) : Int) = bitLen l - 1 := by unfold uOf; rw [Int.toNat_natCast]
  have hgd : gOf ((k : Nat) : Int) = bitLen (2 * 10 ^ k - 1) := by unfold gOf; rw [Int.toNat_natCast]
  rw [Int.toNat_natCast] at hg
  have hul : bitLen l ≤ 63 := bl_le.2 (show l < 2 ^ 63 by omega)
  repeat (first | (apply gJR; first | (refine sx ?_; try intro _)) | (apply gJO; first | (refine sx ?_; try intro _)) | apply JS_seq | apply JS_region | apply JS_skip | (apply gJS; refine JS_condF rfl ?_) | (apply gJS; refine JS_cond_F rfl (by omega) ?_))
  rename_i b
  refine JS_block ?_
  refine JS_loop1 (fun (j : Nat) => [(1, .pointer (some ⟨b, 0, none⟩)), (5, .int .i64 j), (6, .int .i64 (l / 2 ^ j : Nat))]) (fun _ => blk b [.int .i64 l, .int .i64 hi, .int .i64 k] :: H) (fun j => j ≤ uOf (l : Int)) (fun j => uOf (l : Int) - j) 0 (Nat.zero_le _) (by rw [Nat.pow_zero, Nat.div_one]; exact (by repeat (first | exact trivial | refine ⟨rfl, ?_⟩ | refine ⟨lookI rfl (by omega), ?_⟩))) (fun w hw => hw) ?_
  intro j hj again
  have hmore := half_more (l := l) (j := j) (by omega)
  have hdl := Nat.div_le_self l (2 ^ j)
  have hstep := half_step l j
  by_cases hlt : j < uOf (l : Int)
  · have hgt := hmore.2 (by omega)
    have c1 : IntKind.i64.wrap (Int.tdiv ((l / 2 ^ j : Nat) : Int) 2) = ((l / 2 ^ (j + 1) : Nat) : Int) := by
      rw [← hstep]
      generalize l / 2 ^ j = z at *
      rw [show Int.tdiv (z : Int) 2 = ((z / 2 : Nat) : Int) from (Int.ofNat_tdiv z 2).symm]
      exact wi64 (by omega)
    generalize l / 2 ^ j = z at *
    repeat (first | (apply gJO; refine JO_v (V_quo rfl rfl (by omega) c1 rfl) ?_) | first | (refine sx ?_; try intro _))
    exact JS_again1 again (j + 1) (by omega) (by omega) (by repeat (first | exact trivial | refine ⟨rfl, ?_⟩ | refine ⟨lookI rfl (by omega), ?_⟩)) (fun w hw => hw)
  obtain rfl : j = uOf (l : Int) := by omega
  clear again
  have hle1 : ¬ 1 < l / 2 ^ (uOf (l : Int)) := fun h => by have := hmore.1 h; omega
  generalize l / 2 ^ (uOf (l : Int)) = z at *
  repeat (first | (apply gJR; first | (refine sx ?_; try intro _)) | (apply gJO; first | (refine sx ?_; try intro _)) | apply JS_seq | apply JS_region | apply JS_skip | (apply gJS; first | refine JS_condF rfl ?_ | refine JS_cond_F rfl (by omega) ?_ | refine JS_exit rfl ?_))
  refine JS_block ?_
  generalize huu : uOf (l : Int) = u at *
  refine JS_loop1 (fun (j : Nat) => [(1, .pointer (some ⟨b, 0, none⟩)), (5, .int .i64 u), (7, .int .u64 (2 * 10 ^ j : Nat)), (8, .int .i64 j)]) (fun _ => blk b [.int .i64 l, .int .i64 hi, .int .i64 k] :: H) (fun j => j ≤ k) (fun j => k - j) 0 (Nat.zero_le _) (by repeat (first | exact trivial | refine ⟨rfl, ?_⟩ | refine ⟨lookI rfl (by omega), ?_⟩)) (fun w hw => hw) ?_
  intro j hj again
  have hpj : 10 ^ j ≤ 10 ^ k := Nat.pow_le_pow_right (by decide) hj
  by_cases hlt : j < k
  · have c1 : IntKind.u64.wrap (10 * ((2 * 10 ^ j : Nat) : Int)) = ((2 * 10 ^ (j + 1) : Nat) : Int) := by
      rw [Nat.pow_succ]
      generalize 10 ^ j = y at *
      exact (wu64 (by omega)).trans (by omega)
    generalize h10 : 2 * 10 ^ j = y at *
    repeat (first | (apply gJO; refine JO_v (V_mul rfl rfl c1 rfl) ?_) | first | (refine sx ?_; try intro _))
    exact JS_again1 again (j + 1) (by omega) (by omega) (by repeat (first | exact trivial | refine ⟨rfl, ?_⟩ | refine ⟨lookI rfl (by omega), ?_⟩)) (fun w hw => hw)
  obtain rfl : j = k := by omega
  clear again
  repeat (first | (apply gJR; first | (refine sx ?_; try intro _)) | (apply gJO; first | (refine sx ?_; try intro _)) | apply JS_seq | apply JS_region | apply JS_skip | (apply gJS; first | refine JS_condF rfl ?_ | refine JS_cond_F rfl (by omega) ?_ | refine JS_exit rfl ?_))
  refine JS_block ?_
  have hp10 : 0 < 10 ^ j := Nat.pow_pos (by decide)
  generalize h10 : 10 ^ j = y at *
  refine JS_loop1 (fun (m : Nat) => [(5, .int .i64 u), (7, .int .u64 (2 * y : Nat)), (9, .int .i64 m), (10, .int .u64 (2 ^ m : Nat))]) (fun _ => blk b [.int .i64 l, .int .i64 hi, .int .i64 j] :: H) (fun m => m ≤ gOf (j : Int)) (fun m => gOf (j : Int) - m) 0 (Nat.zero_le _) (by repeat (first | exact trivial | refine ⟨rfl, ?_⟩ | refine ⟨lookI rfl (by omega), ?_⟩)) (fun w hw => hw) ?_
  intro m hm again
  have hbm := bl_gt (n := 2 * y - 1) (k := m)
  rw [← hgd] at hbm
  have hpm : 2 ^ m ≤ 2 ^ 18 := Nat.pow_le_pow_right (by decide) (by omega)
  by_cases hlt : m < gOf (j : Int)
  · have c1 : IntKind.u64.wrap (2 * ((2 ^ m : Nat) : Int)) = ((2 ^ (m + 1) : Nat) : Int) := by
      rw [Nat.pow_succ]
      generalize 2 ^ m = x at *
      exact (wu64 (by omega)).trans (by omega)
    have hle := hbm.1 hlt
    generalize 2 ^ m = x at *
    repeat (first | (apply gJO; refine JO_v (V_mul rfl rfl c1 rfl) ?_) | first | (refine sx ?_; try intro _))
    exact JS_again1 again (m + 1) (by omega) (by omega) (by repeat (first | exact trivial | refine ⟨rfl, ?_⟩ | refine ⟨lookI rfl (by omega), ?_⟩)) (fun w hw => hw)
  obtain rfl : m = gOf (j : Int) := by omega
  clear again
  have hge : ¬ 2 ^ gOf (j : Int) ≤ 2 * y - 1 := fun h => by have := hbm.2 h; omega
  generalize hx : 2 ^ gOf (j : Int) = x at *
  generalize hgg : gOf (j : Int) = g at *
  have c2 : IntKind.i64.wrap ((u : Int) + (g : Int)) = ((u + g : Nat) : Int) := (wi64 (by omega)).trans (by omega)
  by_cases h62 : u + g ≤ 62
  · repeat (first | (apply gJO; refine JO_v (V_add rfl rfl c2 rfl) ?_) | first | (refine sx ?_; try intro _))
    exact JS_ret Tryz.func93 rfl rfl fun w hw => ⟨.inr ⟨hs0, by rw [decide_eq_true h62]; rfl⟩, hw.drop⟩
  · repeat (first | (apply gJO; refine JO_v (V_add rfl rfl c2 rfl) ?_) | first | (refine sx ?_; try intro _))
    exact JS_ret Tryz.func93 rfl rfl fun w hw => ⟨.inr ⟨hs0, by rw [decide_eq_false h62]; rfl⟩, hw.drop⟩
end
end Go.Proofs.YtmnilpjgkjkecaaGreat

namespace Go.Proofs.YtmnilpjgkjkecaaGreat
open Sx Go Hd
set_option linter.unusedVariables false
set_option linter.unusedSimpArgs false
section
variable {w0 : World} {H : List Asn}
/-- the law's shapes -/
def lawLo (lo : Int) : Int := 1 + lo % 100000
def lawHi (lo wide : Int) : Int := 2 * lawLo lo + wide % 4611686018427387904
def lawDg (dg : Int) : Int := 1 + dg % 5
theorem Shape17_c (lo dg wide : Int) (hlo : 0 ≤ lo ∧ lo < 18446744073709551616) (hdg : 0 ≤ dg ∧ dg < 256) (hwd : 0 ≤ wide ∧ wide < 18446744073709551616) (w : World) (hw : St w0 H w) :
    Calls Tryz.prog 7 #[.int .u64 lo, .int .u8 dg, .int .u64 wide] w fun e w' => e = .returned (hagg (lawLo lo) (lawHi lo wide) (lawDg dg)) ∧ St w0 H w' := by
  have c1 : IntKind.i64.wrap (1 + lo % 100000) = lawLo lo := wi64 (by omega)
  have c2 : IntKind.i64.wrap (1 + dg % 5) = lawDg dg := wi64 (by omega)
  have hl : 1 ≤ lawLo lo ∧ lawLo lo ≤ 100000 := by unfold lawLo; omega
  have c3 : IntKind.i64.wrap (2 * lawLo lo + wide % 4611686018427387904) = lawHi lo wide := wi64 (by omega)
  refine enter (vs := [.int .u64 lo, .int .u8 dg, .int .u64 wide]) Tryz.func7 rfl rfl rfl hw ?_
  clear hw w
  repeat (first | (apply gJO; first | refine JO_v (V_add rfl rfl c1 rfl) ?_ | refine JO_v (V_add rfl rfl c2 rfl) ?_ | refine JO_v (V_add rfl rfl c3 rfl) ?_) | first | (refine sx ?_; try intro _))
  refine JS_retC Tryz.func7 rfl (by first | exact ResV.agg (tb := tb) rfl (by repeat (first | apply List.Mem.head | apply List.Mem.tail)) rfl rfl rfl ResV.nil | exact ResV.agg (tb := tb) rfl (by repeat (first | apply List.Mem.head | apply List.Mem.tail)) rfl rfl rfl (ResV.tmp rfl ResV.nil) | exact ResV.agg (tb := tb) rfl (by repeat (first | apply List.Mem.head | apply List.Mem.tail)) rfl rfl rfl (ResV.tmp rfl (ResV.tmp rfl ResV.nil)) | exact ResV.one (tb := tb) rfl (by repeat (first | apply List.Mem.head | apply List.Mem.tail)) rfl rfl rfl ResV.nil | exact ResV.one (tb := tb) rfl (by repeat (first | apply List.Mem.head | apply List.Mem.tail)) rfl rfl rfl (ResV.tmp rfl ResV.nil) | exact ResV.one (tb := tb) rfl (by repeat (first | apply List.Mem.head | apply List.Mem.tail)) rfl rfl rfl (ResV.one (tb := tb) rfl (by repeat (first | apply List.Mem.head | apply List.Mem.tail)) rfl rfl rfl ResV.nil) | exact ResV.tmp rfl (ResV.agg (tb := tb) rfl (by repeat (first | apply List.Mem.head | apply List.Mem.tail)) rfl rfl rfl ResV.nil) | exact ResV.tmp rfl (ResV.one (tb := tb) rfl (by repeat (first | apply List.Mem.head | apply List.Mem.tail)) rfl rfl rfl ResV.nil)) ?_
  intro w hw
  exact ⟨rfl, St.sub (by repeat (first | exact List.Sublist.refl _ | apply List.Sublist.cons_cons | apply List.Sublist.cons)) hw⟩
theorem law_sh (lo dg wide : Int) (hlo : 0 ≤ lo ∧ lo < 18446744073709551616) (hdg : 0 ≤ dg ∧ dg < 256) (hwd : 0 ≤ wide) : shOK (lawLo lo) (lawHi lo wide) (lawDg dg) := by
  have hl : 1 ≤ lawLo lo ∧ lawLo lo ≤ 100000 := by unfold lawLo; omega
  have hd : 1 ≤ lawDg dg ∧ lawDg dg ≤ 5 := by unfold lawDg; omega
  refine ⟨⟨hd.1, hd.2, hl.1, by unfold lawHi; omega⟩, ?_⟩
  have h1 : bitLen (lawLo lo).toNat ≤ 17 := bl_le.2 (show (lawLo lo).toNat < 2 ^ 17 by omega)
  have h2 := gOf_bd hd
  unfold uOf
  omega
/-- the shape of a map -/
theorem MShape_c {lo hi dg : Int} {u g : Nat} (b : Nat) (hM : blk b (mc lo hi dg u g) ∈ H) (w : World) (hw : St w0 H w) :
    Calls Tryz.prog 65 #[.pointer (some ⟨b, 0, none⟩)] w fun e w' => e = .returned (hagg lo hi dg) ∧ St w0 H w' := by
  refine enter (vs := [.pointer (some ⟨b, 0, none⟩)]) Tryz.func65 rfl rfl rfl hw ?_
  clear hw w
  repeat (first | (apply gJO; refine JO_v (oL (V_loadA (tb := tb) rfl (List.Mem.tail _ hM) rfl rfl rfl rfl)) ?_) | first | (refine sx ?_; try intro _))
  refine JS_retC Tryz.func65 rfl (by first | exact ResV.agg (tb := tb) rfl (by repeat (first | apply List.Mem.head | apply List.Mem.tail)) rfl rfl rfl ResV.nil | exact ResV.agg (tb := tb) rfl (by repeat (first | apply List.Mem.head | apply List.Mem.tail)) rfl rfl rfl (ResV.tmp rfl ResV.nil) | exact ResV.agg (tb := tb) rfl (by repeat (first | apply List.Mem.head | apply List.Mem.tail)) rfl rfl rfl (ResV.tmp rfl (ResV.tmp rfl ResV.nil)) | exact ResV.one (tb := tb) rfl (by repeat (first | apply List.Mem.head | apply List.Mem.tail)) rfl rfl rfl ResV.nil | exact ResV.one (tb := tb) rfl (by repeat (first | apply List.Mem.head | apply List.Mem.tail)) rfl rfl rfl (ResV.tmp rfl ResV.nil) | exact ResV.one (tb := tb) rfl (by repeat (first | apply List.Mem.head | apply List.Mem.tail)) rfl rfl rfl (ResV.one (tb := tb) rfl (by repeat (first | apply List.Mem.head | apply List.Mem.tail)) rfl rfl rfl ResV.nil) | exact ResV.tmp rfl (ResV.agg (tb := tb) rfl (by repeat (first | apply List.Mem.head | apply List.Mem.tail)) rfl rfl rfl ResV.nil) | exact ResV.tmp rfl (ResV.one (tb := tb) rfl (by repeat (first | apply List.Mem.head | apply List.Mem.tail)) rfl rfl rfl ResV.nil)) ?_
  intro w hw
  exact ⟨rfl, St.sub (by repeat (first | exact List.Sublist.refl _ | apply List.Sublist.cons_cons | apply List.Sublist.cons)) hw⟩
end
end Go.Proofs.YtmnilpjgkjkecaaGreat

namespace Go.Proofs.YtmnilpjgkjkecaaGreat
open Sx Go Hd
set_option linter.unusedVariables false
set_option linter.unusedSimpArgs false
section
variable {w0 : World} {H : List Asn}
/-- the cells of a histogram, of the document's -/
abbrev hc (mb bm : Nat) (gr : Bool) (bu : Nat) (tot : Int) : List Value := [.pointer (some ⟨mb, 0, none⟩), .bool gr, .int .i64 bu, .map (some bm), .int .u64 tot]
abbrev rc (lo hi dg : Int) (u g : Nat) (gr : Bool) (bu : Nat) (v : Value) : List Value := [.int .i64 lo, .int .i64 hi, .int .i64 dg, .int .i64 u, .int .i64 g, .bool gr, .int .i64 bu, v]
set_option maxRecDepth 10000 in
set_option maxHeartbeats 2000000 in
theorem HNew_c (lo hi dg : Int) (gr : Bool) (hlo : -9223372036854775808 ≤ lo ∧ lo < 9223372036854775808) (hhi : -9223372036854775808 ≤ hi ∧ hi < 9223372036854775808) (hdg : -9223372036854775808 ≤ dg ∧ dg < 9223372036854775808) (w : World) (hw : St w0 H w) :
    Calls Tryz.prog 24 #[hagg lo hi dg, .bool gr] w fun e w' => (¬ shOK lo hi dg ∧ e = .returned (.tuple #[.pointer none, .int .i64 1]) ∧ St w0 H w') ∨
      (shOK lo hi dg ∧ ∃ bh mb bm, e = .returned (.tuple #[.pointer (some ⟨bh, 0, none⟩), .int .i64 0]) ∧ St w0 (blk bh (hc mb bm gr (1 + bkt (uOf lo) (gOf dg) hi.toNat) 0) :: mapL bm [] 0 :: blk mb (mc lo hi dg (uOf lo) (gOf dg)) :: H) w') := by
  refine enter (vs := [hagg lo hi dg, .bool gr]) Tryz.func24 rfl rfl rfl hw ?_
  clear hw w
  repeat (first | (refine sx ?_; try intro _))
  refine JO_call Tryz.call53 rfl rfl fun w hw => (MNew_c lo hi dg hlo hhi hdg w hw).mono ?_
  rintro e w' (⟨hno, rfl, hw'⟩ | ⟨hs, b, rfl, hw'⟩)
  · refine ⟨_, rfl, _, hw', ?_⟩
    clear hw' hw w w'
    repeat (first | (refine sx ?_; try intro _))
    exact JS_ret Tryz.func24 rfl rfl fun w hw => .inl ⟨hno, rfl, hw.drop⟩
  · refine ⟨_, rfl, _, hw', ?_⟩
    clear hw' hw w w'
    repeat (first | (refine sx ?_; try intro _))
    refine JO_call Tryz.call54 rfl rfl fun w hw => (MBuckets_c b (List.Mem.head _) hs.2 hi hhi w hw).mono ?_
    rintro e w' ⟨rfl, hw'⟩
    refine ⟨_, rfl, _, hw', ?_⟩
    clear hw' hw w w'
    repeat (first | (apply kMm; refine JO_makeMap rfl ?_; intro _) | first | (refine sx ?_; try intro _))
    rename_i bm bh
    exact JS_ret Tryz.func24 rfl rfl fun w hw => .inr ⟨hs, bh, b, bm, rfl, St.sub (by repeat (first | exact List.Sublist.refl _ | apply List.Sublist.cons_cons | apply List.Sublist.cons)) hw⟩
set_option maxRecDepth 10000 in
set_option maxHeartbeats 2000000 in
theorem RNew_c (lo hi dg : Int) (gr : Bool) (hlo : -9223372036854775808 ≤ lo ∧ lo < 9223372036854775808) (hhi : -9223372036854775808 ≤ hi ∧ hi < 9223372036854775808) (hdg : -9223372036854775808 ≤ dg ∧ dg < 9223372036854775808) (w : World) (hw : St w0 H w) :
    Calls Tryz.prog 67 #[hagg lo hi dg, .bool gr] w fun e w' => (¬ shOK lo hi dg ∧ e = .returned (.pointer none) ∧ St w0 H w') ∨
      (shOK lo hi dg ∧ ∃ b, e = .returned (.pointer (some ⟨b, 0, none⟩)) ∧ St w0 (blk b (rc lo hi dg (uOf lo) (gOf dg) gr (1 + bkt (uOf lo) (gOf dg) hi.toNat) (.slice none 0 0)) :: H) w') := by
  refine enter (vs := [hagg lo hi dg, .bool gr]) Tryz.func67 rfl rfl rfl hw ?_
  clear hw w
  repeat (first | (refine sx ?_; try intro _))
  refine JO_call Tryz.call93 rfl rfl fun w hw => (RShape_c lo hi dg hlo hhi hdg w hw).mono ?_
  rintro e w' ⟨⟨hno, rfl⟩ | ⟨hs, rfl⟩, hw'⟩
  · refine ⟨_, rfl, _, hw', ?_⟩
    clear hw' hw w w'
    repeat (first | (refine sx ?_; try intro _))
    exact JS_ret Tryz.func67 rfl rfl fun w hw => .inl ⟨fun h => hno h.1, rfl, hw.drop⟩
  · by_cases h62 : uOf lo + gOf dg ≤ 62
    · rw [decide_eq_true h62]
      refine ⟨_, rfl, _, hw', ?_⟩
      clear hw' hw w w'
      obtain ⟨v, hv⟩ : ∃ v : Nat, hi = v := ⟨hi.toNat, by have := hs.2.2.2; have := hs.2.2.1; omega⟩
      have hv2 : hi.toNat = v := by omega
      have hbb : bkt (uOf lo) (gOf dg) v ≤ 63 := by
        have := bl_v (v := v) (by omega)
        unfold bkt; omega
      rw [hv2]
      have k1 : IntKind.i64.wrap (1 + ((bkt (uOf lo) (gOf dg) v : Nat) : Int)) = ((1 + bkt (uOf lo) (gOf dg) v : Nat) : Int) := (wi64 (by omega)).trans (by omega)
      repeat (first | apply hIx 4 | first | (refine sx ?_; try intro _))
      refine Hold.go ?_
      refine JS_seq ?_
      refine JS_order [0, 1, 2, 3, 4, 5, 6, 7, 8, 9, 10, 11, 12] [] (Picks.cons rfl (Picks.cons rfl (Picks.cons rfl (Picks.cons rfl (Picks.cons rfl (Picks.cons rfl (Picks.cons rfl (Picks.cons rfl (Picks.cons rfl (Picks.cons rfl (Picks.cons rfl (Picks.cons rfl (Picks.cons rfl (Picks.nil)))))))))))))) (by kernel_rfl) (by kernel_rfl) rfl (by decide +kernel) ?_
      repeat (first | (refine sx ?_; try intro _))
      rw [hv]
      refine QO_call Tryz.call45 rfl rfl fun w hw => (RBucket_c h62 v (by omega) w hw).mono ?_
      rintro e w' ⟨rfl, hw'⟩
      refine ⟨_, rfl, _, hw', .inl fun w hw => hw, ?_⟩
      clear hw' hw w w'
      repeat (first | (apply gQO; refine QO_v rfl (V_add rfl rfl k1 rfl) ?_) | first | (refine sx ?_; try intro _))
      refine QO_e (E_box rfl rfl rfl) rfl (.inr fun b w hw => hw.drop) ?_
      intro b
      repeat (first | (refine sx ?_; try intro _))
      exact JS_ret Tryz.func67 rfl rfl fun w hw => .inr ⟨⟨hv ▸ hs, h62⟩, b, rfl, St.sub (by repeat (first | exact List.Sublist.refl _ | apply List.Sublist.cons_cons | apply List.Sublist.cons)) hw⟩
    · rw [decide_eq_false h62]
      refine ⟨_, rfl, _, hw', ?_⟩
      clear hw' hw w w'
      repeat (first | (refine sx ?_; try intro _))
      exact JS_ret Tryz.func67 rfl rfl fun w hw => .inl ⟨fun h => h62 h.2, rfl, hw.drop⟩
end
end Go.Proofs.YtmnilpjgkjkecaaGreat

namespace Go.Proofs.YtmnilpjgkjkecaaGreat
open Sx Go Hd
set_option linter.unusedVariables false
set_option linter.unusedSimpArgs false
/-- may a value be recorded? an error's number -/
def chk (u g : Nat) (gr : Bool) (bu : Nat) (tot v n : Int) : Int := if n = 0 then 4 else if v < 0 ∨ ((topv u g bu : Nat) : Int) < v ∧ gr = false then 5 else if 4611686018427387904 - tot < n then 6 else 0
section
variable {w0 : World} {H : List Asn} {lo hi dg : Int} {u g : Nat}
set_option maxRecDepth 10000 in
set_option maxHeartbeats 2000000 in
theorem HCheck_c (bh mb bm : Nat) (gr : Bool) (bu : Nat) (tot : Int) (hh : blk bh (hc mb bm gr bu tot) ∈ H) (hM : blk mb (mc lo hi dg u g) ∈ H) (hug : u + g ≤ 62) (hg : 1 ≤ g) (hbu : bu ≤ 64) (htot : 0 ≤ tot ∧ tot ≤ 4611686018427387904) (v n : Int) (hv : -9223372036854775808 ≤ v ∧ v < 9223372036854775808) (hn : 0 ≤ n ∧ n < 18446744073709551616) (w : World) (hw : St w0 H w) :
    Calls Tryz.prog 55 #[.pointer (some ⟨bh, 0, none⟩), .int .i64 v, .int .u64 n] w fun e w' => e = .returned (.int .i64 (chk u g gr bu tot v n)) ∧ St w0 H w' := by
  have hck : chk u g gr bu tot v n = if n = 0 then 4 else if v < 0 ∨ ((topv u g bu : Nat) : Int) < v ∧ gr = false then 5 else if 4611686018427387904 - tot < n then 6 else 0 := rfl
  have k1 : IntKind.u64.wrap (4611686018427387904 - tot) = 4611686018427387904 - tot := wu64 (by omega)
  refine enter (vs := [.pointer (some ⟨bh, 0, none⟩), .int .i64 v, .int .u64 n]) Tryz.func55 rfl rfl rfl hw ?_
  clear hw w
  by_cases h0 : n = 0
  · rw [if_pos h0] at hck
    repeat (first | (refine sx ?_; try intro _))
    exact JS_ret Tryz.func55 rfl rfl fun w hw => ⟨by rw [hck]; rfl, hw⟩
  rw [if_neg h0] at hck
  by_cases hv0 : v < 0
  · rw [if_pos (.inl hv0)] at hck
    repeat (first | (apply gJO; first | refine JO_v (oL (V_load (tb := tb) rfl hh rfl rfl rfl rfl)) ?_ | refine JO_v (oL (V_load (tb := tb) rfl hM rfl rfl rfl rfl)) ?_) | (apply gQO; first | refine QO_v rfl (oL (V_load (tb := tb) rfl hh rfl rfl rfl rfl)) ?_ | refine QO_v rfl (oL (V_load (tb := tb) rfl hM rfl rfl rfl rfl)) ?_) | first | (refine sx ?_; try intro _))
    exact JS_ret Tryz.func55 rfl rfl fun w hw => ⟨by rw [hck]; rfl, hw⟩
  repeat (first | (apply gJO; first | refine JO_v (oL (V_load (tb := tb) rfl hh rfl rfl rfl rfl)) ?_ | refine JO_v (oL (V_load (tb := tb) rfl hM rfl rfl rfl rfl)) ?_) | (apply gQO; first | refine QO_v rfl (oL (V_load (tb := tb) rfl hh rfl rfl rfl rfl)) ?_ | refine QO_v rfl (oL (V_load (tb := tb) rfl hM rfl rfl rfl rfl)) ?_) | first | (refine sx ?_; try intro _))
  refine QO_call Tryz.call66 rfl rfl fun w hw => (MTop_c mb hM hug hg bu (by omega) w hw).mono ?_
  rintro e w' ⟨rfl, hw'⟩
  refine ⟨_, rfl, _, hw', .inl fun w hw => hw, ?_⟩
  clear hw' hw w w'
  generalize ((topv u g bu : Nat) : Int) = t at *
  by_cases hc5 : t < v ∧ gr = false
  · rw [if_pos (.inr hc5)] at hck
    obtain ⟨h5, rfl⟩ := hc5
    repeat (first | (apply gJO; first | refine JO_v (oL (V_load (tb := tb) rfl hh rfl rfl rfl rfl)) ?_ | refine JO_v (oL (V_load (tb := tb) rfl hM rfl rfl rfl rfl)) ?_) | (apply gQO; first | refine QO_v rfl (oL (V_load (tb := tb) rfl hh rfl rfl rfl rfl)) ?_ | refine QO_v rfl (oL (V_load (tb := tb) rfl hM rfl rfl rfl rfl)) ?_) | first | (refine sx ?_; try intro _))
    exact JS_ret Tryz.func55 rfl rfl fun w hw => ⟨by rw [hck]; rfl, hw⟩
  rw [if_neg (fun h => h.elim hv0 hc5)] at hck
  by_cases h6 : 4611686018427387904 - tot < n
  · rw [if_pos h6] at hck
    by_cases htv : t < v
    · obtain rfl : gr = true := by
        cases gr
        · exact absurd ⟨htv, rfl⟩ hc5
        · rfl
      repeat (first | (apply gJO; first | refine JO_v (oL (V_load (tb := tb) rfl hh rfl rfl rfl rfl)) ?_ | refine JO_v (oL (V_load (tb := tb) rfl hM rfl rfl rfl rfl)) ?_) | (apply gQO; first | refine QO_v rfl (oL (V_load (tb := tb) rfl hh rfl rfl rfl rfl)) ?_ | refine QO_v rfl (oL (V_load (tb := tb) rfl hM rfl rfl rfl rfl)) ?_) | (apply gJO; refine JO_v (V_sub rfl rfl k1 rfl) ?_) | first | (refine sx ?_; try intro _))
      exact JS_ret Tryz.func55 rfl rfl fun w hw => ⟨by rw [hck]; rfl, hw⟩
    · repeat (first | (apply gJO; first | refine JO_v (oL (V_load (tb := tb) rfl hh rfl rfl rfl rfl)) ?_ | refine JO_v (oL (V_load (tb := tb) rfl hM rfl rfl rfl rfl)) ?_) | (apply gQO; first | refine QO_v rfl (oL (V_load (tb := tb) rfl hh rfl rfl rfl rfl)) ?_ | refine QO_v rfl (oL (V_load (tb := tb) rfl hM rfl rfl rfl rfl)) ?_) | (apply gJO; refine JO_v (V_sub rfl rfl k1 rfl) ?_) | first | (refine sx ?_; try intro _))
      exact JS_ret Tryz.func55 rfl rfl fun w hw => ⟨by rw [hck]; rfl, hw⟩
  · rw [if_neg h6] at hck
    by_cases htv : t < v
    · obtain rfl : gr = true := by
        cases gr
        · exact absurd ⟨htv, rfl⟩ hc5
        · rfl
      repeat (first | (apply gJO; first | refine JO_v (oL (V_load (tb := tb) rfl hh rfl rfl rfl rfl)) ?_ | refine JO_v (oL (V_load (tb := tb) rfl hM rfl rfl rfl rfl)) ?_) | (apply gQO; first | refine QO_v rfl (oL (V_load (tb := tb) rfl hh rfl rfl rfl rfl)) ?_ | refine QO_v rfl (oL (V_load (tb := tb) rfl hM rfl rfl rfl rfl)) ?_) | (apply gJO; refine JO_v (V_sub rfl rfl k1 rfl) ?_) | first | (refine sx ?_; try intro _))
      exact JS_ret Tryz.func55 rfl rfl fun w hw => ⟨by rw [hck]; rfl, hw⟩
    · repeat (first | (apply gJO; first | refine JO_v (oL (V_load (tb := tb) rfl hh rfl rfl rfl rfl)) ?_ | refine JO_v (oL (V_load (tb := tb) rfl hM rfl rfl rfl rfl)) ?_) | (apply gQO; first | refine QO_v rfl (oL (V_load (tb := tb) rfl hh rfl rfl rfl rfl)) ?_ | refine QO_v rfl (oL (V_load (tb := tb) rfl hM rfl rfl rfl rfl)) ?_) | (apply gJO; refine JO_v (V_sub rfl rfl k1 rfl) ?_) | first | (refine sx ?_; try intro _))
      exact JS_ret Tryz.func55 rfl rfl fun w hw => ⟨by rw [hck]; rfl, hw⟩
end
end Go.Proofs.YtmnilpjgkjkecaaGreat

/- Numbers with weights: plain facts. -/
namespace Go.Proofs.YtmnilpjgkjkecaaGreat
open Sx Go
def flat : List (Int × Int) → List Value
  | [] => []
  | t :: r => .int .i64 t.1 :: .int .u64 t.2 :: flat r
theorem flat_len : ∀ T, (flat T).length = T.length * 2
  | [] => rfl
  | t :: r => by simp only [flat, List.length_cons, flat_len r]; omega
theorem flat_app : ∀ A B, flat (A ++ B) = flat A ++ flat B
  | [], B => rfl
  | t :: r, B => by simp only [List.cons_append, flat, flat_app r B]
theorem flat_get0 : ∀ (T : List (Int × Int)) (i : Nat), i < T.length → (flat T)[i * 2]? = some (.int .i64 (T.getD i (0, 0)).1)
  | [], i, h => by simp at h
  | t :: r, 0, h => by simp [flat]
  | t :: r, i + 1, h => by
    rw [show (i + 1) * 2 = i * 2 + 1 + 1 by omega]
    simp only [flat, List.getElem?_cons_succ, List.getD_cons_succ]
    exact flat_get0 r i (by simpa using h)
theorem flat_get1 : ∀ (T : List (Int × Int)) (i : Nat), i < T.length → (flat T)[i * 2 + 1]? = some (.int .u64 (T.getD i (0, 0)).2)
  | [], i, h => by simp at h
  | t :: r, 0, h => by simp [flat]
  | t :: r, i + 1, h => by
    rw [show (i + 1) * 2 + 1 = i * 2 + 1 + 1 + 1 by omega]
    simp only [flat, List.getElem?_cons_succ, List.getD_cons_succ]
    exact flat_get1 r i (by simpa using h)
theorem flat_seg : ∀ (T : List (Int × Int)) (i : Nat), i < T.length → ((flat T).drop (i * 2)).take 2 = [.int .i64 (T.getD i (0, 0)).1, .int .u64 (T.getD i (0, 0)).2]
  | [], i, h => by simp at h
  | t :: r, 0, h => by simp [flat]
  | t :: r, i + 1, h => by
    rw [show (i + 1) * 2 = i * 2 + 1 + 1 by omega]
    simp only [flat, List.drop_succ_cons, List.getD_cons_succ]
    exact flat_seg r i (by simpa using h)
def sw : List (Int × Int) → Int
  | [] => 0
  | t :: r => t.2 + sw r
def sp (low : Int) : List (Int × Int) → Int
  | [] => 0
  | t :: r => (t.1 - low) * t.2 + sp low r
theorem sw_app : ∀ A B, sw (A ++ B) = sw A + sw B
  | [], B => by simp [sw]
  | t :: r, B => by simp only [List.cons_append, sw, sw_app r B]; omega
theorem sp_app (low : Int) : ∀ A B, sp low (A ++ B) = sp low A + sp low B
  | [], B => by simp [sp]
  | t :: r, B => by simp only [List.cons_append, sp, sp_app low r B]; omega
theorem sw_rev : ∀ A, sw A.reverse = sw A
  | [] => rfl
  | t :: r => by rw [List.reverse_cons, sw_app, sw_rev r]; simp only [sw]; omega
theorem sp_rev (low : Int) : ∀ A, sp low A.reverse = sp low A
  | [] => rfl
  | t :: r => by rw [List.reverse_cons, sp_app, sp_rev low r]; simp only [sp]; omega
theorem take_step (T : List (Int × Int)) (i : Nat) (h : i < T.length) : T.take (i + 1) = T.take i ++ [T.getD i (0, 0)] := by
  rw [List.take_succ_eq_append_getElem h]; simp [h]
theorem sw_take (T : List (Int × Int)) (i : Nat) (h : i < T.length) : sw (T.take (i + 1)) = sw (T.take i) + (T.getD i (0, 0)).2 := by
  rw [take_step T i h, sw_app]; simp [sw]
theorem sp_take (low : Int) (T : List (Int × Int)) (i : Nat) (h : i < T.length) : sp low (T.take (i + 1)) = sp low (T.take i) + ((T.getD i (0, 0)).1 - low) * (T.getD i (0, 0)).2 := by
  rw [take_step T i h, sp_app]; simp [sp]
/-- in bounds -/
def OKT (T : List (Int × Int)) : Prop := ∀ t ∈ T, (-9223372036854775808 ≤ t.1 ∧ t.1 < 9223372036854775808) ∧ (0 ≤ t.2 ∧ t.2 < 18446744073709551616)
theorem OKT.get {T : List (Int × Int)} (h : OKT T) (i : Nat) (hi : i < T.length) : (-9223372036854775808 ≤ (T.getD i (0, 0)).1 ∧ (T.getD i (0, 0)).1 < 9223372036854775808) ∧ (0 ≤ (T.getD i (0, 0)).2 ∧ (T.getD i (0, 0)).2 < 18446744073709551616) := by
  have : T.getD i (0, 0) = T[i] := by simp [hi]
  rw [this]; exact h _ (List.getElem_mem hi)
theorem mem_get {T : List (Int × Int)} (i : Nat) (hi : i < T.length) : T.getD i (0, 0) ∈ T := by
  have : T.getD i (0, 0) = T[i] := by simp [hi]
  rw [this]; exact List.getElem_mem hi
theorem sw_nonneg : ∀ {T : List (Int × Int)}, OKT T → 0 ≤ sw T
  | [], _ => Int.le_refl _
  | t :: r, h => by
    have h1 := (h t (List.mem_cons_self ..)).2
    have h2 := sw_nonneg (T := r) fun u hu => h u (List.mem_cons_of_mem _ hu)
    simp only [sw]; omega
theorem OKT.take {T : List (Int × Int)} (h : OKT T) (i : Nat) : OKT (T.take i) := fun t ht => h t (List.mem_of_mem_take ht)
theorem OKT.drop {T : List (Int × Int)} (h : OKT T) (i : Nat) : OKT (T.drop i) := fun t ht => h t (List.mem_of_mem_drop ht)
theorem sw_le {T : List (Int × Int)} (h : OKT T) (i : Nat) : sw (T.take i) ≤ sw T := by
  have := sw_app (T.take i) (T.drop i)
  rw [List.take_append_drop] at this
  have := sw_nonneg (h.drop i)
  omega
/-- what lies between: the sum of products is no more than the greatest distance, times the weights -/
theorem sp_bd {low M : Int} : ∀ {T : List (Int × Int)}, (∀ t ∈ T, low ≤ t.1 ∧ t.1 - low ≤ M ∧ 0 ≤ t.2) → 0 ≤ sp low T ∧ sp low T ≤ M * sw T
  | [], _ => by simp [sp, sw]
  | t :: r, h => by
    obtain ⟨h1, h2, h3⟩ := h t (List.mem_cons_self ..)
    have ih := sp_bd (T := r) fun u hu => h u (List.mem_cons_of_mem _ hu)
    have h4 := Int.mul_nonneg (show 0 ≤ t.1 - low by omega) h3
    have h5 := Int.mul_le_mul_of_nonneg_right h2 h3
    simp only [sp, sw, Int.mul_add]
    omega
end Go.Proofs.YtmnilpjgkjkecaaGreat

namespace Go.Proofs.YtmnilpjgkjkecaaGreat
open Sx Go
set_option linter.unusedVariables false
set_option linter.unusedSimpArgs false
theorem ints_app1 {K : IntKind} {l : List Int} {x : Int} : ints K l ++ [.int K x] = ints K (l ++ [x]) := by simp [ints]
/-- a table by its places -/
def tab (n : Nat) (f : Nat → Int) : List Int := (List.range n).map f
theorem tab_len (n : Nat) (f : Nat → Int) : (tab n f).length = n := by simp [tab]
theorem tab_set (n : Nat) (f : Nat → Int) (i : Nat) (v : Int) : (tab n f).set i v = tab n fun j => if j = i then v else f j := by
  apply List.ext_getElem?
  intro j
  unfold tab
  rw [List.getElem?_set]
  by_cases hj : j < n
  · by_cases hij : i = j
    · subst hij; simp [hj]
    · rw [if_neg hij]; simp [hj, Ne.symm hij, show ¬ j = i from fun h => hij h.symm]
  · rw [List.getElem?_eq_none (l := (List.range n).map _) (by simp; omega)]
    by_cases hij : i = j
    · subst hij; simp [hj]
    · simp [hij, hj]
theorem tab_congr {n : Nat} {f g : Nat → Int} (h : ∀ j, j < n → f j = g j) : tab n f = tab n g := by
  unfold tab
  apply List.map_congr_left
  intro j hj
  exact h j (by simpa using hj)
theorem tab_succ (n : Nat) (f : Nat → Int) : tab (n + 1) f = tab n f ++ [f n] := by simp [tab, List.range_succ]
theorem tab_const (n : Nat) (x : Int) : List.replicate n x = tab n fun _ => x := by
  unfold tab
  rw [show (fun _ : Nat => x) = Function.const _ x from rfl, List.map_const, List.length_range]
theorem tab_get {n : Nat} {f : Nat → Int} {j : Nat} (h : j < n) : (tab n f).getD j 0 = f j := by simp [tab, List.getD_eq_getElem?_getD, h]
theorem tab_out {n : Nat} {f : Nat → Int} {j : Nat} (h : n ≤ j) : (tab n f).getD j 0 = 0 := by
  rw [List.getD_eq_getElem?_getD, List.getElem?_eq_none (by rw [tab_len]; exact h)]; rfl
end Go.Proofs.YtmnilpjgkjkecaaGreat

set_option linter.unusedVariables false
namespace Sx
open Go
/-! a region that draws its order, where two loud operations may come up at once: a tree of orders -/
inductive FT where
  | leaf (st : List Nat)
  | node (st : List Nat) (i : Nat) (t : FT) (j : Nat) (u : FT)
inductive FTL where
  | leaf (l : List Oper)
  | node (l : List Oper) (o : Oper) (t : FTL) (o' : Oper) (u : FTL)
def FT.len : FT → Nat
  | .leaf st => st.length
  | .node st _ t _ _ => st.length + (t.len + 1)
def KN (P : Program) (E : List PanicEntry → List Deferred → World → Prop) (ops : Array Oper) (kt ku : (World → Prop) → Act → Prop) (o o' : Oper) : (World → Prop) → Act → Prop :=
  fun C a => walkN P E ops [] kt [o] C a ∧ walkN P E ops [] ku [o'] C a
def KT (P : Program) (E : List PanicEntry → List Deferred → World → Prop) (ops : Array Oper) (sy : List Nat) (K : (World → Prop) → Act → Prop) : FTL → (World → Prop) → Act → Prop
  | .leaf l => walkN P E ops sy K l
  | .node l o t o' u => walkN P E ops [] (KN P E ops (KT P E ops sy K t) (KT P E ops sy K u) o o') l
def preB (ops : Array Oper) (k : List Nat → Array Bool → Bool) : List Nat → List Nat → Array Bool → Bool
  | [], done, listed => k done listed
  | x :: st, done, listed =>
    match ops[x]? with
    | none => false
    | some o => !loud o.op && (Region.ready .any ops listed).contains x && Region.free .any ops listed x && preB ops k st (x :: done) (listed.setIfInBounds x true)
def isLoud (ops : Array Oper) (i : Nat) : Bool :=
  match ops[i]? with
  | none => false
  | some o => loud o.op
def tillT (ops : Array Oper) (sy : List Nat) : FT → List Nat → List Nat
  | .leaf st, done => till ops sy done st
  | .node st i t _ _, done => tillT ops sy t (i :: List.reverseAux st done)
def ordT (ops : Array Oper) (sy : List Nat) : FT → List Nat → Array Bool → Bool
  | .leaf st, done, listed => ordB ops sy done st listed
  | .node st i t j u, done, listed => preB ops (fun done listed =>
      isLoud ops i && isLoud ops j && Region.ready .any ops listed == [i, j] && t.len == u.len &&
      ordT ops sy t (i :: done) (listed.setIfInBounds i true) && ordT ops sy u (j :: done) (listed.setIfInBounds j true) &&
      (tillT ops sy t (i :: done)).all (tillT ops sy u (j :: done)).contains) st done listed
section
variable {P : Program} {E : List PanicEntry → List Deferred → World → Prop} {ops : Array Oper}
theorem tillT_sub {sy : List Nat} : ∀ (t : FT) (done : List Nat) (k : Nat), k ∈ done → calmAt ops k = false → k ∈ tillT ops sy t done
  | .leaf st, done, k, h, hc => till_sub _ _ _ h hc
  | .node st i t j u, done, k, h, hc => tillT_sub t _ k (List.mem_cons_of_mem _ (by rw [List.reverseAux_eq]; simp [h])) hc
theorem tillT_calm {sy : List Nat} : ∀ (t : FT) (done : List Nat) (k : Nat), k ∈ tillT ops sy t done → calmAt ops k = false
  | .leaf st, done, k, h => till_calm _ _ _ h
  | .node st i t j u, done, k, h => tillT_calm t _ k h
/-- what a step does to the book -/
theorem book {done : List Nat} {listed : Array Bool} {i : Nat} {o : Oper} (ho : ops[i]? = some o) (hrdy : i ∈ Region.ready .any ops listed) (hs : ∀ s ∈ done, s < ops.size) (hd : ∀ j, listed.getD j false = true ↔ j ∈ done) (hG : ∀ S, (∀ s ∈ done, calmAt ops s = false → s ∈ S) → Sofar ops S listed) :
    (∀ s ∈ i :: done, s < ops.size) ∧ (∀ j, (listed.setIfInBounds i true).getD j false = true ↔ j ∈ i :: done) ∧ (∀ S, (∀ s ∈ i :: done, calmAt ops s = false → s ∈ S) → Sofar ops S (listed.setIfInBounds i true)) := by
  have hi : i < ops.size := (Array.getElem?_eq_some_iff.1 ho).1
  have hiun : listed.getD i true = false := (mem_ready.1 hrdy).1
  have hlt : i < listed.size := by
    rcases Nat.lt_or_ge i listed.size with h' | h'
    · exact h'
    · simp [Array.getElem?_eq_none h'] at hiun
  have hd' : ∀ j, (listed.setIfInBounds i true).getD j false = true ↔ j ∈ i :: done := fun j => by
    by_cases hij : i = j
    · subst hij
      simp [hlt]
    · rw [getD_set_ne false hij, hd j]
      simp [Ne.symm hij]
  refine ⟨fun s hs' => (List.mem_cons.1 hs').elim (fun e => e ▸ hi) (hs s), hd', fun S hS => ⟨fun j oj hj hl e he hb => ?_, fun k hk hkc hl => absurd (hS k ((hd' k).1 hl) hkc) hk⟩⟩
  by_cases hij : i = j
  · subst hij
    rw [ho] at hj; cases hj
    obtain ⟨_, o', ho', hall⟩ := mem_ready.1 hrdy
    rw [ho] at ho'; cases ho'
    exact getD_set_true (hall e he hb)
  · rw [getD_set_ne false hij] at hl
    exact getD_set_true ((hG S fun s hs => hS s (List.mem_cons_of_mem _ hs)).down j oj hj hl e he hb)
inductive PickT (l : List Oper) : FT → FTL → Prop where
  | leaf {st : List Nat} {l' : List Oper} (h : Picks l st l') : PickT l (.leaf st) (.leaf l')
  | node {st : List Nat} {l' : List Oper} {i j : Nat} {o o' : Oper} {t u : FT} {t' u' : FTL} (h : Picks l st l') (hi : nthO l i = some o) (ht : PickT l t t') (hj : nthO l j = some o') (hu : PickT l u u') : PickT l (.node st i t j u) (.node l' o t' o' u')
/-- one of the two -/
theorem wpS_side {K : (World → Prop) → Act → Prop} {kt : (World → Prop) → Act → Prop} {i : Nat} {listed : Array Bool} {C : World → Prop} {a : Act} {S S' : List Nat} {o : Oper} {m : Nat}
    (ho : ops[i]? = some o) (hlo : loud o.op = true) (hS : ∀ s ∈ S, s ∈ S')
    (hrest : ∀ C a, kt C a → ∀ w, C w → wpS P E ops C S' (fun a w => ∃ C' : World → Prop, C' w ∧ K C' a) m (listed.setIfInBounds i true) a w)
    (h : walkN P E ops [] kt [o] C a) (w : World) (hw : C w) :
    stepN P E ops i (fun a' w' => (i ∈ S → C w') ∧ wpS P E ops C S (fun a w => ∃ C' : World → Prop, C' w ∧ K C' a) m (listed.setIfInBounds i true) a' w') a w := by
  have fin : ∀ (a' : Act) (w' : World) (C' : World → Prop), C' w' → (∀ w, C' w → C w) → kt C' a' →
      ((i ∈ S → C w') ∧ wpS P E ops C S (fun a w => ∃ C' : World → Prop, C' w ∧ K C' a) m (listed.setIfInBounds i true) a' w') := by
    intro a' w' C' hw' hsub hn
    exact ⟨fun _ => hsub _ hw', wpS_weak _ _ _ _ (fun j hj _ => ⟨hS j hj, hsub⟩) (hrest C' a' hn w' hw')⟩
  simp only [walkN] at h
  unfold stepN
  simp only [ho]
  by_cases hwt : Region.wanted o (yielded ops a.tmps) = true
  · rw [if_pos hwt] at h ⊢
    rcases h with ⟨hq, _⟩ | ⟨_, hn⟩
    · rw [hlo] at hq; cases hq
    · exact Oper.wpN_mono (fun a' w' ⟨C', hw', hor, hn'⟩ => fin a' w' C' hw' (hor.resolve_right (by simp)) hn') (hn w hw)
  · rw [if_neg hwt] at h ⊢
    exact fin _ _ C hw (fun _ h => h) h
/-- the book: what has come up, what it was waiting for -/
structure Book (ops : Array Oper) (done : List Nat) (listed : Array Bool) : Prop where
  hs : ∀ s ∈ done, s < ops.size
  hd : ∀ j, listed.getD j false = true ↔ j ∈ done
  hG : ∀ S, (∀ s ∈ done, calmAt ops s = false → s ∈ S) → Sofar ops S listed
theorem Book.step {done : List Nat} {listed : Array Bool} {i : Nat} {o : Oper} (b : Book ops done listed) (ho : ops[i]? = some o) (hrdy : i ∈ Region.ready .any ops listed) : Book ops (i :: done) (listed.setIfInBounds i true) :=
  let ⟨h1, h2, h3⟩ := book ho hrdy b.hs b.hd b.hG
  ⟨h1, h2, h3⟩
theorem mem_reverseAux {k : Nat} : ∀ (st done : List Nat), k ∈ done → k ∈ List.reverseAux st done
  | [], _, h => h
  | _ :: st, _, h => mem_reverseAux st _ (List.mem_cons_of_mem _ h)
theorem preB_end {kb : List Nat → Array Bool → Bool} : ∀ (st done : List Nat) (listed : Array Bool), preB ops kb st done listed = true → Book ops done listed → ∃ listed', kb (List.reverseAux st done) listed' = true ∧ Book ops (List.reverseAux st done) listed'
  | [], _, listed, hB, hb => ⟨listed, hB, hb⟩
  | x :: st, done, listed, hB, hb => by
    cases ho : ops[x]? with
    | none => simp [preB, ho] at hB
    | some o =>
      simp only [preB, ho, Bool.and_eq_true, Bool.not_eq_true'] at hB
      obtain ⟨⟨⟨_, hrd⟩, _⟩, hB3⟩ := hB
      exact preB_end st (x :: done) _ hB3 (hb.step ho (by simpa using hrd))
theorem ordT_gate {sy : List Nat} : ∀ (t : FT) (done : List Nat) (listed : Array Bool), ordT ops sy t done listed = true → Book ops done listed → Gate ops (tillT ops sy t done) ∧ ∀ s ∈ tillT ops sy t done, s < ops.size
  | .leaf st, done, listed, hB, hb => ordB_gate st done listed hB hb.hs
  | .node st i t j u, done, listed, hB, hb => by
    simp only [ordT] at hB
    obtain ⟨listed', hB', hb'⟩ := preB_end st done listed hB hb
    simp only [Bool.and_eq_true, beq_iff_eq] at hB'
    obtain ⟨⟨⟨⟨⟨⟨hli, _⟩, hr⟩, _⟩, hB1⟩, _⟩, _⟩ := hB'
    cases hoi : ops[i]? with
    | none => simp [isLoud, hoi] at hli
    | some oi => exact ordT_gate t _ _ hB1 (hb'.step hoi (by rw [hr]; simp))
/-- quiet operations ahead -/
theorem wpS_pre {kt : (World → Prop) → Act → Prop} {Q : Act → World → Prop} {S : List Nat} {m : Nat} (hsel : Region.noSelect ops = true) {kb : List Nat → Array Bool → Bool} (hSc : ∀ s ∈ S, calmAt ops s = false) (hg : Gate ops S) (hz : ∀ s ∈ S, s < ops.size) :
    ∀ (st done : List Nat) (l : List Oper) (listed : Array Bool) (C : World → Prop) (a : Act),
    l.map some = st.map (fun i => ops[i]?) → preB ops kb st done listed = true → Book ops done listed → (∀ s ∈ List.reverseAux st done, calmAt ops s = false → s ∈ S) →
    (∀ listed, kb (List.reverseAux st done) listed = true → Book ops (List.reverseAux st done) listed → ∀ C a, kt C a → ∀ w, C w → wpS P E ops C S Q m listed a w) →
    walkN P E ops [] kt l C a → ∀ w, C w → wpS P E ops C S Q (st.length + m) listed a w
  | [], done, l, listed, C, a, hl, hB, hb, hS, hk, h => by
    have : l = [] := by simpa using hl
    subst this
    have h2 := hk listed hB hb
    intro w hw
    rw [List.length_nil, Nat.zero_add]
    exact h2 C a h w hw
  | x :: st, done, [], listed, C, a, hl, hB, hb, hS, hk, h => by simp at hl
  | x :: st, done, o :: l, listed, C, a, hl, hB, hb, hS, hk, h => by
    simp only [List.map_cons, List.cons.injEq] at hl
    have ho : ops[x]? = some o := hl.1.symm
    simp only [preB, ho, Bool.and_eq_true, Bool.not_eq_true'] at hB
    obtain ⟨⟨⟨hlo, hrd⟩, hfr⟩, hB3⟩ := hB
    have hrdy : x ∈ Region.ready .any ops listed := by simpa using hrd
    simp only [walkN] at h
    have key : ∀ v, Stays P ops C o v a → walkN P E ops [] kt l C (a.put o.dst v) → ∀ w, C w → wpS P E ops C S Q ((x :: st).length + m) listed a w := by
      intro v hst hn
      have h1 := wpS_pre hsel hSc hg hz st (x :: done) l (listed.setIfInBounds x true) C (a.put o.dst v) hl.2 hB3 (hb.step ho hrdy) hS hk hn
      intro w hw
      have e : (x :: st).length + m = (st.length + m) + 1 := by simp; omega
      rw [e]
      cases hcal : calm o.op with
      | false =>
        exact wpS_first ho (Region.noSelect_spec hsel) hg hz (hS x (mem_reverseAux st _ (List.mem_cons_self ..)) (by unfold calmAt; simp only [ho]; exact hcal)) _ listed a w (hb.hG _ fun s hs hc => hS s (mem_reverseAux st _ (List.mem_cons_of_mem _ hs)) hc) (Region.free_spec ho hfr) hrdy hst hw (h1 w hw)
      | true =>
        exact wpS_calm ho (Region.noSelect_spec hsel) (fun h => by have h' := hSc _ h; unfold calmAt at h'; simp only [ho, hcal] at h'; cases h') _ listed a w (Region.free_spec ho hfr) hrdy (hst.calm hcal hw) (h1 w hw)
    by_cases hwt : Region.wanted o (yielded ops a.tmps) = true
    · rw [if_pos hwt] at h
      rcases h with ⟨_, v, hv, hn⟩ | ⟨hlo', _⟩
      · exact key v (.inl ⟨hwt, hv⟩) hn
      · rw [hlo] at hlo'; cases hlo'
    · rw [if_neg hwt] at h
      exact key undef (.inr ⟨by simpa using hwt, rfl⟩) h
theorem isLoud_spec {i : Nat} {o : Oper} (ho : ops[i]? = some o) (h : isLoud ops i = true) : loud o.op = true := by
  unfold isLoud at h
  rw [ho] at h; exact h
theorem wpS_tree {sy : List Nat} {K : (World → Prop) → Act → Prop} {l : List Oper} (hops : ops = l.toArray) (hsel : Region.noSelect ops = true) :
    ∀ (t : FT) (t' : FTL), PickT l t t' → ∀ (done : List Nat) (listed : Array Bool), ordT ops sy t done listed = true → Book ops done listed →
    ∀ C a, KT P E ops sy K t' C a → ∀ w, C w → wpS P E ops C (tillT ops sy t done) (fun a w => ∃ C' : World → Prop, C' w ∧ K C' a) t.len listed a w := by
  subst hops
  intro t
  induction t with
  | leaf st =>
    intro t' hp done listed hB hb
    cases hp with
    | leaf h => exact fun C a hk w hw => wpS_walk hsel st done _ listed C a h.map hB hb.hs hb.hd hb.hG hk w hw
  | node st i t j u iht ihu =>
    intro t' hp done listed hB hb C a hk w hw
    cases hp with
    | node h hi ht hj hu =>
      rename_i l' o o' tt uu
      have hoi : l.toArray[i]? = some o := by rw [← nthO_eq]; exact hi
      have hoj : l.toArray[j]? = some o' := by rw [← nthO_eq]; exact hj
      obtain ⟨hg, hz⟩ := ordT_gate _ _ _ hB hb
      simp only [ordT] at hB
      refine wpS_pre hsel (tillT_calm (.node st i t j u) done) hg hz st done l' listed C a h.map hB hb (fun s hs hc => tillT_sub t _ s (List.mem_cons_of_mem _ hs) hc) ?_ hk w hw
      intro listed' hB' hb' C a ⟨hk1, hk2⟩ w hw
      simp only [Bool.and_eq_true, beq_iff_eq, List.all_eq_true] at hB'
      obtain ⟨⟨⟨⟨⟨⟨hli, hlj⟩, hr⟩, hlen⟩, hB1⟩, hB2⟩, hall⟩ := hB'
      have hri : i ∈ Region.ready .any l.toArray listed' := by rw [hr]; simp
      have hrj : j ∈ Region.ready .any l.toArray listed' := by rw [hr]; simp
      have hA := iht tt ht _ _ hB1 (hb'.step hoi hri)
      have hBr := ihu uu hu _ _ hB2 (hb'.step hoj hrj)
      refine ⟨fun h0 => (by rw [h0] at hri; cases hri), fun k hk => ?_⟩
      rw [hr] at hk
      simp only [List.mem_cons, List.not_mem_nil, or_false] at hk
      rcases hk with rfl | rfl
      · exact wpS_side (K := K) hoi (isLoud_spec hoi hli) (fun s h => h) hA hk1 w hw
      · have := wpS_side (K := K) (S := tillT l.toArray sy t (i :: List.reverseAux st done)) hoj (isLoud_spec hoj hlj) (fun s h => by simpa using hall s h) hBr hk2 w hw
        rw [← hlen] at this
        exact this
end
section
variable {P : Program} {f n : Nat} {R : Ending → World → Prop} {D : List Deferred} {w0 : World} {k : List Item} {ov : Ov} {H : List Asn} {K : KC}
theorem QR_leaf {ops : Array Oper} {sy : List Nat} {l : List Oper} (h : QR P n D w0 (ops, sy) l ov H K) : QR P n D w0 (ops, []) [] ov H ⟨KT P K.e ops sy K.k (.leaf l), K.e⟩ := by
  unfold QR at *
  intro a ha
  simp only [walkN, KT]
  exact h a ha
theorem QR_node {ops : Array Oper} {sy : List Nat} {l : List Oper} {o o' : Oper} {t u : FTL} (h : QR P n D w0 (ops, []) l ov H ⟨KN P K.e ops (KT P K.e ops sy K.k t) (KT P K.e ops sy K.k u) o o', K.e⟩) : QR P n D w0 (ops, []) [] ov H ⟨KT P K.e ops sy K.k (.node l o t o' u), K.e⟩ := by
  unfold QR at *
  intro a ha
  simp only [walkN, KT]
  exact h a ha
theorem QR_both {ops : Array Oper} {o o' : Oper} {kt ku : (World → Prop) → Act → Prop} {e : List PanicEntry → List Deferred → World → Prop} (h1 : QR P n D w0 (ops, []) [o] ov H ⟨kt, e⟩) (h2 : QR P n D w0 (ops, []) [o'] ov H ⟨ku, e⟩) : QR P n D w0 (ops, []) [] ov H ⟨KN P e ops kt ku o o', e⟩ := by
  unfold QR at *
  intro a ha
  exact ⟨h1 a ha, h2 a ha⟩
theorem JS_tree {id : Nat} {l : List Oper} (t : FT) (sy : List Nat) {t' : FTL} (hp : PickT l t t') (hm : P.follows .mixedOrders = true) (hs : Region.noSelect l.toArray = true)
    (hlen : t.len = l.length) (hB : ordT l.toArray sy t [] (Array.replicate l.length false) = true) (h : QR P n D w0 (l.toArray, []) [] ov H ⟨KT P (QK P f R k).e l.toArray sy (QK P f R k).k t', (QK P f R k).e⟩) :
    JS P f n R D w0 (.code (.region id l.toArray true) :: k) ov H := by
  unfold JS
  intro a w ha hw
  refine J_of_wpE (Q := QQ P f R k) (wp_region_any hm ?_) fun e a' w' h => h
  have h0 : ∀ j, (Array.replicate l.length false).getD j false = false := fun j => by
    rcases Nat.lt_or_ge j l.length with h | h
    · simp [h]
    · simp [h]
  unfold QR at h
  have hk := h a ha
  simp only [walkN] at hk
  have hws := wpS_tree (P := P) (E := (QK P f R k).e) (K := (QK P f R k).k) (sy := sy) rfl hs t t' hp [] (Array.replicate l.length false) hB ⟨by simp, fun j => by rw [h0 j]; simp, fun S _ => ⟨fun j oj _ hj => (by rw [h0 j] at hj; cases hj), fun k _ _ hk => (by rw [h0 k] at hk; cases hk)⟩⟩ (St w0 H) a hk w.drew hw.drew
  have := wpAny_of_S (Q' := QQ P f R k) (fun ch a w h => by unfold QK at h; exact h) (fun a w ⟨C, hC, hk⟩ => by unfold QK at hk; exact hk w hC) _ _ _ _ hws
  rw [hlen] at this
  simpa using this
end
end Sx

set_option linter.unusedVariables false
namespace Sx
open Go
/-! a slice, and what it became by an append: both still stand -/
@[irreducible] def vecB (e size : Nat) (v : Value) (n : Nat) (cs : List Value) (v' : Value) (n' : Nat) (cs' : List Value) : Asn where
  holds w fp := ∃ f1 f2, VecIn e size v n cs w f1 ∧ VecIn e size v' n' cs' w f2 ∧ (∀ b, b ∈ fp ↔ b ∈ f1 ∨ b ∈ f2)
  frame w w' fp h hk := by
    obtain ⟨f1, f2, h1, h2, h3⟩ := h
    have e1 := (vec_holds (e := e) (size := size) (v := v) (n := n) (cs := cs) (w := w') (fp := f1)).1 ((vec e size v n cs).frame w w' f1 (vec_holds.2 h1) fun b hb => hk b ((h3 b).2 (.inl hb)))
    have e2 := (vec_holds (e := e) (size := size) (v := v') (n := n') (cs := cs') (w := w') (fp := f2)).1 ((vec e size v' n' cs').frame w w' f2 (vec_holds.2 h2) fun b hb => hk b ((h3 b).2 (.inr hb)))
    exact ⟨f1, f2, e1, e2, h3⟩
  live w fp h b hb := by
    obtain ⟨f1, f2, h1, h2, h3⟩ := h
    rcases (h3 b).1 hb with h | h
    · exact (vec e size v n cs).live w f1 (vec_holds.2 h1) b h
    · exact (vec e size v' n' cs').live w f2 (vec_holds.2 h2) b h
theorem vecB_holds {e size v n cs v' n' cs' w fp} : (vecB e size v n cs v' n' cs').holds w fp ↔ ∃ f1 f2, VecIn e size v n cs w f1 ∧ VecIn e size v' n' cs' w f2 ∧ (∀ b, b ∈ fp ↔ b ∈ f1 ∨ b ∈ f2) := by
  unfold vecB; exact Iff.rfl
theorem VecIn.nodup {e size v n cs w fp} (h : VecIn e size v n cs w fp) : fp.Nodup := by
  rcases h.2 with ⟨_, _, _, rfl⟩ | ⟨_, _, _, _, rfl, _⟩ <;> simp
section
variable {P : Program} {n : Nat} {D : List Deferred} {w0 : World} {ov : Ov} {H : List Asn} {d : Option Nat} {T : Nat} {pos : String} {af : Array Edge} {g : Option (Nat × Bool)} {x y : Operand} {tb : Tb P} {w : World}
theorem vecB_new {e size v m cs v' m' cs'} (h : St w0 (vecB e size v m cs v' m' cs' :: H) w) : St w0 (vec e size v' m' cs' :: H) w := by
  refine @St.step w0 [vecB e size v m cs v' m' cs'] H w w [vec e size v' m' cs'] h rfl rfl rfl (Nat.le_refl _) fun f1 h1 hn _ => ⟨fun _ _ _ => rfl, ?_⟩
  obtain ⟨fa, fb, e1, h2, h3⟩ := h1
  have : fb = [] := h3
  subst this
  rw [List.append_nil] at e1
  subst e1
  obtain ⟨g1, g2, ha, hb, hc⟩ := vecB_holds.1 h2
  exact ⟨g2, hb.nodup, fun b hb' => .inl ((hc b).2 (.inr hb')), g2, [], by simp, vec_holds.2 hb, rfl⟩
theorem vecB_old {e size v m cs v' m' cs'} (h : St w0 (vecB e size v m cs v' m' cs' :: H) w) : St w0 (vec e size v m cs :: H) w := by
  refine @St.step w0 [vecB e size v m cs v' m' cs'] H w w [vec e size v m cs] h rfl rfl rfl (Nat.le_refl _) fun f1 h1 hn _ => ⟨fun _ _ _ => rfl, ?_⟩
  obtain ⟨fa, fb, e1, h2, h3⟩ := h1
  have : fb = [] := h3
  subst this
  rw [List.append_nil] at e1
  subst e1
  obtain ⟨g1, g2, ha, hb, hc⟩ := vecB_holds.1 h2
  exact ⟨g1, ha.nodup, fun b hb' => .inl ((hc b).2 (.inl hb')), g1, [], by simp, vec_holds.2 ha, rfl⟩
theorem Sel.back {H : List Asn} {a : Asn} {F : Asn → List Asn} (h : Sel H a F) (a' : Asn) : Upd (F a') a' a H := by
  induction h with
  | here a r => exact Upd.here _ _ _
  | there y a r F _ ih => exact Upd.there _ _ _ _ _ ih
theorem vecB_back {e size v m cs v' m' cs'} {F : Asn → List Asn} (hs : Sel H (vec e size v m cs) F) (h : St w0 (F (vecB e size v m cs v' m' cs')) w) : St w0 H w :=
  h.upd (hs.back _) rfl rfl rfl (Nat.le_refl _) fun f1 h1 => by
    obtain ⟨g1, g2, ha, hb, hc⟩ := vecB_holds.1 h1
    exact ⟨fun _ _ _ => rfl, g1, ha.nodup, fun b hb' => .inl ((hc b).2 (.inl hb')), vec_holds.2 ha⟩
theorem vecB_fwd {e size v m cs v' m' cs'} {F : Asn → List Asn} (hs : Sel H (vecB e size v m cs v' m' cs') F) (h : St w0 H w) : St w0 (F (vec e size v' m' cs')) w :=
  h.upd (hs.upd _) rfl rfl rfl (Nat.le_refl _) fun f1 h1 => by
    obtain ⟨g1, g2, ha, hb, hc⟩ := vecB_holds.1 h1
    exact ⟨fun _ _ _ => rfl, g2, hb.nodup, fun b hb' => .inl ((hc b).2 (.inr hb')), vec_holds.2 hb⟩
theorem run_appendB {t ty e size bytes : Nat} {i : TypeInfo} {z : Value} {u ux : Value} {m q : Nat} {cs news : List Value} {F : Asn → List Asn} (hw : St w0 H w)
    (ht : P.underlying t = some (.slice e)) (hi : P.info? e = some i) (hz : i.zero = some z) (hsize : i.size = size) (hby : i.bytes = bytes) (hzs : z.cells.size = size) (hsz : 0 < size)
    (hu : Sel H (vec e size u m cs) F) (hr : Rd w0 H ux q news) (hl : news.length = q * size) (h1 : All1 news) (hq0 : 0 < q) (hb : (m + q) * bytes ≤ 140737488355328) (hq : m + q ≤ 140737488355328) :
    ∃ p c w', (Builtin.append_ #[t, t] ty #[u, ux]).run P w = .ok (.slice p (m + q) c) w' ∧ St w0 (F (vecB e size u m cs (.slice p (m + q) c) (m + q) (cs ++ news))) w' := by
  obtain ⟨fp, hfp⟩ := hw.mem hu.mem
  rw [vec_holds] at hfp
  unfold Rd at hr
  obtain ⟨⟨bx, cx, rfl, hbx, _⟩, hrd⟩ := hr w hw
  subst hsize; subst hby
  have h63 : ((m + q : Nat) : Int) ≤ 9223372036854775807 := by omega
  cases bx with
  | none => exact absurd (hbx rfl) (by omega)
  | some a =>
    have hnews := reads_some hrd
    have hgrow : ∀ (old cap2 : Nat), cap2 = grownCap w (m + q) old e → (cs.length = m * i.size) →
        ∀ f1, (vec e i.size u m cs).holds w f1 → (∀ b, b < w.heap.size → b ∉ f1 → (w.drew.alloc (.cells (cs.toArray ++ news.toArray ++ Builtin.zeroCells z.cells (cap2 - (m + q))) e)).heap[b]? = w.heap[b]?) ∧
        ∃ f1' : List Nat, f1'.Nodup ∧ (∀ b ∈ f1', b ∈ f1 ∨ w.heap.size ≤ b) ∧ (vecB e i.size u m cs (.slice (some ⟨w.heap.size, 0, none⟩) (m + q) cap2) (m + q) (cs ++ news)).holds (w.drew.alloc (.cells (cs.toArray ++ news.toArray ++ Builtin.zeroCells z.cells (cap2 - (m + q))) e)) f1' := by
      intro old cap2 hcap hcl f1 hf1
      have hge := grownCap_ge w (m + q) old e
      have hle := grownCap_le_maxLen w (m + q) old e (by unfold maxLen; omega)
      have hlive := (vec e i.size u m cs).live w f1 hf1
      have hkeep : ∀ b, b < w.heap.size → (w.drew.alloc (.cells (cs.toArray ++ news.toArray ++ Builtin.zeroCells z.cells (cap2 - (m + q))) e)).heap[b]? = w.heap[b]? := fun b hb => heap_alloc_old w.drew _ hb
      have hold := (vec e i.size u m cs).frame w _ f1 hf1 fun b hb => hkeep b (hlive b hb)
      refine ⟨fun b hb _ => hkeep b hb, f1 ++ [w.heap.size], ?_, ?_, ?_⟩
      · refine List.nodup_append.2 ⟨(vec_holds.1 hf1).nodup, by simp, ?_⟩
        intro b hb c hc
        have := hlive b hb
        simp only [List.mem_singleton] at hc
        omega
      · intro b hb
        rcases List.mem_append.1 hb with h | h
        · exact .inl h
        · right; simp at h; omega
      · rw [vecB_holds]
        have hlen : (cs ++ news).length = (m + q) * i.size := by rw [List.length_append, hcl, hl, Nat.add_mul]
        refine ⟨f1, [w.heap.size], vec_holds.1 hold, ⟨hlen, .inr ⟨w.heap.size, cap2, _, rfl, rfl, heap_alloc_new w.drew _, by omega, by omega, ?_, ?_⟩⟩, by simp⟩
        · simp only [Array.size_append, List.size_toArray, size_zeroCells, hzs, hcl, hl, ← Nat.add_mul]
          congr 1; omega
        · simp only [Array.toList_append, List.append_assoc]
          rw [← List.append_assoc, ← hlen]
          exact List.take_left
    rcases hfp.2 with ⟨base, rfl, rfl, rfl⟩ | ⟨gb, cap, cur, rfl, _, hg, hn, hcm, hsz2, htk⟩
    · have hcs : cs = [] := List.eq_nil_of_length_eq_zero (by have := hfp.1; simpa using this)
      subst hcs
      cases base with
      | none =>
        have hrr := run_append_nil (P := P) w t ty e i z ht hi hz a q cx news hl hnews (by omega) (by omega) (by simp only [Nat.zero_add] at hb; omega)
        have hg := hgrow 0 _ rfl (by simp)
        simp only [Nat.zero_add, Array.empty_append] at hg ⊢
        exact ⟨_, _, _, hrr, hw.upd (hu.upd _) rfl rfl rfl (by simp) hg⟩
      | some b0 =>
        have hrr := run_append_grow (P := P) w t ty e i z ht hi hz b0 0 0 [] (by simp) (by simp) a q cx news hl hnews (by omega) (by omega) (growslice_fits (by omega) hb)
        exact ⟨_, _, _, hrr, hw.upd (hu.upd _) rfl rfl rfl (by simp) (hgrow 0 _ rfl (by simp))⟩
    · by_cases hroom : m + q ≤ cap
      · have hcl := hfp.1
        have hfit : m * i.size + news.length ≤ cur.size := by rw [hl, hsz2, ← Nat.add_mul]; exact Nat.mul_le_mul_right _ hroom
        have hrr := run_append_room (P := P) w t ty e i ht hi gb m cap cur hg a q cx news hl hnews h1.mem hroom hfit
        refine ⟨_, _, _, hrr, hw.upd (hu.upd _) rfl rfl rfl (by simp [World.setRow]) fun f1 h => ?_⟩
        have hf1 : f1 = [gb] ∨ (f1 = [] ∧ m = 0 ∧ cap = 0) := by
          rw [vec_holds] at h
          rcases h.2 with ⟨base, hb', h0, hf⟩ | ⟨g', cap', cur', hv', hf, _⟩
          · simp at hb'; exact .inr ⟨hf, h0, hb'.2.2⟩
          · simp at hv'; left; rw [hf, hv'.1]
        have hf1' : f1 = [gb] := by
          rcases hf1 with h | h
          · exact h
          · omega
        subst hf1'
        refine ⟨fun c hc hne => setRow_other w gb c _ (by simpa using hne), [gb], by simp, fun c hc => .inl hc, ?_⟩
        rw [vecB_holds]
        have hlen : (cs ++ news).length = (m + q) * i.size := by rw [List.length_append, hcl, hl, Nat.add_mul]
        have hsz3 : (cur.toList.take (m * i.size) ++ news ++ cur.toList.drop (m * i.size + news.length)).length = cap * i.size := by
          simp only [List.length_append, List.length_take, List.length_drop, Array.length_toList]
          omega
        refine ⟨[gb], [gb], ⟨hcl, .inr ⟨gb, cap, _, rfl, rfl, setRow_heap w gb cur _ e _ hg, hn, hcm, by simpa using hsz3, ?_⟩⟩, ⟨hlen, .inr ⟨gb, cap, _, rfl, rfl, setRow_heap w gb cur _ e _ hg, hroom, hcm, by simpa using hsz3, ?_⟩⟩, by simp⟩
        · simp only []
          rw [htk, ← hcl, List.append_assoc]
          exact List.take_left
        · simp only []
          rw [htk, ← hlen]
          exact List.take_left
      · have hcl := hfp.1
        have holds : ∀ j u', cs[j]? = some u' → w.cell? ((⟨gb, 0, none⟩ : Addr).add j) = some u' := reads_some hfp.reads
        have hrr := run_append_grow (P := P) w t ty e i z ht hi hz ⟨gb, 0, none⟩ m cap cs hcl holds a q cx news hl hnews (by omega) (by omega) (growslice_fits (by omega) hb)
        exact ⟨_, _, _, hrr, hw.upd (hu.upd _) rfl rfl rfl (by simp) (hgrow cap _ rfl hcl)⟩
theorem E_appendB {t e sz by' m q sz1 by1 : Nat} {ty2 : Ty} {z1 : Option (List Value)} {z : List Value} {u ux : Value} {cs news : List Value} {F : Asn → List Asn}
    (hx : ev ov x = some u) (hy : ev ov y = some ux) (h : tlook tb.l t = some ⟨.slice e, sz1, by1, z1⟩) (h2 : tlook tb.l e = some ⟨ty2, sz, by', some z⟩) (hzl : Nat.beq z.length sz = true) (hsz : Nat.blt 0 sz = true)
    (hu : Sel H (vec e sz u m cs) F) (hr : Rd w0 H ux q news) (hl : news.length = q * sz) (h1 : All1 news) (hq0 : 0 < q) (hb : (m + q) * by' ≤ 140737488355328 ∧ m + q ≤ 140737488355328) (hd : dOk d n = true) :
    OpE (ι := Option Addr × Nat) P n D w0 ov H ⟨d, .call ⟨.builtin .append, #[x, y], #[t, t]⟩, T, pos, af, g⟩ (fun pc => .slice pc.1 (m + q) pc.2) (fun pc => F (vecB e sz u m cs (.slice pc.1 (m + q) pc.2) (m + q) (cs ++ news))) :=
  ⟨hd, fun A w ha hw => by
    obtain ⟨i, zv, hi, e1, e2, e3, e4⟩ := Tb.inf' h2
    obtain ⟨p, c, w', hr', hw'⟩ := run_appendB (ty := T) hw (und_slice h) hi e3 e1 e2 (by have := Nat.eq_of_beq_eq_true hzl; rw [cellsL_eq, e4]; simpa using this) (by simpa [Nat.blt_eq] using hsz) hu hr hl h1 hq0 hb.1 hb.2
    exact ⟨(p, c), w', by simp [execOp, resolve, invoke, builtin, ha.ev hx, ha.ev hy, hr'], hw'⟩⟩
/-- a new slice of given values -/
theorem E_buildSlice {t e sz by' s1 b1 m : Nat} {ty2 : Ty} {z1 : Option (List Value)} {z : List Value} {xs : List (Nat × Operand)} {vs : List (Nat × Value)} {cs : List Value} (h : tlook tb.l t = some ⟨.slice e, s1, b1, z1⟩) (h2 : tlook tb.l e = some ⟨ty2, sz, by', some z⟩) (hzl : Nat.beq z.length sz = true) (hsz : Nat.blt 0 sz = true)
    (hm : Nat.ble (m * sz) 16777216 = true) (hx : pevs ov xs = some vs) (hc : fillL (fun i => some (i * sz, sz)) (rep m z) vs = some cs) (hcl : Nat.beq cs.length (m * sz) = true) (hd : dOk d n = true) :
    OpE (ι := Addr) P n D w0 ov H ⟨d, .buildSlice t m xs.toArray, T, pos, af, g⟩ (fun p => .slice (some p) m m) (fun p => vec e sz (.slice (some p) m m) m cs :: H) :=
  ⟨hd, fun a w ha hw => by
    have e1 := run_underlying (und_slice h) w
    obtain ⟨zv, hz, e3⟩ := Tb.run_zero w h2
    have hsz' : 0 < sz := by rw [Nat.blt_eq] at hsz; exact hsz
    have hzl' := Nat.eq_of_beq_eq_true hzl
    have hm' : m * sz ≤ 16777216 := Nat.le_of_ble_eq_true hm
    have hfill := fill_eq _ hc
    have hx' := ha.pevs hx
    have hmr := made_rep z (by omega) m
    rw [hzl'] at hmr
    have hma : madeCells z.toArray (m * sz) = (rep m z).toArray := by rw [← hmr]
    refine ⟨⟨w.heap.size, 0, none⟩, w.alloc (.cells cs.toArray e), ?_, hw.new cs e _ fun w' h' => ?_⟩
    · simp only [execOp, Instr.buildSlice, Sem.run_bind, e1, Result.andThen_ok, Tb.run_size w h2]
      rw [if_neg (by omega)]
      simp only [Sem.run_pure, pure_bind, Sem.run_ite, List.map_toArray, hx']
      by_cases h0 : m * sz = 0
      · have hm0 : m = 0 := by
          rcases Nat.mul_eq_zero.1 h0 with h | h <;> omega
        subst hm0
        simp only [h0, ↓reduceIte]
        rw [show (Array.range 0).map (fun i => (#[] : Array Value)[i % (#[] : Array Value).size]!) = ([] : List Value).toArray from by simp]
        rw [show fillL (fun i => some (i * sz, sz)) (rep 0 z) vs = fillL (fun i => some (i * sz, sz)) [] vs from rfl] at hc
        have hfill := fill_eq _ hc
        simp [hfill, newRow]
      · simp only [h0, ↓reduceIte, Sem.run_bind, e3, Result.andThen_ok, cellsL_eq, hz]
        rw [show (Array.range (m * sz)).map (fun i => z.toArray[i % z.toArray.size]!) = madeCells z.toArray (m * sz) from rfl, hma]
        simp [hfill, newRow]
    · rw [vec_holds]
      have hcl' := Nat.eq_of_beq_eq_true hcl
      refine ⟨hcl', .inr ⟨_, m, _, rfl, rfl, h', Nat.le_refl _, ?_, by simp [hcl'], by simp [← hcl']⟩⟩
      have : m ≤ m * sz := Nat.le_mul_of_pos_right m hsz'
      unfold maxLen; omega⟩
end
end Sx

namespace Go.Proofs.YtmnilpjgkjkecaaGreat
open Sx Go
set_option linter.unusedVariables false
set_option linter.unusedSimpArgs false
/-- is the pair at a place right? -/
def OKat (T : List (Int × Int)) (i : Nat) : Prop := (T.getD i (0, 0)).2 ≠ 0 ∧ (T.getD i (0, 0)).2 ≤ 4611686018427387904 - sw (T.take i) ∧ (0 < i → (T.getD (i - 1) (0, 0)).1 < (T.getD i (0, 0)).1)
def RIGHT (T : List (Int × Int)) : Prop := ∀ i, i < T.length → OKat T i
theorem swT_nn {T : List (Int × Int)} (h : OKT T) : ∀ i, i ≤ T.length → 0 ≤ sw (T.take i)
  | 0, _ => by simp [sw]
  | i + 1, hi => by
    rw [sw_take T i (by omega)]
    have := swT_nn h i (by omega)
    have := (h.get i (by omega)).2
    omega
theorem swT_le {i : Nat} {T : List (Int × Int)} (hT : OKT T) (h : ∀ j, j < i → OKat T j) (hi : i ≤ T.length) : sw (T.take i) ≤ 4611686018427387904 := by
  cases i with
  | zero => simp [sw]
  | succ i =>
    rw [sw_take T i (by omega)]
    have := (h i (by omega)).2.1
    omega
def keysT (T : List (Int × Int)) (i : Nat) : List Int := tab i fun j => (T.getD j (0, 0)).1
def uptoT (T : List (Int × Int)) (i : Nat) : List Int := tab i fun j => sw (T.take (j + 1))
/-- a table that stands in memory -/
structure IsTab (w0 : World) (H : List Asn) (b : Nat) (T : List (Int × Int)) : Prop where
  ok : ∃ pk ck pu cu, blk b [.slice pk T.length ck, .slice pu T.length cu] ∈ H ∧ Rd w0 H (.slice pk T.length ck) T.length (ints .i64 (keysT T T.length)) ∧ Rd w0 H (.slice pu T.length cu) T.length (ints .u64 (uptoT T T.length))
  hT : OKT T
  hR : RIGHT T
theorem IsTab.sub {w0 H H' b T} (h : IsTab w0 H b T) (hs : H.Sublist H') : IsTab w0 H' b T := by
  obtain ⟨⟨pk, ck, pu, cu, h1, h2, h3⟩, hT, hR⟩ := h
  exact ⟨⟨pk, ck, pu, cu, hs.subset h1, Rd_weak h2 fun w hw => St.sub hs hw, Rd_weak h3 fun w hw => St.sub hs hw⟩, hT, hR⟩
set_option maxRecDepth 10000 in
set_option maxHeartbeats 4000000 in
theorem WNewA_c {w0 : World} {H : List Asn} (p : Option Addr) (c m : Nat) (T : List (Int × Int)) (hr : Rd w0 H (.slice p m c) m (flat T)) (hm : T.length = m) (hT : OKT T) (hm1 : m ≤ 1000000) (w : World) (hw : St w0 H w) :
    Calls Tryz.prog 70 #[.slice p m c] w fun e w' => ∃ u r, e = .returned (.tuple #[u, .int .i64 r]) ∧
      ((¬ RIGHT T ∧ u = .pointer none ∧ r = 1 ∧ St w0 H w') ∨ (RIGHT T ∧ r = 0 ∧ ∃ b a1 a2 a3, u = .pointer (some ⟨b, 0, none⟩) ∧ (∀ H', IsTab w0 (a1 :: a2 :: a3 :: H') b T) ∧ St w0 (a1 :: a2 :: a3 :: H) w')) := by
  refine enter (vs := [.slice p m c]) Tryz.func70 rfl rfl rfl hw ?_
  repeat (first | (apply gJR; first | (refine sx ?_; try intro _)) | (apply gJO; first | (refine sx ?_; try intro _)) | apply JS_seq | apply JS_region)
  rename_i b
  refine JS_block ?_
  refine JS_loop5 (fun (i : Nat) (pk : Option Addr) (ck : Nat) (pu : Option Addr) (cu : Nat) => [(0, .slice p m c), (4, .pointer (some ⟨b, 0, none⟩)), (5, .int .u64 (sw (T.take i))), (10, .slice p m c), (11, .int .i64 m), (12, .int .i64 i)])
    (fun i pk ck pu cu => blk b [.slice pk i ck, .slice pu i cu] :: vec 3 1 (.slice pk i ck) i (ints .i64 (keysT T i)) :: vec 22 1 (.slice pu i cu) i (ints .u64 (uptoT T i)) :: H)
    (fun i _ _ _ _ => i ≤ m ∧ ∀ j, j < i → OKat T j) (fun i _ _ _ _ => m - i) 0 none 0 none 0 ⟨by omega, fun j h => absurd h (by omega)⟩ (by repeat (first | exact trivial | refine ⟨rfl, ?_⟩ | refine ⟨lookI rfl (by omega), ?_⟩)) (fun w hw => by
      have h1 : St w0 (vec 22 1 (.slice none 0 0) 0 [] :: blk b [.slice none 0 0, .slice none 0 0] :: H) w := St.nilvec hw
      have h2 : St w0 (vec 3 1 (.slice none 0 0) 0 [] :: vec 22 1 (.slice none 0 0) 0 [] :: blk b [.slice none 0 0, .slice none 0 0] :: H) w := St.nilvec h1
      exact h2.perm (((List.Perm.cons _ (List.Perm.swap _ _ _)).trans (List.Perm.swap _ _ _)))) ?_
  intro i pk ck pu cu ⟨hi, hok⟩ again
  have hs0 := swT_nn hT i (by omega)
  have hs1 := swT_le hT hok (by omega)
  by_cases him : i < m
  · have ht := hT.get i (by omega)
    have hsw := sw_take T i (by omega)
    have gA := flat_seg T i (by omega)
    have hku : keysT T (i + 1) = keysT T i ++ [(T.getD i (0, 0)).1] := tab_succ _ _
    have huu : uptoT T (i + 1) = uptoT T i ++ [sw (T.take (i + 1))] := tab_succ _ _
    have hlk : (keysT T i).length = i := tab_len _ _
    have hlu : (uptoT T i).length = i := tab_len _ _
    have hprev : 0 < i → (flat T)[(i - 1) * 2]? = some (.int .i64 (T.getD (i - 1) (0, 0)).1) := fun h => flat_get0 T (i - 1) (by omega)
    have hat : OKat T i ↔ (T.getD i (0, 0)).2 ≠ 0 ∧ (T.getD i (0, 0)).2 ≤ 4611686018427387904 - sw (T.take i) ∧ (0 < i → (T.getD (i - 1) (0, 0)).1 < (T.getD i (0, 0)).1) := Iff.rfl
    have hnr : ¬ OKat T i → ¬ RIGHT T := fun h h2 => h (h2 i (by omega))
    have hnext : OKat T i → ∀ j, j < i + 1 → OKat T j := fun h j hj => by
      rcases Nat.lt_or_ge j i with h2 | h2
      · exact hok j h2
      · obtain rfl : j = i := by omega
        exact h
    rw [hsw] at huu
    have hbd : ∀ j, j < T.length → -9223372036854775808 ≤ (T.getD j (0, 0)).1 ∧ (T.getD j (0, 0)).1 < 9223372036854775808 := fun j hj => (hT.get j hj).1
    generalize T.getD i (0, 0) = t at *
    obtain ⟨tk, tn⟩ := t
    simp only [] at *
    generalize sw (T.take i) = S at *
    have gP := hprev
    by_cases h1 : tn = 0
    · have hno : ¬ OKat T i := fun h => (hat.1 h).1 h1
      repeat (first | (apply gJO; refine JO_v (V_loadCA (tb := tb) (vs := [.int .i64 tk, .int .u64 tn]) rfl (by first | exact vec_rd (by repeat (first | apply List.Mem.head | apply List.Mem.tail)) | assumption | exact ArgRd.rd (by assumption) _ | (apply Rd_weak; assumption; intro _ hx; exact St.sub (by repeat (first | exact List.Sublist.refl _ | apply List.Sublist.cons_cons | apply List.Sublist.cons)) hx)) rfl rfl rfl (by omega) gA rfl) ?_) | (first | (refine sx ?_; try intro _)))
      refine JS_ret Tryz.func70 rfl rfl ?_
      intro w hw
      exact ⟨_, _, rfl, .inl ⟨hnr hno, rfl, rfl, St.sub (by repeat (first | exact List.Sublist.refl _ | apply List.Sublist.cons_cons | apply List.Sublist.cons)) hw⟩⟩
    by_cases h2 : 4611686018427387904 - S < tn
    · have hno : ¬ OKat T i := fun h => absurd (hat.1 h).2.1 (by omega)
      repeat (first | (apply gJO; refine JO_v (V_loadCA (tb := tb) (vs := [.int .i64 tk, .int .u64 tn]) rfl (by first | exact vec_rd (by repeat (first | apply List.Mem.head | apply List.Mem.tail)) | assumption | exact ArgRd.rd (by assumption) _ | (apply Rd_weak; assumption; intro _ hx; exact St.sub (by repeat (first | exact List.Sublist.refl _ | apply List.Sublist.cons_cons | apply List.Sublist.cons)) hx)) rfl rfl rfl (by omega) gA rfl) ?_) | (first | (refine sx ?_; try intro _)))
      refine JS_ret Tryz.func70 rfl rfl ?_
      intro w hw
      exact ⟨_, _, rfl, .inl ⟨hnr hno, rfl, rfl, St.sub (by repeat (first | exact List.Sublist.refl _ | apply List.Sublist.cons_cons | apply List.Sublist.cons)) hw⟩⟩
    by_cases h3 : 0 < i
    · have hm1' : ((i : Int) - 1).toNat * 2 + 0 = (i - 1) * 2 := by omega
      have gp := hprev h3
      have hidx : ((i : Int) - 1).toNat * 2 = (i - 1) * 2 := by omega
      have hb1 := hbd (i - 1) (by omega)
      generalize (T.getD (i - 1) (0, 0)).1 = pv at *
      by_cases h4 : tk ≤ pv
      · have hno : ¬ OKat T i := fun h => absurd ((hat.1 h).2.2 h3) (by omega)
        repeat (first | (apply gJO; refine JO_v (V_loadCA (tb := tb) (vs := [.int .i64 tk, .int .u64 tn]) rfl (by first | exact vec_rd (by repeat (first | apply List.Mem.head | apply List.Mem.tail)) | assumption | exact ArgRd.rd (by assumption) _ | (apply Rd_weak; assumption; intro _ hx; exact St.sub (by repeat (first | exact List.Sublist.refl _ | apply List.Sublist.cons_cons | apply List.Sublist.cons)) hx)) rfl rfl rfl (by omega) gA rfl) ?_) | (apply gQO; first | refine QO_v rfl (V_index (tb := tb) rfl rfl rfl rfl (by first | exact Rd.sl (vec_rd (by repeat (first | apply List.Mem.head | apply List.Mem.tail))) | exact Rd.sl (by assumption) | exact Rd.sl (ArgRd.rd (by assumption) _) | (apply Rd.sl; (apply Rd_weak; assumption; intro _ hx; exact St.sub (by repeat (first | exact List.Sublist.refl _ | apply List.Sublist.cons_cons | apply List.Sublist.cons)) hx))) (by omega) hidx rfl) ?_ | refine QO_v rfl (V_loadC (tb := tb) rfl (by first | exact vec_rd (by repeat (first | apply List.Mem.head | apply List.Mem.tail)) | assumption | exact ArgRd.rd (by assumption) _ | (apply Rd_weak; assumption; intro _ hx; exact St.sub (by repeat (first | exact List.Sublist.refl _ | apply List.Sublist.cons_cons | apply List.Sublist.cons)) hx)) rfl rfl gp rfl) ?_) | (first | (refine sx ?_; try intro _)))
        refine JS_ret Tryz.func70 rfl rfl ?_
        intro w hw
        exact ⟨_, _, rfl, .inl ⟨hnr hno, rfl, rfl, St.sub (by repeat (first | exact List.Sublist.refl _ | apply List.Sublist.cons_cons | apply List.Sublist.cons)) hw⟩⟩
      · have hyes := hnext (hat.2 ⟨h1, by omega, fun _ => by omega⟩)
        repeat (first | (apply gJO; refine JO_v (V_loadCA (tb := tb) (vs := [.int .i64 tk, .int .u64 tn]) rfl (by first | exact vec_rd (by repeat (first | apply List.Mem.head | apply List.Mem.tail)) | assumption | exact ArgRd.rd (by assumption) _ | (apply Rd_weak; assumption; intro _ hx; exact St.sub (by repeat (first | exact List.Sublist.refl _ | apply List.Sublist.cons_cons | apply List.Sublist.cons)) hx)) rfl rfl rfl (by omega) gA rfl) ?_) | (apply gQO; first | refine QO_v rfl (V_index (tb := tb) rfl rfl rfl rfl (by first | exact Rd.sl (vec_rd (by repeat (first | apply List.Mem.head | apply List.Mem.tail))) | exact Rd.sl (by assumption) | exact Rd.sl (ArgRd.rd (by assumption) _) | (apply Rd.sl; (apply Rd_weak; assumption; intro _ hx; exact St.sub (by repeat (first | exact List.Sublist.refl _ | apply List.Sublist.cons_cons | apply List.Sublist.cons)) hx))) (by omega) hidx rfl) ?_ | refine QO_v rfl (V_loadC (tb := tb) rfl (by first | exact vec_rd (by repeat (first | apply List.Mem.head | apply List.Mem.tail)) | assumption | exact ArgRd.rd (by assumption) _ | (apply Rd_weak; assumption; intro _ hx; exact St.sub (by repeat (first | exact List.Sublist.refl _ | apply List.Sublist.cons_cons | apply List.Sublist.cons)) hx)) rfl rfl gp rfl) ?_) | (first | (refine sx ?_; try intro _)))
        refine JS_tree (.node [0, 1, 2, 3, 4, 5, 6, 7, 10, 11, 12, 13, 14] 8 (.node [] 9 (.leaf [15, 16, 17, 18, 19, 20, 21, 22]) 15 (.leaf [9, 16, 17, 18, 19, 20, 21, 22])) 15 (.leaf [8, 9, 16, 17, 18, 19, 20, 21, 22])) [0, 3] (.node (Picks.cons rfl (Picks.cons rfl (Picks.cons rfl (Picks.cons rfl (Picks.cons rfl (Picks.cons rfl (Picks.cons rfl (Picks.cons rfl (Picks.cons rfl (Picks.cons rfl (Picks.cons rfl (Picks.cons rfl (Picks.cons rfl (Picks.nil)))))))))))))) rfl (.node Picks.nil rfl (.leaf (Picks.cons rfl (Picks.cons rfl (Picks.cons rfl (Picks.cons rfl (Picks.cons rfl (Picks.cons rfl (Picks.cons rfl (Picks.cons rfl (Picks.nil)))))))))) rfl (.leaf (Picks.cons rfl (Picks.cons rfl (Picks.cons rfl (Picks.cons rfl (Picks.cons rfl (Picks.cons rfl (Picks.cons rfl (Picks.cons rfl (Picks.nil))))))))))) rfl (.leaf (Picks.cons rfl (Picks.cons rfl (Picks.cons rfl (Picks.cons rfl (Picks.cons rfl (Picks.cons rfl (Picks.cons rfl (Picks.cons rfl (Picks.cons rfl (Picks.nil)))))))))))) (by kernel_rfl) (by kernel_rfl) rfl (by decide +kernel) ?_
        refine QR_node ?_
        repeat (first | (refine sx ?_; try intro _))
        refine QR_both ?_ ?_
        · apply QR_un
          (refine QO_e (E_buildSlice (tb := tb) rfl rfl rfl rfl rfl rfl rfl rfl rfl) rfl (.inr fun _ _ hw => St.sub (by repeat (first | exact List.Sublist.refl _ | apply List.Sublist.cons_cons | apply List.Sublist.cons)) hw) ?_; intro _)
          refine QR_node ?_
          refine QR_both ?_ ?_
          · apply QR_un
            (refine QO_e (E_appendB (tb := tb) rfl rfl rfl rfl rfl rfl (by repeat (first | exact Sel.here _ _ | apply Sel.there)) (by first | exact vec_rd (by repeat (first | apply List.Mem.head | apply List.Mem.tail)) | assumption | exact ArgRd.rd (by assumption) _ | (apply Rd_weak; assumption; intro _ hx; exact St.sub (by repeat (first | exact List.Sublist.refl _ | apply List.Sublist.cons_cons | apply List.Sublist.cons)) hx)) (by simp only [ints_len, List.length_cons, List.length_nil]; first | omega | rfl) (by first | exact ints_one | (repeat (first | exact trivial | refine ⟨rfl, ?_⟩))) (by omega) (by omega) rfl) rfl (.inr fun _ _ hw => vecB_back (by repeat (first | exact Sel.here _ _ | apply Sel.there)) hw) ?_; intro _)
            refine QR_leaf ?_
            repeat (first | (apply gQO; first | (refine QO_e (E_appendB (tb := tb) rfl rfl rfl rfl rfl rfl (by repeat (first | exact Sel.here _ _ | apply Sel.there)) (by first | exact vec_rd (by repeat (first | apply List.Mem.head | apply List.Mem.tail)) | assumption | exact ArgRd.rd (by assumption) _ | (apply Rd_weak; assumption; intro _ hx; exact St.sub (by repeat (first | exact List.Sublist.refl _ | apply List.Sublist.cons_cons | apply List.Sublist.cons)) hx)) (by simp only [ints_len, List.length_cons, List.length_nil]; first | omega | rfl) (by first | exact ints_one | (repeat (first | exact trivial | refine ⟨rfl, ?_⟩))) (by omega) (by omega) rfl) rfl (.inr fun _ _ hw => vecB_back (by repeat (first | exact Sel.here _ _ | apply Sel.there)) hw) ?_; intro _) | (refine QO_e (E_buildSlice (tb := tb) rfl rfl rfl rfl rfl rfl rfl rfl rfl) rfl (.inr fun _ _ hw => St.sub (by repeat (first | exact List.Sublist.refl _ | apply List.Sublist.cons_cons | apply List.Sublist.cons)) hw) ?_; intro _)) | (first | (refine sx ?_; try intro _)))
            rename_i a8 c9 a15 c16
            exact JS_again5 again (i + 1) c9.1 c9.2 c16.1 c16.2 ⟨by omega, hyes⟩ (by omega) (by exact ⟨rfl, rfl, lookI rfl (by omega), rfl, rfl, rfl, trivial⟩) (fun w hw => by rw [hku, huu, ← ints_app1, ← ints_app1]; have g1 := vecB_fwd (by repeat (first | exact Sel.here _ _ | apply Sel.there)) hw; have g2 := vecB_fwd (by repeat (first | exact Sel.here _ _ | apply Sel.there)) g1; exact St.sub (by repeat (first | exact List.Sublist.refl _ | apply List.Sublist.cons_cons | apply List.Sublist.cons)) g2)
          · apply QR_un
            (refine QO_e (E_buildSlice (tb := tb) rfl rfl rfl rfl rfl rfl rfl rfl rfl) rfl (.inr fun _ _ hw => St.sub (by repeat (first | exact List.Sublist.refl _ | apply List.Sublist.cons_cons | apply List.Sublist.cons)) hw) ?_; intro _)
            refine QR_leaf ?_
            repeat (first | (apply gQO; first | (refine QO_e (E_appendB (tb := tb) rfl rfl rfl rfl rfl rfl (by repeat (first | exact Sel.here _ _ | apply Sel.there)) (by first | exact vec_rd (by repeat (first | apply List.Mem.head | apply List.Mem.tail)) | assumption | exact ArgRd.rd (by assumption) _ | (apply Rd_weak; assumption; intro _ hx; exact St.sub (by repeat (first | exact List.Sublist.refl _ | apply List.Sublist.cons_cons | apply List.Sublist.cons)) hx)) (by simp only [ints_len, List.length_cons, List.length_nil]; first | omega | rfl) (by first | exact ints_one | (repeat (first | exact trivial | refine ⟨rfl, ?_⟩))) (by omega) (by omega) rfl) rfl (.inr fun _ _ hw => vecB_back (by repeat (first | exact Sel.here _ _ | apply Sel.there)) hw) ?_; intro _) | (refine QO_e (E_buildSlice (tb := tb) rfl rfl rfl rfl rfl rfl rfl rfl rfl) rfl (.inr fun _ _ hw => St.sub (by repeat (first | exact List.Sublist.refl _ | apply List.Sublist.cons_cons | apply List.Sublist.cons)) hw) ?_; intro _)) | (first | (refine sx ?_; try intro _)))
            rename_i a8 a15 c9 c16
            exact JS_again5 again (i + 1) c9.1 c9.2 c16.1 c16.2 ⟨by omega, hyes⟩ (by omega) (by exact ⟨rfl, rfl, lookI rfl (by omega), rfl, rfl, rfl, trivial⟩) (fun w hw => by rw [hku, huu, ← ints_app1, ← ints_app1]; have g1 := vecB_fwd (by repeat (first | exact Sel.here _ _ | apply Sel.there)) hw; have g2 := vecB_fwd (by repeat (first | exact Sel.here _ _ | apply Sel.there)) g1; exact St.sub (by repeat (first | exact List.Sublist.refl _ | apply List.Sublist.cons_cons | apply List.Sublist.cons)) g2)
        · apply QR_un
          (refine QO_e (E_buildSlice (tb := tb) rfl rfl rfl rfl rfl rfl rfl rfl rfl) rfl (.inr fun _ _ hw => St.sub (by repeat (first | exact List.Sublist.refl _ | apply List.Sublist.cons_cons | apply List.Sublist.cons)) hw) ?_; intro _)
          refine QR_leaf ?_
          repeat (first | (apply gQO; first | (refine QO_e (E_appendB (tb := tb) rfl rfl rfl rfl rfl rfl (by repeat (first | exact Sel.here _ _ | apply Sel.there)) (by first | exact vec_rd (by repeat (first | apply List.Mem.head | apply List.Mem.tail)) | assumption | exact ArgRd.rd (by assumption) _ | (apply Rd_weak; assumption; intro _ hx; exact St.sub (by repeat (first | exact List.Sublist.refl _ | apply List.Sublist.cons_cons | apply List.Sublist.cons)) hx)) (by simp only [ints_len, List.length_cons, List.length_nil]; first | omega | rfl) (by first | exact ints_one | (repeat (first | exact trivial | refine ⟨rfl, ?_⟩))) (by omega) (by omega) rfl) rfl (.inr fun _ _ hw => vecB_back (by repeat (first | exact Sel.here _ _ | apply Sel.there)) hw) ?_; intro _) | (refine QO_e (E_buildSlice (tb := tb) rfl rfl rfl rfl rfl rfl rfl rfl rfl) rfl (.inr fun _ _ hw => St.sub (by repeat (first | exact List.Sublist.refl _ | apply List.Sublist.cons_cons | apply List.Sublist.cons)) hw) ?_; intro _)) | (first | (refine sx ?_; try intro _)))
          rename_i a15 a8 c9 c16
          exact JS_again5 again (i + 1) c9.1 c9.2 c16.1 c16.2 ⟨by omega, hyes⟩ (by omega) (by exact ⟨rfl, rfl, lookI rfl (by omega), rfl, rfl, rfl, trivial⟩) (fun w hw => by rw [hku, huu, ← ints_app1, ← ints_app1]; have g1 := vecB_fwd (by repeat (first | exact Sel.here _ _ | apply Sel.there)) hw; have g2 := vecB_fwd (by repeat (first | exact Sel.here _ _ | apply Sel.there)) g1; exact St.sub (by repeat (first | exact List.Sublist.refl _ | apply List.Sublist.cons_cons | apply List.Sublist.cons)) g2)
    · have hyes := hnext (hat.2 ⟨h1, by omega, fun h => absurd h h3⟩)
      repeat (first | (apply gJO; refine JO_v (V_loadCA (tb := tb) (vs := [.int .i64 tk, .int .u64 tn]) rfl (by first | exact vec_rd (by repeat (first | apply List.Mem.head | apply List.Mem.tail)) | assumption | exact ArgRd.rd (by assumption) _ | (apply Rd_weak; assumption; intro _ hx; exact St.sub (by repeat (first | exact List.Sublist.refl _ | apply List.Sublist.cons_cons | apply List.Sublist.cons)) hx)) rfl rfl rfl (by omega) gA rfl) ?_) | (first | (refine sx ?_; try intro _)))
      refine JS_tree (.node [0, 1, 2, 3, 4, 5, 6, 7, 10, 11, 12, 13, 14] 8 (.node [] 9 (.leaf [15, 16, 17, 18, 19, 20, 21, 22]) 15 (.leaf [9, 16, 17, 18, 19, 20, 21, 22])) 15 (.leaf [8, 9, 16, 17, 18, 19, 20, 21, 22])) [0, 3] (.node (Picks.cons rfl (Picks.cons rfl (Picks.cons rfl (Picks.cons rfl (Picks.cons rfl (Picks.cons rfl (Picks.cons rfl (Picks.cons rfl (Picks.cons rfl (Picks.cons rfl (Picks.cons rfl (Picks.cons rfl (Picks.cons rfl (Picks.nil)))))))))))))) rfl (.node Picks.nil rfl (.leaf (Picks.cons rfl (Picks.cons rfl (Picks.cons rfl (Picks.cons rfl (Picks.cons rfl (Picks.cons rfl (Picks.cons rfl (Picks.cons rfl (Picks.nil)))))))))) rfl (.leaf (Picks.cons rfl (Picks.cons rfl (Picks.cons rfl (Picks.cons rfl (Picks.cons rfl (Picks.cons rfl (Picks.cons rfl (Picks.cons rfl (Picks.nil))))))))))) rfl (.leaf (Picks.cons rfl (Picks.cons rfl (Picks.cons rfl (Picks.cons rfl (Picks.cons rfl (Picks.cons rfl (Picks.cons rfl (Picks.cons rfl (Picks.cons rfl (Picks.nil)))))))))))) (by kernel_rfl) (by kernel_rfl) rfl (by decide +kernel) ?_
      refine QR_node ?_
      repeat (first | (refine sx ?_; try intro _))
      refine QR_both ?_ ?_
      · apply QR_un
        (refine QO_e (E_buildSlice (tb := tb) rfl rfl rfl rfl rfl rfl rfl rfl rfl) rfl (.inr fun _ _ hw => St.sub (by repeat (first | exact List.Sublist.refl _ | apply List.Sublist.cons_cons | apply List.Sublist.cons)) hw) ?_; intro _)
        refine QR_node ?_
        refine QR_both ?_ ?_
        · apply QR_un
          (refine QO_e (E_appendB (tb := tb) rfl rfl rfl rfl rfl rfl (by repeat (first | exact Sel.here _ _ | apply Sel.there)) (by first | exact vec_rd (by repeat (first | apply List.Mem.head | apply List.Mem.tail)) | assumption | exact ArgRd.rd (by assumption) _ | (apply Rd_weak; assumption; intro _ hx; exact St.sub (by repeat (first | exact List.Sublist.refl _ | apply List.Sublist.cons_cons | apply List.Sublist.cons)) hx)) (by simp only [ints_len, List.length_cons, List.length_nil]; first | omega | rfl) (by first | exact ints_one | (repeat (first | exact trivial | refine ⟨rfl, ?_⟩))) (by omega) (by omega) rfl) rfl (.inr fun _ _ hw => vecB_back (by repeat (first | exact Sel.here _ _ | apply Sel.there)) hw) ?_; intro _)
          refine QR_leaf ?_
          repeat (first | (apply gQO; first | (refine QO_e (E_appendB (tb := tb) rfl rfl rfl rfl rfl rfl (by repeat (first | exact Sel.here _ _ | apply Sel.there)) (by first | exact vec_rd (by repeat (first | apply List.Mem.head | apply List.Mem.tail)) | assumption | exact ArgRd.rd (by assumption) _ | (apply Rd_weak; assumption; intro _ hx; exact St.sub (by repeat (first | exact List.Sublist.refl _ | apply List.Sublist.cons_cons | apply List.Sublist.cons)) hx)) (by simp only [ints_len, List.length_cons, List.length_nil]; first | omega | rfl) (by first | exact ints_one | (repeat (first | exact trivial | refine ⟨rfl, ?_⟩))) (by omega) (by omega) rfl) rfl (.inr fun _ _ hw => vecB_back (by repeat (first | exact Sel.here _ _ | apply Sel.there)) hw) ?_; intro _) | (refine QO_e (E_buildSlice (tb := tb) rfl rfl rfl rfl rfl rfl rfl rfl rfl) rfl (.inr fun _ _ hw => St.sub (by repeat (first | exact List.Sublist.refl _ | apply List.Sublist.cons_cons | apply List.Sublist.cons)) hw) ?_; intro _)) | (first | (refine sx ?_; try intro _)))
          rename_i a8 c9 a15 c16
          exact JS_again5 again (i + 1) c9.1 c9.2 c16.1 c16.2 ⟨by omega, hyes⟩ (by omega) (by exact ⟨rfl, rfl, lookI rfl (by omega), rfl, rfl, rfl, trivial⟩) (fun w hw => by rw [hku, huu, ← ints_app1, ← ints_app1]; have g1 := vecB_fwd (by repeat (first | exact Sel.here _ _ | apply Sel.there)) hw; have g2 := vecB_fwd (by repeat (first | exact Sel.here _ _ | apply Sel.there)) g1; exact St.sub (by repeat (first | exact List.Sublist.refl _ | apply List.Sublist.cons_cons | apply List.Sublist.cons)) g2)
        · apply QR_un
          (refine QO_e (E_buildSlice (tb := tb) rfl rfl rfl rfl rfl rfl rfl rfl rfl) rfl (.inr fun _ _ hw => St.sub (by repeat (first | exact List.Sublist.refl _ | apply List.Sublist.cons_cons | apply List.Sublist.cons)) hw) ?_; intro _)
          refine QR_leaf ?_
          repeat (first | (apply gQO; first | (refine QO_e (E_appendB (tb := tb) rfl rfl rfl rfl rfl rfl (by repeat (first | exact Sel.here _ _ | apply Sel.there)) (by first | exact vec_rd (by repeat (first | apply List.Mem.head | apply List.Mem.tail)) | assumption | exact ArgRd.rd (by assumption) _ | (apply Rd_weak; assumption; intro _ hx; exact St.sub (by repeat (first | exact List.Sublist.refl _ | apply List.Sublist.cons_cons | apply List.Sublist.cons)) hx)) (by simp only [ints_len, List.length_cons, List.length_nil]; first | omega | rfl) (by first | exact ints_one | (repeat (first | exact trivial | refine ⟨rfl, ?_⟩))) (by omega) (by omega) rfl) rfl (.inr fun _ _ hw => vecB_back (by repeat (first | exact Sel.here _ _ | apply Sel.there)) hw) ?_; intro _) | (refine QO_e (E_buildSlice (tb := tb) rfl rfl rfl rfl rfl rfl rfl rfl rfl) rfl (.inr fun _ _ hw => St.sub (by repeat (first | exact List.Sublist.refl _ | apply List.Sublist.cons_cons | apply List.Sublist.cons)) hw) ?_; intro _)) | (first | (refine sx ?_; try intro _)))
          rename_i a8 a15 c9 c16
          exact JS_again5 again (i + 1) c9.1 c9.2 c16.1 c16.2 ⟨by omega, hyes⟩ (by omega) (by exact ⟨rfl, rfl, lookI rfl (by omega), rfl, rfl, rfl, trivial⟩) (fun w hw => by rw [hku, huu, ← ints_app1, ← ints_app1]; have g1 := vecB_fwd (by repeat (first | exact Sel.here _ _ | apply Sel.there)) hw; have g2 := vecB_fwd (by repeat (first | exact Sel.here _ _ | apply Sel.there)) g1; exact St.sub (by repeat (first | exact List.Sublist.refl _ | apply List.Sublist.cons_cons | apply List.Sublist.cons)) g2)
      · apply QR_un
        (refine QO_e (E_buildSlice (tb := tb) rfl rfl rfl rfl rfl rfl rfl rfl rfl) rfl (.inr fun _ _ hw => St.sub (by repeat (first | exact List.Sublist.refl _ | apply List.Sublist.cons_cons | apply List.Sublist.cons)) hw) ?_; intro _)
        refine QR_leaf ?_
        repeat (first | (apply gQO; first | (refine QO_e (E_appendB (tb := tb) rfl rfl rfl rfl rfl rfl (by repeat (first | exact Sel.here _ _ | apply Sel.there)) (by first | exact vec_rd (by repeat (first | apply List.Mem.head | apply List.Mem.tail)) | assumption | exact ArgRd.rd (by assumption) _ | (apply Rd_weak; assumption; intro _ hx; exact St.sub (by repeat (first | exact List.Sublist.refl _ | apply List.Sublist.cons_cons | apply List.Sublist.cons)) hx)) (by simp only [ints_len, List.length_cons, List.length_nil]; first | omega | rfl) (by first | exact ints_one | (repeat (first | exact trivial | refine ⟨rfl, ?_⟩))) (by omega) (by omega) rfl) rfl (.inr fun _ _ hw => vecB_back (by repeat (first | exact Sel.here _ _ | apply Sel.there)) hw) ?_; intro _) | (refine QO_e (E_buildSlice (tb := tb) rfl rfl rfl rfl rfl rfl rfl rfl rfl) rfl (.inr fun _ _ hw => St.sub (by repeat (first | exact List.Sublist.refl _ | apply List.Sublist.cons_cons | apply List.Sublist.cons)) hw) ?_; intro _)) | (first | (refine sx ?_; try intro _)))
        rename_i a15 a8 c9 c16
        exact JS_again5 again (i + 1) c9.1 c9.2 c16.1 c16.2 ⟨by omega, hyes⟩ (by omega) (by exact ⟨rfl, rfl, lookI rfl (by omega), rfl, rfl, rfl, trivial⟩) (fun w hw => by rw [hku, huu, ← ints_app1, ← ints_app1]; have g1 := vecB_fwd (by repeat (first | exact Sel.here _ _ | apply Sel.there)) hw; have g2 := vecB_fwd (by repeat (first | exact Sel.here _ _ | apply Sel.there)) g1; exact St.sub (by repeat (first | exact List.Sublist.refl _ | apply List.Sublist.cons_cons | apply List.Sublist.cons)) g2)
  · obtain rfl : i = m := by omega
    clear again
    repeat (first | (refine sx ?_; try intro _))
    refine JS_ret Tryz.func70 rfl rfl ?_
    intro w hw
    subst hm
    exact ⟨_, _, rfl, .inr ⟨hok, rfl, b, _, _, _, rfl, fun _ => ⟨⟨pk, ck, pu, cu, (by repeat (first | apply List.Mem.head | apply List.Mem.tail)), vec_rd (by repeat (first | apply List.Mem.head | apply List.Mem.tail)), vec_rd (by repeat (first | apply List.Mem.head | apply List.Mem.tail))⟩, hT, hok⟩, hw⟩⟩
theorem WNew_c {w0 : World} {H : List Asn} (p : Option Addr) (c m : Nat) (T : List (Int × Int)) (hr : Rd w0 H (.slice p m c) m (flat T)) (hm : T.length = m) (hT : OKT T) (hm1 : m ≤ 1000000) (w : World) (hw : St w0 H w) :
    Calls Tryz.prog 70 #[.slice p m c] w fun e w' => ∃ u r, e = .returned (.tuple #[u, .int .i64 r]) ∧
      ((¬ RIGHT T ∧ u = .pointer none ∧ r = 1 ∧ St w0 H w') ∨ (RIGHT T ∧ r = 0 ∧ ∃ b a1 a2 a3, u = .pointer (some ⟨b, 0, none⟩) ∧ IsTab w0 (a1 :: a2 :: a3 :: H) b T ∧ St w0 (a1 :: a2 :: a3 :: H) w')) :=
  (WNewA_c p c m T hr hm hT hm1 w hw).mono fun e w' ⟨u, r, he, h⟩ => ⟨u, r, he, h.imp (fun h => h) fun ⟨h1, h2, b, a1, a2, a3, h3, h4, h5⟩ => ⟨h1, h2, b, a1, a2, a3, h3, h4 _, h5⟩⟩
end Go.Proofs.YtmnilpjgkjkecaaGreat

namespace Go.Proofs.YtmnilpjgkjkecaaGreat
open Sx Go
set_option linter.unusedVariables false
set_option linter.unusedSimpArgs false
theorem RTotal_c {w0 : World} {H : List Asn} (p : Option Addr) (c m : Nat) (T : List (Int × Int)) (hr : Rd w0 H (.slice p m c) m (flat T)) (hm : T.length = m) (hT : OKT T) (hR : RIGHT T) (hm1 : m ≤ 1000000) (w : World) (hw : St w0 H w) :
    Calls Tryz.prog 9 #[.slice p m c] w fun e w' => e = .returned (.int .u64 (sw T)) ∧ St w0 H w' := by
  refine enter (vs := [.slice p m c]) Tryz.func9 rfl rfl rfl hw ?_
  repeat (first | (apply gJR; first | (refine sx ?_; try intro _)) | (apply gJO; first | (refine sx ?_; try intro _)) | apply JS_seq | apply JS_region)
  refine JS_block ?_
  refine JS_loop1 (fun (i : Nat) => [(0, .slice p m c), (3, .int .u64 (sw (T.take i))), (4, .int .i64 i)]) (fun _ => H) (fun i => i ≤ m) (fun i => m - i) 0 (by omega) (by repeat (first | exact trivial | refine ⟨rfl, ?_⟩ | refine ⟨lookI rfl (by omega), ?_⟩)) (fun _ h => h) ?_
  intro i hi again
  by_cases him : i < m
  · have hs0 := swT_nn hT i (by omega)
    have hs1 := swT_le (i := i + 1) hT (fun j hj => hR j (by omega)) (by omega)
    have ht := hT.get i (by omega)
    have hsw := sw_take T i (by omega)
    have gB := flat_get1 T i (by omega)
    rw [hsw] at hs1
    repeat (first | (apply gJO; refine JO_v (V_loadC (tb := tb) rfl hr rfl rfl gB rfl) ?_) | (first | (refine sx ?_; try intro _)))
    exact JS_again1 again (i + 1) (by omega) (by omega) (by exact ⟨rfl, lookI rfl (by omega), rfl, trivial⟩) (fun w hw => hw)
  · obtain rfl : i = m := by omega
    clear again
    repeat (first | (refine sx ?_; try intro _))
    refine JS_ret Tryz.func9 rfl rfl ?_
    intro w hw
    rw [List.take_of_length_le (by omega)]
    exact ⟨rfl, hw⟩
/-- how many things have a lesser key, or that one too -/
def bl (k : Int) (too : Bool) : List (Int × Int) → Int
  | [] => 0
  | t :: r => (if t.1 < k ∨ (too = true ∧ t.1 = k) then t.2 else 0) + bl k too r
theorem bl_app (k : Int) (too : Bool) : ∀ A B, bl k too (A ++ B) = bl k too A + bl k too B
  | [], B => by simp [bl]
  | t :: r, B => by simp only [List.cons_append, bl, bl_app k too r B]; omega
theorem bl_take (k : Int) (too : Bool) (T : List (Int × Int)) (i : Nat) (h : i < T.length) : bl k too (T.take (i + 1)) = bl k too (T.take i) + if (T.getD i (0, 0)).1 < k ∨ (too = true ∧ (T.getD i (0, 0)).1 = k) then (T.getD i (0, 0)).2 else 0 := by
  rw [take_step T i h, bl_app]; simp [bl]
theorem bl_bd (k : Int) (too : Bool) {T : List (Int × Int)} (hT : OKT T) : ∀ i, i ≤ T.length → 0 ≤ bl k too (T.take i) ∧ bl k too (T.take i) ≤ sw (T.take i)
  | 0, _ => by simp [bl, sw]
  | i + 1, hi => by
    rw [sw_take T i (by omega), bl_take k too T i (by omega)]
    have := bl_bd k too hT i (by omega)
    have := (hT.get i (by omega)).2
    split <;> omega
set_option maxHeartbeats 1000000 in
theorem RBelow_c {w0 : World} {H : List Asn} (p : Option Addr) (c m : Nat) (T : List (Int × Int)) (k : Int) (too : Bool) (hr : Rd w0 H (.slice p m c) m (flat T)) (hm : T.length = m) (hT : OKT T) (hR : RIGHT T) (hm1 : m ≤ 1000000) (w : World) (hw : St w0 H w) :
    Calls Tryz.prog 41 #[.slice p m c, .int .i64 k, .bool too] w fun e w' => e = .returned (.int .u64 (bl k too T)) ∧ St w0 H w' := by
  refine enter (vs := [.slice p m c, .int .i64 k, .bool too]) Tryz.func41 rfl rfl rfl hw ?_
  repeat (first | (apply gJR; first | (refine sx ?_; try intro _)) | (apply gJO; first | (refine sx ?_; try intro _)) | apply JS_seq | apply JS_region)
  refine JS_block ?_
  refine JS_loop1 (fun (i : Nat) => [(0, .slice p m c), (1, .int .i64 k), (2, .bool too), (7, .int .u64 (bl k too (T.take i))), (8, .int .i64 i)]) (fun _ => H) (fun i => i ≤ m) (fun i => m - i) 0 (by omega) (by repeat (first | exact trivial | refine ⟨rfl, ?_⟩ | refine ⟨lookI rfl (by omega), ?_⟩)) (fun _ h => h) ?_
  intro i hi again
  by_cases him : i < m
  · have hs0 := bl_bd k too hT (i + 1) (by omega)
    have hs1 := swT_le (i := i + 1) hT (fun j hj => hR j (by omega)) (by omega)
    have hs2 := bl_bd k too hT i (by omega)
    have ht := hT.get i (by omega)
    have hb := bl_take k too T i (by omega)
    have gA := flat_get0 T i (by omega)
    have gB := flat_get1 T i (by omega)
    generalize T.getD i (0, 0) = t at *
    obtain ⟨tk, tn⟩ := t
    simp only [] at *
    by_cases h1 : tk < k
    · rw [if_pos (.inl h1)] at hb
      rw [hb] at hs0
      repeat (first | (apply gJO; first | refine JO_v (V_loadC (tb := tb) rfl hr rfl rfl gA rfl) ?_ | refine JO_v (V_loadC (tb := tb) rfl hr rfl rfl gB rfl) ?_) | (first | (refine sx ?_; try intro _)))
      exact JS_again1 again (i + 1) (by omega) (by omega) (by exact ⟨rfl, rfl, rfl, lookI rfl (by omega), rfl, trivial⟩) (fun w hw => hw)
    · cases too
      · rw [if_neg (by simp; omega)] at hb
        repeat (first | (apply gJO; first | refine JO_v (V_loadC (tb := tb) rfl hr rfl rfl gA rfl) ?_ | refine JO_v (V_loadC (tb := tb) rfl hr rfl rfl gB rfl) ?_) | (first | (refine sx ?_; try intro _)))
        exact JS_again1 again (i + 1) (by omega) (by omega) (by exact ⟨rfl, rfl, rfl, lookI rfl (by omega), rfl, trivial⟩) (fun w hw => hw)
      · by_cases h2 : tk = k
        · rw [if_pos (.inr ⟨rfl, h2⟩)] at hb
          rw [hb] at hs0
          repeat (first | (apply gJO; first | refine JO_v (V_loadC (tb := tb) rfl hr rfl rfl gA rfl) ?_ | refine JO_v (V_loadC (tb := tb) rfl hr rfl rfl gB rfl) ?_) | (first | (refine sx ?_; try intro _)))
          exact JS_again1 again (i + 1) (by omega) (by omega) (by exact ⟨rfl, rfl, rfl, lookI rfl (by omega), rfl, trivial⟩) (fun w hw => hw)
        · rw [if_neg (by simp; omega)] at hb
          repeat (first | (apply gJO; first | refine JO_v (V_loadC (tb := tb) rfl hr rfl rfl gA rfl) ?_ | refine JO_v (V_loadC (tb := tb) rfl hr rfl rfl gB rfl) ?_) | (first | (refine sx ?_; try intro _)))
          exact JS_again1 again (i + 1) (by omega) (by omega) (by exact ⟨rfl, rfl, rfl, lookI rfl (by omega), rfl, trivial⟩) (fun w hw => hw)
  · obtain rfl : i = m := by omega
    clear again
    repeat (first | (refine sx ?_; try intro _))
    refine JS_ret Tryz.func41 rfl rfl ?_
    intro w hw
    rw [List.take_of_length_le (by omega)]
    exact ⟨rfl, hw⟩
/-- rising keys -/
theorem rise {T : List (Int × Int)} (hR : RIGHT T) (i : Nat) : ∀ d, i + d + 1 < T.length + 0 → (T.getD i (0, 0)).1 < (T.getD (i + d + 1) (0, 0)).1
  | 0, h => by
    have := (hR (i + 1) (by omega)).2.2 (by omega)
    rwa [Nat.add_sub_cancel] at this
  | d + 1, h => by
    have h1 := rise hR i d (by omega)
    have h2 := (hR (i + (d + 1) + 1) (by omega)).2.2 (by omega)
    rw [show i + (d + 1) + 1 - 1 = i + d + 1 by omega] at h2
    omega
theorem rise_lt {T : List (Int × Int)} (hR : RIGHT T) {i j : Nat} (hij : i < j) (hj : j < T.length) : (T.getD i (0, 0)).1 < (T.getD j (0, 0)).1 := by
  have := rise hR i (j - i - 1) (by omega)
  rwa [show i + (j - i - 1) + 1 = j by omega] at this
/-- where the lesser keys end -/
theorem bl_cut {T : List (Int × Int)} (k : Int) (too : Bool) (j : Nat) (hj : j ≤ T.length) (h1 : ∀ i, i < j → (T.getD i (0, 0)).1 < k ∨ (too = true ∧ (T.getD i (0, 0)).1 = k)) (h2 : ∀ i, j ≤ i → i < T.length → ¬ ((T.getD i (0, 0)).1 < k ∨ (too = true ∧ (T.getD i (0, 0)).1 = k))) : bl k too T = sw (T.take j) := by
  have key : ∀ i, i ≤ T.length → bl k too (T.take i) = sw (T.take (min i j)) := by
    intro i
    induction i with
    | zero => intro _; simp [bl, sw]
    | succ i ih =>
      intro hi
      rw [bl_take k too T i (by omega), ih (by omega)]
      by_cases h : i < j
      · rw [if_pos (h1 i h), Nat.min_eq_left (by omega), Nat.min_eq_left (by omega), sw_take T i (by omega)]
      · rw [if_neg (h2 i (by omega) (by omega)), Nat.min_eq_right (by omega), Nat.min_eq_right (by omega)]; omega
  have := key T.length (Nat.le_refl _)
  rwa [List.take_length, Nat.min_eq_right hj] at this
theorem le_or {x k : Int} (h : x ≤ k) : x < k ∨ (true = true ∧ x = k) := by
  rcases Int.lt_or_eq_of_le h with h | h
  · exact .inl h
  · exact .inr ⟨rfl, h⟩
theorem bl_below {T : List (Int × Int)} (hR : RIGHT T) (k : Int) (j : Nat) (hj : j ≤ T.length) (h1 : j = 0 ∨ (T.getD (j - 1) (0, 0)).1 < k) (h2 : j = T.length ∨ k ≤ (T.getD j (0, 0)).1) : bl k false T = sw (T.take j) := by
  refine bl_cut k false j hj (fun i hi => .inl ?_) (fun i hi hl => ?_)
  · rcases h1 with h | h
    · omega
    · rcases Nat.eq_or_lt_of_le (show i ≤ j - 1 by omega) with h3 | h3
      · rw [h3]; exact h
      · have := rise_lt hR h3 (by omega); omega
  · rcases h2 with h | h
    · omega
    · have h4 : k ≤ (T.getD i (0, 0)).1 := by
        rcases Nat.eq_or_lt_of_le hi with h3 | h3
        · rw [← h3]; exact h
        · have := rise_lt hR h3 hl; omega
      rintro (h5 | ⟨h5, _⟩)
      · omega
      · cases h5
theorem bl_upto {T : List (Int × Int)} (hR : RIGHT T) (k : Int) (j : Nat) (hj : j ≤ T.length) (h1 : j = 0 ∨ (T.getD (j - 1) (0, 0)).1 ≤ k) (h2 : j = T.length ∨ k < (T.getD j (0, 0)).1) : bl k true T = sw (T.take j) := by
  refine bl_cut k true j hj (fun i hi => le_or ?_) (fun i hi hl => ?_)
  · rcases h1 with h | h
    · omega
    · rcases Nat.eq_or_lt_of_le (show i ≤ j - 1 by omega) with h3 | h3
      · rw [h3]; exact h
      · have := rise_lt hR h3 (by omega); omega
  · rcases h2 with h | h
    · omega
    · have h4 : k < (T.getD i (0, 0)).1 := by
        rcases Nat.eq_or_lt_of_le hi with h3 | h3
        · rw [← h3]; exact h
        · have := rise_lt hR h3 hl; omega
      rintro (h5 | ⟨_, h5⟩) <;> omega
theorem bl_at {T : List (Int × Int)} (hR : RIGHT T) (i : Nat) (hi : i < T.length) : bl (T.getD i (0, 0)).1 true T = sw (T.take (i + 1)) := by
  refine bl_upto hR _ (i + 1) (by omega) (.inr (by rw [Nat.add_sub_cancel]; exact Int.le_refl _)) ?_
  by_cases h : i + 1 = T.length
  · exact .inl h
  · exact .inr (rise_lt hR (by omega) (by omega))
theorem sw_mono {T : List (Int × Int)} (hT : OKT T) (i : Nat) : ∀ d, i + d ≤ T.length → sw (T.take i) ≤ sw (T.take (i + d))
  | 0, _ => Int.le_refl _
  | d + 1, h => by
    have h1 := sw_mono hT i d (by omega)
    have h2 := sw_take T (i + d) (by omega)
    have h3 := (hT.get (i + d) (by omega)).2
    rw [show i + (d + 1) = i + d + 1 from rfl, h2]; omega
/-- the key of a rank -/
def KY (T : List (Int × Int)) (r v : Int) : Prop := (∃ i : Nat, i < T.length ∧ (i = 0 ∨ sw (T.take i) < r) ∧ r ≤ sw (T.take (i + 1)) ∧ v = (T.getD i (0, 0)).1) ∨ ((∀ i : Nat, i < T.length → sw (T.take (i + 1)) < r) ∧ v = 0)
theorem KY_fun {T : List (Int × Int)} (hT : OKT T) {r v v' : Int} (h : KY T r v) (h' : KY T r v') : v = v' := by
  have key : ∀ i j : Nat, i < j → j < T.length → (j = 0 ∨ sw (T.take j) < r) → r ≤ sw (T.take (i + 1)) → False := by
    intro i j hij hj h1 h2
    have := sw_mono hT (i + 1) (j - (i + 1)) (by omega)
    rw [show i + 1 + (j - (i + 1)) = j by omega] at this
    omega
  rcases h with ⟨i, h1, h2, h3, rfl⟩ | ⟨h1, rfl⟩ <;> rcases h' with ⟨j, g1, g2, g3, rfl⟩ | ⟨g1, rfl⟩
  · rcases Nat.lt_trichotomy i j with h | h | h
    · exact (key i j h g1 g2 h3).elim
    · rw [h]
    · exact (key j i h h1 h2 g3).elim
  · have := g1 i h1; omega
  · have := h1 j g1; omega
  · rfl
set_option maxHeartbeats 1000000 in
theorem RKey_c {w0 : World} {H : List Asn} (p : Option Addr) (c m : Nat) (T : List (Int × Int)) (r : Int) (hr : Rd w0 H (.slice p m c) m (flat T)) (hm : T.length = m) (hT : OKT T) (hR : RIGHT T) (hm1 : m ≤ 1000000) (w : World) (hw : St w0 H w) :
    Calls Tryz.prog 13 #[.slice p m c, .int .u64 r] w fun e w' => ∃ v, e = .returned (.int .i64 v) ∧ St w0 H w' ∧ KY T r v := by
  refine enter (vs := [.slice p m c, .int .u64 r]) Tryz.func13 rfl rfl rfl hw ?_
  repeat (first | (apply gJR; first | (refine sx ?_; try intro _)) | (apply gJO; first | (refine sx ?_; try intro _)) | apply JS_seq | apply JS_region)
  refine JS_block ?_
  refine JS_loop1 (fun (i : Nat) => [(0, .slice p m c), (1, .int .u64 r), (5, .int .i64 i)]) (fun _ => H) (fun i => i ≤ m ∧ ∀ j : Nat, j < i → sw (T.take (j + 1)) < r) (fun i => m - i) 0 ⟨by omega, fun j h => absurd h (by omega)⟩ (by repeat (first | exact trivial | refine ⟨rfl, ?_⟩ | refine ⟨lookI rfl (by omega), ?_⟩)) (fun _ h => h) ?_
  intro i ⟨hi, hlt⟩ again
  by_cases him : i < m
  · have gA := flat_get0 T i (by omega)
    have hat := bl_at hR i (by omega)
    repeat (first | (apply gJO; first | refine JO_v (V_loadC (tb := tb) rfl hr rfl rfl gA rfl) ?_) | (first | (refine sx ?_; try intro _)))
    refine JO_call Tryz.call41 rfl rfl fun w hw => (RBelow_c p c m T _ true hr hm hT hR hm1 w hw).mono ?_
    rintro e w' ⟨rfl, hw'⟩
    rw [hat]
    refine ⟨_, rfl, _, hw', ?_⟩
    clear hw' hw w w'
    by_cases hge : r ≤ sw (T.take (i + 1))
    · repeat (first | (apply gJO; first | refine JO_v (V_loadC (tb := tb) rfl hr rfl rfl gA rfl) ?_) | (first | (refine sx ?_; try intro _)))
      refine JS_ret Tryz.func13 rfl rfl ?_
      intro w hw
      refine ⟨_, rfl, hw, .inl ⟨i, by omega, ?_, hge, rfl⟩⟩
      by_cases h0 : i = 0
      · exact .inl h0
      · have := hlt (i - 1) (by omega)
        rw [show i - 1 + 1 = i by omega] at this
        exact .inr this
    · repeat (first | (refine sx ?_; try intro _))
      exact JS_again1 again (i + 1) ⟨by omega, fun j hj => by
        rcases Nat.lt_or_ge j i with h | h
        · exact hlt j h
        · obtain rfl : j = i := by omega
          omega⟩ (by omega) (by repeat (first | exact trivial | refine ⟨rfl, ?_⟩ | refine ⟨lookI rfl (by omega), ?_⟩)) (fun w hw => hw)
  · obtain rfl : i = m := by omega
    clear again
    repeat (first | (refine sx ?_; try intro _))
    refine JS_ret Tryz.func13 rfl rfl ?_
    intro w hw
    exact ⟨0, rfl, hw, .inr ⟨fun j hj => hlt j (by omega), rfl⟩⟩
end Go.Proofs.YtmnilpjgkjkecaaGreat

namespace Go.Proofs.YtmnilpjgkjkecaaGreat
open Sx Go Hd
set_option linter.unusedVariables false
set_option linter.unusedSimpArgs false
/-- n more of a key -/
def putT (k n : Int) : List (Int × Int) → List (Int × Int)
  | [] => [(k, n)]
  | x :: r => if x.1 < k then x :: putT k n r else if x.1 = k then (k, x.2 + n) :: r else (k, n) :: x :: r
theorem flat_app1 (O : List (Int × Int)) (a b : Int) : flat O ++ [.int .i64 a, .int .u64 b] = flat (O ++ [(a, b)]) := by rw [flat_app]; rfl
theorem len_app1 {α : Type} (O : List α) (x : α) : (O ++ [x]).length = O.length + 1 := by simp
theorem putT_lt {k n : Int} {x : Int × Int} {r : List (Int × Int)} (h : x.1 < k) : putT k n (x :: r) = x :: putT k n r := by rw [putT, if_pos h]
theorem putT_eq {k n : Int} {x : Int × Int} {r : List (Int × Int)} (h : x.1 = k) : putT k n (x :: r) = (k, x.2 + n) :: r := by rw [putT, if_neg (by omega), if_pos h]
theorem putT_gt {k n : Int} {x : Int × Int} {r : List (Int × Int)} (h : k < x.1) : putT k n (x :: r) = (k, n) :: x :: r := by rw [putT, if_neg (by omega), if_neg (by omega)]
section
variable {w0 : World} {H : List Asn}
set_option maxRecDepth 10000 in
set_option maxHeartbeats 8000000 in
theorem RPut_c (p : Option Addr) (c m : Nat) (T : List (Int × Int)) (k n : Int) (hr : Rd w0 H (.slice p m c) m (flat T)) (hm : T.length = m) (hT : OKT T) (hk : -9223372036854775808 ≤ k ∧ k < 9223372036854775808) (hn : 0 ≤ n ∧ n < 18446744073709551616) (hb : ∀ i, i < T.length → (T.getD i (0, 0)).2 + n < 18446744073709551616) (hm1 : m ≤ 1000000) (w : World) (hw : St w0 H w) :
    Calls Tryz.prog 95 #[.slice p m c, .int .i64 k, .int .u64 n] w fun e w' => ∃ q d, e = .returned (.slice q (putT k n T).length d) ∧ St w0 (vec 63 2 (.slice q (putT k n T).length d) (putT k n T).length (flat (putT k n T)) :: H) w' := by
  refine enter (vs := [.slice p m c, .int .i64 k, .int .u64 n]) Tryz.func95 rfl rfl rfl hw ?_
  clear hw w
  repeat (first | (apply gJR; first | (refine sx ?_; try intro _)) | (apply gJO; first | (refine sx ?_; try intro _)) | apply JS_seq | apply JS_region)
  refine JS_block ?_
  refine JS_loop5 (fun (i : Nat) (dn : Bool) (O : List (Int × Int)) (q : Option Addr) (d : Nat) => [(0, .slice p m c), (1, .int .i64 k), (2, .int .u64 n), (7, .slice q O.length d), (8, .bool dn), (9, .int .i64 i)])
    (fun i dn O q d => vec 63 2 (.slice q O.length d) O.length (flat O) :: H)
    (fun i dn O q d => i ≤ m ∧ (O.length ≤ i + 1 ∧ (dn = false → O.length ≤ i)) ∧ putT k n T = O ++ (if dn then T.drop i else putT k n (T.drop i))) (fun i _ _ _ _ => m - i) 0 false [] none 0 ⟨Nat.zero_le _, ⟨Nat.zero_le _, fun _ => Nat.le_refl _⟩, rfl⟩ (by repeat (first | exact trivial | refine ⟨rfl, ?_⟩ | refine ⟨lookI rfl (by omega), ?_⟩)) (fun w hw => St.nilvec hw) ?_
  intro i dn O q d ⟨hi, ⟨hO, hO2⟩, hput⟩ again
  by_cases him : i < m
  · have hbi := hb i (by omega)
    have htg := hT.get i (by omega)
    have g0 := flat_get0 T i (by omega)
    have g1 := flat_get1 T i (by omega)
    have hat := flat_seg T i (by omega)
    have hdr : T.drop i = T.getD i (0, 0) :: T.drop (i + 1) := by
      rw [List.drop_eq_getElem_cons (by omega), List.getD_eq_getElem?_getD, List.getElem?_eq_getElem (by omega)]; rfl
    rw [hdr] at hput
    obtain ⟨x, hx⟩ : ∃ x, T.getD i (0, 0) = x := ⟨_, rfl⟩
    rw [hx] at hbi htg g0 g1 hat hput
    obtain ⟨a, b⟩ := x
    simp only [] at hbi htg g0 g1 hat
    cases dn with
    | true =>
      rw [if_pos rfl] at hput
      repeat (first | (apply gJO; first | refine JO_v (oL (V_loadCA (tb := tb) rfl (Rd_weak hr fun w hw => St.sub (by repeat (first | exact List.Sublist.refl _ | apply List.Sublist.cons_cons | apply List.Sublist.cons)) hw) rfl rfl rfl (by decide) hat rfl)) ?_ | (refine JO_app (tb := tb) rfl rfl rfl rfl rfl rfl (by repeat (first | exact Sel.here _ _ | apply Sel.there)) (vec_rd (List.Mem.head _)) (by rfl) ⟨rfl, rfl, trivial⟩ (by omega) rfl ?_; intro _ _)) | (first | (refine sx ?_; try intro _)))
      exact JS_again5 again (i + 1) true (O ++ [(a, b)]) _ _ ⟨by omega, ⟨by rw [len_app1]; omega, fun h => absurd h (by decide)⟩, by rw [hput, if_pos rfl, List.append_assoc]; rfl⟩ (by omega) (by rw [len_app1]; exact (by repeat (first | exact trivial | refine ⟨rfl, ?_⟩ | refine ⟨lookI rfl (by omega), ?_⟩))) (fun w hw => by rw [← flat_app1, len_app1]; exact St.sub (by repeat (first | exact List.Sublist.refl _ | apply List.Sublist.cons_cons | apply List.Sublist.cons)) hw)
    | false =>
      rw [if_neg (by decide)] at hput
      have hO2 := hO2 rfl
      by_cases hlt : a < k
      · rw [putT_lt hlt] at hput
        repeat (first | (apply gJO; first | refine JO_v (oL (V_loadC (tb := tb) rfl (Rd_weak hr fun w hw => St.sub (by repeat (first | exact List.Sublist.refl _ | apply List.Sublist.cons_cons | apply List.Sublist.cons)) hw) rfl rfl g0 rfl)) ?_ | refine JO_v (oL (V_loadCA (tb := tb) rfl (Rd_weak hr fun w hw => St.sub (by repeat (first | exact List.Sublist.refl _ | apply List.Sublist.cons_cons | apply List.Sublist.cons)) hw) rfl rfl rfl (by decide) hat rfl)) ?_ | (refine JO_app (tb := tb) rfl rfl rfl rfl rfl rfl (by repeat (first | exact Sel.here _ _ | apply Sel.there)) (vec_rd (List.Mem.head _)) (by rfl) ⟨rfl, rfl, trivial⟩ (by omega) rfl ?_; intro _ _)) | (first | (refine sx ?_; try intro _)))
        exact JS_again5 again (i + 1) false (O ++ [(a, b)]) _ _ ⟨by omega, ⟨by rw [len_app1]; omega, fun _ => by rw [len_app1]; omega⟩, by rw [hput, if_neg (by decide), List.append_assoc]; rfl⟩ (by omega) (by rw [len_app1]; exact (by repeat (first | exact trivial | refine ⟨rfl, ?_⟩ | refine ⟨lookI rfl (by omega), ?_⟩))) (fun w hw => by rw [← flat_app1, len_app1]; exact St.sub (by repeat (first | exact List.Sublist.refl _ | apply List.Sublist.cons_cons | apply List.Sublist.cons)) hw)
      · by_cases heq : a = k
        · subst heq
          rw [putT_eq (x := (a, b)) rfl] at hput
          have c1 : IntKind.u64.wrap (b + n) = b + n := wu64 (by omega)
          repeat (first | (apply gJO; first | refine JO_v (oL (V_loadC (tb := tb) rfl (Rd_weak hr fun w hw => St.sub (by repeat (first | exact List.Sublist.refl _ | apply List.Sublist.cons_cons | apply List.Sublist.cons)) hw) rfl rfl g0 rfl)) ?_ | refine JO_v (oL (V_loadC (tb := tb) rfl (Rd_weak hr fun w hw => St.sub (by repeat (first | exact List.Sublist.refl _ | apply List.Sublist.cons_cons | apply List.Sublist.cons)) hw) rfl rfl g1 rfl)) ?_ | refine JO_v (V_add rfl rfl c1 rfl) ?_ | (refine JO_app (tb := tb) rfl rfl rfl rfl rfl rfl (by repeat (first | exact Sel.here _ _ | apply Sel.there)) (vec_rd (List.Mem.head _)) (by rfl) ⟨rfl, rfl, trivial⟩ (by omega) rfl ?_; intro _ _)) | (first | (refine sx ?_; try intro _)))
          exact JS_again5 again (i + 1) true (O ++ [(a, b + n)]) _ _ ⟨by omega, ⟨by rw [len_app1]; omega, fun h => absurd h (by decide)⟩, by rw [hput, if_pos rfl, List.append_assoc]; rfl⟩ (by omega) (by rw [len_app1]; exact (by repeat (first | exact trivial | refine ⟨rfl, ?_⟩ | refine ⟨lookI rfl (by omega), ?_⟩))) (fun w hw => by rw [← flat_app1, len_app1]; exact St.sub (by repeat (first | exact List.Sublist.refl _ | apply List.Sublist.cons_cons | apply List.Sublist.cons)) hw)
        · rw [putT_gt (show k < (a, b).1 by show k < a; omega)] at hput
          repeat (first | (apply gJO; first | refine JO_v (oL (V_loadC (tb := tb) rfl (Rd_weak hr fun w hw => St.sub (by repeat (first | exact List.Sublist.refl _ | apply List.Sublist.cons_cons | apply List.Sublist.cons)) hw) rfl rfl g0 rfl)) ?_ | refine JO_v (oL (V_loadCA (tb := tb) rfl (Rd_weak hr fun w hw => St.sub (by repeat (first | exact List.Sublist.refl _ | apply List.Sublist.cons_cons | apply List.Sublist.cons)) hw) rfl rfl rfl (by decide) hat rfl)) ?_ | (refine JO_app (tb := tb) rfl rfl rfl rfl rfl rfl (by repeat (first | exact Sel.here _ _ | apply Sel.there)) (vec_rd (List.Mem.head _)) (by rfl) ⟨rfl, rfl, trivial⟩ (by omega) rfl ?_; intro _ _)) | (first | (refine sx ?_; try intro _)))
          exact JS_again5 again (i + 1) true (O ++ [(k, n)] ++ [(a, b)]) _ _ ⟨by omega, ⟨by rw [len_app1, len_app1]; omega, fun h => absurd h (by decide)⟩, by rw [hput, if_pos rfl, List.append_assoc, List.append_assoc]; rfl⟩ (by omega) (by rw [len_app1, len_app1]; exact (by repeat (first | exact trivial | refine ⟨rfl, ?_⟩ | refine ⟨lookI rfl (by omega), ?_⟩))) (fun w hw => by rw [← flat_app1, ← flat_app1, len_app1, len_app1]; exact St.sub (by repeat (first | exact List.Sublist.refl _ | apply List.Sublist.cons_cons | apply List.Sublist.cons)) hw)
  · obtain rfl : i = m := by omega
    clear again
    rw [List.drop_of_length_le (by omega)] at hput
    cases dn with
    | true =>
      rw [if_pos rfl, List.append_nil] at hput
      rw [hput]
      repeat (first | (refine sx ?_; try intro _))
      exact JS_ret Tryz.func95 rfl rfl fun w hw => ⟨q, d, rfl, hw⟩
    | false =>
      have hput' : putT k n T = O ++ [(k, n)] := by rw [hput]; rfl
      rw [hput', len_app1, ← flat_app1]
      repeat (first | (apply gJO; (refine JO_app (tb := tb) rfl rfl rfl rfl rfl rfl (by repeat (first | exact Sel.here _ _ | apply Sel.there)) (vec_rd (List.Mem.head _)) (by rfl) ⟨rfl, rfl, trivial⟩ (by omega) rfl ?_; intro _ _)) | (first | (refine sx ?_; try intro _)))
      exact JS_ret Tryz.func95 rfl rfl fun w hw => ⟨_, _, rfl, St.sub (by repeat (first | exact List.Sublist.refl _ | apply List.Sublist.cons_cons | apply List.Sublist.cons)) hw⟩
end
end Go.Proofs.YtmnilpjgkjkecaaGreat
