import Derived.Test.YtbiocgenbgbfpaaTb
import Derived.WalkKit
/- Steps whose side goals are sought by a default tactic: one word an operation. -/
namespace Go.Proofs.Ytbiocgenbgbfpaa
open Sx Go
section
variable {f n : Nat} {R : Ending → World → Prop} {D : List Deferred} {w0 : World} {k : List Item} {ov : Ov} {H H' : List Asn} {K : KC} {Z : Array Oper × List Nat}
  {ops : Array Oper} {l : List Oper} {d : Option Nat} {T T1 T2 : Nat} {pos : String} {af : Array Edge} {g : Option (Nat × Bool)} {x y z : Operand} {v u : Value} {op : Op} {bop : BinOp} {c : Call}
theorem oB (h : OpV Try.prog n D w0 ov H ⟨d, .binOp bop T1 x y T2, T, pos, af, g⟩ v) : OpV Try.prog n D w0 ov H ⟨d, .binOp bop T1 x y T2, T, pos, af, g⟩ v := h
theorem oK (h : OpV Try.prog n D w0 ov H ⟨d, .binOp bop T1 x (.const u) T2, T, pos, af, g⟩ v) : OpV Try.prog n D w0 ov H ⟨d, .binOp bop T1 x (.const u) T2, T, pos, af, g⟩ v := h
theorem ob_add (h : OpV Try.prog n D w0 ov H ⟨d, .binOp .add T1 x y T2, T, pos, af, g⟩ v) : OpV Try.prog n D w0 ov H ⟨d, .binOp .add T1 x y T2, T, pos, af, g⟩ v := h
theorem ob_sub (h : OpV Try.prog n D w0 ov H ⟨d, .binOp .sub T1 x y T2, T, pos, af, g⟩ v) : OpV Try.prog n D w0 ov H ⟨d, .binOp .sub T1 x y T2, T, pos, af, g⟩ v := h
theorem ob_mul (h : OpV Try.prog n D w0 ov H ⟨d, .binOp .mul T1 x y T2, T, pos, af, g⟩ v) : OpV Try.prog n D w0 ov H ⟨d, .binOp .mul T1 x y T2, T, pos, af, g⟩ v := h
theorem ob_quo (h : OpV Try.prog n D w0 ov H ⟨d, .binOp .quo T1 x y T2, T, pos, af, g⟩ v) : OpV Try.prog n D w0 ov H ⟨d, .binOp .quo T1 x y T2, T, pos, af, g⟩ v := h
theorem ob_rem (h : OpV Try.prog n D w0 ov H ⟨d, .binOp .rem T1 x y T2, T, pos, af, g⟩ v) : OpV Try.prog n D w0 ov H ⟨d, .binOp .rem T1 x y T2, T, pos, af, g⟩ v := h
theorem ob_and (h : OpV Try.prog n D w0 ov H ⟨d, .binOp .and T1 x y T2, T, pos, af, g⟩ v) : OpV Try.prog n D w0 ov H ⟨d, .binOp .and T1 x y T2, T, pos, af, g⟩ v := h
theorem ob_or (h : OpV Try.prog n D w0 ov H ⟨d, .binOp .or T1 x y T2, T, pos, af, g⟩ v) : OpV Try.prog n D w0 ov H ⟨d, .binOp .or T1 x y T2, T, pos, af, g⟩ v := h
theorem ob_xor (h : OpV Try.prog n D w0 ov H ⟨d, .binOp .xor T1 x y T2, T, pos, af, g⟩ v) : OpV Try.prog n D w0 ov H ⟨d, .binOp .xor T1 x y T2, T, pos, af, g⟩ v := h
theorem ob_shl (h : OpV Try.prog n D w0 ov H ⟨d, .binOp .shl T1 x y T2, T, pos, af, g⟩ v) : OpV Try.prog n D w0 ov H ⟨d, .binOp .shl T1 x y T2, T, pos, af, g⟩ v := h
theorem ob_shr (h : OpV Try.prog n D w0 ov H ⟨d, .binOp .shr T1 x y T2, T, pos, af, g⟩ v) : OpV Try.prog n D w0 ov H ⟨d, .binOp .shr T1 x y T2, T, pos, af, g⟩ v := h
theorem ob_eql (h : OpV Try.prog n D w0 ov H ⟨d, .binOp .eql T1 x y T2, T, pos, af, g⟩ v) : OpV Try.prog n D w0 ov H ⟨d, .binOp .eql T1 x y T2, T, pos, af, g⟩ v := h
theorem ob_neq (h : OpV Try.prog n D w0 ov H ⟨d, .binOp .neq T1 x y T2, T, pos, af, g⟩ v) : OpV Try.prog n D w0 ov H ⟨d, .binOp .neq T1 x y T2, T, pos, af, g⟩ v := h
theorem ob_lss (h : OpV Try.prog n D w0 ov H ⟨d, .binOp .lss T1 x y T2, T, pos, af, g⟩ v) : OpV Try.prog n D w0 ov H ⟨d, .binOp .lss T1 x y T2, T, pos, af, g⟩ v := h
theorem ob_leq (h : OpV Try.prog n D w0 ov H ⟨d, .binOp .leq T1 x y T2, T, pos, af, g⟩ v) : OpV Try.prog n D w0 ov H ⟨d, .binOp .leq T1 x y T2, T, pos, af, g⟩ v := h
theorem ob_gtr (h : OpV Try.prog n D w0 ov H ⟨d, .binOp .gtr T1 x y T2, T, pos, af, g⟩ v) : OpV Try.prog n D w0 ov H ⟨d, .binOp .gtr T1 x y T2, T, pos, af, g⟩ v := h
theorem ob_geq (h : OpV Try.prog n D w0 ov H ⟨d, .binOp .geq T1 x y T2, T, pos, af, g⟩ v) : OpV Try.prog n D w0 ov H ⟨d, .binOp .geq T1 x y T2, T, pos, af, g⟩ v := h
theorem oc_len {xs : Array Operand} {ts : Array Nat} (h : OpV Try.prog n D w0 ov H ⟨d, .call ⟨.builtin .len, xs, ts⟩, T, pos, af, g⟩ v) : OpV Try.prog n D w0 ov H ⟨d, .call ⟨.builtin .len, xs, ts⟩, T, pos, af, g⟩ v := h
theorem oc_cap {xs : Array Operand} {ts : Array Nat} (h : OpV Try.prog n D w0 ov H ⟨d, .call ⟨.builtin .cap, xs, ts⟩, T, pos, af, g⟩ v) : OpV Try.prog n D w0 ov H ⟨d, .call ⟨.builtin .cap, xs, ts⟩, T, pos, af, g⟩ v := h
theorem oc_min {xs : Array Operand} {ts : Array Nat} (h : OpV Try.prog n D w0 ov H ⟨d, .call ⟨.builtin .min, xs, ts⟩, T, pos, af, g⟩ v) : OpV Try.prog n D w0 ov H ⟨d, .call ⟨.builtin .min, xs, ts⟩, T, pos, af, g⟩ v := h
theorem oc_max {xs : Array Operand} {ts : Array Nat} (h : OpV Try.prog n D w0 ov H ⟨d, .call ⟨.builtin .max, xs, ts⟩, T, pos, af, g⟩ v) : OpV Try.prog n D w0 ov H ⟨d, .call ⟨.builtin .max, xs, ts⟩, T, pos, af, g⟩ v := h
theorem oMv (h : OpV Try.prog n D w0 ov H ⟨d, .move x, T, pos, af, g⟩ v) : OpV Try.prog n D w0 ov H ⟨d, .move x, T, pos, af, g⟩ v := h
theorem oAs (h : OpV Try.prog n D w0 ov H ⟨d, .assign x, T, pos, af, g⟩ v) : OpV Try.prog n D w0 ov H ⟨d, .assign x, T, pos, af, g⟩ v := h
theorem oL (h : OpV Try.prog n D w0 ov H ⟨d, .load T1 x, T, pos, af, g⟩ v) : OpV Try.prog n D w0 ov H ⟨d, .load T1 x, T, pos, af, g⟩ v := h
theorem oE (h : OpV Try.prog n D w0 ov H ⟨d, .extract x T1, T, pos, af, g⟩ v) : OpV Try.prog n D w0 ov H ⟨d, .extract x T1, T, pos, af, g⟩ v := h
theorem oCv (h : OpV Try.prog n D w0 ov H ⟨d, .convert T1 T2 x, T, pos, af, g⟩ v) : OpV Try.prog n D w0 ov H ⟨d, .convert T1 T2 x, T, pos, af, g⟩ v := h
theorem oP (h : OpV Try.prog n D w0 ov H ⟨d, .pick x y z, T, pos, af, g⟩ v) : OpV Try.prog n D w0 ov H ⟨d, .pick x y z, T, pos, af, g⟩ v := h
theorem oN (h : OpV Try.prog n D w0 ov H ⟨d, .nilCheck x, T, pos, af, g⟩ v) : OpV Try.prog n D w0 ov H ⟨d, .nilCheck x, T, pos, af, g⟩ v := h
theorem oFA (h : OpV Try.prog n D w0 ov H ⟨d, .fieldAddr T1 x T2, T, pos, af, g⟩ v) : OpV Try.prog n D w0 ov H ⟨d, .fieldAddr T1 x T2, T, pos, af, g⟩ v := h
theorem oIA (h : OpV Try.prog n D w0 ov H ⟨d, .indexAddr T1 x y, T, pos, af, g⟩ v) : OpV Try.prog n D w0 ov H ⟨d, .indexAddr T1 x y, T, pos, af, g⟩ v := h
theorem oI (h : OpV Try.prog n D w0 ov H ⟨d, .index T1 x y, T, pos, af, g⟩ v) : OpV Try.prog n D w0 ov H ⟨d, .index T1 x y, T, pos, af, g⟩ v := h
theorem oU {uop : UnOp} (h : OpV Try.prog n D w0 ov H ⟨d, .unOp uop T1 x, T, pos, af, g⟩ v) : OpV Try.prog n D w0 ov H ⟨d, .unOp uop T1 x, T, pos, af, g⟩ v := h
theorem oBd {ps : Array (Nat × Operand)} (h : OpV Try.prog n D w0 ov H ⟨d, .build T1 ps, T, pos, af, g⟩ v) : OpV Try.prog n D w0 ov H ⟨d, .build T1 ps, T, pos, af, g⟩ v := h
theorem oF {fn : Fn} {xs ys : Array Operand} (h : OpV Try.prog n D w0 ov H ⟨d, .makeFunc fn xs ys, T, pos, af, g⟩ v) : OpV Try.prog n D w0 ov H ⟨d, .makeFunc fn xs ys, T, pos, af, g⟩ v := h
theorem oSl {lo hi mx : Option Operand} (h : OpV Try.prog n D w0 ov H ⟨d, .slice T1 x lo hi mx, T, pos, af, g⟩ v) : OpV Try.prog n D w0 ov H ⟨d, .slice T1 x lo hi mx, T, pos, af, g⟩ v := h
theorem oJL (h : JO Try.prog f n R D w0 ops ⟨d, .load T1 x, T, pos, af, g⟩ l k ov H) : JO Try.prog f n R D w0 ops ⟨d, .load T1 x, T, pos, af, g⟩ l k ov H := h
theorem kS (h : JO Try.prog f n R D w0 ops ⟨d, .store T1 x y, T, pos, af, g⟩ l k ov H) : JO Try.prog f n R D w0 ops ⟨d, .store T1 x y, T, pos, af, g⟩ l k ov H := h
theorem kX (h : JO Try.prog f n R D w0 ops ⟨d, .box T1 x, T, pos, af, g⟩ l k ov H) : JO Try.prog f n R D w0 ops ⟨d, .box T1 x, T, pos, af, g⟩ l k ov H := h
theorem kA (h : JO Try.prog f n R D w0 ops ⟨d, .alloc T1, T, pos, af, g⟩ l k ov H) : JO Try.prog f n R D w0 ops ⟨d, .alloc T1, T, pos, af, g⟩ l k ov H := h
theorem kBs {ps : Array (Nat × Operand)} (h : JO Try.prog f n R D w0 ops ⟨d, .buildSlice T1 T2 ps, T, pos, af, g⟩ l k ov H) : JO Try.prog f n R D w0 ops ⟨d, .buildSlice T1 T2 ps, T, pos, af, g⟩ l k ov H := h
theorem kM (h : JO Try.prog f n R D w0 ops ⟨d, .makeSlice T1 x y, T, pos, af, g⟩ l k ov H) : JO Try.prog f n R D w0 ops ⟨d, .makeSlice T1 x y, T, pos, af, g⟩ l k ov H := h
theorem kC {xs : Array Operand} {ts : Array Nat} (h : JO Try.prog f n R D w0 ops ⟨d, .call ⟨.value x, xs, ts⟩, T, pos, af, g⟩ l k ov H) : JO Try.prog f n R D w0 ops ⟨d, .call ⟨.value x, xs, ts⟩, T, pos, af, g⟩ l k ov H := h
theorem aO (hn : JR Try.prog f n R D w0 ops l k (put d v ov) H) (h : OpV Try.prog n D w0 ov H ⟨d, op, T, pos, af, g⟩ v := by first | (apply oMv; exact V_move rfl rfl) | (apply oAs; exact V_assign rfl rfl) | (apply oL; first | exact V_load (tb := tb) rfl (by repeat (first | apply List.Mem.head | apply List.Mem.tail)) rfl rfl rfl rfl | exact V_loadC (tb := tb) rfl (by first | exact vec_rd (by repeat (first | apply List.Mem.head | apply List.Mem.tail)) | assumption | exact ArgRd.rd (by assumption) _ | (apply Rd_weak; assumption; intro _ hx; exact St.sub (by repeat (first | exact List.Sublist.refl _ | apply List.Sublist.cons_cons | apply List.Sublist.cons)) hx)) rfl rfl (by first | exact ints_get (by omega) | exact rfl) rfl | exact V_loadA (tb := tb) rfl (by repeat (first | apply List.Mem.head | apply List.Mem.tail)) rfl rfl rfl rfl) | (apply oB; first | (apply ob_add; first | exact V_add rfl rfl (by first | exact wi64 (by omega) | exact wu64 (by omega) | exact wu32 (by omega) | exact wu8 (by omega) | exact mu64 _ | exact mu32 _ | exact mu8 _ | exact mi64 _ | exact rfl) rfl) | (apply ob_sub; first | exact V_sub rfl rfl (by first | exact wi64 (by omega) | exact wu64 (by omega) | exact wu32 (by omega) | exact wu8 (by omega) | exact mu64 _ | exact mu32 _ | exact mu8 _ | exact mi64 _ | exact rfl) rfl) | (apply ob_mul; first | exact V_mul rfl rfl (by first | exact wi64 (by omega) | exact wu64 (by omega) | exact wu32 (by omega) | exact wu8 (by omega) | exact mu64 _ | exact mu32 _ | exact mu8 _ | exact mi64 _ | exact rfl) rfl) | (apply ob_eql; first | exact V_eqlT rfl rfl (by omega) rfl | exact V_eqlF rfl rfl (by omega) rfl | exact V_eql rfl rfl rfl) | (apply ob_neq; first | exact V_neqT rfl rfl (by omega) rfl | exact V_neqF rfl rfl (by omega) rfl | exact V_neq rfl rfl rfl) | (apply ob_lss; first | exact V_lssT rfl rfl (by omega) rfl | exact V_lssF rfl rfl (by omega) rfl | exact V_lss rfl rfl rfl) | (apply ob_leq; first | exact V_leqT rfl rfl (by omega) rfl | exact V_leqF rfl rfl (by omega) rfl | exact V_leq rfl rfl rfl) | (apply ob_gtr; first | exact V_gtrT rfl rfl (by omega) rfl | exact V_gtrF rfl rfl (by omega) rfl | exact V_gtr rfl rfl rfl) | (apply ob_geq; first | exact V_geqT rfl rfl (by omega) rfl | exact V_geqF rfl rfl (by omega) rfl | exact V_geq rfl rfl rfl) | (apply ob_quo; first | exact V_quo rfl rfl (by omega) (by first | exact IntWalk.i64_quo _ _ (by omega) | exact IntWalk.u64_quo _ _ (by omega) | exact IntWalk.u32_quo _ _ (by omega) | exact IntWalk.u8_quo _ _ (by omega)) rfl) | (apply ob_rem; first | exact V_rem rfl rfl (by omega) (Int.tmod_eq_emod_of_nonneg (by omega)) rfl) | (apply ob_and; first | exact V_and rfl rfl (by first | exact mask32_u64 (by omega) | exact mask_u64 8 (by decide) (by omega) rfl | exact mask_u64 16 (by decide) (by omega) rfl) rfl) | (apply ob_eql; first | exact V_eqP (tb := tb) rfl rfl rfl rfl | exact V_eqBB (tb := tb) rfl rfl rfl rfl | exact V_eqB (tb := tb) rfl rfl rfl rfl | exact V_eqNil (tb := tb) rfl rfl rfl rfl | exact V_eqStr rfl rfl (by assumption) (by assumption) rfl) | (apply ob_neq; first | exact V_neP (tb := tb) rfl rfl rfl rfl | exact V_neBB (tb := tb) rfl rfl rfl rfl | exact V_neB (tb := tb) rfl rfl rfl rfl | exact V_neStr rfl rfl (by assumption) (by assumption) rfl) | (apply oK; first | (apply ob_shr; exact V_shr (m := _) rfl rfl (by omega) (by simp only [IntKind.bits, Int.reduceToNat, Nat.reduceLeDiff, Nat.min_eq_left]; exact rfl) (by first | (simp only [Int.reducePow]; exact rfl) | exact rfl) rfl) | (apply ob_shl; exact V_shl (m := _) rfl rfl (by omega) (by simp only [IntKind.bits, Int.reduceToNat, Nat.reduceLeDiff, Nat.min_eq_left]; exact rfl) (by (try simp only [Int.reducePow]); first | exact wi64 (by omega) | exact wu64 (by omega) | exact wu32 (by omega) | exact wu8 (by omega) | exact mu64 _ | exact mu32 _ | exact mu8 _ | exact mi64 _ | exact rfl) rfl))) | (apply oE; first | exact V_extract rfl rfl rfl) | (apply oc_len; exact V_len (tb := tb) rfl rfl rfl) | (apply oc_len; exact V_lenS (tb := tb) rfl rfl rfl) | (apply oc_min; exact V_min rfl rfl rfl rfl) | (apply oc_max; exact V_max rfl rfl rfl rfl) | (apply oCv; first | exact V_conv (tb := tb) rfl rfl rfl (by first | exact wi64 (by omega) | exact wu64 (by omega) | exact wu32 (by omega) | exact wu8 (by omega) | exact mu64 _ | exact mu32 _ | exact mu8 _ | exact mi64 _ | exact rfl) rfl | exact V_str (tb := tb) rfl (by first | exact vec_rd (by repeat (first | apply List.Mem.head | apply List.Mem.tail)) | assumption | exact ArgRd.rd (by assumption) _ | (apply Rd_weak; assumption; intro _ hx; exact St.sub (by repeat (first | exact List.Sublist.refl _ | apply List.Sublist.cons_cons | apply List.Sublist.cons)) hx)) (by first | assumption | rfl | omega) rfl rfl rfl rfl) | (apply oP; first | exact V_pickT rfl rfl rfl | exact V_pickF rfl rfl rfl | exact V_pickB rfl rfl rfl rfl) | (apply oU; first | exact V_notD rfl rfl | exact V_not rfl rfl | exact V_neg rfl (by first | exact wi64 (by omega) | exact wu64 (by omega) | exact wu32 (by omega) | exact wu8 (by omega) | exact mu64 _ | exact mu32 _ | exact mu8 _ | exact mi64 _ | exact rfl) rfl) | (apply oN; first | exact V_nilCheck rfl rfl) | (apply oFA; first | exact V_field (tb := tb) rfl rfl rfl rfl rfl rfl | exact V_fieldC (tb := tb) rfl (by first | exact Rd.sl (vec_rd (by repeat (first | apply List.Mem.head | apply List.Mem.tail))) | exact Rd.sl (by assumption) | exact Rd.sl (ArgRd.rd (by assumption) _) | (apply Rd.sl; (apply Rd_weak; assumption; intro _ hx; exact St.sub (by repeat (first | exact List.Sublist.refl _ | apply List.Sublist.cons_cons | apply List.Sublist.cons)) hx))) (by omega) rfl rfl rfl rfl rfl) | (apply oIA; first | exact V_index (tb := tb) rfl rfl rfl rfl (by first | exact Rd.sl (vec_rd (by repeat (first | apply List.Mem.head | apply List.Mem.tail))) | exact Rd.sl (by assumption) | exact Rd.sl (ArgRd.rd (by assumption) _) | (apply Rd.sl; (apply Rd_weak; assumption; intro _ hx; exact St.sub (by repeat (first | exact List.Sublist.refl _ | apply List.Sublist.cons_cons | apply List.Sublist.cons)) hx))) (by omega) (by (try simp only [tn, tna, tn1, tn2, tn3, tn4, tnd16, tnd8, Int.reduceToNat]); first | exact Nat.mul_one _ | exact rfl) rfl | exact V_indexA (tb := tb) rfl rfl rfl rfl (by omega) rfl) | (apply oBd; first | exact V_build (tb := tb) rfl rfl rfl rfl rfl) | (apply oF; first | exact V_makeFunc rfl rfl rfl)) : JO Try.prog f n R D w0 ops ⟨d, op, T, pos, af, g⟩ l k ov H := JO_v h hn
theorem aU (hn : JR Try.prog f n R D w0 ops l k (put d v ov) H) (h : OpV Try.prog n D w0 ov H ⟨d, op, T, pos, af, g⟩ v := by first | (apply oMv; exact V_move rfl rfl) | (apply oAs; exact V_assign rfl rfl) | (apply oL; first | exact V_load (tb := tb) rfl (by repeat (first | apply List.Mem.head | apply List.Mem.tail)) rfl rfl rfl rfl | exact V_loadC (tb := tb) rfl (by first | exact vec_rd (by repeat (first | apply List.Mem.head | apply List.Mem.tail)) | assumption | exact ArgRd.rd (by assumption) _ | (apply Rd_weak; assumption; intro _ hx; exact St.sub (by repeat (first | exact List.Sublist.refl _ | apply List.Sublist.cons_cons | apply List.Sublist.cons)) hx)) rfl rfl (by first | exact ints_get (by omega) | exact rfl) rfl | exact V_loadA (tb := tb) rfl (by repeat (first | apply List.Mem.head | apply List.Mem.tail)) rfl rfl rfl rfl) | (apply oB; first | (apply ob_add; first | exact V_add rfl rfl (by first | exact mu64 _ | exact mu32 _ | exact mu8 _ | exact rfl) rfl) | (apply ob_sub; first | exact V_sub rfl rfl (by first | exact mu64 _ | exact mu32 _ | exact mu8 _ | exact rfl) rfl) | (apply ob_mul; first | exact V_mul rfl rfl (by first | exact mu64 _ | exact mu32 _ | exact mu8 _ | exact rfl) rfl) | (apply ob_eql; first | exact V_eqlT rfl rfl (by omega) rfl | exact V_eqlF rfl rfl (by omega) rfl | exact V_eql rfl rfl rfl) | (apply ob_neq; first | exact V_neqT rfl rfl (by omega) rfl | exact V_neqF rfl rfl (by omega) rfl | exact V_neq rfl rfl rfl) | (apply ob_lss; first | exact V_lssT rfl rfl (by omega) rfl | exact V_lssF rfl rfl (by omega) rfl | exact V_lss rfl rfl rfl) | (apply ob_leq; first | exact V_leqT rfl rfl (by omega) rfl | exact V_leqF rfl rfl (by omega) rfl | exact V_leq rfl rfl rfl) | (apply ob_gtr; first | exact V_gtrT rfl rfl (by omega) rfl | exact V_gtrF rfl rfl (by omega) rfl | exact V_gtr rfl rfl rfl) | (apply ob_geq; first | exact V_geqT rfl rfl (by omega) rfl | exact V_geqF rfl rfl (by omega) rfl | exact V_geq rfl rfl rfl) | (apply ob_quo; first | exact V_quo rfl rfl (by omega) (by first | exact IntWalk.i64_quo _ _ (by omega) | exact IntWalk.u64_quo _ _ (by omega) | exact IntWalk.u32_quo _ _ (by omega) | exact IntWalk.u8_quo _ _ (by omega)) rfl) | (apply ob_rem; first | exact V_rem rfl rfl (by omega) (Int.tmod_eq_emod_of_nonneg (by omega)) rfl) | (apply ob_and; first | exact V_and rfl rfl (by first | exact mask32_u64 (by omega) | exact mask_u64 8 (by decide) (by omega) rfl | exact mask_u64 16 (by decide) (by omega) rfl) rfl) | (apply ob_eql; first | exact V_eqP (tb := tb) rfl rfl rfl rfl | exact V_eqBB (tb := tb) rfl rfl rfl rfl | exact V_eqB (tb := tb) rfl rfl rfl rfl | exact V_eqNil (tb := tb) rfl rfl rfl rfl | exact V_eqStr rfl rfl (by assumption) (by assumption) rfl) | (apply ob_neq; first | exact V_neP (tb := tb) rfl rfl rfl rfl | exact V_neBB (tb := tb) rfl rfl rfl rfl | exact V_neB (tb := tb) rfl rfl rfl rfl | exact V_neStr rfl rfl (by assumption) (by assumption) rfl) | (apply oK; first | (apply ob_shr; exact V_shr (m := _) rfl rfl (by omega) (by simp only [IntKind.bits, Int.reduceToNat, Nat.reduceLeDiff, Nat.min_eq_left]; exact rfl) (by first | (simp only [Int.reducePow]; exact rfl) | exact rfl) rfl) | (apply ob_shl; exact V_shl (m := _) rfl rfl (by omega) (by simp only [IntKind.bits, Int.reduceToNat, Nat.reduceLeDiff, Nat.min_eq_left]; exact rfl) (by (try simp only [Int.reducePow]); first | exact mu64 _ | exact mu32 _ | exact mu8 _ | exact rfl) rfl))) | (apply oE; first | exact V_extract rfl rfl rfl) | (apply oc_len; exact V_len (tb := tb) rfl rfl rfl) | (apply oc_len; exact V_lenS (tb := tb) rfl rfl rfl) | (apply oc_min; exact V_min rfl rfl rfl rfl) | (apply oc_max; exact V_max rfl rfl rfl rfl) | (apply oCv; first | exact V_conv (tb := tb) rfl rfl rfl (by first | exact mu64 _ | exact mu32 _ | exact mu8 _ | exact rfl) rfl | exact V_str (tb := tb) rfl (by first | exact vec_rd (by repeat (first | apply List.Mem.head | apply List.Mem.tail)) | assumption | exact ArgRd.rd (by assumption) _ | (apply Rd_weak; assumption; intro _ hx; exact St.sub (by repeat (first | exact List.Sublist.refl _ | apply List.Sublist.cons_cons | apply List.Sublist.cons)) hx)) (by first | assumption | rfl | omega) rfl rfl rfl rfl) | (apply oP; first | exact V_pickT rfl rfl rfl | exact V_pickF rfl rfl rfl | exact V_pickB rfl rfl rfl rfl) | (apply oU; first | exact V_notD rfl rfl | exact V_not rfl rfl | exact V_neg rfl (by first | exact mu64 _ | exact mu32 _ | exact mu8 _ | exact rfl) rfl) | (apply oN; first | exact V_nilCheck rfl rfl) | (apply oFA; first | exact V_field (tb := tb) rfl rfl rfl rfl rfl rfl | exact V_fieldC (tb := tb) rfl (by first | exact Rd.sl (vec_rd (by repeat (first | apply List.Mem.head | apply List.Mem.tail))) | exact Rd.sl (by assumption) | exact Rd.sl (ArgRd.rd (by assumption) _) | (apply Rd.sl; (apply Rd_weak; assumption; intro _ hx; exact St.sub (by repeat (first | exact List.Sublist.refl _ | apply List.Sublist.cons_cons | apply List.Sublist.cons)) hx))) (by omega) rfl rfl rfl rfl rfl) | (apply oIA; first | exact V_index (tb := tb) rfl rfl rfl rfl (by first | exact Rd.sl (vec_rd (by repeat (first | apply List.Mem.head | apply List.Mem.tail))) | exact Rd.sl (by assumption) | exact Rd.sl (ArgRd.rd (by assumption) _) | (apply Rd.sl; (apply Rd_weak; assumption; intro _ hx; exact St.sub (by repeat (first | exact List.Sublist.refl _ | apply List.Sublist.cons_cons | apply List.Sublist.cons)) hx))) (by omega) (by (try simp only [tn, tna, tn1, tn2, tn3, tn4, tnd16, tnd8, Int.reduceToNat]); first | exact Nat.mul_one _ | exact rfl) rfl | exact V_indexA (tb := tb) rfl rfl rfl rfl (by omega) rfl) | (apply oBd; first | exact V_build (tb := tb) rfl rfl rfl rfl rfl) | (apply oF; first | exact V_makeFunc rfl rfl rfl)) : JO Try.prog f n R D w0 ops ⟨d, op, T, pos, af, g⟩ l k ov H := JO_v h hn
theorem aK (hn : JR Try.prog f n R D w0 ops l k (put d undef ov) H') (h : OpK Try.prog n D w0 ov H ⟨d, op, T, pos, af, g⟩ H' := by first | exact K_store (tb := tb) rfl rfl (by repeat (first | apply Upd.here | apply Upd.there)) rfl rfl rfl (by repeat (first | exact trivial | refine ⟨rfl, ?_⟩)) rfl rfl | exact K_storeC1 (tb := tb) rfl rfl ints_set (by repeat (first | apply Upd.here | apply Upd.there)) rfl rfl (by rw [ints_len]; omega) rfl) : JO Try.prog f n R D w0 ops ⟨d, op, T, pos, af, g⟩ l k ov H := JO_k h hn
theorem aQ (hn : QR Try.prog n D w0 Z l (put d v ov) H K) (h : OpV Try.prog n D w0 ov H ⟨d, op, T, pos, af, g⟩ v := by first | (apply oMv; exact V_move rfl rfl) | (apply oAs; exact V_assign rfl rfl) | (apply oL; first | exact V_load (tb := tb) rfl (by repeat (first | apply List.Mem.head | apply List.Mem.tail)) rfl rfl rfl rfl | exact V_loadC (tb := tb) rfl (by first | exact vec_rd (by repeat (first | apply List.Mem.head | apply List.Mem.tail)) | assumption | exact ArgRd.rd (by assumption) _ | (apply Rd_weak; assumption; intro _ hx; exact St.sub (by repeat (first | exact List.Sublist.refl _ | apply List.Sublist.cons_cons | apply List.Sublist.cons)) hx)) rfl rfl (by first | exact ints_get (by omega) | exact rfl) rfl | exact V_loadA (tb := tb) rfl (by repeat (first | apply List.Mem.head | apply List.Mem.tail)) rfl rfl rfl rfl) | (apply oB; first | (apply ob_add; first | exact V_add rfl rfl (by first | exact wi64 (by omega) | exact wu64 (by omega) | exact wu32 (by omega) | exact wu8 (by omega) | exact mu64 _ | exact mu32 _ | exact mu8 _ | exact mi64 _ | exact rfl) rfl) | (apply ob_sub; first | exact V_sub rfl rfl (by first | exact wi64 (by omega) | exact wu64 (by omega) | exact wu32 (by omega) | exact wu8 (by omega) | exact mu64 _ | exact mu32 _ | exact mu8 _ | exact mi64 _ | exact rfl) rfl) | (apply ob_mul; first | exact V_mul rfl rfl (by first | exact wi64 (by omega) | exact wu64 (by omega) | exact wu32 (by omega) | exact wu8 (by omega) | exact mu64 _ | exact mu32 _ | exact mu8 _ | exact mi64 _ | exact rfl) rfl) | (apply ob_eql; first | exact V_eqlT rfl rfl (by omega) rfl | exact V_eqlF rfl rfl (by omega) rfl | exact V_eql rfl rfl rfl) | (apply ob_neq; first | exact V_neqT rfl rfl (by omega) rfl | exact V_neqF rfl rfl (by omega) rfl | exact V_neq rfl rfl rfl) | (apply ob_lss; first | exact V_lssT rfl rfl (by omega) rfl | exact V_lssF rfl rfl (by omega) rfl | exact V_lss rfl rfl rfl) | (apply ob_leq; first | exact V_leqT rfl rfl (by omega) rfl | exact V_leqF rfl rfl (by omega) rfl | exact V_leq rfl rfl rfl) | (apply ob_gtr; first | exact V_gtrT rfl rfl (by omega) rfl | exact V_gtrF rfl rfl (by omega) rfl | exact V_gtr rfl rfl rfl) | (apply ob_geq; first | exact V_geqT rfl rfl (by omega) rfl | exact V_geqF rfl rfl (by omega) rfl | exact V_geq rfl rfl rfl) | (apply ob_quo; first | exact V_quo rfl rfl (by omega) (by first | exact IntWalk.i64_quo _ _ (by omega) | exact IntWalk.u64_quo _ _ (by omega) | exact IntWalk.u32_quo _ _ (by omega) | exact IntWalk.u8_quo _ _ (by omega)) rfl) | (apply ob_rem; first | exact V_rem rfl rfl (by omega) (Int.tmod_eq_emod_of_nonneg (by omega)) rfl) | (apply ob_and; first | exact V_and rfl rfl (by first | exact mask32_u64 (by omega) | exact mask_u64 8 (by decide) (by omega) rfl | exact mask_u64 16 (by decide) (by omega) rfl) rfl) | (apply ob_eql; first | exact V_eqP (tb := tb) rfl rfl rfl rfl | exact V_eqBB (tb := tb) rfl rfl rfl rfl | exact V_eqB (tb := tb) rfl rfl rfl rfl | exact V_eqNil (tb := tb) rfl rfl rfl rfl | exact V_eqStr rfl rfl (by assumption) (by assumption) rfl) | (apply ob_neq; first | exact V_neP (tb := tb) rfl rfl rfl rfl | exact V_neBB (tb := tb) rfl rfl rfl rfl | exact V_neB (tb := tb) rfl rfl rfl rfl | exact V_neStr rfl rfl (by assumption) (by assumption) rfl) | (apply oK; first | (apply ob_shr; exact V_shr (m := _) rfl rfl (by omega) (by simp only [IntKind.bits, Int.reduceToNat, Nat.reduceLeDiff, Nat.min_eq_left]; exact rfl) (by first | (simp only [Int.reducePow]; exact rfl) | exact rfl) rfl) | (apply ob_shl; exact V_shl (m := _) rfl rfl (by omega) (by simp only [IntKind.bits, Int.reduceToNat, Nat.reduceLeDiff, Nat.min_eq_left]; exact rfl) (by (try simp only [Int.reducePow]); first | exact wi64 (by omega) | exact wu64 (by omega) | exact wu32 (by omega) | exact wu8 (by omega) | exact mu64 _ | exact mu32 _ | exact mu8 _ | exact mi64 _ | exact rfl) rfl))) | (apply oE; first | exact V_extract rfl rfl rfl) | (apply oc_len; exact V_len (tb := tb) rfl rfl rfl) | (apply oc_len; exact V_lenS (tb := tb) rfl rfl rfl) | (apply oc_min; exact V_min rfl rfl rfl rfl) | (apply oc_max; exact V_max rfl rfl rfl rfl) | (apply oCv; first | exact V_conv (tb := tb) rfl rfl rfl (by first | exact wi64 (by omega) | exact wu64 (by omega) | exact wu32 (by omega) | exact wu8 (by omega) | exact mu64 _ | exact mu32 _ | exact mu8 _ | exact mi64 _ | exact rfl) rfl | exact V_str (tb := tb) rfl (by first | exact vec_rd (by repeat (first | apply List.Mem.head | apply List.Mem.tail)) | assumption | exact ArgRd.rd (by assumption) _ | (apply Rd_weak; assumption; intro _ hx; exact St.sub (by repeat (first | exact List.Sublist.refl _ | apply List.Sublist.cons_cons | apply List.Sublist.cons)) hx)) (by first | assumption | rfl | omega) rfl rfl rfl rfl) | (apply oP; first | exact V_pickT rfl rfl rfl | exact V_pickF rfl rfl rfl | exact V_pickB rfl rfl rfl rfl) | (apply oU; first | exact V_notD rfl rfl | exact V_not rfl rfl | exact V_neg rfl (by first | exact wi64 (by omega) | exact wu64 (by omega) | exact wu32 (by omega) | exact wu8 (by omega) | exact mu64 _ | exact mu32 _ | exact mu8 _ | exact mi64 _ | exact rfl) rfl) | (apply oN; first | exact V_nilCheck rfl rfl) | (apply oFA; first | exact V_field (tb := tb) rfl rfl rfl rfl rfl rfl | exact V_fieldC (tb := tb) rfl (by first | exact Rd.sl (vec_rd (by repeat (first | apply List.Mem.head | apply List.Mem.tail))) | exact Rd.sl (by assumption) | exact Rd.sl (ArgRd.rd (by assumption) _) | (apply Rd.sl; (apply Rd_weak; assumption; intro _ hx; exact St.sub (by repeat (first | exact List.Sublist.refl _ | apply List.Sublist.cons_cons | apply List.Sublist.cons)) hx))) (by omega) rfl rfl rfl rfl rfl) | (apply oIA; first | exact V_index (tb := tb) rfl rfl rfl rfl (by first | exact Rd.sl (vec_rd (by repeat (first | apply List.Mem.head | apply List.Mem.tail))) | exact Rd.sl (by assumption) | exact Rd.sl (ArgRd.rd (by assumption) _) | (apply Rd.sl; (apply Rd_weak; assumption; intro _ hx; exact St.sub (by repeat (first | exact List.Sublist.refl _ | apply List.Sublist.cons_cons | apply List.Sublist.cons)) hx))) (by omega) (by (try simp only [tn, tna, tn1, tn2, tn3, tn4, tnd16, tnd8, Int.reduceToNat]); first | exact Nat.mul_one _ | exact rfl) rfl | exact V_indexA (tb := tb) rfl rfl rfl rfl (by omega) rfl) | (apply oBd; first | exact V_build (tb := tb) rfl rfl rfl rfl rfl) | (apply oF; first | exact V_makeFunc rfl rfl rfl)) (hlo : loud op = false := by rfl) : QO Try.prog n D w0 Z ⟨d, op, T, pos, af, g⟩ l ov H K := QO_v hlo h hn
theorem aQK (hs : Z.2.contains l.length = true) (hn : QR Try.prog n D w0 Z l (put d undef ov) H' K) (h : OpK Try.prog n D w0 ov H ⟨d, op, T, pos, af, g⟩ H' := by first | exact K_store (tb := tb) rfl rfl (by repeat (first | apply Upd.here | apply Upd.there)) rfl rfl rfl (by repeat (first | exact trivial | refine ⟨rfl, ?_⟩)) rfl rfl | exact K_storeC1 (tb := tb) rfl rfl ints_set (by repeat (first | apply Upd.here | apply Upd.there)) rfl rfl (by rw [ints_len]; omega) rfl) (hlo : loud op = true := by rfl) : QO Try.prog n D w0 Z ⟨d, op, T, pos, af, g⟩ l ov H K := QO_k hlo h hs hn
end
end Go.Proofs.Ytbiocgenbgbfpaa

set_option linter.unusedVariables false
set_option linter.unusedSimpArgs false
namespace Go.Proofs.Ytbiocgenbgbfpaa
open Sx Go
/-! one step of a walk, as a lemma: the goal behind it is found by the default tactic -/
section
variable {f n : Nat} {R : Ending → World → Prop} {D : List Deferred} {w0 : World} {k : List Item} {ov : Ov} {H H' : List Asn} {K : KC} {Z : Array Oper × List Nat} {G' : Prop}
  {ops : Array Oper} {l : List Oper} {d : Option Nat} {T T1 T2 : Nat} {pos : String} {af : Array Edge} {g : Option (Nat × Bool)} {x y : Operand} {v : Value} {op : Op} {o : Oper}
theorem igJS (h : G' → JS Try.prog f n R D w0 k ov H) : G' → JS Try.prog f n R D w0 k ov H := h
theorem igJR (h : G' → JR Try.prog f n R D w0 ops l k ov H) : G' → JR Try.prog f n R D w0 ops l k ov H := h
theorem igQR (h : G' → QR Try.prog n D w0 Z l ov H K) : G' → QR Try.prog n D w0 Z l ov H K := h
theorem igQO (h : G' → QO Try.prog n D w0 Z o l ov H K) : G' → QO Try.prog n D w0 Z o l ov H K := h
theorem igJO (h : G' → JO Try.prog f n R D w0 ops o l k ov H) : G' → JO Try.prog f n R D w0 ops o l k ov H := h
theorem ikS (h : G' → JO Try.prog f n R D w0 ops ⟨d, .store T1 x y, T, pos, af, g⟩ l k ov H) : G' → JO Try.prog f n R D w0 ops ⟨d, .store T1 x y, T, pos, af, g⟩ l k ov H := h
theorem ikX (h : G' → JO Try.prog f n R D w0 ops ⟨d, .box T1 x, T, pos, af, g⟩ l k ov H) : G' → JO Try.prog f n R D w0 ops ⟨d, .box T1 x, T, pos, af, g⟩ l k ov H := h
theorem ikA (h : G' → JO Try.prog f n R D w0 ops ⟨d, .alloc T1, T, pos, af, g⟩ l k ov H) : G' → JO Try.prog f n R D w0 ops ⟨d, .alloc T1, T, pos, af, g⟩ l k ov H := h
theorem ikBs {ps : Array (Nat × Operand)} (h : G' → JO Try.prog f n R D w0 ops ⟨d, .buildSlice T1 T2 ps, T, pos, af, g⟩ l k ov H) : G' → JO Try.prog f n R D w0 ops ⟨d, .buildSlice T1 T2 ps, T, pos, af, g⟩ l k ov H := h
theorem ikM (h : G' → JO Try.prog f n R D w0 ops ⟨d, .makeSlice T1 x y, T, pos, af, g⟩ l k ov H) : G' → JO Try.prog f n R D w0 ops ⟨d, .makeSlice T1 x y, T, pos, af, g⟩ l k ov H := h
theorem iO (h : OpV Try.prog n D w0 ov H ⟨d, op, T, pos, af, g⟩ v := by first | (apply oMv; exact V_move rfl rfl) | (apply oAs; exact V_assign rfl rfl) | (apply oL; first | exact V_load (tb := tb) rfl (by repeat (first | apply List.Mem.head | apply List.Mem.tail)) rfl rfl rfl rfl | exact V_loadC (tb := tb) rfl (by first | exact vec_rd (by repeat (first | apply List.Mem.head | apply List.Mem.tail)) | assumption | exact ArgRd.rd (by assumption) _ | (apply Rd_weak; assumption; intro _ hx; exact St.sub (by repeat (first | exact List.Sublist.refl _ | apply List.Sublist.cons_cons | apply List.Sublist.cons)) hx)) rfl rfl (by first | exact ints_get (by omega) | exact rfl) rfl | exact V_loadA (tb := tb) rfl (by repeat (first | apply List.Mem.head | apply List.Mem.tail)) rfl rfl rfl rfl) | (apply oB; first | (apply ob_add; first | exact V_add rfl rfl (by first | exact wi64 (by omega) | exact wu64 (by omega) | exact wu32 (by omega) | exact wu8 (by omega) | exact mu64 _ | exact mu32 _ | exact mu8 _ | exact mi64 _ | exact rfl) rfl) | (apply ob_sub; first | exact V_sub rfl rfl (by first | exact wi64 (by omega) | exact wu64 (by omega) | exact wu32 (by omega) | exact wu8 (by omega) | exact mu64 _ | exact mu32 _ | exact mu8 _ | exact mi64 _ | exact rfl) rfl) | (apply ob_mul; first | exact V_mul rfl rfl (by first | exact wi64 (by omega) | exact wu64 (by omega) | exact wu32 (by omega) | exact wu8 (by omega) | exact mu64 _ | exact mu32 _ | exact mu8 _ | exact mi64 _ | exact rfl) rfl) | (apply ob_eql; first | exact V_eqlT rfl rfl (by omega) rfl | exact V_eqlF rfl rfl (by omega) rfl | exact V_eql rfl rfl rfl) | (apply ob_neq; first | exact V_neqT rfl rfl (by omega) rfl | exact V_neqF rfl rfl (by omega) rfl | exact V_neq rfl rfl rfl) | (apply ob_lss; first | exact V_lssT rfl rfl (by omega) rfl | exact V_lssF rfl rfl (by omega) rfl | exact V_lss rfl rfl rfl) | (apply ob_leq; first | exact V_leqT rfl rfl (by omega) rfl | exact V_leqF rfl rfl (by omega) rfl | exact V_leq rfl rfl rfl) | (apply ob_gtr; first | exact V_gtrT rfl rfl (by omega) rfl | exact V_gtrF rfl rfl (by omega) rfl | exact V_gtr rfl rfl rfl) | (apply ob_geq; first | exact V_geqT rfl rfl (by omega) rfl | exact V_geqF rfl rfl (by omega) rfl | exact V_geq rfl rfl rfl) | (apply ob_quo; first | exact V_quo rfl rfl (by omega) (by first | exact IntWalk.i64_quo _ _ (by omega) | exact IntWalk.u64_quo _ _ (by omega) | exact IntWalk.u32_quo _ _ (by omega) | exact IntWalk.u8_quo _ _ (by omega)) rfl) | (apply ob_rem; first | exact V_rem rfl rfl (by omega) (Int.tmod_eq_emod_of_nonneg (by omega)) rfl) | (apply ob_and; first | exact V_and rfl rfl (by first | exact mask32_u64 (by omega) | exact mask_u64 8 (by decide) (by omega) rfl | exact mask_u64 16 (by decide) (by omega) rfl) rfl) | (apply ob_eql; first | exact V_eqP (tb := tb) rfl rfl rfl rfl | exact V_eqBB (tb := tb) rfl rfl rfl rfl | exact V_eqB (tb := tb) rfl rfl rfl rfl | exact V_eqNil (tb := tb) rfl rfl rfl rfl | exact V_eqStr rfl rfl (by assumption) (by assumption) rfl) | (apply ob_neq; first | exact V_neP (tb := tb) rfl rfl rfl rfl | exact V_neBB (tb := tb) rfl rfl rfl rfl | exact V_neB (tb := tb) rfl rfl rfl rfl | exact V_neStr rfl rfl (by assumption) (by assumption) rfl) | (apply oK; first | (apply ob_shr; exact V_shr (m := _) rfl rfl (by omega) (by simp only [IntKind.bits, Int.reduceToNat, Nat.reduceLeDiff, Nat.min_eq_left]; exact rfl) (by first | (simp only [Int.reducePow]; exact rfl) | exact rfl) rfl) | (apply ob_shl; exact V_shl (m := _) rfl rfl (by omega) (by simp only [IntKind.bits, Int.reduceToNat, Nat.reduceLeDiff, Nat.min_eq_left]; exact rfl) (by (try simp only [Int.reducePow]); first | exact wi64 (by omega) | exact wu64 (by omega) | exact wu32 (by omega) | exact wu8 (by omega) | exact mu64 _ | exact mu32 _ | exact mu8 _ | exact mi64 _ | exact rfl) rfl))) | (apply oE; first | exact V_extract rfl rfl rfl) | (apply oc_len; exact V_len (tb := tb) rfl rfl rfl) | (apply oc_len; exact V_lenS (tb := tb) rfl rfl rfl) | (apply oc_min; exact V_min rfl rfl rfl rfl) | (apply oc_max; exact V_max rfl rfl rfl rfl) | (apply oCv; first | exact V_conv (tb := tb) rfl rfl rfl (by first | exact wi64 (by omega) | exact wu64 (by omega) | exact wu32 (by omega) | exact wu8 (by omega) | exact mu64 _ | exact mu32 _ | exact mu8 _ | exact mi64 _ | exact rfl) rfl | exact V_str (tb := tb) rfl (by first | exact vec_rd (by repeat (first | apply List.Mem.head | apply List.Mem.tail)) | assumption | exact ArgRd.rd (by assumption) _ | (apply Rd_weak; assumption; intro _ hx; exact St.sub (by repeat (first | exact List.Sublist.refl _ | apply List.Sublist.cons_cons | apply List.Sublist.cons)) hx)) (by first | assumption | rfl | omega) rfl rfl rfl rfl) | (apply oP; first | exact V_pickT rfl rfl rfl | exact V_pickF rfl rfl rfl | exact V_pickB rfl rfl rfl rfl) | (apply oU; first | exact V_notD rfl rfl | exact V_not rfl rfl | exact V_neg rfl (by first | exact wi64 (by omega) | exact wu64 (by omega) | exact wu32 (by omega) | exact wu8 (by omega) | exact mu64 _ | exact mu32 _ | exact mu8 _ | exact mi64 _ | exact rfl) rfl) | (apply oN; first | exact V_nilCheck rfl rfl) | (apply oFA; first | exact V_field (tb := tb) rfl rfl rfl rfl rfl rfl | exact V_fieldC (tb := tb) rfl (by first | exact Rd.sl (vec_rd (by repeat (first | apply List.Mem.head | apply List.Mem.tail))) | exact Rd.sl (by assumption) | exact Rd.sl (ArgRd.rd (by assumption) _) | (apply Rd.sl; (apply Rd_weak; assumption; intro _ hx; exact St.sub (by repeat (first | exact List.Sublist.refl _ | apply List.Sublist.cons_cons | apply List.Sublist.cons)) hx))) (by omega) rfl rfl rfl rfl rfl) | (apply oIA; first | exact V_index (tb := tb) rfl rfl rfl rfl (by first | exact Rd.sl (vec_rd (by repeat (first | apply List.Mem.head | apply List.Mem.tail))) | exact Rd.sl (by assumption) | exact Rd.sl (ArgRd.rd (by assumption) _) | (apply Rd.sl; (apply Rd_weak; assumption; intro _ hx; exact St.sub (by repeat (first | exact List.Sublist.refl _ | apply List.Sublist.cons_cons | apply List.Sublist.cons)) hx))) (by omega) (by (try simp only [tn, tna, tn1, tn2, tn3, tn4, tnd16, tnd8, Int.reduceToNat]); first | exact Nat.mul_one _ | exact rfl) rfl | exact V_indexA (tb := tb) rfl rfl rfl rfl (by omega) rfl) | (apply oBd; first | exact V_build (tb := tb) rfl rfl rfl rfl rfl) | (apply oF; first | exact V_makeFunc rfl rfl rfl)) : JR Try.prog f n R D w0 ops l k (put d v ov) H → JO Try.prog f n R D w0 ops ⟨d, op, T, pos, af, g⟩ l k ov H := fun hn => JO_v h hn
theorem iU (h : OpV Try.prog n D w0 ov H ⟨d, op, T, pos, af, g⟩ v := by first | (apply oMv; exact V_move rfl rfl) | (apply oAs; exact V_assign rfl rfl) | (apply oL; first | exact V_load (tb := tb) rfl (by repeat (first | apply List.Mem.head | apply List.Mem.tail)) rfl rfl rfl rfl | exact V_loadC (tb := tb) rfl (by first | exact vec_rd (by repeat (first | apply List.Mem.head | apply List.Mem.tail)) | assumption | exact ArgRd.rd (by assumption) _ | (apply Rd_weak; assumption; intro _ hx; exact St.sub (by repeat (first | exact List.Sublist.refl _ | apply List.Sublist.cons_cons | apply List.Sublist.cons)) hx)) rfl rfl (by first | exact ints_get (by omega) | exact rfl) rfl | exact V_loadA (tb := tb) rfl (by repeat (first | apply List.Mem.head | apply List.Mem.tail)) rfl rfl rfl rfl) | (apply oB; first | (apply ob_add; first | exact V_add rfl rfl (by first | exact mu64 _ | exact mu32 _ | exact mu8 _ | exact rfl) rfl) | (apply ob_sub; first | exact V_sub rfl rfl (by first | exact mu64 _ | exact mu32 _ | exact mu8 _ | exact rfl) rfl) | (apply ob_mul; first | exact V_mul rfl rfl (by first | exact mu64 _ | exact mu32 _ | exact mu8 _ | exact rfl) rfl) | (apply ob_eql; first | exact V_eqlT rfl rfl (by omega) rfl | exact V_eqlF rfl rfl (by omega) rfl | exact V_eql rfl rfl rfl) | (apply ob_neq; first | exact V_neqT rfl rfl (by omega) rfl | exact V_neqF rfl rfl (by omega) rfl | exact V_neq rfl rfl rfl) | (apply ob_lss; first | exact V_lssT rfl rfl (by omega) rfl | exact V_lssF rfl rfl (by omega) rfl | exact V_lss rfl rfl rfl) | (apply ob_leq; first | exact V_leqT rfl rfl (by omega) rfl | exact V_leqF rfl rfl (by omega) rfl | exact V_leq rfl rfl rfl) | (apply ob_gtr; first | exact V_gtrT rfl rfl (by omega) rfl | exact V_gtrF rfl rfl (by omega) rfl | exact V_gtr rfl rfl rfl) | (apply ob_geq; first | exact V_geqT rfl rfl (by omega) rfl | exact V_geqF rfl rfl (by omega) rfl | exact V_geq rfl rfl rfl) | (apply ob_quo; first | exact V_quo rfl rfl (by omega) (by first | exact IntWalk.i64_quo _ _ (by omega) | exact IntWalk.u64_quo _ _ (by omega) | exact IntWalk.u32_quo _ _ (by omega) | exact IntWalk.u8_quo _ _ (by omega)) rfl) | (apply ob_rem; first | exact V_rem rfl rfl (by omega) (Int.tmod_eq_emod_of_nonneg (by omega)) rfl) | (apply ob_and; first | exact V_and rfl rfl (by first | exact mask32_u64 (by omega) | exact mask_u64 8 (by decide) (by omega) rfl | exact mask_u64 16 (by decide) (by omega) rfl) rfl) | (apply ob_eql; first | exact V_eqP (tb := tb) rfl rfl rfl rfl | exact V_eqBB (tb := tb) rfl rfl rfl rfl | exact V_eqB (tb := tb) rfl rfl rfl rfl | exact V_eqNil (tb := tb) rfl rfl rfl rfl | exact V_eqStr rfl rfl (by assumption) (by assumption) rfl) | (apply ob_neq; first | exact V_neP (tb := tb) rfl rfl rfl rfl | exact V_neBB (tb := tb) rfl rfl rfl rfl | exact V_neB (tb := tb) rfl rfl rfl rfl | exact V_neStr rfl rfl (by assumption) (by assumption) rfl) | (apply oK; first | (apply ob_shr; exact V_shr (m := _) rfl rfl (by omega) (by simp only [IntKind.bits, Int.reduceToNat, Nat.reduceLeDiff, Nat.min_eq_left]; exact rfl) (by first | (simp only [Int.reducePow]; exact rfl) | exact rfl) rfl) | (apply ob_shl; exact V_shl (m := _) rfl rfl (by omega) (by simp only [IntKind.bits, Int.reduceToNat, Nat.reduceLeDiff, Nat.min_eq_left]; exact rfl) (by (try simp only [Int.reducePow]); first | exact mu64 _ | exact mu32 _ | exact mu8 _ | exact rfl) rfl))) | (apply oE; first | exact V_extract rfl rfl rfl) | (apply oc_len; exact V_len (tb := tb) rfl rfl rfl) | (apply oc_len; exact V_lenS (tb := tb) rfl rfl rfl) | (apply oc_min; exact V_min rfl rfl rfl rfl) | (apply oc_max; exact V_max rfl rfl rfl rfl) | (apply oCv; first | exact V_conv (tb := tb) rfl rfl rfl (by first | exact mu64 _ | exact mu32 _ | exact mu8 _ | exact rfl) rfl | exact V_str (tb := tb) rfl (by first | exact vec_rd (by repeat (first | apply List.Mem.head | apply List.Mem.tail)) | assumption | exact ArgRd.rd (by assumption) _ | (apply Rd_weak; assumption; intro _ hx; exact St.sub (by repeat (first | exact List.Sublist.refl _ | apply List.Sublist.cons_cons | apply List.Sublist.cons)) hx)) (by first | assumption | rfl | omega) rfl rfl rfl rfl) | (apply oP; first | exact V_pickT rfl rfl rfl | exact V_pickF rfl rfl rfl | exact V_pickB rfl rfl rfl rfl) | (apply oU; first | exact V_notD rfl rfl | exact V_not rfl rfl | exact V_neg rfl (by first | exact mu64 _ | exact mu32 _ | exact mu8 _ | exact rfl) rfl) | (apply oN; first | exact V_nilCheck rfl rfl) | (apply oFA; first | exact V_field (tb := tb) rfl rfl rfl rfl rfl rfl | exact V_fieldC (tb := tb) rfl (by first | exact Rd.sl (vec_rd (by repeat (first | apply List.Mem.head | apply List.Mem.tail))) | exact Rd.sl (by assumption) | exact Rd.sl (ArgRd.rd (by assumption) _) | (apply Rd.sl; (apply Rd_weak; assumption; intro _ hx; exact St.sub (by repeat (first | exact List.Sublist.refl _ | apply List.Sublist.cons_cons | apply List.Sublist.cons)) hx))) (by omega) rfl rfl rfl rfl rfl) | (apply oIA; first | exact V_index (tb := tb) rfl rfl rfl rfl (by first | exact Rd.sl (vec_rd (by repeat (first | apply List.Mem.head | apply List.Mem.tail))) | exact Rd.sl (by assumption) | exact Rd.sl (ArgRd.rd (by assumption) _) | (apply Rd.sl; (apply Rd_weak; assumption; intro _ hx; exact St.sub (by repeat (first | exact List.Sublist.refl _ | apply List.Sublist.cons_cons | apply List.Sublist.cons)) hx))) (by omega) (by (try simp only [tn, tna, tn1, tn2, tn3, tn4, tnd16, tnd8, Int.reduceToNat]); first | exact Nat.mul_one _ | exact rfl) rfl | exact V_indexA (tb := tb) rfl rfl rfl rfl (by omega) rfl) | (apply oBd; first | exact V_build (tb := tb) rfl rfl rfl rfl rfl) | (apply oF; first | exact V_makeFunc rfl rfl rfl)) : JR Try.prog f n R D w0 ops l k (put d v ov) H → JO Try.prog f n R D w0 ops ⟨d, op, T, pos, af, g⟩ l k ov H := fun hn => JO_v h hn
theorem iK (h : OpK Try.prog n D w0 ov H ⟨d, op, T, pos, af, g⟩ H' := by first | exact K_store (tb := tb) rfl rfl (by repeat (first | apply Upd.here | apply Upd.there)) rfl rfl rfl (by repeat (first | exact trivial | refine ⟨rfl, ?_⟩)) rfl rfl | exact K_storeC1 (tb := tb) rfl rfl ints_set (by repeat (first | apply Upd.here | apply Upd.there)) rfl rfl (by rw [ints_len]; omega) rfl) : JR Try.prog f n R D w0 ops l k (put d undef ov) H' → JO Try.prog f n R D w0 ops ⟨d, op, T, pos, af, g⟩ l k ov H := fun hn => JO_k h hn
theorem iQ (h : OpV Try.prog n D w0 ov H ⟨d, op, T, pos, af, g⟩ v := by first | (apply oMv; exact V_move rfl rfl) | (apply oAs; exact V_assign rfl rfl) | (apply oL; first | exact V_load (tb := tb) rfl (by repeat (first | apply List.Mem.head | apply List.Mem.tail)) rfl rfl rfl rfl | exact V_loadC (tb := tb) rfl (by first | exact vec_rd (by repeat (first | apply List.Mem.head | apply List.Mem.tail)) | assumption | exact ArgRd.rd (by assumption) _ | (apply Rd_weak; assumption; intro _ hx; exact St.sub (by repeat (first | exact List.Sublist.refl _ | apply List.Sublist.cons_cons | apply List.Sublist.cons)) hx)) rfl rfl (by first | exact ints_get (by omega) | exact rfl) rfl | exact V_loadA (tb := tb) rfl (by repeat (first | apply List.Mem.head | apply List.Mem.tail)) rfl rfl rfl rfl) | (apply oB; first | (apply ob_add; first | exact V_add rfl rfl (by first | exact wi64 (by omega) | exact wu64 (by omega) | exact wu32 (by omega) | exact wu8 (by omega) | exact mu64 _ | exact mu32 _ | exact mu8 _ | exact mi64 _ | exact rfl) rfl) | (apply ob_sub; first | exact V_sub rfl rfl (by first | exact wi64 (by omega) | exact wu64 (by omega) | exact wu32 (by omega) | exact wu8 (by omega) | exact mu64 _ | exact mu32 _ | exact mu8 _ | exact mi64 _ | exact rfl) rfl) | (apply ob_mul; first | exact V_mul rfl rfl (by first | exact wi64 (by omega) | exact wu64 (by omega) | exact wu32 (by omega) | exact wu8 (by omega) | exact mu64 _ | exact mu32 _ | exact mu8 _ | exact mi64 _ | exact rfl) rfl) | (apply ob_eql; first | exact V_eqlT rfl rfl (by omega) rfl | exact V_eqlF rfl rfl (by omega) rfl | exact V_eql rfl rfl rfl) | (apply ob_neq; first | exact V_neqT rfl rfl (by omega) rfl | exact V_neqF rfl rfl (by omega) rfl | exact V_neq rfl rfl rfl) | (apply ob_lss; first | exact V_lssT rfl rfl (by omega) rfl | exact V_lssF rfl rfl (by omega) rfl | exact V_lss rfl rfl rfl) | (apply ob_leq; first | exact V_leqT rfl rfl (by omega) rfl | exact V_leqF rfl rfl (by omega) rfl | exact V_leq rfl rfl rfl) | (apply ob_gtr; first | exact V_gtrT rfl rfl (by omega) rfl | exact V_gtrF rfl rfl (by omega) rfl | exact V_gtr rfl rfl rfl) | (apply ob_geq; first | exact V_geqT rfl rfl (by omega) rfl | exact V_geqF rfl rfl (by omega) rfl | exact V_geq rfl rfl rfl) | (apply ob_quo; first | exact V_quo rfl rfl (by omega) (by first | exact IntWalk.i64_quo _ _ (by omega) | exact IntWalk.u64_quo _ _ (by omega) | exact IntWalk.u32_quo _ _ (by omega) | exact IntWalk.u8_quo _ _ (by omega)) rfl) | (apply ob_rem; first | exact V_rem rfl rfl (by omega) (Int.tmod_eq_emod_of_nonneg (by omega)) rfl) | (apply ob_and; first | exact V_and rfl rfl (by first | exact mask32_u64 (by omega) | exact mask_u64 8 (by decide) (by omega) rfl | exact mask_u64 16 (by decide) (by omega) rfl) rfl) | (apply ob_eql; first | exact V_eqP (tb := tb) rfl rfl rfl rfl | exact V_eqBB (tb := tb) rfl rfl rfl rfl | exact V_eqB (tb := tb) rfl rfl rfl rfl | exact V_eqNil (tb := tb) rfl rfl rfl rfl | exact V_eqStr rfl rfl (by assumption) (by assumption) rfl) | (apply ob_neq; first | exact V_neP (tb := tb) rfl rfl rfl rfl | exact V_neBB (tb := tb) rfl rfl rfl rfl | exact V_neB (tb := tb) rfl rfl rfl rfl | exact V_neStr rfl rfl (by assumption) (by assumption) rfl) | (apply oK; first | (apply ob_shr; exact V_shr (m := _) rfl rfl (by omega) (by simp only [IntKind.bits, Int.reduceToNat, Nat.reduceLeDiff, Nat.min_eq_left]; exact rfl) (by first | (simp only [Int.reducePow]; exact rfl) | exact rfl) rfl) | (apply ob_shl; exact V_shl (m := _) rfl rfl (by omega) (by simp only [IntKind.bits, Int.reduceToNat, Nat.reduceLeDiff, Nat.min_eq_left]; exact rfl) (by (try simp only [Int.reducePow]); first | exact wi64 (by omega) | exact wu64 (by omega) | exact wu32 (by omega) | exact wu8 (by omega) | exact mu64 _ | exact mu32 _ | exact mu8 _ | exact mi64 _ | exact rfl) rfl))) | (apply oE; first | exact V_extract rfl rfl rfl) | (apply oc_len; exact V_len (tb := tb) rfl rfl rfl) | (apply oc_len; exact V_lenS (tb := tb) rfl rfl rfl) | (apply oc_min; exact V_min rfl rfl rfl rfl) | (apply oc_max; exact V_max rfl rfl rfl rfl) | (apply oCv; first | exact V_conv (tb := tb) rfl rfl rfl (by first | exact wi64 (by omega) | exact wu64 (by omega) | exact wu32 (by omega) | exact wu8 (by omega) | exact mu64 _ | exact mu32 _ | exact mu8 _ | exact mi64 _ | exact rfl) rfl | exact V_str (tb := tb) rfl (by first | exact vec_rd (by repeat (first | apply List.Mem.head | apply List.Mem.tail)) | assumption | exact ArgRd.rd (by assumption) _ | (apply Rd_weak; assumption; intro _ hx; exact St.sub (by repeat (first | exact List.Sublist.refl _ | apply List.Sublist.cons_cons | apply List.Sublist.cons)) hx)) (by first | assumption | rfl | omega) rfl rfl rfl rfl) | (apply oP; first | exact V_pickT rfl rfl rfl | exact V_pickF rfl rfl rfl | exact V_pickB rfl rfl rfl rfl) | (apply oU; first | exact V_notD rfl rfl | exact V_not rfl rfl | exact V_neg rfl (by first | exact wi64 (by omega) | exact wu64 (by omega) | exact wu32 (by omega) | exact wu8 (by omega) | exact mu64 _ | exact mu32 _ | exact mu8 _ | exact mi64 _ | exact rfl) rfl) | (apply oN; first | exact V_nilCheck rfl rfl) | (apply oFA; first | exact V_field (tb := tb) rfl rfl rfl rfl rfl rfl | exact V_fieldC (tb := tb) rfl (by first | exact Rd.sl (vec_rd (by repeat (first | apply List.Mem.head | apply List.Mem.tail))) | exact Rd.sl (by assumption) | exact Rd.sl (ArgRd.rd (by assumption) _) | (apply Rd.sl; (apply Rd_weak; assumption; intro _ hx; exact St.sub (by repeat (first | exact List.Sublist.refl _ | apply List.Sublist.cons_cons | apply List.Sublist.cons)) hx))) (by omega) rfl rfl rfl rfl rfl) | (apply oIA; first | exact V_index (tb := tb) rfl rfl rfl rfl (by first | exact Rd.sl (vec_rd (by repeat (first | apply List.Mem.head | apply List.Mem.tail))) | exact Rd.sl (by assumption) | exact Rd.sl (ArgRd.rd (by assumption) _) | (apply Rd.sl; (apply Rd_weak; assumption; intro _ hx; exact St.sub (by repeat (first | exact List.Sublist.refl _ | apply List.Sublist.cons_cons | apply List.Sublist.cons)) hx))) (by omega) (by (try simp only [tn, tna, tn1, tn2, tn3, tn4, tnd16, tnd8, Int.reduceToNat]); first | exact Nat.mul_one _ | exact rfl) rfl | exact V_indexA (tb := tb) rfl rfl rfl rfl (by omega) rfl) | (apply oBd; first | exact V_build (tb := tb) rfl rfl rfl rfl rfl) | (apply oF; first | exact V_makeFunc rfl rfl rfl)) (hlo : loud op = false := by rfl) : QR Try.prog n D w0 Z l (put d v ov) H K → QO Try.prog n D w0 Z ⟨d, op, T, pos, af, g⟩ l ov H K := fun hn => QO_v hlo h hn
theorem iQK (hs : Z.2.contains l.length = true) (h : OpK Try.prog n D w0 ov H ⟨d, op, T, pos, af, g⟩ H' := by first | exact K_store (tb := tb) rfl rfl (by repeat (first | apply Upd.here | apply Upd.there)) rfl rfl rfl (by repeat (first | exact trivial | refine ⟨rfl, ?_⟩)) rfl rfl | exact K_storeC1 (tb := tb) rfl rfl ints_set (by repeat (first | apply Upd.here | apply Upd.there)) rfl rfl (by rw [ints_len]; omega) rfl) (hlo : loud op = true := by rfl) : QR Try.prog n D w0 Z l (put d undef ov) H' K → QO Try.prog n D w0 Z ⟨d, op, T, pos, af, g⟩ l ov H K := fun hn => QO_k hlo h hs hn
end
theorem sx {G G' : Prop} (h : G') (t : G' → G := by first | (apply igJO; first | (apply ikS; exact iK) | (apply ikX; exact JO_box rfl rfl rfl) | (apply ikA; exact JO_alloc (tb := tb) rfl rfl) | (apply ikBs; exact JO_buildSlice (tb := tb) rfl rfl rfl rfl rfl rfl rfl rfl rfl) | (apply ikM; exact JO_make (tb := tb) rfl rfl rfl rfl rfl rfl (by omega) rfl) | exact iO) | (apply igJR; first | exact JR_un | exact JR_nil | exact JR_yes rfl rfl | exact JR_no rfl rfl rfl rfl | exact JR_noU rfl rfl rfl) | (apply igJS; first | exact JS_seq | exact JS_region | exact JS_skip | exact JS_block | exact JS_inBlock | exact JS_label | exact JS_exit rfl | exact JS_condT rfl | exact JS_condF rfl | exact JS_draw [0] (by kernel_rfl) (by kernel_rfl) (by decide +kernel) | exact JS_draw [] (by kernel_rfl) (by kernel_rfl) (by decide +kernel) | exact JS_cond_T rfl (by omega) | exact JS_cond_F rfl (by omega)) | (apply igQR; first | exact QR_un | exact QR_nil | exact QR_yes rfl rfl | exact QR_no rfl rfl rfl rfl | exact QR_noU rfl rfl rfl) | (apply igQO; first | exact iQ | exact iQK rfl)) : G := t h
theorem sy {G G' : Prop} (h : G') (t : G' → G := by first | (apply igJO; first | (apply ikS; exact iK) | (apply ikX; exact JO_box rfl rfl rfl) | (apply ikA; exact JO_alloc (tb := tb) rfl rfl) | (apply ikBs; exact JO_buildSlice (tb := tb) rfl rfl rfl rfl rfl rfl rfl rfl rfl) | (apply ikM; exact JO_make (tb := tb) rfl rfl rfl rfl rfl rfl (by omega) rfl) | exact iO) | (apply igJR; first | exact JR_un | exact JR_nil | exact JR_yes rfl rfl | exact JR_no rfl rfl rfl rfl | exact JR_noU rfl rfl rfl) | (apply igJS; first | exact JS_seq | exact JS_region | exact JS_skip | exact JS_block | exact JS_inBlock | exact JS_label | exact JS_exit rfl | exact JS_condT rfl | exact JS_condF rfl | exact JS_draw [0] (by kernel_rfl) (by kernel_rfl) (by decide +kernel) | exact JS_draw [] (by kernel_rfl) (by kernel_rfl) (by decide +kernel)) | (apply igQR; first | exact QR_un | exact QR_nil | exact QR_yes rfl rfl | exact QR_no rfl rfl rfl rfl | exact QR_noU rfl rfl rfl) | (apply igQO; first | exact iQ | exact iQK rfl)) : G := t h
theorem su {G G' : Prop} (h : G') (t : G' → G := by first | (apply igJO; first | (apply ikS; exact iK) | (apply ikX; exact JO_box rfl rfl rfl) | (apply ikA; exact JO_alloc (tb := tb) rfl rfl) | (apply ikBs; exact JO_buildSlice (tb := tb) rfl rfl rfl rfl rfl rfl rfl rfl rfl) | (apply ikM; exact JO_make (tb := tb) rfl rfl rfl rfl rfl rfl (by omega) rfl) | exact iU) | (apply igJR; first | exact JR_un | exact JR_nil | exact JR_yes rfl rfl | exact JR_no rfl rfl rfl rfl | exact JR_noU rfl rfl rfl) | (apply igJS; first | exact JS_seq | exact JS_region | exact JS_skip | exact JS_block | exact JS_inBlock | exact JS_label | exact JS_exit rfl | exact JS_condT rfl | exact JS_condF rfl | exact JS_draw [0] (by kernel_rfl) (by kernel_rfl) (by decide +kernel) | exact JS_draw [] (by kernel_rfl) (by kernel_rfl) (by decide +kernel)) | (apply igQR; first | exact QR_un | exact QR_nil | exact QR_yes rfl rfl | exact QR_no rfl rfl rfl rfl | exact QR_noU rfl rfl rfl) | (apply igQO; first | exact iQ | exact iQK rfl)) : G := t h
end Go.Proofs.Ytbiocgenbgbfpaa

namespace Go.Proofs.Ytbiocgenbgbfpaa
open Sx Go
set_option linter.unusedVariables false
set_option linter.unusedSimpArgs false
theorem ints_app1 {K : IntKind} {l : List Int} {x : Int} : ints K l ++ [.int K x] = ints K (l ++ [x]) := by simp [ints]
/-- a table by its places -/
def tab (n : Nat) (f : Nat → Int) : List Int := (List.range n).map f
theorem tab_len (n : Nat) (f : Nat → Int) : (tab n f).length = n := by simp [tab]
theorem tab_set (n : Nat) (f : Nat → Int) (i : Nat) (v : Int) : (tab n f).set i v = tab n fun j => if j = i then v else f j := by
  apply List.ext_getElem?
  intro j
  unfold tab
  rw [List.getElem?_set]
  by_cases hj : j < n
  · by_cases hij : i = j
    · subst hij; simp [hj]
    · rw [if_neg hij]; simp [hj, Ne.symm hij, show ¬ j = i from fun h => hij h.symm]
  · rw [List.getElem?_eq_none (l := (List.range n).map _) (by simp; omega)]
    by_cases hij : i = j
    · subst hij; simp [hj]
    · simp [hij, hj]
theorem tab_congr {n : Nat} {f g : Nat → Int} (h : ∀ j, j < n → f j = g j) : tab n f = tab n g := by
  unfold tab
  apply List.map_congr_left
  intro j hj
  exact h j (by simpa using hj)
theorem tab_succ (n : Nat) (f : Nat → Int) : tab (n + 1) f = tab n f ++ [f n] := by simp [tab, List.range_succ]
theorem tab_const (n : Nat) (x : Int) : List.replicate n x = tab n fun _ => x := by
  unfold tab
  rw [show (fun _ : Nat => x) = Function.const _ x from rfl, List.map_const, List.length_range]
theorem tab_get {n : Nat} {f : Nat → Int} {j : Nat} (h : j < n) : (tab n f).getD j 0 = f j := by simp [tab, List.getD_eq_getElem?_getD, h]
theorem tab_out {n : Nat} {f : Nat → Int} {j : Nat} (h : n ≤ j) : (tab n f).getD j 0 = 0 := by
  rw [List.getD_eq_getElem?_getD, List.getElem?_eq_none (by rw [tab_len]; exact h)]; rfl
end Go.Proofs.Ytbiocgenbgbfpaa

namespace Sx
open Go
/-! operations that hand back a value and change memory -/
section
variable {P : Program} {f n : Nat} {R : Ending → World → Prop} {D : List Deferred} {w0 : World} {k : List Item} {ov : Ov} {H : List Asn} {K : KC} {Z : Array Oper × List Nat}
  {ops : Array Oper} {l : List Oper} {d : Option Nat} {T : Nat} {pos : String} {af : Array Edge} {g : Option (Nat × Bool)} {x y : Operand} {op : Op} {tb : Tb P}
/-- operation o yields v c, for some c, and the assertions become H' c -/
def OpE {ι : Type} (P : Program) (n : Nat) (D : List Deferred) (w0 : World) (ov : Ov) (H : List Asn) (o : Oper) (v : ι → Value) (H' : ι → List Asn) : Prop :=
  dOk o.dst n = true ∧ ∀ a w, Rep n D ov a → St w0 H w → ∃ c w', (execOp a.eval o).run P w = .ok (.value (v c)) w' ∧ St w0 (H' c) w'
theorem JO_e {ι : Type} {v : ι → Value} {H' : ι → List Asn} (h : OpE P n D w0 ov H ⟨d, op, T, pos, af, g⟩ v H') (hn : ∀ c, JR P f n R D w0 ops l k (put d (v c) ov) (H' c)) : JO P f n R D w0 ops ⟨d, op, T, pos, af, g⟩ l k ov H :=
  JO_step fun a w ha hw => let ⟨c, w', h1, h2⟩ := h.2 a w ha hw; ⟨v c, w', h1, h.1, H' c, h2, hn c⟩
theorem QO_e {ι : Type} {v : ι → Value} {H' : ι → List Asn} (h : OpE P n D w0 ov H ⟨d, op, T, pos, af, g⟩ v H') (hlo : loud op = true) (hs : Z.2.contains l.length = true ∨ ∀ c w, St w0 (H' c) w → St w0 H w) (hn : ∀ c, QR P n D w0 Z l (put d (v c) ov) (H' c) K) : QO P n D w0 Z ⟨d, op, T, pos, af, g⟩ l ov H K := by
  unfold QO
  intro a ha
  refine .inr ⟨hlo, fun w hw => ?_⟩
  obtain ⟨c, w', hrun, hw'⟩ := h.2 a w ha hw
  simp only [Oper.wpN, hrun, Oper.upN]
  exact ⟨St w0 (H' c), hw', hs.symm.imp (fun h => h c) id, by have := hn c; unfold QR at this; exact this _ (ha.put h.1 _)⟩
theorem Rd.nil {p : Option Addr} {m c m' : Nat} {cs : List Value} {w : World} (h : Rd w0 H (.slice p m c) m' cs) (hw : St w0 H w) : p = none → m = 0 := by
  unfold Rd at h
  obtain ⟨⟨b, c', e, hn, _⟩, _⟩ := h w hw
  cases e
  exact hn
theorem Sel.self {H a F} (h : Sel H a F) : F a = H := by
  induction h with
  | here a r => rfl
  | there y a r F _ ih => simp [ih]
theorem Sel.mem {H a F} (h : Sel H a F) : a ∈ H := by
  induction h with
  | here a r => exact List.Mem.head _
  | there y a r F _ ih => exact List.Mem.tail _ ih
theorem add_zero' (a : Addr) : a.add 0 = a := by unfold Addr.add; simp
theorem run_storeSeg {e size m j : Nat} {u : Value} {cs vs : List Value} {w : World} {F : Asn → List Asn} (hu : Sel H (vec e size u m cs) F) (hw : St w0 H w) (hp : 0 < vs.length) (h1 : All1 vs) (hf : j + vs.length ≤ cs.length) :
    ∃ b c w', u = .slice (some ⟨b, 0, none⟩) m c ∧ (storeCells ⟨b, j, none⟩ vs).run P w = .ok () w' ∧ St w0 (F (vec e size u m (cs.take j ++ vs ++ cs.drop (j + vs.length)))) w' := by
  obtain ⟨fp, hfp⟩ := hw.mem hu.mem
  rw [vec_holds] at hfp
  rcases hfp.2 with ⟨base, rfl, rfl, _⟩ | ⟨gb, cap, cur, rfl, _, hg, hn, hcm, hsz, ht⟩
  · have := hfp.1; rw [Nat.zero_mul] at this; omega
  · have hcl := hfp.1
    have hlen : cs.length ≤ cur.size := by rw [hcl, hsz]; exact Nat.mul_le_mul_right _ hn
    have hst := run_storeCells_at P gb j e vs 0 cur w hg (by omega) h1.mem
    simp only [Nat.add_zero] at hst
    refine ⟨gb, cap, _, rfl, hst, ?_⟩
    refine hw.row (hu.upd _) (cs := cur.toList) (by simpa using hg) (fun fq hq2 => ?_) fun w' h' => ?_
    · rw [vec_holds] at hq2
      rcases hq2.2 with ⟨base, hb, _⟩ | ⟨g', cap', cur', hv', hfq, _⟩
      · simp at hb; rw [hb.2.1, Nat.zero_mul] at hcl; omega
      · simp at hv'; rw [hfq, hv'.1]
    · rw [vec_holds]
      refine ⟨by rw [← hcl]; simp; omega, .inr ⟨gb, cap, _, rfl, rfl, h', hn, hcm, by simp; omega, ?_⟩⟩
      have hcs : cs = cur.toList.take cs.length := by rw [hcl]; exact ht.symm
      rw [← hcl]
      have e1 : cs.take j = cur.toList.take j := by rw [hcs, List.take_take]; congr 1; omega
      rw [e1, List.take_append, List.take_append]
      congr 1
      · congr 1
        · rw [List.take_take]; congr 1; omega
        · simp
          rw [List.take_of_length_le (by omega)]
      · have e2 : cs.drop (j + vs.length) = (cur.toList.drop (j + vs.length)).take (cs.length - (j + vs.length)) := by
          conv => lhs; rw [hcs]
          rw [List.drop_take]
        rw [e2]
        congr 1
        simp
        omega
theorem All1.take {l : List Value} (h : All1 l) (n : Nat) : All1 (l.take n) := All1.of fun v hv => h.mem v (List.mem_of_mem_take hv)
/-- copy into a slice, or a slice's part -/
theorem E_copy {t e sz by' m q lo kk c cd sz1 by1 : Nat} {ty2 : Ty} {z1 z2 : Option (List Value)} {a pd : Option Addr} {ux : Value} {cs news : List Value} {F : Asn → List Asn}
    (hx : ev ov x = some (.slice pd kk cd)) (hy : ev ov y = some ux) (h : tlook tb.l t = some ⟨.slice e, sz1, by1, z1⟩) (h2 : tlook tb.l e = some ⟨ty2, sz, by', z2⟩) (hsz : Nat.blt 0 sz = true)
    (hu : Sel H (vec e sz (.slice a m c) m cs) F) (hp : 0 < kk → pd = a.map (·.add (lo * sz))) (hk : lo + kk ≤ m) (hr : Rd w0 H ux q news) (hl : news.length = q * sz) (h1 : All1 news) (hd : dOk d n = true) :
    OpE (ι := Unit) P n D w0 ov H ⟨d, .call ⟨.builtin .copy, #[x, y], #[t, t]⟩, T, pos, af, g⟩ (fun _ => .int .i64 (min q kk : Nat)) (fun _ => F (vec e sz (.slice a m c) m (cs.take (lo * sz) ++ news.take (min q kk * sz) ++ cs.drop (lo * sz + min q kk * sz)))) :=
  ⟨hd, fun A w ha hw => by
    unfold Rd at hr
    obtain ⟨⟨bx, cx, rfl, hbx, _⟩, hrd⟩ := hr w hw
    have hsz' : 0 < sz := by simpa [Nat.blt_eq] using hsz
    have hcl := vec_len hu.mem hw
    have e0 := run_underlying (und_slice h) w
    have hlen : (news.take (min q kk * sz)).length = min q kk * sz := by
      rw [List.length_take, hl]
      have : min q kk * sz ≤ q * sz := Nat.mul_le_mul_right _ (Nat.min_le_left _ _)
      omega
    have hfirst : (Builtin.firstCells sz (min q kk) (.slice bx q cx)).run P w = .ok (news.take (min q kk * sz)).toArray w := by
      cases bx with
      | none =>
        have : q = 0 := hbx rfl
        subst this
        have : news = [] := List.eq_nil_of_length_eq_zero (by simpa using hl)
        subst this
        simp [Builtin.firstCells]
      | some b =>
        have := run_loadCells_list (P := P) w b (news.take (min q kk * sz)) (fun j v hv => by
          rw [List.getElem?_take] at hv
          split at hv
          · exact reads_some hrd j v hv
          · cases hv)
        rw [hlen] at this
        simpa [Builtin.firstCells] using this
    by_cases hn0 : min q kk = 0
    · refine ⟨(), w, ?_, ?_⟩
      · simp only [hn0, Nat.zero_mul, List.take_zero] at hfirst
        cases pd <;> simp [execOp, resolve, invoke, builtin, ha.ev hx, ha.ev hy, Builtin.copy_, e0, Builtin.lenOf, Tb.run_size w h2, hn0, hfirst, storeCells, goInt] <;> simp_all
      · simp only [hn0, Nat.zero_mul, List.take_zero, List.append_nil, Nat.add_zero, List.take_append_drop]
        rw [hu.self]; exact hw
    · have hmul : lo * sz + min q kk * sz ≤ m * sz := by
        rw [← Nat.add_mul]; exact Nat.mul_le_mul_right _ (by omega)
      obtain ⟨b, cc, w', hb, hst, hw'⟩ := run_storeSeg (P := P) (vs := news.take (min q kk * sz)) (j := lo * sz) hu hw (by rw [hlen]; exact Nat.mul_pos (by omega) hsz') (h1.take _) (by rw [hlen, hcl]; exact hmul)
      cases hb
      have hpd := hp (by omega)
      rw [Option.map_some, add_blk, Nat.zero_add] at hpd
      subst hpd
      rw [hlen] at hw'
      refine ⟨(), w', ?_, hw'⟩
      simp [execOp, resolve, invoke, builtin, ha.ev hx, ha.ev hy, Builtin.copy_, e0, Builtin.lenOf, Tb.run_size w h2, hfirst, hst, goInt]⟩
theorem V_eqStrT {A : List Int} {T1 T2 : Nat} (hx : ev ov x = some (.string (bstr A))) (hy : ev ov y = some (.string (bstr A))) (hA : Byt A) (hd : dOk d n = true) :
    OpV P n D w0 ov H ⟨d, .binOp .eql T1 x y T2, T, pos, af, g⟩ (.bool true) := by
  have : OpV P n D w0 ov H ⟨d, .binOp .eql T1 x y T2, T, pos, af, g⟩ (.bool (decide (A = A))) := V_eqStr hx hy hA hA hd
  simpa using this
theorem V_neStrF {A : List Int} {T1 T2 : Nat} (hx : ev ov x = some (.string (bstr A))) (hy : ev ov y = some (.string (bstr A))) (hA : Byt A) (hd : dOk d n = true) :
    OpV P n D w0 ov H ⟨d, .binOp .neq T1 x y T2, T, pos, af, g⟩ (.bool false) := by
  have : OpV P n D w0 ov H ⟨d, .binOp .neq T1 x y T2, T, pos, af, g⟩ (.bool (decide (A ≠ A))) := V_neStr hx hy hA hA hd
  simpa using this
end
end Sx

set_option linter.unusedVariables false
set_option linter.unusedSectionVars false
namespace Sx.Cm
open Go Sx
/-! regions that draw their order once more: a list of operations that look at no world comes first -/
def cmAt (ops : Array Oper) (cm : List Nat) (k : Nat) : Bool := calmAt ops k || cm.contains k
section
variable {P : Program} {E : List PanicEntry → List Deferred → World → Prop} {ops : Array Oper} {cm : List Nat} {C : World → Prop} {S : List Nat} {Q : Act → World → Prop}
/-- what came up before: behind each operation all that it waits for; and what is not in S only behind all of S -/
structure Sofar (ops : Array Oper) (cm : List Nat) (S : List Nat) (listed : Array Bool) : Prop where
  down : ∀ j oj, ops[j]? = some oj → listed.getD j false = true → ∀ e ∈ oj.after, Region.binds .any e = true → listed.getD e.on false = true
  last : ∀ k, k ∉ S → cmAt ops cm k = false → listed.getD k false = true → ∀ s ∈ S, listed.getD s false = true
def gateB (ops : Array Oper) (cm S : List Nat) (k : Nat) : Bool :=
  match ops[k]? with
  | none => true
  | some o => o.after.any (fun e => Region.binds .any e && (!S.contains e.on && !cmAt ops cm e.on)) ||
    S.all fun s => o.after.any (fun e => Region.binds .any e && e.on == s) || S.any fun t => Nat.blt s t && (match ops[t]? with
      | none => false
      | some ot => ot.after.any fun e => Region.binds .any e && e.on == s)
def Gate (ops : Array Oper) (cm S : List Nat) : Prop := ∀ k, k ∉ S → cmAt ops cm k = false → gateB ops cm S k = true
theorem Sofar.gate {listed : Array Bool} {S : List Nat} (h : Sofar ops cm S listed) (hg : Gate ops cm S) (hS : ∀ s ∈ S, s < ops.size) {k : Nat} (hk : k ∉ S) (hkc : cmAt ops cm k = false) (hr : k ∈ Region.ready .any ops listed) : ∀ s ∈ S, listed.getD s false = true := by
  obtain ⟨hun, o, ho, hall⟩ := mem_ready.1 hr
  have hb := hg k hk hkc
  unfold gateB at hb
  simp only [ho, Bool.or_eq_true, Array.any_eq_true', Bool.and_eq_true, Bool.not_eq_true', List.all_eq_true, beq_iff_eq, List.any_eq_true, Nat.blt_eq] at hb
  rcases hb with ⟨e, he, hb, hnot, hcal⟩ | hb
  · exact h.last e.on (by simpa using hnot) hcal (hall e he hb)
  · have key : ∀ m s, s ∈ S → ops.size - s = m → listed.getD s false = true := by
      intro m
      induction m using Nat.strongRecOn with
      | _ m ih =>
        intro s hs hm
        have hlt := hS s hs
        rcases hb s hs with ⟨e, he, hbe, rfl⟩ | ⟨t, ht, hst, hot⟩
        · exact hall e he hbe
        · have htl := ih (ops.size - t) (by have := hS t ht; omega) t ht rfl
          cases hopt : ops[t]? with
          | none => simp [hopt] at hot
          | some ot =>
            simp only [hopt, Array.any_eq_true', Bool.and_eq_true, beq_iff_eq] at hot
            obtain ⟨e, he, hbe, rfl⟩ := hot
            exact h.down t ot hopt htl e he hbe
    exact fun s hs => key _ s hs rfl
theorem Sofar.set {listed : Array Bool} {S : List Nat} (h : Sofar ops cm S listed) (hg : Gate ops cm S) (hS : ∀ s ∈ S, s < ops.size) {i : Nat} (hi : i ∈ Region.ready .any ops listed) : Sofar ops cm S (listed.setIfInBounds i true) := by
  obtain ⟨hun, o, ho, hall⟩ := mem_ready.1 hi
  refine ⟨fun j oj hj hl e he hb => ?_, fun k hk hkc hl s hs => ?_⟩
  · by_cases hij : i = j
    · subst hij
      rw [ho] at hj; cases hj
      exact getD_set_true (hall e he hb)
    · rw [getD_set_ne false hij] at hl
      exact getD_set_true (h.down j oj hj hl e he hb)
  · by_cases hik : i = k
    · subst hik
      exact getD_set_true (h.gate hg hS hk hkc hi s hs)
    · rw [getD_set_ne false hik] at hl
      exact getD_set_true (h.last k hk hkc hl s hs)

/-- a quiet operation that may come up now may be taken first -/
theorem wpS_first {i : Nat} {oi : Oper} {v : Value} (hi : ops[i]? = some oi) (hsel : ∀ (j : Nat) (o : Oper) cs b, ops[j]? = some o → o.op ≠ .select cs b) (hg : Gate ops cm S) (hS : ∀ s ∈ S, s < ops.size) (hiS : i ∈ S) :
    ∀ (fuel : Nat) (listed : Array Bool) (a : Act) (w : World), (∀ c ∈ cm, listed.getD c true = true) → Sofar ops cm S listed →
      (∀ j oj, ops[j]? = some oj → j ≠ i → listed.getD j true = false → (∀ e ∈ oj.after, Region.binds .any e = true → e.on ≠ i) → oi.apart ops oj = true) →
      i ∈ Region.ready .any ops listed → Stays P ops C oi v a → C w →
      wpS P E ops C S Q fuel (listed.setIfInBounds i true) (a.put oi.dst v) w → wpS P E ops C S Q (fuel + 1) listed a w := by
  intro fuel
  induction fuel with
  | zero =>
    intro listed a w _ _ _ hr hy hw H
    refine ⟨fun h => (by rw [h] at hr; cases hr), fun j hj => ?_⟩
    by_cases hji : j = i
    · subst hji; exact hy.step hi hw ⟨fun _ => hw, H⟩
    · have := ready_mono hj hji
      rw [H.1] at this
      cases this
  | succ fuel ih =>
    intro listed a w hcm hG hfree hr hy hw H
    refine ⟨fun h => (by rw [h] at hr; cases hr), fun j hj => ?_⟩
    by_cases hji : j = i
    · subst hji; exact hy.step hi hw ⟨fun _ => hw, H⟩
    · have h1 := H.2 j (ready_mono hj hji)
      obtain ⟨hjun, oj, hoj, hall⟩ := mem_ready.1 hj
      have hiun : listed.getD i false = false := by
        have h0 := (mem_ready.1 hr).1
        rcases Nat.lt_or_ge i listed.size with h' | h'
        · simp [h'] at h0 ⊢; exact h0
        · simp [Array.getElem?_eq_none h']
      have hnot : ∀ e ∈ oj.after, Region.binds .any e = true → e.on ≠ i := fun e he hb heq => by
        have h1 := hall e he hb
        rw [heq, hiun] at h1; cases h1
      have h2 := stepN_put hoj (hfree j oj hoj hji hjun hnot) (fun cs b => hsel i oi cs b hi) (fun cs b => hsel j oj cs b hoj) hy h1
      have hfree' : ∀ k ok, ops[k]? = some ok → k ≠ i → (listed.setIfInBounds j true).getD k true = false →
          (∀ e ∈ ok.after, Region.binds .any e = true → e.on ≠ i) → oi.apart ops ok = true := fun k ok hk hki hun hno => by
        refine hfree k ok hk hki ?_ hno
        by_cases hjk : j = k
        · subst hjk; exact hjun
        · rw [getD_set_ne true hjk] at hun; exact hun
      have hor : j ∈ S ∨ calm oj.op = true := by
        rcases Classical.em (j ∈ S) with h | h
        · exact .inl h
        · cases hcj : calm oj.op with
          | true => exact .inr rfl
          | false =>
            have := hG.gate hg hS h (by unfold cmAt calmAt; simp only [hoj, hcj, Bool.false_or]; simpa using fun (hc : j ∈ cm) => (show False by have h' := hcm j hc; rw [hjun] at h'; cases h')) hj i hiS
            rw [hiun] at this; cases this
      have fin : ∀ a' w', C w' → Stays P ops C oi v a' → (((j ∈ S → C w') ∧ wpS P E ops C S Q fuel ((listed.setIfInBounds i true).setIfInBounds j true) (a'.put oi.dst v) w')) →
          ((j ∈ S → C w') ∧ wpS P E ops C S Q (fuel + 1) (listed.setIfInBounds j true) a' w') := fun a' w' hcw h3 h45 => ⟨fun _ => hcw, by
        refine ih (listed.setIfInBounds j true) a' w' (fun c hc => by
          by_cases hjc : j = c
          · subst hjc; have h' := hcm j hc; rw [hjun] at h'; cases h'
          · rw [getD_set_ne true hjc]; exact hcm c hc) (hG.set hg hS hj) hfree' (ready_mono hr (Ne.symm hji)) h3 hcw ?_
        rw [Array.setIfInBounds_comm _ _ hji]
        exact h45.2⟩
      rcases hor with hjS | hjc
      · exact stepN_mono (fun a' w' ⟨h3, h4, h5⟩ => fin a' w' (h4 hjS) h3 ⟨h4, h5⟩) h2
      · exact stepN_mono (fun a' w' ⟨hww, h3, h45⟩ => fin a' w' (hww ▸ hw) h3 h45) (stepN_calm hoj hjc h2)
end
/-- the operations before the next such one -/
def till (ops : Array Oper) (cm sy : List Nat) : List Nat → List Nat → List Nat
  | done, [] => done.filter fun k => !cmAt ops cm k
  | done, i :: st => if sy.contains st.length then done.filter fun k => !cmAt ops cm k else till ops cm sy (i :: done) st
def ordB (ops : Array Oper) (cm sy : List Nat) : List Nat → List Nat → Array Bool → Bool
  | done, [], listed => (Region.ready .any ops listed).isEmpty && (List.range ops.size).all done.contains
  | done, i :: st, listed =>
    match ops[i]? with
    | none => false
    | some o =>
      (if sy.contains st.length then loud o.op && (List.range ops.size).all (fun k => done.contains k || (cmAt ops cm k || gateB ops cm (done.filter fun k => !cmAt ops cm k) k)) else true) &&
      (if loud o.op then Region.ready .any ops listed == [i] else (Region.ready .any ops listed).contains i && Region.free .any ops listed i) &&
      ordB ops cm sy (i :: done) st (listed.setIfInBounds i true)
section
variable {P : Program} {E : List PanicEntry → List Deferred → World → Prop} {ops : Array Oper} {cm : List Nat} {C : World → Prop} {S : List Nat}
theorem getD_conf {b : Array Bool} {j : Nat} (h : b.getD j true = false) (h' : b.getD j false = true) : False := by
  rw [Array.getD_eq_getD_getElem?] at h h'
  cases hb : b[j]? with
  | none => rw [hb] at h'; simp at h'
  | some x => rw [hb] at h h'; simp at h h'; rw [h] at h'; cases h'
theorem mem_noncalm {ops : Array Oper} {cm done : List Nat} {i : Nat} : i ∈ (done.filter fun k => !cmAt ops cm k) ↔ i ∈ done ∧ cmAt ops cm i = false := by
  rw [List.mem_filter]; simp
theorem till_sub {ops : Array Oper} {cm sy : List Nat} : ∀ (st done : List Nat) (i : Nat), i ∈ done → cmAt ops cm i = false → i ∈ till ops cm sy done st
  | [], _, _, h, hc => mem_noncalm.2 ⟨h, hc⟩
  | j :: st, done, i, h, hc => by
    simp only [till]
    split
    · exact mem_noncalm.2 ⟨h, hc⟩
    · exact till_sub st (j :: done) i (List.mem_cons_of_mem _ h) hc
theorem till_calm {ops : Array Oper} {cm sy : List Nat} : ∀ (st done : List Nat) (i : Nat), i ∈ till ops cm sy done st → cmAt ops cm i = false
  | [], _, _, h => (mem_noncalm.1 h).2
  | j :: st, done, i, h => by
    simp only [till] at h
    split at h
    · exact (mem_noncalm.1 h).2
    · exact till_calm st (j :: done) i h
theorem gate_oob {ops : Array Oper} {cm S : List Nat} {k : Nat} (h : ops.size ≤ k) : gateB ops cm S k = true := by
  simp [gateB, Array.getElem?_eq_none h]
theorem ordB_gate {sy : List Nat} : ∀ (st done : List Nat) (listed : Array Bool), ordB ops cm sy done st listed = true → (∀ s ∈ done, s < ops.size) → Gate ops cm (till ops cm sy done st) ∧ ∀ s ∈ till ops cm sy done st, s < ops.size
  | [], done, listed, h, hs => by
    simp only [ordB, Bool.and_eq_true, List.all_eq_true, List.mem_range] at h
    refine ⟨fun k hk hkc => ?_, fun s h' => hs s (mem_noncalm.1 h').1⟩
    rcases Nat.lt_or_ge k ops.size with hlt | hge
    · exact absurd (mem_noncalm.2 ⟨show k ∈ done by simpa using h.2 k hlt, hkc⟩) hk
    · exact gate_oob hge
  | i :: st, done, listed, h, hs => by
    simp only [ordB] at h
    cases ho : ops[i]? with
    | none => simp [ho] at h
    | some o =>
      simp only [ho, Bool.and_eq_true] at h
      have hi : i < ops.size := (Array.getElem?_eq_some_iff.1 ho).1
      simp only [till]
      split
      · rename_i hc
        simp only [hc, if_true, Bool.and_eq_true, List.all_eq_true, List.mem_range, Bool.or_eq_true] at h
        refine ⟨fun k hk hkc => ?_, fun s h' => hs s (mem_noncalm.1 h').1⟩
        rcases Nat.lt_or_ge k ops.size with hlt | hge
        · have h1 : done.contains k = true ∨ cmAt ops cm k = true ∨ gateB ops cm (done.filter fun k => !cmAt ops cm k) k = true := h.1.1.2 k hlt
          rcases h1 with h1 | h1 | h1
          · exact absurd (mem_noncalm.2 ⟨by simpa using h1, hkc⟩) hk
          · rw [hkc] at h1; cases h1
          · exact h1
        · exact gate_oob hge
      · exact ordB_gate st (i :: done) _ h.2 (fun s hs' => (List.mem_cons.1 hs').elim (fun e => e ▸ hi) (hs s))
theorem wpS_walk {sy : List Nat} {K : (World → Prop) → Act → Prop} (hsel : Region.noSelect ops = true) : ∀ (st done : List Nat) (l : List Oper) (listed : Array Bool) (C : World → Prop) (a : Act),
    l.map some = st.map (fun i => ops[i]?) → ordB ops cm sy done st listed = true → (∀ c ∈ cm, c ∈ done) → (∀ s ∈ done, s < ops.size) → (∀ j, listed.getD j false = true ↔ j ∈ done) → (∀ S, (∀ s ∈ done, cmAt ops cm s = false → s ∈ S) → Sofar ops cm S listed) → walkN P E ops sy K l C a →
    ∀ w, C w → wpS P E ops C (till ops cm sy done st) (fun a w => ∃ C' : World → Prop, C' w ∧ K C' a) st.length listed a w
  | [], done, l, listed, C, a, hl, hB, hc0, hs, hd, hG, h, w, hw => by
    have : l = [] := by simpa using hl
    subst this
    simp only [ordB, Bool.and_eq_true, List.isEmpty_iff] at hB
    exact ⟨hB.1, C, hw, h⟩
  | i :: st, done, [], listed, C, a, hl, hB, hc0, hs, hd, hG, h, w, hw => by simp at hl
  | i :: st, done, o :: l, listed, C, a, hl, hB, hc0, hs, hd, hG, h, w, hw => by
    obtain ⟨hgate, hsz⟩ := ordB_gate (i :: st) done listed hB hs
    simp only [List.map_cons, List.cons.injEq] at hl
    have ho : ops[i]? = some o := hl.1.symm
    have hlen : l.length = st.length := by simpa using congrArg List.length hl.2
    have hi : i < ops.size := (Array.getElem?_eq_some_iff.1 ho).1
    have hB0 := hB
    simp only [ordB, ho, Bool.and_eq_true] at hB
    obtain ⟨⟨hB1, hB2⟩, hB3⟩ := hB
    have hrdy : i ∈ Region.ready .any ops listed := by
      split at hB2
      · rw [beq_iff_eq] at hB2; rw [hB2]; simp
      · rw [Bool.and_eq_true] at hB2; simpa using hB2.1
    have hdn : ∀ c ∈ done, listed.getD c true = true := fun c hc => by
      cases hx : listed.getD c true with
      | true => rfl
      | false => exact (getD_conf hx ((hd c).2 hc)).elim
    have hcmi : cm.contains i = false := by
      cases hx : cm.contains i with
      | false => rfl
      | true =>
        have := hdn i (hc0 i (by simpa using hx))
        rw [(mem_ready.1 hrdy).1] at this; cases this
    have hs' : ∀ s ∈ i :: done, s < ops.size := fun s hs' => (List.mem_cons.1 hs').elim (fun e => e ▸ hi) (hs s)
    have hiun : listed.getD i true = false := (mem_ready.1 hrdy).1
    have hlt : i < listed.size := by
      rcases Nat.lt_or_ge i listed.size with h' | h'
      · exact h'
      · simp [Array.getElem?_eq_none h'] at hiun
    have hd' : ∀ j, (listed.setIfInBounds i true).getD j false = true ↔ j ∈ i :: done := fun j => by
      by_cases hij : i = j
      · subst hij
        simp [hlt]
      · rw [getD_set_ne false hij, hd j]
        simp [Ne.symm hij]
    have hG' : ∀ S, (∀ s ∈ i :: done, cmAt ops cm s = false → s ∈ S) → Sofar ops cm S (listed.setIfInBounds i true) := fun S hS => by
      refine ⟨fun j oj hj hl e he hb => ?_, fun k hk hkc hl => absurd (hS k ((hd' k).1 hl) hkc) hk⟩
      by_cases hij : i = j
      · subst hij
        rw [ho] at hj; cases hj
        obtain ⟨_, o', ho', hall⟩ := mem_ready.1 hrdy
        rw [ho] at ho'; cases ho'
        exact getD_set_true (hall e he hb)
      · rw [getD_set_ne false hij] at hl
        exact getD_set_true ((hG S fun s hs => hS s (List.mem_cons_of_mem _ hs)).down j oj hj hl e he hb)
    have IH := fun (C : World → Prop) (a : Act) (h : walkN P E ops sy K l C a) => wpS_walk hsel st (i :: done) l (listed.setIfInBounds i true) C a hl.2 hB3 (fun c hc => List.mem_cons_of_mem _ (hc0 c hc)) hs' hd' hG' h
    have hunl : ∀ j, (listed.setIfInBounds i true).getD j true = false → j ∉ i :: done := fun j h hj => getD_conf h ((hd' j).2 hj)
    simp only [walkN] at h
    have hpure : ∀ v, loud o.op = false → Stays P ops C o v a → walkN P E ops sy K l C (a.put o.dst v) → wpS P E ops C (till ops cm sy done (i :: st)) (fun a w => ∃ C' : World → Prop, C' w ∧ K C' a) (st.length + 1) listed a w := by
      intro v hlo hst hn
      have hnsy : sy.contains st.length = false := by
        cases hc : sy.contains st.length with
        | false => rfl
        | true => rw [hc] at hB1; simp [hlo] at hB1
      have htl : till ops cm sy done (i :: st) = till ops cm sy (i :: done) st := by simp only [till]; rw [hnsy]; simp
      simp only [hlo, Bool.false_eq_true, if_false, Bool.and_eq_true] at hB2
      cases hcal : calm o.op with
      | false =>
        refine wpS_first ho (Region.noSelect_spec hsel) hgate hsz (by rw [htl]; exact till_sub _ _ _ (List.mem_cons_self ..) (by unfold cmAt calmAt; simp only [ho, hcal, hcmi, Bool.or_false])) st.length listed a w (fun c hc => hdn c (hc0 c hc)) (hG _ fun s hs hc => till_sub _ _ _ hs hc) (Region.free_spec ho hB2.2) hrdy hst hw ?_
        rw [htl]
        exact IH C _ hn w hw
      | true =>
        refine wpS_calm ho (Region.noSelect_spec hsel) (fun h => by have h' := till_calm _ _ _ h; unfold cmAt calmAt at h'; simp only [ho, hcal, Bool.true_or] at h'; cases h') st.length listed a w (Region.free_spec ho hB2.2) hrdy (hst.calm hcal hw) ?_
        rw [htl]
        exact IH C _ hn w hw
    have hloud : loud o.op = true → ∀ (a' : Act) (w' : World) (C' : World → Prop), C' w' → ((∀ w, C' w → C w) ∨ sy.contains st.length = true) → walkN P E ops sy K l C' a' →
        ((i ∈ till ops cm sy done (i :: st) → C w') ∧ wpS P E ops C (till ops cm sy done (i :: st)) (fun a w => ∃ C' : World → Prop, C' w ∧ K C' a) st.length (listed.setIfInBounds i true) a' w') := by
      intro hlo a' w' C' hw' hor hn
      have h1 := IH C' a' hn w' hw'
      cases hc : sy.contains st.length with
      | true =>
        have htl : till ops cm sy done (i :: st) = done.filter fun k => !cmAt ops cm k := by simp only [till]; rw [hc]; simp
        rw [htl]
        refine ⟨fun hid => ?_, wpS_weak _ _ _ _ (fun j hj hu => absurd (List.mem_cons_of_mem _ (mem_noncalm.1 hj).1) (hunl j hu)) h1⟩
        exact (getD_conf hiun ((hd i).2 (mem_noncalm.1 hid).1)).elim
      | false =>
        have hsub := hor.resolve_right (by rw [hc]; simp)
        have htl : till ops cm sy done (i :: st) = till ops cm sy (i :: done) st := by simp only [till]; rw [hc]; simp
        rw [htl]
        exact ⟨fun _ => hsub _ hw', wpS_weak _ _ _ _ (fun j hj _ => ⟨hj, hsub⟩) h1⟩
    by_cases hwt : Region.wanted o (yielded ops a.tmps) = true
    · rw [if_pos hwt] at h
      rcases h with ⟨hlo, v, hv, hn⟩ | ⟨hlo, hn⟩
      · exact hpure v hlo (.inl ⟨hwt, hv⟩) hn
      · rw [if_pos hlo, beq_iff_eq] at hB2
        refine ⟨fun h0 => (by rw [h0] at hrdy; cases hrdy), fun j hj => ?_⟩
        have : j = i := by rw [hB2] at hj; simpa using hj
        subst this
        unfold stepN
        simp only [ho, hwt, if_true]
        exact Oper.wpN_mono (fun a' w' ⟨C', hw', hor, hn'⟩ => hloud hlo a' w' C' hw' (by rwa [hlen] at hor) hn') (hn w hw)
    · have hwt' : Region.wanted o (yielded ops a.tmps) = false := by simpa using hwt
      rw [if_neg hwt] at h
      cases hlo : loud o.op with
      | false => exact hpure undef hlo (.inr ⟨hwt', rfl⟩) h
      | true =>
        rw [if_pos hlo, beq_iff_eq] at hB2
        refine ⟨fun h0 => (by rw [h0] at hrdy; cases hrdy), fun j hj => ?_⟩
        have : j = i := by rw [hB2] at hj; simpa using hj
        subst this
        unfold stepN
        simp only [ho, hwt', Bool.false_eq_true, if_false]
        exact hloud hlo _ _ C hw (.inl fun _ h => h) h
end
/-- the list: quiet, ready, free -/
def preC (ops : Array Oper) (k : List Nat → Array Bool → Bool) : List Nat → List Nat → Array Bool → Bool
  | [], done, listed => k done listed
  | x :: st, done, listed =>
    match ops[x]? with
    | none => false
    | some o => !loud o.op && (Region.ready .any ops listed).contains x && Region.free .any ops listed x && preC ops k st (x :: done) (listed.setIfInBounds x true)
def walkC (P : Program) (ops : Array Oper) (K : Act → Prop) : List Oper → Act → Prop
  | [], a => K a
  | o :: r, a => Region.wanted o (yielded ops a.tmps) = true ∧ ∃ v, (∀ w, (execOp a.eval o).run P w = .ok (.value v) w) ∧ walkC P ops K r (a.put o.dst v)
section
variable {P : Program} {E : List PanicEntry → List Deferred → World → Prop} {ops : Array Oper}
theorem wpS_pre {cm sy : List Nat} {K : (World → Prop) → Act → Prop} (hsel : Region.noSelect ops = true) (st : List Nat) (l : List Oper) (C : World → Prop) (hl : l.map some = st.map (fun i => ops[i]?)) : ∀ (pre done : List Nat) (lp : List Oper) (listed : Array Bool) (a : Act),
    lp.map some = pre.map (fun i => ops[i]?) → preC ops (fun done listed => ordB ops cm sy done st listed) pre done listed = true → (∀ c, c ∈ cm ↔ c ∈ List.reverseAux pre done) → (∀ s ∈ done, s < ops.size) → (∀ j, listed.getD j false = true ↔ j ∈ done) →
    (∀ j oj, ops[j]? = some oj → listed.getD j false = true → ∀ e ∈ oj.after, Region.binds .any e = true → listed.getD e.on false = true) → (∀ c ∈ done, c ∈ cm) → walkC P ops (walkN P E ops sy K l C) lp a →
    ∀ w, C w → wpS P E ops C (till ops cm sy (List.reverseAux pre done) st) (fun a w => ∃ C' : World → Prop, C' w ∧ K C' a) (pre.length + st.length) listed a w
  | [], done, [], listed, a, hp, hB, hcm, hs, hd, hdn, hdc, h, w, hw => by
    rw [show ([] : List Nat).length + st.length = st.length from Nat.zero_add _]
    refine wpS_walk hsel st done l listed C a hl hB (fun c hc => (hcm c).1 hc) hs hd (fun S hS => ⟨fun j oj hj hl e he hb => hdn j oj hj hl e he hb, fun k hk hkc hlk => ?_⟩) h w hw
    have : k ∈ cm := hdc k ((hd k).1 hlk)
    unfold cmAt at hkc
    simp [this] at hkc
  | [], done, _ :: _, listed, a, hp, hB, hcm, hs, hd, hdn, hdc, h, w, hw => by simp at hp
  | i :: pre, done, [], listed, a, hp, hB, hcm, hs, hd, hdn, hdc, h, w, hw => by simp at hp
  | i :: pre, done, o :: lp, listed, a, hp, hB, hcm, hs, hd, hdn, hdc, h, w, hw => by
    simp only [List.map_cons, List.cons.injEq] at hp
    have ho : ops[i]? = some o := hp.1.symm
    simp only [preC, ho, Bool.and_eq_true, Bool.not_eq_true'] at hB
    obtain ⟨⟨⟨hlo, hrd⟩, hfr⟩, hB3⟩ := hB
    have hrdy : i ∈ Region.ready .any ops listed := by simpa using hrd
    have hi : i < ops.size := (Array.getElem?_eq_some_iff.1 ho).1
    have hlt : i < listed.size := by
      have hiun := (mem_ready.1 hrdy).1
      rcases Nat.lt_or_ge i listed.size with h' | h'
      · exact h'
      · simp [Array.getElem?_eq_none h'] at hiun
    have hd' : ∀ j, (listed.setIfInBounds i true).getD j false = true ↔ j ∈ i :: done := fun j => by
      by_cases hij : i = j
      · subst hij
        simp [hlt]
      · rw [getD_set_ne false hij, hd j]
        simp [Ne.symm hij]
    have hci : i ∈ cm := (hcm i).2 (by rw [List.reverseAux_eq]; simp)
    have hdn' : ∀ j oj, ops[j]? = some oj → (listed.setIfInBounds i true).getD j false = true → ∀ e ∈ oj.after, Region.binds .any e = true → (listed.setIfInBounds i true).getD e.on false = true := fun j oj hj hl e he hb => by
      by_cases hij : i = j
      · subst hij
        rw [ho] at hj; cases hj
        obtain ⟨_, o', ho', hall⟩ := mem_ready.1 hrdy
        rw [ho] at ho'; cases ho'
        exact getD_set_true (hall e he hb)
      · rw [getD_set_ne false hij] at hl
        exact getD_set_true (hdn j oj hj hl e he hb)
    obtain ⟨hwt, v, hv, hn⟩ := h
    have IH := wpS_pre (cm := cm) (sy := sy) hsel st l C hl pre (i :: done) lp (listed.setIfInBounds i true) (a.put o.dst v) hp.2 hB3 hcm (fun s hs' => (List.mem_cons.1 hs').elim (fun e => e ▸ hi) (hs s)) hd' hdn' (fun c hc => (List.mem_cons.1 hc).elim (fun e => e ▸ hci) (hdc c)) hn w hw
    rw [show (i :: pre).length + st.length = (pre.length + st.length) + 1 by simp only [List.length_cons]; omega]
    refine wpS_calm ho (Region.noSelect_spec hsel) (fun h => ?_) _ listed a w (Region.free_spec ho hfr) hrdy (.inl ⟨hwt, fun w _ => hv w⟩) IH
    have h' := till_calm _ _ _ h
    unfold cmAt at h'
    simp [hci] at h'
end
section
variable (P : Program) (n : Nat) (D : List Deferred) (w0 : World)
/-- the list's operations that are left -/
def QC (Z : Array Oper × List Nat) (lp l : List Oper) (ov : Ov) (H : List Asn) (K : KC) : Prop :=
  ∀ a, Rep n D ov a → walkC P Z.1 (walkN P K.e Z.1 Z.2 K.k l (St w0 H)) lp a
end
section
variable {P : Program} {f n : Nat} {R : Ending → World → Prop} {D : List Deferred} {w0 : World} {k : List Item} {ov : Ov} {H : List Asn} {K : KC}
  {Z : Array Oper × List Nat} {l lp : List Oper} {d : Option Nat} {T : Nat} {pos : String} {af : Array Edge} {v : Value} {op : Op}
theorem gQC (h : QC P n D w0 Z lp l ov H K) : QC P n D w0 Z lp l ov H K := h
theorem QC_nil (h : QR P n D w0 Z l ov H K) : QC P n D w0 Z [] l ov H K := by
  unfold QR at h
  exact fun a ha => h a ha
theorem QC_v (h : ∀ w0, OpV P n D w0 ov [] ⟨d, op, T, pos, af, none⟩ v) (hn : QC P n D w0 Z lp l (put d v ov) H K) : QC P n D w0 Z (⟨d, op, T, pos, af, none⟩ :: lp) l ov H K := by
  unfold OpV at h
  exact fun a ha => ⟨by simp [Region.wanted], v, fun w => (h w).2 a w ha (St.start w), hn _ (ha.put (h w0).1 v)⟩
theorem JS_orderC {id : Nat} {l : List Oper} (pre st sy : List Nat) {lp l' : List Oper} (hpp : Picks l pre lp) (hp : Picks l st l') (hm : P.follows .mixedOrders = true) (hs : Region.noSelect l.toArray = true) (hlen : pre.length + st.length = l.length)
    (hB : preC l.toArray (fun done listed => ordB l.toArray pre sy done st listed) pre [] (Array.replicate l.length false) = true) (h : QC P n D w0 (l.toArray, sy) lp l' ov H (QK P f R k)) :
    JS P f n R D w0 (.code (.region id l.toArray true) :: k) ov H := by
  unfold JS
  intro a w ha hw
  refine J_of_wpE (Q := QQ P f R k) (wp_region_any hm ?_) fun e a' w' h => h
  have h0 : ∀ j, (Array.replicate l.length false).getD j false = false := fun j => by
    rcases Nat.lt_or_ge j l.length with h | h
    · simp [h]
    · simp [h]
  have hws := wpS_pre (P := P) (E := (QK P f R k).e) (K := (QK P f R k).k) (cm := pre) (sy := sy) hs st l' (St w0 H) hp.map pre [] lp (Array.replicate l.length false) a hpp.map hB (fun c => by rw [List.reverseAux_eq]; simp) (by simp) (fun j => by rw [h0 j]; simp)
    (fun j oj _ hj => (by rw [h0 j] at hj; cases hj)) (by simp) (h a ha) w.drew hw.drew
  have := wpAny_of_S (Q' := QQ P f R k) (fun ch a w h => by unfold QK at h; exact h) (fun a w ⟨C, hC, hk⟩ => by unfold QK at hk; exact hk w hC) _ _ _ _ hws
  rw [hlen] at this
  simpa using this
attribute [irreducible] QC
end
end Sx.Cm
namespace Go.Proofs.Ytbiocgenbgbfpaa
open Sx Go
section
variable {n : Nat} {D : List Deferred} {w0 : World} {ov : Ov} {H : List Asn} {K : KC} {Z : Array Oper × List Nat} {l lp : List Oper} {d : Option Nat} {T : Nat} {pos : String} {af : Array Edge} {v : Value} {op : Op}
theorem aC (hn : Sx.Cm.QC Try.prog n D w0 Z lp l (put d v ov) H K) (h : ∀ w0, OpV Try.prog n D w0 ov [] ⟨d, op, T, pos, af, none⟩ v := by intro _; first | (apply oMv; exact V_move rfl rfl) | (apply oAs; exact V_assign rfl rfl) | (apply oL; first | exact V_load (tb := tb) rfl (by repeat (first | apply List.Mem.head | apply List.Mem.tail)) rfl rfl rfl rfl | exact V_loadC (tb := tb) rfl (by first | exact vec_rd (by repeat (first | apply List.Mem.head | apply List.Mem.tail)) | assumption | exact ArgRd.rd (by assumption) _ | (apply Rd_weak; assumption; intro _ hx; exact St.sub (by repeat (first | exact List.Sublist.refl _ | apply List.Sublist.cons_cons | apply List.Sublist.cons)) hx)) rfl rfl (by first | exact ints_get (by omega) | exact rfl) rfl | exact V_loadA (tb := tb) rfl (by repeat (first | apply List.Mem.head | apply List.Mem.tail)) rfl rfl rfl rfl) | (apply oB; first | (apply ob_add; first | exact V_add rfl rfl (by first | exact wi64 (by omega) | exact wu64 (by omega) | exact wu32 (by omega) | exact wu8 (by omega) | exact mu64 _ | exact mu32 _ | exact mu8 _ | exact mi64 _ | exact rfl) rfl) | (apply ob_sub; first | exact V_sub rfl rfl (by first | exact wi64 (by omega) | exact wu64 (by omega) | exact wu32 (by omega) | exact wu8 (by omega) | exact mu64 _ | exact mu32 _ | exact mu8 _ | exact mi64 _ | exact rfl) rfl) | (apply ob_mul; first | exact V_mul rfl rfl (by first | exact wi64 (by omega) | exact wu64 (by omega) | exact wu32 (by omega) | exact wu8 (by omega) | exact mu64 _ | exact mu32 _ | exact mu8 _ | exact mi64 _ | exact rfl) rfl) | (apply ob_eql; first | exact V_eqlT rfl rfl (by omega) rfl | exact V_eqlF rfl rfl (by omega) rfl | exact V_eql rfl rfl rfl) | (apply ob_neq; first | exact V_neqT rfl rfl (by omega) rfl | exact V_neqF rfl rfl (by omega) rfl | exact V_neq rfl rfl rfl) | (apply ob_lss; first | exact V_lssT rfl rfl (by omega) rfl | exact V_lssF rfl rfl (by omega) rfl | exact V_lss rfl rfl rfl) | (apply ob_leq; first | exact V_leqT rfl rfl (by omega) rfl | exact V_leqF rfl rfl (by omega) rfl | exact V_leq rfl rfl rfl) | (apply ob_gtr; first | exact V_gtrT rfl rfl (by omega) rfl | exact V_gtrF rfl rfl (by omega) rfl | exact V_gtr rfl rfl rfl) | (apply ob_geq; first | exact V_geqT rfl rfl (by omega) rfl | exact V_geqF rfl rfl (by omega) rfl | exact V_geq rfl rfl rfl) | (apply ob_quo; first | exact V_quo rfl rfl (by omega) (by first | exact IntWalk.i64_quo _ _ (by omega) | exact IntWalk.u64_quo _ _ (by omega) | exact IntWalk.u32_quo _ _ (by omega) | exact IntWalk.u8_quo _ _ (by omega)) rfl) | (apply ob_rem; first | exact V_rem rfl rfl (by omega) (Int.tmod_eq_emod_of_nonneg (by omega)) rfl) | (apply ob_and; first | exact V_and rfl rfl (by first | exact mask32_u64 (by omega) | exact mask_u64 8 (by decide) (by omega) rfl | exact mask_u64 16 (by decide) (by omega) rfl) rfl) | (apply ob_eql; first | exact V_eqP (tb := tb) rfl rfl rfl rfl | exact V_eqBB (tb := tb) rfl rfl rfl rfl | exact V_eqB (tb := tb) rfl rfl rfl rfl | exact V_eqNil (tb := tb) rfl rfl rfl rfl | exact V_eqStr rfl rfl (by assumption) (by assumption) rfl) | (apply ob_neq; first | exact V_neP (tb := tb) rfl rfl rfl rfl | exact V_neBB (tb := tb) rfl rfl rfl rfl | exact V_neB (tb := tb) rfl rfl rfl rfl | exact V_neStr rfl rfl (by assumption) (by assumption) rfl) | (apply oK; first | (apply ob_shr; exact V_shr (m := _) rfl rfl (by omega) (by simp only [IntKind.bits, Int.reduceToNat, Nat.reduceLeDiff, Nat.min_eq_left]; exact rfl) (by first | (simp only [Int.reducePow]; exact rfl) | exact rfl) rfl) | (apply ob_shl; exact V_shl (m := _) rfl rfl (by omega) (by simp only [IntKind.bits, Int.reduceToNat, Nat.reduceLeDiff, Nat.min_eq_left]; exact rfl) (by (try simp only [Int.reducePow]); first | exact wi64 (by omega) | exact wu64 (by omega) | exact wu32 (by omega) | exact wu8 (by omega) | exact mu64 _ | exact mu32 _ | exact mu8 _ | exact mi64 _ | exact rfl) rfl))) | (apply oE; first | exact V_extract rfl rfl rfl) | (apply oc_len; exact V_len (tb := tb) rfl rfl rfl) | (apply oc_len; exact V_lenS (tb := tb) rfl rfl rfl) | (apply oc_min; exact V_min rfl rfl rfl rfl) | (apply oc_max; exact V_max rfl rfl rfl rfl) | (apply oCv; first | exact V_conv (tb := tb) rfl rfl rfl (by first | exact wi64 (by omega) | exact wu64 (by omega) | exact wu32 (by omega) | exact wu8 (by omega) | exact mu64 _ | exact mu32 _ | exact mu8 _ | exact mi64 _ | exact rfl) rfl | exact V_str (tb := tb) rfl (by first | exact vec_rd (by repeat (first | apply List.Mem.head | apply List.Mem.tail)) | assumption | exact ArgRd.rd (by assumption) _ | (apply Rd_weak; assumption; intro _ hx; exact St.sub (by repeat (first | exact List.Sublist.refl _ | apply List.Sublist.cons_cons | apply List.Sublist.cons)) hx)) (by first | assumption | rfl | omega) rfl rfl rfl rfl) | (apply oP; first | exact V_pickT rfl rfl rfl | exact V_pickF rfl rfl rfl | exact V_pickB rfl rfl rfl rfl) | (apply oU; first | exact V_notD rfl rfl | exact V_not rfl rfl | exact V_neg rfl (by first | exact wi64 (by omega) | exact wu64 (by omega) | exact wu32 (by omega) | exact wu8 (by omega) | exact mu64 _ | exact mu32 _ | exact mu8 _ | exact mi64 _ | exact rfl) rfl) | (apply oN; first | exact V_nilCheck rfl rfl) | (apply oFA; first | exact V_field (tb := tb) rfl rfl rfl rfl rfl rfl | exact V_fieldC (tb := tb) rfl (by first | exact Rd.sl (vec_rd (by repeat (first | apply List.Mem.head | apply List.Mem.tail))) | exact Rd.sl (by assumption) | exact Rd.sl (ArgRd.rd (by assumption) _) | (apply Rd.sl; (apply Rd_weak; assumption; intro _ hx; exact St.sub (by repeat (first | exact List.Sublist.refl _ | apply List.Sublist.cons_cons | apply List.Sublist.cons)) hx))) (by omega) rfl rfl rfl rfl rfl) | (apply oIA; first | exact V_index (tb := tb) rfl rfl rfl rfl (by first | exact Rd.sl (vec_rd (by repeat (first | apply List.Mem.head | apply List.Mem.tail))) | exact Rd.sl (by assumption) | exact Rd.sl (ArgRd.rd (by assumption) _) | (apply Rd.sl; (apply Rd_weak; assumption; intro _ hx; exact St.sub (by repeat (first | exact List.Sublist.refl _ | apply List.Sublist.cons_cons | apply List.Sublist.cons)) hx))) (by omega) (by (try simp only [tn, tna, tn1, tn2, tn3, tn4, tnd16, tnd8, Int.reduceToNat]); first | exact Nat.mul_one _ | exact rfl) rfl | exact V_indexA (tb := tb) rfl rfl rfl rfl (by omega) rfl) | (apply oBd; first | exact V_build (tb := tb) rfl rfl rfl rfl rfl) | (apply oF; first | exact V_makeFunc rfl rfl rfl)) : Sx.Cm.QC Try.prog n D w0 Z (⟨d, op, T, pos, af, none⟩ :: lp) l ov H K := Sx.Cm.QC_v h hn
end
end Go.Proofs.Ytbiocgenbgbfpaa

set_option linter.unusedVariables false
set_option linter.unusedSimpArgs false
namespace Pm
/-! ## a stable sort (plain laws) -/
section
variable {α : Type} (w : α → Nat)
/-- two lists are merged; of equals those of the first list come first -/
def mrg : List α → List α → List α
  | [], ys => ys
  | x :: xs, ys => go x (mrg xs) ys
where
  go (x : α) (k : List α → List α) : List α → List α
    | [] => x :: k []
    | y :: ys => if w x ≤ w y then x :: k (y :: ys) else y :: go x k ys
theorem mrg_nil (ys : List α) : mrg w [] ys = ys := rfl
theorem mrg_nilR : ∀ xs : List α, mrg w xs [] = xs
  | [] => rfl
  | x :: xs => by show x :: mrg w xs [] = _; rw [mrg_nilR xs]
theorem mrg_cons (x : α) (xs : List α) (y : α) (ys : List α) : mrg w (x :: xs) (y :: ys) = if w x ≤ w y then x :: mrg w xs (y :: ys) else y :: mrg w (x :: xs) ys := rfl
theorem mrg_perm : ∀ (m : Nat) (A B : List α), A.length + B.length ≤ m → (mrg w A B).Perm (A ++ B)
  | _, [], B, _ => List.Perm.refl _
  | _, a :: A, [], _ => by rw [mrg_nilR, List.append_nil]
  | 0, a :: A, b :: B, h => absurd h (by simp)
  | m + 1, a :: A, b :: B, h => by
    rw [mrg_cons]
    split
    · exact (mrg_perm m A (b :: B) (by simp at h ⊢; omega)).cons a
    · exact ((mrg_perm m (a :: A) B (by simp at h ⊢; omega)).cons b).trans List.perm_middle.symm
theorem mrg_len (A B : List α) : (mrg w A B).length = A.length + B.length := by
  rw [(mrg_perm w _ A B (Nat.le_refl _)).length_eq, List.length_append]
theorem mrg_mem {A B : List α} {x : α} (h : x ∈ mrg w A B) : x ∈ A ∨ x ∈ B := List.mem_append.1 ((mrg_perm w _ A B (Nat.le_refl _)).mem_iff.1 h)
abbrev SrtW (l : List α) : Prop := l.Pairwise fun x y => w x ≤ w y
theorem mrg_srt : ∀ (m : Nat) (A B : List α), A.length + B.length ≤ m → SrtW w A → SrtW w B → SrtW w (mrg w A B)
  | _, [], B, _, _, h => h
  | _, a :: A, [], _, h, _ => by rw [mrg_nilR]; exact h
  | 0, a :: A, b :: B, h, _, _ => absurd h (by simp)
  | m + 1, a :: A, b :: B, h, hA, hB => by
    have a1 := (List.pairwise_cons.1 hA).1
    have b1 := (List.pairwise_cons.1 hB).1
    rw [mrg_cons]
    split
    · rename_i hab
      refine List.pairwise_cons.2 ⟨fun y hy => ?_, mrg_srt m A (b :: B) (by simp at h ⊢; omega) (List.Pairwise.of_cons hA) hB⟩
      rcases mrg_mem w hy with h | h
      · exact a1 y h
      · rcases List.mem_cons.1 h with rfl | h
        · exact hab
        · exact Nat.le_trans hab (b1 y h)
    · rename_i hab
      refine List.pairwise_cons.2 ⟨fun y hy => ?_, mrg_srt m (a :: A) B (by simp at h ⊢; omega) hA (List.Pairwise.of_cons hB)⟩
      rcases mrg_mem w hy with h | h
      · rcases List.mem_cons.1 h with rfl | h
        · omega
        · have := a1 y h; omega
      · exact b1 y h
/-- lists that are cut where nothing passes the cut are merged in parts -/
theorem mrg_split (L2 R2 : List α) : ∀ (m : Nat) (L1 R1 : List α), L1.length + R1.length ≤ m → (∀ l ∈ L1, ∀ r ∈ R2, w l ≤ w r) → (∀ l ∈ L2, ∀ r ∈ R1, w r < w l) → mrg w (L1 ++ L2) (R1 ++ R2) = mrg w L1 R1 ++ mrg w L2 R2
  | _, [], [], _, _, _ => rfl
  | 0, a :: A, _, h, _, _ => absurd h (by simp)
  | 0, [], b :: B, h, _, _ => absurd h (by simp)
  | m + 1, [], b :: B, h, h1, h2 => by
    have ih := mrg_split L2 R2 m [] B (by simp at h ⊢; omega) h1 (fun l hl r hr => h2 l hl r (by simp [hr]))
    cases L2 with
    | nil => rfl
    | cons c C =>
      have hc := h2 c (by simp) b (by simp)
      rw [List.nil_append, List.cons_append, mrg_cons, if_neg (by omega)]
      rw [List.nil_append] at ih
      rw [ih]; rfl
  | m + 1, a :: A, [], h, h1, h2 => by
    have ih := mrg_split L2 R2 m A [] (by simp at h ⊢; omega) (fun l hl r hr => h1 l (by simp [hl]) r hr) h2
    cases R2 with
    | nil => simp only [List.append_nil, mrg_nilR]
    | cons d D =>
      have hc := h1 a (by simp) d (by simp)
      rw [List.nil_append, List.cons_append, mrg_cons, if_pos (by omega)]
      rw [List.nil_append] at ih
      rw [ih, mrg_nilR, mrg_nilR]; rfl
  | m + 1, a :: A, b :: B, h, h1, h2 => by
    rw [List.cons_append, List.cons_append, mrg_cons, mrg_cons]
    split
    · rw [← List.cons_append, mrg_split L2 R2 m A (b :: B) (by simp at h ⊢; omega) (fun l hl r hr => h1 l (by simp [hl]) r hr) h2, List.cons_append]
    · rw [← List.cons_append, mrg_split L2 R2 m (a :: A) B (by simp at h ⊢; omega) h1 (fun l hl r hr => h2 l hl r (by simp [hr])), List.cons_append]
theorem mrg_assoc : ∀ (m : Nat) (A B C : List α), A.length + B.length + C.length ≤ m → mrg w (mrg w A B) C = mrg w A (mrg w B C)
  | _, [], B, C, _ => rfl
  | _, a :: A, [], C, _ => by rw [mrg_nilR]; rfl
  | _, a :: A, b :: B, [], _ => by rw [mrg_nilR, mrg_nilR]
  | 0, a :: A, b :: B, c :: C, h => absurd h (by simp)
  | m + 1, a :: A, b :: B, c :: C, h => by
    have i1 := mrg_assoc m A (b :: B) (c :: C) (by simp at h ⊢; omega)
    have i2 := mrg_assoc m (a :: A) B (c :: C) (by simp at h ⊢; omega)
    have i3 := mrg_assoc m (a :: A) (b :: B) C (by simp at h ⊢; omega)
    rw [mrg_cons w a A b B] at i3 ⊢
    rw [mrg_cons w b B c C] at i1 ⊢
    by_cases hab : w a ≤ w b
    · rw [if_pos hab] at i3 ⊢
      by_cases hbc : w b ≤ w c
      · rw [if_pos hbc] at i1 ⊢
        rw [mrg_cons w a _ c C, if_pos (by omega), mrg_cons w a A b _, if_pos hab, i1]
      · rw [if_neg hbc] at i1 ⊢
        by_cases hac : w a ≤ w c
        · rw [mrg_cons w a _ c C, if_pos hac, mrg_cons w a A c _, if_pos hac, i1]
        · rw [mrg_cons w a _ c C, if_neg hac, mrg_cons w a A c _, if_neg hac, i3]
    · rw [if_neg hab] at i3 ⊢
      by_cases hbc : w b ≤ w c
      · rw [if_pos hbc]
        rw [mrg_cons w b _ c C, if_pos hbc, mrg_cons w a A b _, if_neg hab, i2]
      · rw [if_neg hbc]
        rw [mrg_cons w b _ c C, if_neg hbc, mrg_cons w a A c _, if_neg (by omega), i3]
/-- the sorted list: each one behind all that are not more -/
def isrt (l : List α) : List α := l.foldl (fun acc x => mrg w acc [x]) []
theorem isrt_snoc (l : List α) (x : α) : isrt w (l ++ [x]) = mrg w (isrt w l) [x] := by unfold isrt; rw [List.foldl_append]; rfl
theorem isrt_nil : isrt w ([] : List α) = [] := rfl
theorem isrt_one (x : α) : isrt w [x] = [x] := rfl
theorem snoc_ind {p : List α → Prop} (h0 : p []) (hs : ∀ l x, p l → p (l ++ [x])) (l : List α) : p l := by
  have : ∀ (n : Nat) (l : List α), l.length = n → p l := by
    intro n
    induction n with
    | zero => intro l hl; rw [List.eq_nil_of_length_eq_zero hl]; exact h0
    | succ n ih =>
      intro l hl
      have hne : l ≠ [] := by intro h; rw [h] at hl; simp at hl
      rw [← List.dropLast_concat_getLast hne]
      exact hs _ _ (ih _ (by simp [hl]))
  exact this _ l rfl
theorem isrt_app (X Y : List α) : isrt w (X ++ Y) = mrg w (isrt w X) (isrt w Y) := by
  refine snoc_ind (p := fun Y => isrt w (X ++ Y) = mrg w (isrt w X) (isrt w Y)) ?_ ?_ Y
  · rw [List.append_nil, isrt_nil, mrg_nilR]
  · intro l x ih
    rw [← List.append_assoc, isrt_snoc, isrt_snoc, ih, mrg_assoc w _ _ _ _ (Nat.le_refl _)]
theorem isrt_srt (l : List α) : SrtW w (isrt w l) := by
  refine snoc_ind (p := fun l => SrtW w (isrt w l)) List.Pairwise.nil ?_ l
  intro l x ih
  rw [isrt_snoc]
  exact mrg_srt w _ _ _ (Nat.le_refl _) ih (List.pairwise_singleton _ _)
theorem isrt_perm (l : List α) : (isrt w l).Perm l := by
  refine snoc_ind (p := fun l => (isrt w l).Perm l) (List.Perm.refl _) ?_ l
  intro l x ih
  rw [isrt_snoc]
  exact (mrg_perm w _ _ _ (Nat.le_refl _)).trans (List.Perm.append_right _ ih)
theorem isrt_len (l : List α) : (isrt w l).length = l.length := (isrt_perm w l).length_eq
/-- one that is put into a sorted list -/
theorem mrg_ins (L1 L2 : List α) (x : α) (h1 : ∀ l ∈ L1, w l ≤ w x) (h2 : ∀ l ∈ L2, w x < w l) : mrg w (L1 ++ L2) [x] = L1 ++ x :: L2 := by
  have e := mrg_split w L2 [] _ L1 [x] (Nat.le_refl _) (by simp) (by simpa using h2)
  have e2 := mrg_split w [] [x] _ L1 [] (Nat.le_refl _) (by simpa using h1) (by simp)
  simp only [List.append_nil, List.nil_append, mrg_nilR, mrg_nil] at e e2
  rw [e, e2]; simp
theorem mrg_insL (R1 R2 : List α) (x : α) (h1 : ∀ r ∈ R1, w r < w x) (h2 : ∀ r ∈ R2, w x ≤ w r) : mrg w [x] (R1 ++ R2) = R1 ++ x :: R2 := by
  have e := mrg_split w [x] R2 _ [] R1 (Nat.le_refl _) (by simp) (by simpa using h1)
  have e2 := mrg_split w [] R2 _ [x] [] (Nat.le_refl _) (by simpa using h2) (by simp)
  simp only [List.append_nil, List.nil_append, mrg_nilR, mrg_nil] at e e2
  rw [e, e2]; simp
theorem isrt_id {l : List α} (h : SrtW w l) : isrt w l = l := by
  revert h
  refine snoc_ind (p := fun l => SrtW w l → isrt w l = l) (fun _ => rfl) ?_ l
  intro l x ih h
  obtain ⟨h1, _, h2⟩ := List.pairwise_append.1 h
  rw [isrt_snoc, ih h1]
  have := mrg_ins w l [] x (fun y hy => h2 y hy x (by simp)) (by simp)
  simpa using this
end
/-! parts of a row -/
section
variable {α : Type}
def sg (D : Nat → α) (a : Nat) : Nat → List α
  | 0 => []
  | n + 1 => D a :: sg D (a + 1) n
theorem sg_len (D : Nat → α) : ∀ (n a : Nat), (sg D a n).length = n
  | 0, _ => rfl
  | n + 1, a => by rw [sg, List.length_cons, sg_len D n]
theorem sg_add (D : Nat → α) (m : Nat) : ∀ (n a : Nat), sg D a (n + m) = sg D a n ++ sg D (a + n) m
  | 0, a => by rw [Nat.zero_add]; rfl
  | n + 1, a => by rw [Nat.succ_add_eq_add_succ, Nat.add_succ, sg, sg, sg_add D m n (a + 1), List.cons_append, show a + 1 + n = a + (n + 1) by omega]
theorem sg_congr {D D' : Nat → α} : ∀ (n a a' : Nat), (∀ k, k < n → D (a + k) = D' (a' + k)) → sg D a n = sg D' a' n
  | 0, _, _, _ => rfl
  | n + 1, a, a', h => by
    rw [sg, sg, show D a = D' a' from h 0 (by omega), sg_congr n (a + 1) (a' + 1) fun k hk => by rw [show a + 1 + k = a + (k + 1) by omega, show a' + 1 + k = a' + (k + 1) by omega]; exact h (k + 1) (by omega)]
theorem sg_get (D : Nat → α) : ∀ (n a k : Nat), k < n → (sg D a n)[k]? = some (D (a + k))
  | 0, _, _, h => absurd h (by omega)
  | n + 1, a, 0, _ => rfl
  | n + 1, a, k + 1, h => by rw [sg, List.getElem?_cons_succ, sg_get D n (a + 1) k (by omega), show a + 1 + k = a + (k + 1) by omega]
theorem sg_mem {D : Nat → α} {n a : Nat} {x : α} (h : x ∈ sg D a n) : ∃ k, k < n ∧ x = D (a + k) := by
  obtain ⟨k, hk, e⟩ := List.mem_iff_getElem.1 h
  rw [sg_len] at hk
  have := sg_get D n a k hk
  rw [List.getElem?_eq_getElem (by rw [sg_len]; exact hk), e] at this
  exact ⟨k, hk, by simpa using this⟩
theorem sg_in (D : Nat → α) {n a k : Nat} (h : k < n) : D (a + k) ∈ sg D a n := List.mem_of_getElem? (sg_get D n a k h)
theorem sg_eq {D D' : Nat → α} {n a a' : Nat} (h : sg D a n = sg D' a' n) {k : Nat} (hk : k < n) : D (a + k) = D' (a' + k) := by
  have := sg_get D n a k hk
  rw [h, sg_get D' n a' k hk] at this
  simpa using this.symm
theorem sg_srt {w : α → Nat} {D : Nat → α} : ∀ {n a : Nat}, (∀ i j, a ≤ i → i < j → j < a + n → w (D i) ≤ w (D j)) → SrtW w (sg D a n)
  | 0, _, _ => List.Pairwise.nil
  | n + 1, a, h => List.pairwise_cons.2 ⟨fun y hy => by
      obtain ⟨k, hk, rfl⟩ := sg_mem hy
      exact h a (a + 1 + k) (by omega) (by omega) (by omega), sg_srt fun i j hi hij hj => h i j (by omega) hij (by omega)⟩
theorem srt_sg {w : α → Nat} {D : Nat → α} : ∀ {n a : Nat}, SrtW w (sg D a n) → ∀ i j, a ≤ i → i < j → j < a + n → w (D i) ≤ w (D j)
  | 0, a, _, i, j, h1, h2, h3 => absurd h3 (by omega)
  | n + 1, a, h, i, j, h1, h2, h3 => by
    obtain ⟨g1, g2⟩ := List.pairwise_cons.1 h
    rcases Nat.lt_or_ge a i with hi | hi
    · exact srt_sg g2 i j (by omega) h2 (by omega)
    · obtain rfl : a = i := by omega
      have := g1 (D (a + 1 + (j - (a + 1)))) (sg_in D (by omega))
      rwa [show a + 1 + (j - (a + 1)) = j by omega] at this
end
end Pm

namespace Go.Proofs.Ytbiocgenbgbfpaa
open Sx Go Pm
set_option linter.unusedVariables false
set_option linter.unusedSimpArgs false
/-! rows of one-cell values in a slice -/
section
variable {α : Type} (enc : α → Value)
def vals (D : Nat → α) (N : Nat) : List Value := (List.range N).map fun k => enc (D k)
def upd (D : Nat → α) (i : Nat) (x : α) : Nat → α := fun k => if k = i then x else D k
theorem vals_len (D : Nat → α) (N : Nat) : (vals enc D N).length = N := by simp [vals]
theorem vals_get {D : Nat → α} {N k : Nat} (h : k < N) : (vals enc D N)[k]? = some (enc (D k)) := by simp [vals, h]
theorem vals_congr {D D' : Nat → α} {N : Nat} (h : ∀ k, k < N → D k = D' k) : vals enc D N = vals enc D' N := by
  unfold vals
  exact List.map_congr_left fun k hk => by rw [h k (by simpa using hk)]
theorem vals_set {D : Nat → α} {N i : Nat} {x : α} : (vals enc D N).set i (enc x) = vals enc (upd D i x) N := by
  apply List.ext_getElem?
  intro k
  rw [List.getElem?_set, vals_len]
  by_cases hk : k < N
  · rw [vals_get enc hk]
    by_cases hik : i = k
    · subst hik; rw [if_pos rfl, if_pos hk, vals_get enc hk]; unfold upd; rw [if_pos rfl]
    · rw [if_neg hik, vals_get enc hk]; unfold upd; rw [if_neg (Ne.symm hik)]
  · by_cases hik : i = k
    · subst hik; rw [if_pos rfl, if_neg hk, List.getElem?_eq_none (by rw [vals_len]; omega)]
    · rw [if_neg hik, List.getElem?_eq_none (by rw [vals_len]; omega), List.getElem?_eq_none (by rw [vals_len]; omega)]
end
/-- two parts of a row change places -/
def swR {α : Type} (D : Nat → α) (a b n : Nat) : Nat → α := fun k => if a ≤ k ∧ k < a + n then D (k - a + b) else if b ≤ k ∧ k < b + n then D (k - b + a) else D k
theorem swR_zero {α : Type} (D : Nat → α) (a b : Nat) : swR D a b 0 = D := by
  funext k
  unfold swR
  rw [if_neg (by omega), if_neg (by omega)]
theorem swR_succ {α : Type} (D : Nat → α) (a b n : Nat) (h : a + n < b) : upd (upd (swR D a b n) (a + n) (swR D a b n (b + n))) (b + n) (swR D a b n (a + n)) = swR D a b (n + 1) := by
  funext k
  unfold upd swR
  by_cases h1 : k = b + n
  · subst h1
    rw [if_pos rfl, if_neg (by omega), if_neg (by omega), if_neg (by omega), if_pos (by omega), show b + n - b + a = a + n by omega]
  · rw [if_neg h1]
    by_cases h2 : k = a + n
    · subst h2
      rw [if_pos rfl, if_neg (by omega), if_neg (by omega), if_pos (by omega), show a + n - a + b = b + n by omega]
    · rw [if_neg h2]
      by_cases h3 : a ≤ k ∧ k < a + n
      · rw [if_pos h3, if_pos (by omega)]
      · rw [if_neg h3, if_neg (show ¬ (a ≤ k ∧ k < a + (n + 1)) by omega)]
        by_cases h4 : b ≤ k ∧ k < b + n
        · rw [if_pos h4, if_pos (by omega)]
        · rw [if_neg h4, if_neg (by omega)]
section
variable {α : Type} {enc : α → Value} {w0 : World} {H : List Asn}
set_option maxHeartbeats 1000000 in
theorem SwapR_c (h1 : ∀ x, Sx.one (enc x)) (u v : Value) (N : Nat) (D : Nat → α) (a b n : Nat) (hN : N ≤ 1000000) (hab : a + n ≤ b) (hb : b + n ≤ N) (w : World) (hw : St w0 (vec 55 1 u N (vals enc D N) :: H) w) :
    Calls Try.prog 148 #[u, .int .i64 a, .int .i64 b, .int .i64 n, v] w fun e w' => e = .returned (.tuple #[]) ∧ St w0 (vec 55 1 u N (vals enc (swR D a b n) N) :: H) w' := by
  refine enter (vs := [u, .int .i64 a, .int .i64 b, .int .i64 n, v]) Try.func148 rfl rfl rfl hw ?_
  repeat (first | (apply gJR; first | (refine sx ?_; try intro _)) | (apply gJO; first | (refine sx ?_; try intro _)) | apply JS_seq | apply JS_region)
  refine JS_block ?_
  refine JS_loop1 (fun (i : Nat) => [(0, u), (1, .int .i64 a), (2, .int .i64 b), (3, .int .i64 n), (10, .int .i64 i)]) (fun i => vec 55 1 u N (vals enc (swR D a b i) N) :: H)
    (fun i => i ≤ n) (fun i => n - i) 0 (Nat.zero_le _) (by repeat (first | exact trivial | refine ⟨rfl, ?_⟩ | refine ⟨lookI rfl (by omega), ?_⟩)) (fun w hw => by rw [swR_zero]; exact hw) ?_
  intro i hi again
  by_cases hin : i < n
  · repeat (first | (apply gJR; first | (refine sx ?_; try intro _)) | (apply gJO; first | (refine sx ?_; try intro _)) | apply JS_seq | apply JS_region | (apply gJS; refine JS_condT rfl ?_) | apply JS_skip | (apply gJS; refine JS_cond_T rfl (by omega) ?_) | apply JS_block)
    refine Sx.Cm.JS_orderC [0, 1, 2, 3, 4, 5, 6, 7, 8, 9, 10, 11, 14, 15, 16, 17] [12, 13, 18, 19, 20, 21, 22, 23] [2, 0] (Picks.cons rfl (Picks.cons rfl (Picks.cons rfl (Picks.cons rfl (Picks.cons rfl (Picks.cons rfl (Picks.cons rfl (Picks.cons rfl (Picks.cons rfl (Picks.cons rfl (Picks.cons rfl (Picks.cons rfl (Picks.cons rfl (Picks.cons rfl (Picks.cons rfl (Picks.cons rfl (Picks.nil))))))))))))))))) (Picks.cons rfl (Picks.cons rfl (Picks.cons rfl (Picks.cons rfl (Picks.cons rfl (Picks.cons rfl (Picks.cons rfl (Picks.cons rfl (Picks.nil))))))))) (by kernel_rfl) (by kernel_rfl) rfl (by decide +kernel) ?_
    have ha1 : a + i < N := by omega
    have hb1 : b + i < N := by omega
    repeat (first | (apply Sx.Cm.gQC; first | refine aC ?_ | refine Sx.Cm.QC_nil ?_) | (apply gQO; refine QO_v rfl (V_loadC (tb := tb) rfl (vec_rd (H := vec 55 1 u N (vals enc (swR D a b i) N) :: H) (List.Mem.head _)) rfl rfl (vals_get enc (by assumption)) rfl) ?_) | (apply gQO; refine QO_k rfl (K_storeC1 (tb := tb) rfl rfl (vals_set enc) (Upd.here _ _ _) rfl (h1 _) (by rw [vals_len]; assumption) rfl) rfl ?_) | (first | (refine sx ?_; try intro _)))
    rw [swR_succ D a b i (by omega)]
    exact JS_again1 again (i + 1) (by omega) (by omega) (by repeat (first | exact trivial | refine ⟨rfl, ?_⟩ | refine ⟨lookI rfl (by omega), ?_⟩)) (fun w hw => hw)
  · obtain rfl : i = n := by omega
    clear again
    repeat (first | (refine sx ?_; try intro _))
    refine JS_fin Try.func148 rfl rfl ?_
    intro w hw
    exact ⟨rfl, hw⟩
end
end Go.Proofs.Ytbiocgenbgbfpaa

namespace Go.Proofs.Ytbiocgenbgbfpaa
open Sx Go Pm
set_option linter.unusedVariables false
set_option linter.unusedSimpArgs false
/-! two parts side by side change places -/
def rot {α : Type} (D : Nat → α) (a m b : Nat) : Nat → α := fun k => if a ≤ k ∧ k < a + (b - m) then D (k + (m - a)) else if a + (b - m) ≤ k ∧ k < b then D (k - (b - m)) else D k
theorem rot_gt {α : Type} (E : Nat → α) (m i j : Nat) (hij : j < i) (him : i ≤ m) : rot (swR E (m - i) m j) (m - (i - j)) m (m + j) = rot E (m - i) m (m + j) := by
  funext k
  unfold rot swR
  repeat' split
  all_goals first | (exfalso; omega) | (congr 1 <;> omega)
theorem rot_lt {α : Type} (E : Nat → α) (m i j : Nat) (hij : i < j) (him : i ≤ m) : rot (swR E (m - i) (m + j - i) i) (m - i) m (m + (j - i)) = rot E (m - i) m (m + j) := by
  funext k
  unfold rot swR
  repeat' split
  all_goals first | (exfalso; omega) | (congr 1 <;> omega)
theorem rot_eq {α : Type} (E : Nat → α) (m i : Nat) (him : i ≤ m) : swR E (m - i) m i = rot E (m - i) m (m + i) := by
  funext k
  unfold rot swR
  repeat' split
  all_goals first | (exfalso; omega) | (congr 1 <;> omega)
section
variable {α : Type} {enc : α → Value} {w0 : World} {H : List Asn}
set_option maxHeartbeats 1000000 in
theorem Rot_c (h1 : ∀ x, Sx.one (enc x)) (u v : Value) (N : Nat) (D : Nat → α) (a m b : Nat) (hN : N ≤ 1000000) (ham : a < m) (hmb : m < b) (hb : b ≤ N) (w : World) (hw : St w0 (vec 55 1 u N (vals enc D N) :: H) w) :
    Calls Try.prog 140 #[u, .int .i64 a, .int .i64 m, .int .i64 b, v] w fun e w' => e = .returned (.tuple #[]) ∧ St w0 (vec 55 1 u N (vals enc (rot D a m b) N) :: H) w' := by
  refine enter (vs := [u, .int .i64 a, .int .i64 m, .int .i64 b, v]) Try.func140 rfl rfl rfl hw ?_
  repeat (first | (apply gJR; first | (refine sx ?_; try intro _)) | (apply gJO; first | (refine sx ?_; try intro _)) | apply JS_seq | apply JS_region)
  refine JS_block ?_
  refine JS_loop3 (fun (E : Nat → α) (i j : Nat) => [(0, u), (2, .int .i64 m), (4, v), (10, .int .i64 i), (11, .int .i64 j)]) (fun E _ _ => vec 55 1 u N (vals enc E N) :: H)
    (fun E i j => 1 ≤ i ∧ 1 ≤ j ∧ i ≤ m ∧ m + j ≤ b ∧ rot E (m - i) m (m + j) = rot D a m b) (fun _ i j => i + j) D (m - a) (b - m) ⟨by omega, by omega, by omega, by omega, by rw [show m - (m - a) = a by omega, show m + (b - m) = b by omega]⟩
    ⟨rfl, rfl, rfl, lookI rfl (by omega), lookI rfl (by omega), trivial⟩ (fun w hw => hw) ?_
  intro E i j ⟨hi, hj, him, hjb, hE⟩ again
  rcases Nat.lt_trichotomy i j with hij | hij | hij
  · have e1 : IntKind.i64.wrap ((m : Int) - (i : Int)) = ((m - i : Nat) : Int) := (wi64 (by omega)).trans (by omega)
    have e2 : IntKind.i64.wrap ((m : Int) + (j : Int)) = ((m + j : Nat) : Int) := (wi64 (by omega)).trans (by omega)
    have e3 : IntKind.i64.wrap (((m + j : Nat) : Int) - (i : Int)) = ((m + j - i : Nat) : Int) := (wi64 (by omega)).trans (by omega)
    have e4 : IntKind.i64.wrap ((j : Int) - (i : Int)) = ((j - i : Nat) : Int) := (wi64 (by omega)).trans (by omega)
    repeat (first | (apply gJO; first | refine JO_v (V_sub rfl rfl e1 rfl) ?_ | refine JO_v (V_add rfl rfl e2 rfl) ?_ | refine JO_v (V_sub rfl rfl e3 rfl) ?_ | refine JO_v (V_sub rfl rfl e4 rfl) ?_) | (first | (refine sx ?_; try intro _)))
    refine JO_call Try.call148 rfl rfl fun w hw => (SwapR_c h1 u v N E (m - i) (m + j - i) i hN (by omega) (by omega) w hw).mono ?_
    rintro e w' ⟨rfl, hw'⟩
    refine ⟨_, rfl, _, hw', ?_⟩
    clear hw' hw w w'
    repeat (first | (apply gJO; refine JO_v (V_sub rfl rfl e4 rfl) ?_) | (first | (refine sx ?_; try intro _)))
    exact JS_again3 again _ i (j - i) ⟨hi, by omega, him, by omega, (rot_lt E m i j hij him).trans hE⟩ (by omega) (by repeat (first | exact trivial | refine ⟨rfl, ?_⟩ | refine ⟨lookI rfl (by omega), ?_⟩)) (fun w hw => hw)
  · subst hij
    clear again
    have e1 : IntKind.i64.wrap ((m : Int) - (i : Int)) = ((m - i : Nat) : Int) := (wi64 (by omega)).trans (by omega)
    repeat (first | (apply gJO; first | refine JO_v (V_sub rfl rfl e1 rfl) ?_) | (first | (refine sx ?_; try intro _)))
    refine JO_call Try.call148 rfl rfl fun w hw => (SwapR_c h1 u v N E (m - i) m i hN (by omega) (by omega) w hw).mono ?_
    rintro e w' ⟨rfl, hw'⟩
    refine ⟨_, rfl, _, hw', ?_⟩
    clear hw' hw w w'
    repeat (first | (refine sx ?_; try intro _))
    refine JS_fin Try.func140 rfl rfl ?_
    intro w hw
    rw [rot_eq E m i him, hE] at hw
    exact ⟨rfl, hw⟩
  · have e1 : IntKind.i64.wrap ((m : Int) - (i : Int)) = ((m - i : Nat) : Int) := (wi64 (by omega)).trans (by omega)
    have e4 : IntKind.i64.wrap ((i : Int) - (j : Int)) = ((i - j : Nat) : Int) := (wi64 (by omega)).trans (by omega)
    repeat (first | (apply gJO; first | refine JO_v (V_sub rfl rfl e1 rfl) ?_ | refine JO_v (V_sub rfl rfl e4 rfl) ?_) | (first | (refine sx ?_; try intro _)))
    refine JO_call Try.call148 rfl rfl fun w hw => (SwapR_c h1 u v N E (m - i) m j hN (by omega) (by omega) w hw).mono ?_
    rintro e w' ⟨rfl, hw'⟩
    refine ⟨_, rfl, _, hw', ?_⟩
    clear hw' hw w w'
    repeat (first | (apply gJO; refine JO_v (V_sub rfl rfl e4 rfl) ?_) | (first | (refine sx ?_; try intro _)))
    exact JS_again3 again _ (i - j) j ⟨by omega, hj, by omega, hjb, (rot_gt E m i j hij him).trans hE⟩ (by omega) (by repeat (first | exact trivial | refine ⟨rfl, ?_⟩ | refine ⟨lookI rfl (by omega), ?_⟩)) (fun w hw => hw)
end
end Go.Proofs.Ytbiocgenbgbfpaa

namespace Go.Proofs.Ytbiocgenbgbfpaa
open Sx Go Pm
set_option linter.unusedVariables false
set_option linter.unusedSimpArgs false
/-! a sort by insertion -/
/-- which one is more -/
def cmpI (a b : Nat) : Int := if a < b then -1 else if b < a then 1 else 0
theorem cmpI_lt {a b : Nat} : cmpI a b < 0 ↔ a < b := by
  unfold cmpI
  split
  · rename_i h; exact ⟨fun _ => h, fun _ => by decide⟩
  · rename_i h
    split
    · exact ⟨fun h' => absurd h' (by decide), fun h' => absurd h' h⟩
    · exact ⟨fun h' => absurd h' (by decide), fun h' => absurd h' h⟩
/-- the one at i moves down to j -/
def mvD {α : Type} (E : Nat → α) (i j : Nat) : Nat → α := fun k => if k = j then E i else if j < k ∧ k ≤ i then E (k - 1) else E k
theorem mvD_id {α : Type} (E : Nat → α) (i : Nat) : mvD E i i = E := by
  funext k
  unfold mvD
  split
  · rename_i h; rw [h]
  · rw [if_neg (by omega)]
theorem mvD_step {α : Type} (E : Nat → α) (i j : Nat) (hj : j < i) : upd (upd (mvD E i (j + 1)) (j + 1) (mvD E i (j + 1) j)) j (mvD E i (j + 1) (j + 1)) = mvD E i j := by
  funext k
  have e1 : mvD E i (j + 1) j = E j := by unfold mvD; rw [if_neg (by omega), if_neg (by omega)]
  have e2 : mvD E i (j + 1) (j + 1) = E i := by unfold mvD; rw [if_pos rfl]
  rw [e1, e2]
  unfold mvD upd
  by_cases h1 : k = j
  · rw [if_pos h1, if_pos h1]
  · rw [if_neg h1, if_neg h1]
    show (if k = j + 1 then E j else if k = j + 1 then E i else if j + 1 < k ∧ k ≤ i then E (k - 1) else E k) = _
    by_cases h2 : k = j + 1
    · rw [if_pos h2, if_pos (by omega), show k - 1 = j by omega]
    · rw [if_neg h2, if_neg h2]
      by_cases h3 : j + 1 < k ∧ k ≤ i
      · rw [if_pos h3, if_pos (by omega)]
      · rw [if_neg h3, if_neg (by omega)]
theorem mvD_sg {α : Type} (E : Nat → α) (a i j : Nat) (h1 : a ≤ j) (h2 : j ≤ i) : sg (mvD E i j) a (i + 1 - a) = sg E a (j - a) ++ E i :: sg E j (i - j) := by
  rw [show i + 1 - a = (j - a) + ((i - j) + 1) by omega, sg_add, show a + (j - a) = j by omega, sg]
  congr 1
  · exact sg_congr _ _ _ fun k hk => by unfold mvD; rw [if_neg (by omega), if_neg (by omega)]
  · congr 1
    · unfold mvD; rw [if_pos rfl]
    · exact sg_congr _ _ _ fun k hk => by unfold mvD; rw [if_neg (by omega), if_pos (by omega), show j + 1 + k - 1 = j + k by omega]
theorem sg_snoc {α : Type} (D : Nat → α) (a n : Nat) : sg D a (n + 1) = sg D a n ++ [D (a + n)] := sg_add D 1 n a
section
variable {α : Type} {enc : α → Value} {ω : α → Nat} {w0 : World} {H : List Asn}
/-- two of a row are weighed, and the row stays -/
def Cmp (enc : α → Value) (ω : α → Nat) (w0 : World) (H : List Asn) (q : Nat) (u : Value) (N : Nat) : Prop :=
  (∀ args w, (callFunc q args).run Try.prog w = .ok (.enter q args) w) ∧
  ∀ (D : Nat → α) (x y : α) (w : World), 0 < N → St w0 (vec 55 1 u N (vals enc D N) :: H) w →
    Calls Try.prog q #[enc x, enc y] w fun e w' => e = .returned (.int .i64 (cmpI (ω x) (ω y))) ∧ St w0 (vec 55 1 u N (vals enc D N) :: H) w'
set_option maxHeartbeats 2000000 in
theorem Ins_c (h1 : ∀ x, Sx.one (enc x)) (u : Value) (q N : Nat) (hc : Cmp enc ω w0 H q u N) (D : Nat → α) (a b : Nat) (hN : N ≤ 1000000) (hab : a ≤ b) (hb : b ≤ N) (w : World) (hw : St w0 (vec 55 1 u N (vals enc D N) :: H) w) :
    Calls Try.prog 126 #[u, .int .i64 a, .int .i64 b, .func (.func q) #[] #[]] w fun e w' => e = .returned (.tuple #[]) ∧ ∃ D', St w0 (vec 55 1 u N (vals enc D' N) :: H) w' ∧ (∀ k, k < a ∨ b ≤ k → D' k = D k) ∧ sg D' a (b - a) = isrt ω (sg D a (b - a)) := by
  refine enter (vs := [u, .int .i64 a, .int .i64 b, .func (.func q) #[] #[]]) Try.func126 rfl rfl rfl hw ?_
  repeat (first | (apply gJR; first | (refine sx ?_; try intro _)) | (apply gJO; first | (refine sx ?_; try intro _)) | apply JS_seq | apply JS_region)
  refine JS_block ?_
  refine JS_loop2 (fun (E : Nat → α) (i : Nat) => [(0, u), (1, .int .i64 a), (2, .int .i64 b), (3, .func (.func q) #[] #[]), (8, .int .i64 i)]) (fun E _ => vec 55 1 u N (vals enc E N) :: H)
    (fun E i => a < i ∧ (i ≤ b ∨ i = a + 1) ∧ (∀ k, k < a ∨ i ≤ k → E k = D k) ∧ sg E a (i - a) = isrt ω (sg D a (i - a))) (fun _ i => b - i) D (a + 1) ⟨by omega, .inr rfl, fun _ _ => rfl, by rw [show a + 1 - a = 1 by omega]; exact (isrt_one ω _).symm⟩ (by repeat (first | exact trivial | refine ⟨rfl, ?_⟩ | refine ⟨lookI rfl (by omega), ?_⟩)) (fun w hw => hw) ?_
  intro E i ⟨hai, hib, hE1, hE2⟩ again
  by_cases hlt : i < b
  · repeat (first | (apply gJR; first | (refine sx ?_; try intro _)) | (apply gJO; first | (refine sx ?_; try intro _)) | apply JS_seq | apply JS_region | (apply gJS; refine JS_condT rfl ?_) | apply JS_skip | (apply gJS; refine JS_cond_T rfl (by omega) ?_))
    refine JS_block ?_
    repeat (first | (apply gJR; first | (refine sx ?_; try intro _)) | (apply gJO; first | (refine sx ?_; try intro _)) | apply JS_seq | apply JS_region)
    refine JS_block ?_
    have hs : SrtW ω (sg E a (i - a)) := by rw [hE2]; exact isrt_srt ω _
    refine JS_loop1 (fun (j : Nat) => [(0, u), (1, .int .i64 a), (2, .int .i64 b), (3, .func (.func q) #[] #[]), (8, .int .i64 i), (9, .int .i64 j)]) (fun j => vec 55 1 u N (vals enc (mvD E i j) N) :: H)
      (fun j => a ≤ j ∧ j ≤ i ∧ ∀ k, j ≤ k → k < i → ω (E i) < ω (E k)) (fun j => j) i ⟨by omega, Nat.le_refl _, fun k _ _ => by omega⟩ (by repeat (first | exact trivial | refine ⟨rfl, ?_⟩ | refine ⟨lookI rfl (by omega), ?_⟩)) (fun w hw => by rw [mvD_id]; exact hw) ?_
    intro j ⟨haj, hji, hjk⟩ again2
    have fin : (j = a ∨ a < j ∧ ω (E (j - 1)) ≤ ω (E i)) → sg (mvD E i j) a (i + 1 - a) = isrt ω (sg D a (i + 1 - a)) := fun h => by
      rw [mvD_sg E a i j haj hji, show i + 1 - a = (i - a) + 1 by omega, sg_snoc, isrt_snoc, ← hE2, show a + (i - a) = i by omega, ← hE1 i (.inr (Nat.le_refl _)), show i - a = (j - a) + (i - j) by omega, sg_add, show a + (j - a) = j by omega]
      refine (mrg_ins ω _ _ _ (fun l hl => ?_) (fun l hl => ?_)).symm
      · obtain ⟨k, hk, rfl⟩ := sg_mem hl
        rcases h with h | ⟨h, h'⟩
        · omega
        · rcases Nat.lt_or_ge (a + k) (j - 1) with hk' | hk'
          · exact Nat.le_trans (srt_sg hs (a + k) (j - 1) (by omega) hk' (by omega)) h'
          · rw [show a + k = j - 1 by omega]; exact h'
      · obtain ⟨k, hk, rfl⟩ := sg_mem hl
        exact hjk _ (by omega) (by omega)
    have next : ∀ k, k < a ∨ i + 1 ≤ k → mvD E i j k = D k := fun k hk => by
      unfold mvD
      rw [if_neg (by omega), if_neg (by omega)]
      exact hE1 k (by omega)
    by_cases hja : a < j
    · obtain ⟨j, rfl⟩ : ∃ j', j = j' + 1 := ⟨j - 1, by omega⟩
      have e1 : IntKind.i64.wrap (((j + 1 : Nat) : Int) - 1) = (j : Int) := (wi64 (by omega)).trans (by omega)
      have hj0 : j < N := by omega
      have hj1 : j + 1 < N := by omega
      repeat (first | (apply gQO; first | refine QO_v rfl (V_loadC (tb := tb) rfl (vec_rd (H := vec 55 1 u N (vals enc (mvD E i (j + 1)) N) :: H) (List.Mem.head _)) rfl rfl (vals_get enc (by assumption)) rfl) ?_ | refine QO_v rfl (V_sub rfl rfl e1 rfl) ?_) | (first | (refine sx ?_; try intro _)))
      refine QO_callv (us := []) (cs := []) rfl rfl hc.1 rfl rfl fun w hw => (hc.2 _ _ _ w (by omega) hw).mono ?_
      rintro e w' ⟨rfl, hw'⟩
      refine ⟨_, rfl, _, hw', .inl fun w hw => hw, ?_⟩
      clear hw' hw w w'
      have m1 : mvD E i (j + 1) (j + 1) = E i := by unfold mvD; rw [if_pos rfl]
      have m2 : mvD E i (j + 1) j = E j := by unfold mvD; rw [if_neg (by omega), if_neg (by omega)]
      rw [m1, m2]
      have hcm := cmpI_lt (a := ω (E i)) (b := ω (E j))
      obtain ⟨r, hr⟩ : ∃ r, cmpI (ω (E i)) (ω (E j)) = r := ⟨_, rfl⟩
      rw [hr] at hcm ⊢
      by_cases hlt2 : ω (E i) < ω (E j)
      · have hr0 := hcm.2 hlt2
        clear hr hcm
        repeat (first | (apply gQR; first | (refine sx ?_; try intro _)) | (apply gQO; first | (refine sx ?_; try intro _)) | (apply gJR; first | (refine sx ?_; try intro _)) | (apply gJO; first | (refine sx ?_; try intro _)) | apply JS_seq | apply JS_region | (apply gJS; refine JS_condT rfl ?_) | apply JS_skip | (apply gJS; refine JS_cond_T rfl (by omega) ?_) | apply JS_block)
        refine Sx.Cm.JS_orderC [0, 1, 2, 3, 4, 5, 6, 7, 10, 11] [8, 9, 12, 13, 14, 15, 16, 17] [2, 0] (Picks.cons rfl (Picks.cons rfl (Picks.cons rfl (Picks.cons rfl (Picks.cons rfl (Picks.cons rfl (Picks.cons rfl (Picks.cons rfl (Picks.cons rfl (Picks.cons rfl (Picks.nil))))))))))) (Picks.cons rfl (Picks.cons rfl (Picks.cons rfl (Picks.cons rfl (Picks.cons rfl (Picks.cons rfl (Picks.cons rfl (Picks.cons rfl (Picks.nil))))))))) (by kernel_rfl) (by kernel_rfl) rfl (by decide +kernel) ?_
        repeat (first | (apply Sx.Cm.gQC; first | refine Sx.Cm.QC_v (fun _ => V_sub rfl rfl e1 rfl) ?_ | refine aC ?_ | refine Sx.Cm.QC_nil ?_) | (apply gQO; refine QO_v rfl (V_loadC (tb := tb) rfl (vec_rd (H := vec 55 1 u N (vals enc (mvD E i (j + 1)) N) :: H) (List.Mem.head _)) rfl rfl (vals_get enc (by assumption)) rfl) ?_) | (apply gQO; refine QO_k rfl (K_storeC1 (tb := tb) rfl rfl (vals_set enc) (Upd.here _ _ _) rfl (h1 _) (by rw [vals_len]; assumption) rfl) rfl ?_) | (apply gJO; refine JO_v (V_sub rfl rfl e1 rfl) ?_) | (first | (refine sx ?_; try intro _)))
        rw [mvD_step E i j (by omega)]
        exact JS_again1 again2 j ⟨by omega, by omega, fun k hk hk2 => by
          rcases Nat.lt_or_ge j k with h | h
          · exact hjk k h hk2
          · rw [show k = j by omega]; exact hlt2⟩ (by omega) (by repeat (first | exact trivial | refine ⟨rfl, ?_⟩ | refine ⟨lookI rfl (by omega), ?_⟩)) (fun w hw => hw)
      · have hr0 : ¬ r < 0 := fun h => hlt2 (hcm.1 h)
        clear hr hcm
        clear again2
        have f := fin (.inr ⟨hja, by rw [show j + 1 - 1 = j by omega]; omega⟩)
        repeat (first | (refine sx ?_; try intro _))
        exact JS_again2 again (mvD E i (j + 1)) (i + 1) ⟨by omega, .inl (by omega), next, f⟩ (by omega) (by repeat (first | exact trivial | refine ⟨rfl, ?_⟩ | refine ⟨lookI rfl (by omega), ?_⟩)) (fun w hw => hw)
    · have hja' : j = a := by omega
      clear again2
      have f := fin (.inl hja')
      repeat (first | (refine sx ?_; try intro _))
      exact JS_again2 again (mvD E i j) (i + 1) ⟨by omega, .inl (by omega), next, f⟩ (by omega) (by repeat (first | exact trivial | refine ⟨rfl, ?_⟩ | refine ⟨lookI rfl (by omega), ?_⟩)) (fun w hw => hw)
  · clear again
    repeat (first | (refine sx ?_; try intro _))
    refine JS_fin Try.func126 rfl rfl ?_
    intro w hw
    refine ⟨rfl, E, hw, ?_, ?_⟩
    · intro k hk
      rcases hk with hk | hk
      · exact hE1 k (.inl hk)
      · rcases Nat.lt_or_ge k i with h | h
        · have hka : k = a := by omega
          have e := hE2
          rw [show i - a = 1 by omega] at e
          rw [hka]
          simpa [sg, isrt_one] using e
        · exact hE1 k (.inr h)
    · rcases Nat.lt_or_ge a b with h | h
      · rw [show b = i by omega]; exact hE2
      · rw [show b - a = 0 by omega]; rfl
end
end Go.Proofs.Ytbiocgenbgbfpaa

namespace Go.Proofs.Ytbiocgenbgbfpaa
open Sx Go Pm
set_option linter.unusedVariables false
set_option linter.unusedSimpArgs false
/-! two sorted parts are merged in place -/
/-- the one at a moves up to i -/
def mvU {α : Type} (E : Nat → α) (a i : Nat) : Nat → α := fun k => if k = i then E a else if a ≤ k ∧ k < i then E (k + 1) else E k
theorem mvU_id {α : Type} (E : Nat → α) (a : Nat) : mvU E a a = E := by
  funext k
  unfold mvU
  split
  · rename_i h; rw [h]
  · rw [if_neg (by omega)]
theorem mvU_step {α : Type} (E : Nat → α) (a k : Nat) (h : a ≤ k) : upd (upd (mvU E a k) k (mvU E a k (k + 1))) (k + 1) (mvU E a k k) = mvU E a (k + 1) := by
  have e1 : mvU E a k (k + 1) = E (k + 1) := by unfold mvU; rw [if_neg (by omega), if_neg (by omega)]
  have e2 : mvU E a k k = E a := by unfold mvU; rw [if_pos rfl]
  rw [e1, e2]
  funext p
  unfold mvU upd
  by_cases h1 : p = k + 1
  · rw [if_pos h1, if_pos h1]
  · rw [if_neg h1, if_neg h1]
    show (if p = k then E (k + 1) else if p = k then E a else if a ≤ p ∧ p < k then E (p + 1) else E p) = _
    by_cases h2 : p = k
    · rw [if_pos h2, if_pos (by omega), h2]
    · rw [if_neg h2, if_neg h2]
      by_cases h3 : a ≤ p ∧ p < k
      · rw [if_pos h3, if_pos (by omega)]
      · rw [if_neg h3, if_neg (by omega)]
theorem mvU_sg {α : Type} (E : Nat → α) (a i b : Nat) (h1 : a < i) (h2 : i ≤ b) : sg (mvU E a (i - 1)) a (b - a) = sg E (a + 1) (i - (a + 1)) ++ E a :: sg E i (b - i) := by
  rw [show b - a = (i - (a + 1)) + ((b - i) + 1) by omega, sg_add, show a + (i - (a + 1)) = i - 1 by omega, sg, show i - 1 + 1 = i by omega]
  congr 1
  · exact sg_congr _ _ _ fun k hk => by unfold mvU; rw [if_neg (by omega), if_pos (by omega), show a + k + 1 = a + 1 + k by omega]
  · congr 1
    · unfold mvU; rw [if_pos rfl]
    · exact sg_congr _ _ _ fun k hk => by unfold mvU; rw [if_neg (by omega), if_neg (by omega)]
section
variable {α : Type} {enc : α → Value} {ω : α → Nat} {w0 : World} {H : List Asn}
set_option maxHeartbeats 2000000 in
/-- one is put into those behind it -/
theorem SymL_c (h1 : ∀ x, Sx.one (enc x)) (u : Value) (q N : Nat) (hc : Cmp enc ω w0 H q u N) (D : Nat → α) (a m b : Nat) (hN : N ≤ 1000000) (ham : m = a + 1) (hmb : m < b) (hb : b ≤ N) (hR : SrtW ω (sg D m (b - m))) (w : World) (hw : St w0 (vec 55 1 u N (vals enc D N) :: H) w) :
    Calls Try.prog 127 #[u, .int .i64 a, .int .i64 m, .int .i64 b, .func (.func q) #[] #[]] w fun e w' => e = .returned (.tuple #[]) ∧ ∃ D', St w0 (vec 55 1 u N (vals enc D' N) :: H) w' ∧ (∀ k, k < a ∨ b ≤ k → D' k = D k) ∧ sg D' a (b - a) = mrg ω (sg D a (m - a)) (sg D m (b - m)) := by
  refine enter (vs := [u, .int .i64 a, .int .i64 m, .int .i64 b, .func (.func q) #[] #[]]) Try.func127 rfl rfl rfl hw ?_
  repeat (first | (apply gJR; first | (refine sx ?_; try intro _)) | (apply gJO; first | (refine sx ?_; try intro _)) | apply JS_seq | apply JS_region | (apply gJS; refine JS_condT rfl ?_) | (apply gJS; refine JS_cond_T rfl (by omega) ?_))
  refine JS_block ?_
  refine JS_loop2 (fun (i j : Nat) => [(0, u), (1, .int .i64 a), (2, .int .i64 m), (3, .int .i64 b), (4, .func (.func q) #[] #[]), (10, .int .i64 i), (11, .int .i64 j)]) (fun i _ => vec 55 1 u N (vals enc D N) :: H)
    (fun i j => m ≤ i ∧ i ≤ j ∧ j ≤ b ∧ (∀ k, m ≤ k → k < i → ω (D k) < ω (D a)) ∧ ∀ k, j ≤ k → k < b → ω (D a) ≤ ω (D k)) (fun i j => j - i) m b ⟨Nat.le_refl _, by omega, Nat.le_refl _, fun k _ _ => by omega, fun k _ _ => by omega⟩ (by repeat (first | exact trivial | refine ⟨rfl, ?_⟩ | refine ⟨lookI rfl (by omega), ?_⟩)) (fun w hw => hw) ?_
  intro i j ⟨hmi, hij, hjb, hlo, hhi⟩ again
  by_cases hlt : i < j
  · obtain ⟨h, hh⟩ : ∃ h : Nat, h = (i + j) / 2 := ⟨_, rfl⟩
    have e1 : IntKind.i64.wrap ((i : Int) + (j : Int)) = ((i + j : Nat) : Int) := (wi64 (by omega)).trans (by omega)
    have e2 : IntKind.u64.wrap ((i + j : Nat) : Int) = ((i + j : Nat) : Int) := wu64 (by omega)
    have e3 : ((i + j : Nat) : Int) / 2 ^ 1 = (h : Int) := by omega
    have e4 : IntKind.i64.wrap (h : Int) = (h : Int) := wi64 (by omega)
    have hh0 : h < N := by omega
    have ha0 : a < N := by omega
    have hho : h < j ∧ i ≤ h := by omega
    clear hh
    repeat (first | (apply gJO; first | refine JO_v (V_add rfl rfl e1 rfl) ?_ | refine JO_v (V_conv (tb := tb) rfl rfl rfl e2 rfl) ?_ | refine JO_v (V_shr (m := 1) rfl rfl (by omega) rfl e3 rfl) ?_ | refine JO_v (V_conv (tb := tb) rfl rfl rfl e4 rfl) ?_) | (apply gQO; refine QO_v rfl (V_loadC (tb := tb) rfl (vec_rd (List.Mem.head _)) rfl rfl (vals_get enc (by assumption)) rfl) ?_) | (first | (refine sx ?_; try intro _)))
    refine QO_callv (us := []) (cs := []) rfl rfl hc.1 rfl rfl fun w hw => (hc.2 _ _ _ w (by omega) hw).mono ?_
    rintro e w' ⟨rfl, hw'⟩
    refine ⟨_, rfl, _, hw', .inl fun w hw => hw, ?_⟩
    clear hw' hw w w'
    have hcm := cmpI_lt (a := ω (D h)) (b := ω (D a))
    obtain ⟨r, hr⟩ : ∃ r, cmpI (ω (D h)) (ω (D a)) = r := ⟨_, rfl⟩
    rw [hr] at hcm ⊢
    have hmon : ∀ k l, m ≤ k → k ≤ l → l < b → ω (D k) ≤ ω (D l) := fun k l hk hkl hl => by
      rcases Nat.lt_or_ge k l with h' | h'
      · exact srt_sg hR k l hk h' (by omega)
      · rw [show k = l by omega]; exact Nat.le_refl _
    by_cases hlt2 : ω (D h) < ω (D a)
    · have hr0 := hcm.2 hlt2
      clear hr hcm
      repeat (first | (refine sx ?_; try intro _))
      exact JS_again2 again (h + 1) j ⟨by omega, by omega, hjb, fun k hk hk2 => Nat.lt_of_le_of_lt (hmon k h hk (by omega) (by omega)) hlt2, hhi⟩ (by omega) (by repeat (first | exact trivial | refine ⟨rfl, ?_⟩ | refine ⟨lookI rfl (by omega), ?_⟩)) (fun w hw => hw)
    · have hr0 : ¬ r < 0 := fun h => hlt2 (hcm.1 h)
      clear hr hcm
      repeat (first | (refine sx ?_; try intro _))
      exact JS_again2 again i h ⟨hmi, by omega, by omega, hlo, fun k hk hk2 => Nat.le_trans (by omega) (hmon h k (by omega) hk hk2)⟩ (by omega) (by repeat (first | exact trivial | refine ⟨rfl, ?_⟩ | refine ⟨lookI rfl (by omega), ?_⟩)) (fun w hw => hw)
  · obtain rfl : i = j := by omega
    clear again hlt hij
    repeat (first | (apply gJR; first | (refine sx ?_; try intro _)) | (apply gJO; first | (refine sx ?_; try intro _)) | apply JS_seq | apply JS_region | (apply gJS; refine JS_condF rfl ?_) | (apply gJS; refine JS_cond_F rfl (by omega) ?_) | (apply gJS; refine JS_exit rfl ?_))
    refine JS_block ?_
    refine JS_loop1 (fun (k : Nat) => [(0, u), (1, .int .i64 a), (2, .int .i64 m), (3, .int .i64 b), (4, .func (.func q) #[] #[]), (10, .int .i64 i), (13, .int .i64 k)]) (fun k => vec 55 1 u N (vals enc (mvU D a k) N) :: H)
      (fun k => a ≤ k ∧ k ≤ i - 1) (fun k => i - k) a ⟨Nat.le_refl _, by omega⟩ (by repeat (first | exact trivial | refine ⟨rfl, ?_⟩ | refine ⟨lookI rfl (by omega), ?_⟩)) (fun w hw => by rw [mvU_id]; exact hw) ?_
    intro k ⟨hak, hki⟩ again
    have e1 : IntKind.i64.wrap ((i : Int) - 1) = ((i - 1 : Nat) : Int) := (wi64 (by omega)).trans (by omega)
    by_cases hlt : k < i - 1
    · have hk0 : k < N := by omega
      have hk1 : k + 1 < N := by omega
      repeat (first | (apply gJR; first | (refine sx ?_; try intro _)) | (apply gJO; first | refine JO_v (V_sub rfl rfl e1 rfl) ?_ | first | (refine sx ?_; try intro _)) | apply JS_seq | apply JS_region | (apply gJS; refine JS_condT rfl ?_) | apply JS_skip | (apply gJS; refine JS_cond_T rfl (by omega) ?_) | apply JS_block)
      refine Sx.Cm.JS_orderC [0, 1, 2, 3, 4, 5, 6, 7, 10, 11] [8, 9, 12, 13, 14, 15, 16, 17] [2, 0] (Picks.cons rfl (Picks.cons rfl (Picks.cons rfl (Picks.cons rfl (Picks.cons rfl (Picks.cons rfl (Picks.cons rfl (Picks.cons rfl (Picks.cons rfl (Picks.cons rfl (Picks.nil))))))))))) (Picks.cons rfl (Picks.cons rfl (Picks.cons rfl (Picks.cons rfl (Picks.cons rfl (Picks.cons rfl (Picks.cons rfl (Picks.cons rfl (Picks.nil))))))))) (by kernel_rfl) (by kernel_rfl) rfl (by decide +kernel) ?_
      clear e1
      repeat (first | (apply Sx.Cm.gQC; first | refine aC ?_ | refine Sx.Cm.QC_nil ?_) | (apply gQO; refine QO_v rfl (V_loadC (tb := tb) rfl (vec_rd (List.Mem.head _)) rfl rfl (vals_get enc (by assumption)) rfl) ?_) | (apply gQO; refine QO_k rfl (K_storeC1 (tb := tb) rfl rfl (vals_set enc) (Upd.here _ _ _) rfl (h1 _) (by rw [vals_len]; assumption) rfl) rfl ?_) | (first | (refine sx ?_; try intro _)))
      rw [mvU_step D a k hak]
      exact JS_again1 again (k + 1) ⟨by omega, by omega⟩ (by omega) (by repeat (first | exact trivial | refine ⟨rfl, ?_⟩ | refine ⟨lookI rfl (by omega), ?_⟩)) (fun w hw => hw)
    · obtain rfl : k = i - 1 := by omega
      clear again
      repeat (first | (apply gJO; first | refine JO_v (V_sub rfl rfl e1 rfl) ?_) | (first | (refine sx ?_; try intro _)))
      refine JS_ret Try.func127 rfl rfl ?_
      intro w hw
      refine ⟨rfl, _, hw, fun k hk => ?_, ?_⟩
      · unfold mvU; rw [if_neg (by omega), if_neg (by omega)]
      · rw [mvU_sg D a i b (by omega) hjb, show m - a = 1 by omega, show b - m = (i - m) + (b - i) by omega, sg_add, show m + (i - m) = i by omega, ← ham]
        refine (mrg_insL ω _ _ _ (fun r hr => ?_) (fun r hr => ?_)).symm
        · obtain ⟨k, hk, rfl⟩ := sg_mem hr
          exact hlo _ (by omega) (by omega)
        · obtain ⟨k, hk, rfl⟩ := sg_mem hr
          exact hhi _ (by omega) (by omega)
end
end Go.Proofs.Ytbiocgenbgbfpaa

namespace Go.Proofs.Ytbiocgenbgbfpaa
open Sx Go Pm
set_option linter.unusedVariables false
set_option linter.unusedSimpArgs false
section
variable {α : Type} {enc : α → Value} {ω : α → Nat} {w0 : World} {H : List Asn}
set_option maxHeartbeats 2000000 in
/-- one is put into those before it -/
theorem SymR_c (h1 : ∀ x, Sx.one (enc x)) (u : Value) (q N : Nat) (hc : Cmp enc ω w0 H q u N) (D : Nat → α) (a m b : Nat) (hN : N ≤ 1000000) (ham : a + 1 < m) (hmb : b = m + 1) (hb : b ≤ N) (hL : SrtW ω (sg D a (m - a))) (w : World) (hw : St w0 (vec 55 1 u N (vals enc D N) :: H) w) :
    Calls Try.prog 127 #[u, .int .i64 a, .int .i64 m, .int .i64 b, .func (.func q) #[] #[]] w fun e w' => e = .returned (.tuple #[]) ∧ ∃ D', St w0 (vec 55 1 u N (vals enc D' N) :: H) w' ∧ (∀ k, k < a ∨ b ≤ k → D' k = D k) ∧ sg D' a (b - a) = mrg ω (sg D a (m - a)) (sg D m (b - m)) := by
  refine enter (vs := [u, .int .i64 a, .int .i64 m, .int .i64 b, .func (.func q) #[] #[]]) Try.func127 rfl rfl rfl hw ?_
  repeat (first | (apply gJR; first | (refine sx ?_; try intro _)) | (apply gJO; first | (refine sx ?_; try intro _)) | apply JS_seq | apply JS_region | apply JS_skip | (apply gJS; refine JS_condT rfl ?_) | (apply gJS; refine JS_condF rfl ?_) | (apply gJS; refine JS_cond_T rfl (by omega) ?_) | (apply gJS; refine JS_cond_F rfl (by omega) ?_))
  refine JS_block ?_
  refine JS_loop2 (fun (i j : Nat) => [(0, u), (1, .int .i64 a), (2, .int .i64 m), (3, .int .i64 b), (4, .func (.func q) #[] #[]), (14, .int .i64 i), (15, .int .i64 j)]) (fun i _ => vec 55 1 u N (vals enc D N) :: H)
    (fun i j => a ≤ i ∧ i ≤ j ∧ j ≤ m ∧ (∀ k, a ≤ k → k < i → ω (D k) ≤ ω (D m)) ∧ ∀ k, j ≤ k → k < m → ω (D m) < ω (D k)) (fun i j => j - i) a m ⟨Nat.le_refl _, by omega, Nat.le_refl _, fun k _ _ => by omega, fun k _ _ => by omega⟩ (by repeat (first | exact trivial | refine ⟨rfl, ?_⟩ | refine ⟨lookI rfl (by omega), ?_⟩)) (fun w hw => hw) ?_
  intro i j ⟨hai, hij, hjm, hlo, hhi⟩ again
  by_cases hlt : i < j
  · obtain ⟨h, hh⟩ : ∃ h : Nat, h = (i + j) / 2 := ⟨_, rfl⟩
    have e1 : IntKind.i64.wrap ((i : Int) + (j : Int)) = ((i + j : Nat) : Int) := (wi64 (by omega)).trans (by omega)
    have e2 : IntKind.u64.wrap ((i + j : Nat) : Int) = ((i + j : Nat) : Int) := wu64 (by omega)
    have e3 : ((i + j : Nat) : Int) / 2 ^ 1 = (h : Int) := by omega
    have e4 : IntKind.i64.wrap (h : Int) = (h : Int) := wi64 (by omega)
    have hh0 : h < N := by omega
    have hm0 : m < N := by omega
    have hho : h < j ∧ i ≤ h := by omega
    clear hh
    repeat (first | (apply gJO; first | refine JO_v (V_add rfl rfl e1 rfl) ?_ | refine JO_v (V_conv (tb := tb) rfl rfl rfl e2 rfl) ?_ | refine JO_v (V_shr (m := 1) rfl rfl (by omega) rfl e3 rfl) ?_ | refine JO_v (V_conv (tb := tb) rfl rfl rfl e4 rfl) ?_) | (apply gQO; refine QO_v rfl (V_loadC (tb := tb) rfl (vec_rd (List.Mem.head _)) rfl rfl (vals_get enc (by assumption)) rfl) ?_) | (first | (refine sx ?_; try intro _)))
    refine QO_callv (us := []) (cs := []) rfl rfl hc.1 rfl rfl fun w hw => (hc.2 _ _ _ w (by omega) hw).mono ?_
    rintro e w' ⟨rfl, hw'⟩
    refine ⟨_, rfl, _, hw', .inl fun w hw => hw, ?_⟩
    clear hw' hw w w'
    have hcm := cmpI_lt (a := ω (D m)) (b := ω (D h))
    obtain ⟨r, hr⟩ : ∃ r, cmpI (ω (D m)) (ω (D h)) = r := ⟨_, rfl⟩
    rw [hr] at hcm ⊢
    have hmon : ∀ k l, a ≤ k → k ≤ l → l < m → ω (D k) ≤ ω (D l) := fun k l hk hkl hl => by
      rcases Nat.lt_or_ge k l with h' | h'
      · exact srt_sg hL k l hk h' (by omega)
      · rw [show k = l by omega]; exact Nat.le_refl _
    by_cases hlt2 : ω (D m) < ω (D h)
    · have hr0 := hcm.2 hlt2
      clear hr hcm
      repeat (first | (refine sx ?_; try intro _))
      exact JS_again2 again i h ⟨hai, by omega, by omega, hlo, fun k hk hk2 => Nat.lt_of_lt_of_le hlt2 (hmon h k (by omega) hk hk2)⟩ (by omega) (by repeat (first | exact trivial | refine ⟨rfl, ?_⟩ | refine ⟨lookI rfl (by omega), ?_⟩)) (fun w hw => hw)
    · have hr0 : ¬ r < 0 := fun h => hlt2 (hcm.1 h)
      clear hr hcm
      repeat (first | (refine sx ?_; try intro _))
      exact JS_again2 again (h + 1) j ⟨by omega, by omega, hjm, fun k hk hk2 => Nat.le_trans (hmon k h hk (by omega) (by omega)) (by omega), hhi⟩ (by omega) (by repeat (first | exact trivial | refine ⟨rfl, ?_⟩ | refine ⟨lookI rfl (by omega), ?_⟩)) (fun w hw => hw)
  · obtain rfl : i = j := by omega
    clear again hlt hij
    repeat (first | (apply gJR; first | (refine sx ?_; try intro _)) | (apply gJO; first | (refine sx ?_; try intro _)) | apply JS_seq | apply JS_region | (apply gJS; refine JS_condF rfl ?_) | (apply gJS; refine JS_cond_F rfl (by omega) ?_) | (apply gJS; refine JS_exit rfl ?_))
    refine JS_block ?_
    refine JS_loop1 (fun (k : Nat) => [(0, u), (1, .int .i64 a), (2, .int .i64 m), (3, .int .i64 b), (4, .func (.func q) #[] #[]), (14, .int .i64 i), (17, .int .i64 k)]) (fun k => vec 55 1 u N (vals enc (mvD D m k) N) :: H)
      (fun k => i ≤ k ∧ k ≤ m) (fun k => k) m ⟨hjm, Nat.le_refl _⟩ (by repeat (first | exact trivial | refine ⟨rfl, ?_⟩ | refine ⟨lookI rfl (by omega), ?_⟩)) (fun w hw => by rw [mvD_id]; exact hw) ?_
    intro k ⟨hik, hkm⟩ again
    by_cases hlt : i < k
    · obtain ⟨k, rfl⟩ : ∃ k', k = k' + 1 := ⟨k - 1, by omega⟩
      have hk0 : k < N := by omega
      have hk1 : k + 1 < N := by omega
      have e1 : IntKind.i64.wrap (((k + 1 : Nat) : Int) - 1) = (k : Int) := (wi64 (by omega)).trans (by omega)
      repeat (first | (apply gJR; first | (refine sx ?_; try intro _)) | (apply gJO; first | (refine sx ?_; try intro _)) | apply JS_seq | apply JS_region | (apply gJS; refine JS_condT rfl ?_) | apply JS_skip | (apply gJS; refine JS_cond_T rfl (by omega) ?_) | apply JS_block)
      refine Sx.Cm.JS_orderC [0, 1, 2, 3, 4, 5, 6, 7, 10, 11] [8, 9, 12, 13, 14, 15, 16, 17] [2, 0] (Picks.cons rfl (Picks.cons rfl (Picks.cons rfl (Picks.cons rfl (Picks.cons rfl (Picks.cons rfl (Picks.cons rfl (Picks.cons rfl (Picks.cons rfl (Picks.cons rfl (Picks.nil))))))))))) (Picks.cons rfl (Picks.cons rfl (Picks.cons rfl (Picks.cons rfl (Picks.cons rfl (Picks.cons rfl (Picks.cons rfl (Picks.cons rfl (Picks.nil))))))))) (by kernel_rfl) (by kernel_rfl) rfl (by decide +kernel) ?_
      repeat (first | (apply Sx.Cm.gQC; first | refine Sx.Cm.QC_v (fun _ => V_sub rfl rfl e1 rfl) ?_ | refine aC ?_ | refine Sx.Cm.QC_nil ?_) | (apply gQO; refine QO_v rfl (V_loadC (tb := tb) rfl (vec_rd (List.Mem.head _)) rfl rfl (vals_get enc (by assumption)) rfl) ?_) | (apply gQO; refine QO_k rfl (K_storeC1 (tb := tb) rfl rfl (vals_set enc) (Upd.here _ _ _) rfl (h1 _) (by rw [vals_len]; assumption) rfl) rfl ?_) | (apply gJO; refine JO_v (V_sub rfl rfl e1 rfl) ?_) | (first | (refine sx ?_; try intro _)))
      rw [mvD_step D m k (by omega)]
      exact JS_again1 again k ⟨by omega, by omega⟩ (by omega) (by repeat (first | exact trivial | refine ⟨rfl, ?_⟩ | refine ⟨lookI rfl (by omega), ?_⟩)) (fun w hw => hw)
    · obtain rfl : k = i := by omega
      clear again
      repeat (first | (refine sx ?_; try intro _))
      refine JS_ret Try.func127 rfl rfl ?_
      intro w hw
      refine ⟨rfl, _, hw, fun p hp => ?_, ?_⟩
      · unfold mvD; rw [if_neg (by omega), if_neg (by omega)]
      · subst hmb
        rw [mvD_sg D a m k (by omega) hkm, show m + 1 - m = 1 by omega, show m - a = (k - a) + (m - k) by omega, sg_add, show a + (k - a) = k by omega]
        refine (mrg_ins ω _ _ _ (fun r hr => ?_) (fun r hr => ?_)).symm
        · obtain ⟨p, hp, rfl⟩ := sg_mem hr
          exact hlo _ (by omega) (by omega)
        · obtain ⟨p, hp, rfl⟩ := sg_mem hr
          exact hhi _ (by omega) (by omega)
end
end Go.Proofs.Ytbiocgenbgbfpaa

namespace Go.Proofs.Ytbiocgenbgbfpaa
open Sx Go Pm
set_option linter.unusedVariables false
set_option linter.unusedSimpArgs false
/-- tells the region in front -/
theorem gIdU {P : Program} {f n : Nat} {R : Ending → World → Prop} {D : List Deferred} {w0 : World} {k : List Item} {ov : Ov} {H : List Asn} (i : Nat) {l : Array Oper} {b : Bool} {y : Code} (h : JS P f n R D w0 (.code (.seq (.region i l b) y) :: k) ov H) : JS P f n R D w0 (.code (.seq (.region i l b) y) :: k) ov H := h
section
variable {α : Type} {enc : α → Value} {ω : α → Nat} {w0 : World} {H : List Asn}
set_option maxHeartbeats 4000000 in
/-- two sorted parts that stand side by side are merged -/
theorem SymM_c (h1 : ∀ x, Sx.one (enc x)) (u : Value) (q N : Nat) (hc : Cmp enc ω w0 H q u N) (hN : N ≤ 1000000) : ∀ (d : Nat) (D : Nat → α) (a m b : Nat), b - a = d → a < m → m < b → b ≤ N → SrtW ω (sg D a (m - a)) → SrtW ω (sg D m (b - m)) → ∀ (w : World), St w0 (vec 55 1 u N (vals enc D N) :: H) w →
    Calls Try.prog 127 #[u, .int .i64 a, .int .i64 m, .int .i64 b, .func (.func q) #[] #[]] w fun e w' => e = .returned (.tuple #[]) ∧ ∃ D', St w0 (vec 55 1 u N (vals enc D' N) :: H) w' ∧ (∀ k, k < a ∨ b ≤ k → D' k = D k) ∧ sg D' a (b - a) = mrg ω (sg D a (m - a)) (sg D m (b - m)) := by
  intro d
  induction d using Nat.strongRecOn with
  | _ d ih =>
  intro D a m b hd ham hmb hb hL hR w hw
  by_cases hm1 : m = a + 1
  · exact SymL_c h1 u q N hc D a m b hN hm1 hmb hb hR w hw
  by_cases hb1 : b = m + 1
  · exact SymR_c h1 u q N hc D a m b hN (by omega) hb1 hb hL w hw
  refine enter (vs := [u, .int .i64 a, .int .i64 m, .int .i64 b, .func (.func q) #[] #[]]) Try.func127 rfl rfl rfl hw ?_
  clear hw w
  obtain ⟨h, hh⟩ : ∃ h : Nat, h = (a + b) / 2 := ⟨_, rfl⟩
  have e1 : IntKind.i64.wrap ((a : Int) + (b : Int)) = ((a + b : Nat) : Int) := (wi64 (by omega)).trans (by omega)
  have e2 : IntKind.u64.wrap ((a + b : Nat) : Int) = ((a + b : Nat) : Int) := wu64 (by omega)
  have e3 : ((a + b : Nat) : Int) / 2 ^ 1 = (h : Int) := by omega
  have e4 : IntKind.i64.wrap (h : Int) = (h : Int) := wi64 (by omega)
  have e5 : IntKind.i64.wrap ((h : Int) + (m : Int)) = ((h + m : Nat) : Int) := (wi64 (by omega)).trans (by omega)
  have hmid : a + 2 ≤ h ∧ h + 2 ≤ b ∧ 2 * h ≤ a + b ∧ a + b ≤ 2 * h + 1 := by omega
  clear hh
  repeat ((fail_if_success refine gIdU 27 ?_); first | (apply gJO; first | refine JO_v (V_add rfl rfl e1 rfl) ?_ | refine JO_v (V_conv (tb := tb) rfl rfl rfl e2 rfl) ?_ | refine JO_v (V_shr (m := 1) rfl rfl (by omega) rfl e3 rfl) ?_ | refine JO_v (V_conv (tb := tb) rfl rfl rfl e4 rfl) ?_) | (apply gJO; refine JO_v (V_add rfl rfl e5 rfl) ?_) | (apply gJR; first | (refine sx ?_; try intro _)) | (apply gJO; first | (refine sx ?_; try intro _)) | apply JS_region | apply JS_skip | (apply gJS; refine JS_condT rfl ?_) | (apply gJS; refine JS_condF rfl ?_) | (apply gJS; refine JS_cond_T rfl (by omega) ?_) | (apply gJS; refine JS_cond_F rfl (by omega) ?_) | apply JS_seq)
  refine gIdU 27 ?_
  refine JS_join2 (fun (s r : Nat) => [(0, u), (1, .int .i64 a), (2, .int .i64 m), (3, .int .i64 b), (4, .func (.func q) #[] #[]), (18, .int .i64 h), (19, .int .i64 (h + m : Nat)), (20, .int .i64 s), (21, .int .i64 r)]) (fun _ _ => vec 55 1 u N (vals enc D N) :: H)
    (fun s r => a ≤ s ∧ s ≤ r ∧ r ≤ m ∧ r ≤ h ∧ h + m ≤ b + s ∧ (∀ l q, a ≤ l → l < s → h + m ≤ q + s → q < b → ω (D l) ≤ ω (D q)) ∧ (∀ l q, r ≤ l → l < m → m ≤ q → q + r < h + m → ω (D q) < ω (D l))) ?_ ?_
  case' refine_2 =>
    intro K
    by_cases hmh : h < m
    · have e6 : IntKind.i64.wrap (((h + m : Nat) : Int) - (b : Int)) = ((h + m - b : Nat) : Int) := (wi64 (by omega)).trans (by omega)
      repeat (first | exact JS_to2 K (h + m - b) h ⟨by omega, by omega, by omega, Nat.le_refl _, by omega, fun l q _ _ _ _ => by omega, fun l q _ _ _ _ => by omega⟩ (by repeat (first | exact trivial | refine ⟨rfl, ?_⟩ | refine ⟨lookI rfl (by omega), ?_⟩)) (fun w hw => hw) | (apply gJO; refine JO_v (V_sub rfl rfl e6 rfl) ?_) | (first | (refine sx ?_; try intro _)))
    · repeat (first | exact JS_to2 K a m ⟨Nat.le_refl _, by omega, Nat.le_refl _, by omega, by omega, fun l q _ _ _ _ => by omega, fun l q _ _ _ _ => by omega⟩ (by repeat (first | exact trivial | refine ⟨rfl, ?_⟩ | refine ⟨lookI rfl (by omega), ?_⟩)) (fun w hw => hw) | (first | (refine sx ?_; try intro _)))
  intro s0 r0 ⟨j1, j2, j3, j4, j5, j6, j7⟩
  have e7 : IntKind.i64.wrap (((h + m : Nat) : Int) - 1) = ((h + m - 1 : Nat) : Int) := (wi64 (by omega)).trans (by omega)
  repeat (first | (apply gJO; refine JO_v (V_sub rfl rfl e7 rfl) ?_) | (apply gJR; first | (refine sx ?_; try intro _)) | (apply gJO; first | (refine sx ?_; try intro _)) | apply JS_seq | apply JS_region)
  refine JS_block ?_
  refine JS_loop2 (fun (s r : Nat) => [(0, u), (1, .int .i64 a), (2, .int .i64 m), (3, .int .i64 b), (4, .func (.func q) #[] #[]), (18, .int .i64 h), (19, .int .i64 (h + m : Nat)), (20, .int .i64 s), (21, .int .i64 r), (22, .int .i64 (h + m - 1 : Nat))]) (fun _ _ => vec 55 1 u N (vals enc D N) :: H)
    (fun s r => a ≤ s ∧ s ≤ r ∧ r ≤ m ∧ r ≤ h ∧ h + m ≤ b + s ∧ (∀ l q, a ≤ l → l < s → h + m ≤ q + s → q < b → ω (D l) ≤ ω (D q)) ∧ (∀ l q, r ≤ l → l < m → m ≤ q → q + r < h + m → ω (D q) < ω (D l))) (fun s r => r - s) s0 r0 ⟨j1, j2, j3, j4, j5, j6, j7⟩ (by repeat (first | exact trivial | refine ⟨rfl, ?_⟩ | refine ⟨lookI rfl (by omega), ?_⟩)) (fun w hw => hw) ?_
  clear j1 j2 j3 j4 j5 j6 j7
  intro s r ⟨j1, j2, j3, j4, j5, j6, j7⟩ again
  have monL : ∀ k l, a ≤ k → k ≤ l → l < m → ω (D k) ≤ ω (D l) := fun k l hk hkl hl => by
    rcases Nat.lt_or_ge k l with h' | h'
    · exact srt_sg hL k l hk h' (by omega)
    · rw [show k = l by omega]; exact Nat.le_refl _
  have monR : ∀ k l, m ≤ k → k ≤ l → l < b → ω (D k) ≤ ω (D l) := fun k l hk hkl hl => by
    rcases Nat.lt_or_ge k l with h' | h'
    · exact srt_sg hR k l hk h' (by omega)
    · rw [show k = l by omega]; exact Nat.le_refl _
  by_cases hlt : s < r
  · obtain ⟨c, hcd⟩ : ∃ c : Nat, c = (s + r) / 2 := ⟨_, rfl⟩
    clear e1 e2 e3 e4 e5
    have e1 : IntKind.i64.wrap ((s : Int) + (r : Int)) = ((s + r : Nat) : Int) := (wi64 (by omega)).trans (by omega)
    have e2 : IntKind.u64.wrap ((s + r : Nat) : Int) = ((s + r : Nat) : Int) := wu64 (by omega)
    have e3 : ((s + r : Nat) : Int) / 2 ^ 1 = (c : Int) := by omega
    have e4 : IntKind.i64.wrap (c : Int) = (c : Int) := wi64 (by omega)
    have hco : c < r ∧ s ≤ c := by omega
    clear hcd
    have e5 : IntKind.i64.wrap (((h + m - 1 : Nat) : Int) - (c : Int)) = ((h + m - 1 - c : Nat) : Int) := (wi64 (by omega)).trans (by omega)
    have hc0 : c < N := by omega
    have hp0 : h + m - 1 - c < N := by omega
    repeat (first | (apply gJO; first | refine JO_v (V_add rfl rfl e1 rfl) ?_ | refine JO_v (V_conv (tb := tb) rfl rfl rfl e2 rfl) ?_ | refine JO_v (V_shr (m := 1) rfl rfl (by omega) rfl e3 rfl) ?_ | refine JO_v (V_conv (tb := tb) rfl rfl rfl e4 rfl) ?_) | (apply gQO; first | refine QO_v rfl (V_sub rfl rfl e5 rfl) ?_ | refine QO_v rfl (V_loadC (tb := tb) rfl (vec_rd (List.Mem.head _)) rfl rfl (vals_get enc (by assumption)) rfl) ?_) | (first | (refine sx ?_; try intro _)))
    refine QO_callv (us := []) (cs := []) rfl rfl hc.1 rfl rfl fun w hw => (hc.2 _ _ _ w (by omega) hw).mono ?_
    rintro e w' ⟨rfl, hw'⟩
    refine ⟨_, rfl, _, hw', .inl fun w hw => hw, ?_⟩
    clear hw' hw w w'
    have hcm := cmpI_lt (a := ω (D (h + m - 1 - c))) (b := ω (D c))
    obtain ⟨x, hx⟩ : ∃ x, cmpI (ω (D (h + m - 1 - c))) (ω (D c)) = x := ⟨_, rfl⟩
    rw [hx] at hcm ⊢
    by_cases hlt2 : ω (D (h + m - 1 - c)) < ω (D c)
    · have hr0 := hcm.2 hlt2
      clear hx hcm
      repeat (first | (refine sx ?_; try intro _))
      exact JS_again2 again s c ⟨j1, by omega, by omega, by omega, j5, j6, fun l q hl hlm hq hqc => by
        have a1 := monL c l (by omega) hl hlm
        have a2 := monR q (h + m - 1 - c) hq (by omega) (by omega)
        omega⟩ (by omega) (by repeat (first | exact trivial | refine ⟨rfl, ?_⟩ | refine ⟨lookI rfl (by omega), ?_⟩)) (fun w hw => hw)
    · have hr0 : ¬ x < 0 := fun h => hlt2 (hcm.1 h)
      clear hx hcm
      repeat (first | (refine sx ?_; try intro _))
      exact JS_again2 again (c + 1) r ⟨by omega, by omega, j3, j4, by omega, fun l q hl hlm hq hqc => by
        have a1 := monL l c hl (by omega) (by omega)
        have a2 := monR (h + m - 1 - c) q (by omega) (by omega) hqc
        omega, j7⟩ (by omega) (by repeat (first | exact trivial | refine ⟨rfl, ?_⟩ | refine ⟨lookI rfl (by omega), ?_⟩)) (fun w hw => hw)
  · obtain rfl : s = r := by omega
    clear again hlt j2 e1 e2 e3 e4 e5 e7
    have e8 : IntKind.i64.wrap (((h + m : Nat) : Int) - (s : Int)) = ((h + m - s : Nat) : Int) := (wi64 (by omega)).trans (by omega)
    repeat ((fail_if_success refine gIdU 39 ?_); first | (apply gJO; refine JO_v (V_sub rfl rfl e8 rfl) ?_) | (apply gJR; first | (refine sx ?_; try intro _)) | (apply gJO; first | (refine sx ?_; try intro _)) | (apply gJS; refine JS_exit rfl ?_) | apply JS_region | apply JS_seq | (apply gJS; refine JS_condF rfl ?_) | (apply gJS; refine JS_cond_F rfl (by omega) ?_))
    obtain ⟨t, ht⟩ : ∃ t : Nat, h + m - s = t := ⟨_, rfl⟩
    rw [ht] at e8 ⊢
    have ht2 : t + s = h + m ∧ m ≤ t ∧ h ≤ t ∧ t ≤ b := by omega
    obtain ⟨k1, k2, k3, k4⟩ := ht2
    clear e8 ht
    repeat ((fail_if_success refine gIdU 39 ?_); refine JS_seq ?_)
    refine gIdU 39 ?_
    refine JS_join1 (fun (_ : Unit) => [(0, u), (1, .int .i64 a), (3, .int .i64 b), (4, .func (.func q) #[] #[]), (18, .int .i64 h), (20, .int .i64 s), (24, .int .i64 t)]) (fun _ => vec 55 1 u N (vals enc (rot D s m t) N) :: H) (fun _ => True) ?_ ?_
    case' refine_2 =>
      intro K
      by_cases c1 : s < m
      · by_cases c2 : m < t
        · repeat (first | (refine sx ?_; try intro _))
          refine JO_call Try.call140 rfl rfl fun w hw => (Rot_c h1 u _ N D s m t hN c1 c2 (by omega) w hw).mono ?_
          rintro e w' ⟨rfl, hw'⟩
          refine ⟨_, rfl, _, hw', ?_⟩
          clear hw' hw w w'
          repeat (first | exact JS_to1 K () trivial (by repeat (first | exact trivial | refine ⟨rfl, ?_⟩ | refine ⟨lookI rfl (by omega), ?_⟩)) (fun w hw => hw) | (first | (refine sx ?_; try intro _)))
        · have hr : rot D s m t = D := by
            funext k; unfold rot
            rw [if_neg (by omega)]
            split
            · rw [show t - m = 0 by omega, Nat.sub_zero]
            · rfl
          repeat (first | exact JS_to1 K () trivial (by repeat (first | exact trivial | refine ⟨rfl, ?_⟩ | refine ⟨lookI rfl (by omega), ?_⟩)) (fun w hw => by rw [hr]; exact hw) | (first | (refine sx ?_; try intro _)))
      · have hr : rot D s m t = D := by
          funext k; unfold rot
          split
          · rw [show m - s = 0 by omega, Nat.add_zero]
          · rw [if_neg (by omega)]
        repeat (first | exact JS_to1 K () trivial (by repeat (first | exact trivial | refine ⟨rfl, ?_⟩ | refine ⟨lookI rfl (by omega), ?_⟩)) (fun w hw => by rw [hr]; exact hw) | (first | (refine sx ?_; try intro _)))
    intro _ _
    have f1 : sg (rot D s m t) a (s - a) = sg D a (s - a) := sg_congr _ _ _ fun k hk => by unfold rot; rw [if_neg (by omega), if_neg (by omega)]
    have f2 : sg (rot D s m t) s (h - s) = sg D m (t - m) := by
      rw [show h - s = t - m by omega]
      exact sg_congr _ _ _ fun k hk => by unfold rot; rw [if_pos (by omega), show s + k + (m - s) = m + k by omega]
    have f3 : sg (rot D s m t) h (t - h) = sg D s (m - s) := by
      rw [show t - h = m - s by omega]
      exact sg_congr _ _ _ fun k hk => by unfold rot; rw [if_neg (by omega), if_pos (by omega), show h + k - (t - m) = s + k by omega]
    have f4 : sg (rot D s m t) t (b - t) = sg D t (b - t) := sg_congr _ _ _ fun k hk => by unfold rot; rw [if_neg (by omega), if_neg (by omega)]
    have f5 : ∀ k, k < a ∨ b ≤ k → rot D s m t k = D k := fun k hk => by unfold rot; rw [if_neg (by omega), if_neg (by omega)]
    have eL : sg D a (m - a) = sg D a (s - a) ++ sg D s (m - s) := by rw [show m - a = (s - a) + (m - s) by omega, sg_add, show a + (s - a) = s by omega]
    have eR : sg D m (b - m) = sg D m (t - m) ++ sg D t (b - t) := by rw [show b - m = (t - m) + (b - t) by omega, sg_add, show m + (t - m) = t by omega]
    have sL := hL
    have sR := hR
    rw [eL] at sL
    rw [eR] at sR
    obtain ⟨sL1, sL2, _⟩ := List.pairwise_append.1 sL
    obtain ⟨sR1, sR2, _⟩ := List.pairwise_append.1 sR
    have hspl := mrg_split ω (sg D s (m - s)) (sg D t (b - t)) _ (sg D a (s - a)) (sg D m (t - m)) (Nat.le_refl _) (fun l hl r hr => by
      obtain ⟨x, hx, rfl⟩ := sg_mem hl
      obtain ⟨y, hy, rfl⟩ := sg_mem hr
      exact j6 _ _ (by omega) (by omega) (by omega) (by omega)) (fun l hl r hr => by
      obtain ⟨x, hx, rfl⟩ := sg_mem hl
      obtain ⟨y, hy, rfl⟩ := sg_mem hr
      exact j7 _ _ (by omega) (by omega) (by omega) (by omega))
    rw [← eL, ← eR] at hspl
    rw [← f1] at sL1
    rw [← f3] at sL2
    rw [← f2] at sR1
    rw [← f4] at sR2
    rw [← f1, ← f2, ← f3, ← f4] at hspl
    generalize rot D s m t = E at *
    clear f1 f2 f3 f4 eL eR sL sR j6 j7 monL monR
    repeat ((fail_if_success refine gIdU 41 ?_); refine JS_seq ?_)
    refine gIdU 41 ?_
    refine JS_join1 (fun (_ : Nat → α) => [(0, u), (1, .int .i64 a), (3, .int .i64 b), (4, .func (.func q) #[] #[]), (18, .int .i64 h), (20, .int .i64 s), (24, .int .i64 t)]) (fun D2 => vec 55 1 u N (vals enc D2 N) :: H) (fun D2 => (∀ k, k < a ∨ h ≤ k → D2 k = E k) ∧ sg D2 a (h - a) = mrg ω (sg E a (s - a)) (sg E s (h - s))) ?_ ?_
    case' refine_2 =>
      intro K
      by_cases c1 : a < s
      · by_cases c2 : s < h
        · repeat (first | (refine sx ?_; try intro _))
          refine JO_call Try.call127 rfl rfl fun w hw => (ih (h - a) (by omega) E a s h rfl c1 c2 (by omega) sL1 sR1 w hw).mono ?_
          rintro e w' ⟨rfl, D2, hw', g1, g2⟩
          refine ⟨_, rfl, _, hw', ?_⟩
          clear hw' hw w w'
          repeat (first | exact JS_to1 K D2 ⟨g1, g2⟩ (by repeat (first | exact trivial | refine ⟨rfl, ?_⟩ | refine ⟨lookI rfl (by omega), ?_⟩)) (fun w hw => hw) | (first | (refine sx ?_; try intro _)))
        · have g : sg E a (h - a) = mrg ω (sg E a (s - a)) (sg E s (h - s)) := by
            rw [show h - s = 0 by omega, show h - a = s - a by omega]
            exact (mrg_nilR ω _).symm
          repeat (first | exact JS_to1 K E ⟨fun _ _ => rfl, g⟩ (by repeat (first | exact trivial | refine ⟨rfl, ?_⟩ | refine ⟨lookI rfl (by omega), ?_⟩)) (fun w hw => hw) | (first | (refine sx ?_; try intro _)))
      · have g : sg E a (h - a) = mrg ω (sg E a (s - a)) (sg E s (h - s)) := by
          rw [show s - a = 0 by omega, show s = a by omega]; rfl
        repeat (first | exact JS_to1 K E ⟨fun _ _ => rfl, g⟩ (by repeat (first | exact trivial | refine ⟨rfl, ?_⟩ | refine ⟨lookI rfl (by omega), ?_⟩)) (fun w hw => hw) | (first | (refine sx ?_; try intro _)))
    intro D2 ⟨g1, g2⟩
    have x1 : sg D2 h (t - h) = sg E h (t - h) := sg_congr _ _ _ fun k hk => g1 _ (.inr (by omega))
    have x2 : sg D2 t (b - t) = sg E t (b - t) := sg_congr _ _ _ fun k hk => g1 _ (.inr (by omega))
    rw [← x1] at sL2 hspl
    rw [← x2] at sR2 hspl
    have fin : ∀ D3 : Nat → α, (∀ k, k < h ∨ b ≤ k → D3 k = D2 k) → sg D3 h (b - h) = mrg ω (sg D2 h (t - h)) (sg D2 t (b - t)) → (∀ k, k < a ∨ b ≤ k → D3 k = D k) ∧ sg D3 a (b - a) = mrg ω (sg D a (m - a)) (sg D m (b - m)) := fun D3 y1 y2 => by
      refine ⟨fun k hk => by rw [y1 k (by omega), g1 k (by omega), f5 k hk], ?_⟩
      rw [show b - a = (h - a) + (b - h) by omega, sg_add, show a + (h - a) = h by omega, hspl, y2, ← g2]
      congr 1
      exact sg_congr _ _ _ fun k hk => y1 _ (.inl (by omega))
    by_cases c1 : h < t
    · by_cases c2 : t < b
      · repeat (first | (refine sx ?_; try intro _))
        refine JO_call Try.call127 rfl rfl fun w hw => (ih (b - h) (by omega) D2 h t b rfl c1 c2 (by omega) sL2 sR2 w hw).mono ?_
        rintro e w' ⟨rfl, D3, hw', y1, y2⟩
        refine ⟨_, rfl, _, hw', ?_⟩
        clear hw' hw w w'
        repeat (first | (refine sx ?_; try intro _))
        refine JS_fin Try.func127 rfl rfl ?_
        intro w hw
        exact ⟨rfl, D3, hw, fin D3 y1 y2⟩
      · have y2 : sg D2 h (b - h) = mrg ω (sg D2 h (t - h)) (sg D2 t (b - t)) := by
          rw [show b - t = 0 by omega, show b - h = t - h by omega]
          exact (mrg_nilR ω _).symm
        repeat (first | (refine sx ?_; try intro _))
        refine JS_fin Try.func127 rfl rfl ?_
        intro w hw
        exact ⟨rfl, D2, hw, fin D2 (fun _ _ => rfl) y2⟩
    · have y2 : sg D2 h (b - h) = mrg ω (sg D2 h (t - h)) (sg D2 t (b - t)) := by
        rw [show t - h = 0 by omega, show t = h by omega]; rfl
      repeat (first | (refine sx ?_; try intro _))
      refine JS_fin Try.func127 rfl rfl ?_
      intro w hw
      exact ⟨rfl, D2, hw, fin D2 (fun _ _ => rfl) y2⟩
end
end Go.Proofs.Ytbiocgenbgbfpaa

namespace Go.Proofs.Ytbiocgenbgbfpaa
open Sx Go Pm
set_option linter.unusedVariables false
set_option linter.unusedSimpArgs false
theorem dvd_step {d x a : Nat} (hx : d ∣ x) (ha : d ∣ a) (h : x < a) : x + d ≤ a := by
  obtain ⟨q, rfl⟩ := hx
  obtain ⟨p, rfl⟩ := ha
  have hqp : q < p := Nat.lt_of_mul_lt_mul_left h
  have := Nat.mul_le_mul_left d (show q + 1 ≤ p from hqp)
  rw [Nat.mul_add, Nat.mul_one] at this
  exact this
section
variable {α : Type} {enc : α → Value} {ω : α → Nat} {w0 : World} {H : List Asn}
/-- blocks of so many are sorted -/
def BK (ω : α → Nat) (D E : Nat → α) (N s lo hi : Nat) : Prop := ∀ x, s ∣ x → lo ≤ x → x < hi → sg E x (min s (N - x)) = isrt ω (sg D x (min s (N - x)))
theorem BK.one {D E : Nat → α} {N s lo hi x n : Nat} (h : BK ω D E N s lo hi) (hd : s ∣ x) (h1 : lo ≤ x) (h2 : x < hi) (hn : min s (N - x) = n) : sg E x n = isrt ω (sg D x n) := hn ▸ h x hd h1 h2
/-- a part that is merged out of two -/
theorem BK.two {D E E' : Nat → α} {x s n : Nat} (h1 : sg E x s = isrt ω (sg D x s)) (h2 : sg E (x + s) n = isrt ω (sg D (x + s) n)) (h : sg E' x (s + n) = mrg ω (sg E x s) (sg E (x + s) n)) : sg E' x (s + n) = isrt ω (sg D x (s + n)) := by
  rw [h, h1, h2, ← isrt_app, sg_add]
set_option maxHeartbeats 4000000 in
/-- a stable sort -/
theorem Stable_c (h1 : ∀ x, Sx.one (enc x)) (u : Value) (q N : Nat) (hc : Cmp enc ω w0 H q u N) (hN : N ≤ 1000000) (D : Nat → α) (w : World) (hw : St w0 (vec 55 1 u N (vals enc D N) :: H) w) :
    Calls Try.prog 87 #[u, .int .i64 N, .func (.func q) #[] #[]] w fun e w' => e = .returned (.tuple #[]) ∧ ∃ D', St w0 (vec 55 1 u N (vals enc D' N) :: H) w' ∧ sg D' 0 N = isrt ω (sg D 0 N) := by
  refine enter (vs := [u, .int .i64 N, .func (.func q) #[] #[]]) Try.func87 rfl rfl rfl hw ?_
  repeat (first | (apply gJR; first | (refine sx ?_; try intro _)) | (apply gJO; first | (refine sx ?_; try intro _)) | apply JS_seq | apply JS_region)
  refine JS_block ?_
  refine JS_loop2 (fun (E : Nat → α) (a : Nat) => [(0, u), (1, .int .i64 N), (2, .func (.func q) #[] #[]), (6, .int .i64 20), (7, .int .i64 a), (8, .int .i64 (a + 20 : Nat))]) (fun E _ => vec 55 1 u N (vals enc E N) :: H)
    (fun E a => 20 ∣ a ∧ a ≤ N ∧ BK ω D E N 20 0 a ∧ ∀ k, a ≤ k → E k = D k) (fun _ a => N - a) D 0 ⟨⟨0, rfl⟩, Nat.zero_le _, fun x _ _ hx => absurd hx (by omega), fun _ _ => rfl⟩ (by repeat (first | exact trivial | refine ⟨rfl, ?_⟩ | refine ⟨lookI rfl (by omega), ?_⟩)) (fun w hw => hw) ?_
  intro E a ⟨ha, haN, hE1, hE2⟩ again
  by_cases hlt : a + 20 ≤ N
  · repeat (first | (refine sx ?_; try intro _))
    refine JO_call Try.call126 rfl rfl fun w hw => (Ins_c h1 u q N hc E a (a + 20) hN (by omega) hlt w hw).mono ?_
    rintro e w' ⟨rfl, E', hw', g1, g2⟩
    refine ⟨_, rfl, _, hw', ?_⟩
    clear hw' hw w w'
    rw [show a + 20 - a = 20 by omega] at g2
    repeat (first | (refine sx ?_; try intro _))
    refine JS_again2 again E' (a + 20) ⟨Nat.dvd_add ha ⟨1, rfl⟩, hlt, fun x hx _ hxa => ?_, fun k hk => by rw [g1 k (.inr hk), hE2 k (by omega)]⟩ (by omega) (by repeat (first | exact trivial | refine ⟨rfl, ?_⟩ | refine ⟨lookI rfl (by omega), ?_⟩)) (fun w hw => hw)
    rcases Nat.lt_or_ge x a with h | h
    · rw [← hE1 x hx (Nat.zero_le _) h]
      have := dvd_step hx ha h
      exact sg_congr _ _ _ fun k hk => g1 _ (.inl (by omega))
    · obtain rfl : x = a := by
        rcases Nat.lt_or_ge a x with h' | h'
        · have := dvd_step ha hx h'; omega
        · omega
      rw [show min 20 (N - x) = 20 by omega, g2]
      congr 1
      exact sg_congr _ _ _ fun k hk => hE2 _ (by omega)
  clear again
  repeat (first | (refine sx ?_; try intro _))
  refine JO_call Try.call126 rfl rfl fun w hw => (Ins_c h1 u q N hc E a N hN haN (Nat.le_refl _) w hw).mono ?_
  rintro e w' ⟨rfl, E0, hw', g1, g2⟩
  refine ⟨_, rfl, _, hw', ?_⟩
  clear hw' hw w w'
  have hB : BK ω D E0 N 20 0 N := fun x hx _ hxN => by
    rcases Nat.lt_or_ge x a with h | h
    · rw [← hE1 x hx (Nat.zero_le _) h]
      have := dvd_step hx ha h
      exact sg_congr _ _ _ fun k hk => g1 _ (.inl (by omega))
    · obtain rfl : x = a := by
        rcases Nat.lt_or_ge a x with h' | h'
        · have := dvd_step ha hx h'; omega
        · omega
      rw [show min 20 (N - x) = N - x by omega, g2]
      congr 1
      exact sg_congr _ _ _ fun k hk => hE2 _ (by omega)
  clear g1 g2 hE1 hE2
  repeat (first | (apply gJR; first | (refine sx ?_; try intro _)) | (apply gJO; first | (refine sx ?_; try intro _)) | apply JS_seq | apply JS_region)
  refine JS_block ?_
  refine JS_loop2 (fun (E : Nat → α) (s : Nat) => [(0, u), (1, .int .i64 N), (2, .func (.func q) #[] #[]), (6, .int .i64 s)]) (fun E _ => vec 55 1 u N (vals enc E N) :: H)
    (fun E s => 1 ≤ s ∧ s ≤ 2 * N + 20 ∧ BK ω D E N s 0 N) (fun _ s => N - s) E0 20 ⟨by omega, by omega, hB⟩ (by repeat (first | exact trivial | refine ⟨rfl, ?_⟩ | refine ⟨lookI rfl (by omega), ?_⟩)) (fun w hw => hw) ?_
  clear hB hlt ha haN
  intro E1 s ⟨hs, hsb, hB⟩ again
  by_cases hlt : s < N
  · repeat (first | (apply gJR; first | (refine sx ?_; try intro _)) | (apply gJO; first | (refine sx ?_; try intro _)) | apply JS_seq | apply JS_region | (apply gJS; refine JS_condT rfl ?_) | apply JS_skip | (apply gJS; refine JS_cond_T rfl (by omega) ?_))
    refine JS_block ?_
    repeat (first | (apply gJR; first | (refine sx ?_; try intro _)) | (apply gJO; first | (refine sx ?_; try intro _)) | apply JS_seq | apply JS_region)
    refine JS_block ?_
    have d2 : ∀ {x}, 2 * s ∣ x → s ∣ x := fun h => Nat.dvd_trans ⟨2, by omega⟩ h
    refine JS_loop2 (fun (E : Nat → α) (a : Nat) => [(0, u), (1, .int .i64 N), (2, .func (.func q) #[] #[]), (6, .int .i64 s), (7, .int .i64 a), (8, .int .i64 (a + 2 * s : Nat))]) (fun E _ => vec 55 1 u N (vals enc E N) :: H)
      (fun E a => 2 * s ∣ a ∧ a ≤ N ∧ BK ω D E N (2 * s) 0 a ∧ BK ω D E N s a N) (fun _ a => N - a) E1 0 ⟨⟨0, rfl⟩, Nat.zero_le _, fun x _ _ hx => absurd hx (by omega), hB⟩ ⟨rfl, rfl, rfl, rfl, rfl, lookI rfl (by omega), trivial⟩ (fun w hw => hw) ?_
    intro E a ⟨ha, haN, hE1, hE2⟩ again2
    have e1 : IntKind.i64.wrap ((a : Int) + (s : Int)) = ((a + s : Nat) : Int) := (wi64 (by omega)).trans (by omega)
    by_cases hlt2 : a + 2 * s ≤ N
    · have b1 := hE2.one (x := a) (n := s) (d2 ha) (Nat.le_refl _) (by omega) (by omega)
      have b2 := hE2.one (x := a + s) (n := s) (Nat.dvd_add (d2 ha) ⟨1, by omega⟩) (by omega) (by omega) (by omega)
      repeat (first | (apply gJO; refine JO_v (V_add rfl rfl e1 rfl) ?_) | (first | (refine sx ?_; try intro _)))
      refine JO_call Try.call127 rfl rfl fun w hw => (SymM_c h1 u q N hc hN _ E a (a + s) (a + 2 * s) rfl (by omega) (by omega) hlt2 (by rw [show a + s - a = s by omega, b1]; exact isrt_srt ω _) (by rw [show a + 2 * s - (a + s) = s by omega, b2]; exact isrt_srt ω _) w hw).mono ?_
      rintro e w' ⟨rfl, E', hw', g1, g2⟩
      refine ⟨_, rfl, _, hw', ?_⟩
      clear hw' hw w w'
      rw [show a + 2 * s - a = s + s by omega, show a + s - a = s by omega, show a + 2 * s - (a + s) = s by omega] at g2
      have b3 := BK.two b1 b2 g2
      repeat (first | (refine sx ?_; try intro _))
      refine JS_again2 again2 E' (a + 2 * s) ⟨Nat.dvd_add ha ⟨1, by omega⟩, hlt2, fun x hx _ hxa => ?_, fun x hx hax hxN => ?_⟩ (by omega) ⟨rfl, rfl, rfl, rfl, lookI rfl (by omega), lookI rfl (by omega), trivial⟩ (fun w hw => hw)
      · rcases Nat.lt_or_ge x a with h | h
        · rw [← hE1 x hx (Nat.zero_le _) h]
          have := dvd_step hx ha h
          exact sg_congr _ _ _ fun k hk => g1 _ (.inl (by omega))
        · obtain rfl : x = a := by
            rcases Nat.lt_or_ge a x with h' | h'
            · have := dvd_step ha hx h'; omega
            · omega
          rw [show min (2 * s) (N - x) = s + s by omega]
          exact b3
      · rw [← hE2 x hx (by omega) hxN]
        exact sg_congr _ _ _ fun k hk => g1 _ (.inr (by omega))
    · clear again2
      have next : ∀ E' : Nat → α, (∀ k, k < a ∨ N ≤ k → E' k = E k) → (a < N → sg E' a (N - a) = isrt ω (sg D a (N - a))) → BK ω D E' N (s * 2) 0 N := fun E' g1 g2 x hx _ hxN => by
        rw [Nat.mul_comm s 2] at hx ⊢
        rcases Nat.lt_or_ge x a with h | h
        · rw [← hE1 x hx (Nat.zero_le _) h]
          have := dvd_step hx ha h
          exact sg_congr _ _ _ fun k hk => g1 _ (.inl (by omega))
        · obtain rfl : x = a := by
            rcases Nat.lt_or_ge a x with h' | h'
            · have := dvd_step ha hx h'; omega
            · omega
          rw [show min (2 * s) (N - x) = N - x by omega]
          exact g2 hxN
      by_cases hm : a + s < N
      · have b1 := hE2.one (x := a) (n := s) (d2 ha) (Nat.le_refl _) (by omega) (by omega)
        have b2 := hE2.one (x := a + s) (n := N - (a + s)) (Nat.dvd_add (d2 ha) ⟨1, by omega⟩) (by omega) (by omega) (by omega)
        repeat (first | (apply gJO; refine JO_v (V_add rfl rfl e1 rfl) ?_) | (first | (refine sx ?_; try intro _)))
        refine JO_call Try.call127 rfl rfl fun w hw => (SymM_c h1 u q N hc hN _ E a (a + s) N rfl (by omega) hm (Nat.le_refl _) (by rw [show a + s - a = s by omega, b1]; exact isrt_srt ω _) (by rw [b2]; exact isrt_srt ω _) w hw).mono ?_
        rintro e w' ⟨rfl, E', hw', g1, g2⟩
        refine ⟨_, rfl, _, hw', ?_⟩
        clear hw' hw w w'
        rw [show N - a = s + (N - (a + s)) by omega, show a + s - a = s by omega] at g2
        have b3 := BK.two b1 b2 g2
        rw [show s + (N - (a + s)) = N - a by omega] at b3
        have nx := next E' g1 fun _ => b3
        repeat (first | (refine sx ?_; try intro _))
        exact JS_again2 again E' (s * 2) ⟨by omega, by omega, nx⟩ (by omega) ⟨rfl, rfl, rfl, lookI rfl (by omega), trivial⟩ (fun w hw => hw)
      · have nx := next E (fun _ _ => rfl) fun haN' => hE2.one (x := a) (n := N - a) (d2 ha) (Nat.le_refl _) haN' (by omega)
        repeat (first | (apply gJO; refine JO_v (V_add rfl rfl e1 rfl) ?_) | (first | (refine sx ?_; try intro _)))
        exact JS_again2 again E (s * 2) ⟨by omega, by omega, nx⟩ (by omega) ⟨rfl, rfl, rfl, lookI rfl (by omega), trivial⟩ (fun w hw => hw)
  · clear again
    repeat (first | (refine sx ?_; try intro _))
    refine JS_fin Try.func87 rfl rfl ?_
    intro w hw
    refine ⟨rfl, E1, hw, ?_⟩
    rcases Nat.eq_zero_or_pos N with h | h
    · subst h; rfl
    · exact hB.one (x := 0) (n := N) ⟨0, rfl⟩ (Nat.zero_le _) h (by omega)
theorem SortS_c (h1 : ∀ x, Sx.one (enc x)) (p : Option Addr) (c q N : Nat) (hc : Cmp enc ω w0 H q (.slice p N c) N) (hN : N ≤ 1000000) (D : Nat → α) (w : World) (hw : St w0 (vec 55 1 (.slice p N c) N (vals enc D N) :: H) w) :
    Calls Try.prog 53 #[.slice p N c, .func (.func q) #[] #[]] w fun e w' => e = .returned (.tuple #[]) ∧ ∃ D', St w0 (vec 55 1 (.slice p N c) N (vals enc D' N) :: H) w' ∧ sg D' 0 N = isrt ω (sg D 0 N) := by
  refine enter (vs := [.slice p N c, .func (.func q) #[] #[]]) Try.func53 rfl rfl rfl hw ?_
  repeat (first | (refine sx ?_; try intro _))
  refine JO_call Try.call87 rfl rfl fun w hw => (Stable_c h1 _ q N hc hN D w hw).mono ?_
  rintro e w' ⟨rfl, E', hw', g⟩
  refine ⟨_, rfl, _, hw', ?_⟩
  clear hw' hw w w'
  repeat (first | (refine sx ?_; try intro _))
  refine JS_fin Try.func53 rfl rfl ?_
  intro w hw
  exact ⟨rfl, E', hw, g⟩
end
end Go.Proofs.Ytbiocgenbgbfpaa

set_option linter.unusedVariables false
set_option linter.unusedSimpArgs false
namespace Pm
/-! ## the best lengths within a bound: packs of two and two (plain laws) -/
inductive T where
  | leaf (w s : Nat)
  | node (a b : T)
def wt : T → Nat
  | .leaf w _ => w
  | .node a b => wt a + wt b
/-- how often a symbol stands in a pack -/
def cn (s : Nat) : T → Nat
  | .leaf _ s' => if s' = s then 1 else 0
  | .node a b => cn s a + cn s b
def sw (l : List T) : Nat := (l.map wt).sum
def sc (s : Nat) (l : List T) : Nat := (l.map (cn s)).sum
def prs : List T → List T
  | a :: b :: r => .node a b :: prs r
  | _ => []
theorem prs_len : ∀ l : List T, (prs l).length = l.length / 2
  | [] => rfl
  | [_] => by simp [prs]
  | a :: b :: r => by rw [prs, List.length_cons, prs_len r]; simp only [List.length_cons]; omega
/-- the first ones of two lists that are merged -/
def mg : Nat → List T → List T → List T
  | 0, _, _ => []
  | _ + 1, [], [] => []
  | f + 1, a :: A, [] => a :: mg f A []
  | f + 1, [], b :: B => b :: mg f [] B
  | f + 1, a :: A, b :: B => if wt a ≤ wt b then a :: mg f A (b :: B) else b :: mg f (a :: A) B
abbrev Srt (l : List T) : Prop := l.Pairwise fun x y => wt x ≤ wt y
theorem mg_take : ∀ (f c : Nat) (A B : List T), c ≤ f → (mg f A B).take c = mg c A B
  | f, 0, A, B, _ => by rw [List.take_zero]; cases A <;> cases B <;> rfl
  | 0, c + 1, _, _, h => absurd h (by omega)
  | f + 1, c + 1, [], [], _ => by simp [mg]
  | f + 1, c + 1, a :: A, [], h => by rw [mg, mg, List.take_succ_cons, mg_take f c A [] (by omega)]
  | f + 1, c + 1, [], b :: B, h => by rw [mg, mg, List.take_succ_cons, mg_take f c [] B (by omega)]
  | f + 1, c + 1, a :: A, b :: B, h => by
    rw [mg, mg]
    split
    · rw [List.take_succ_cons, mg_take f c A (b :: B) (by omega)]
    · rw [List.take_succ_cons, mg_take f c (a :: A) B (by omega)]
/-- what the first ones are: so many of each list; who is left out is more than who is in -/
theorem mg_split : ∀ (c : Nat) (A B : List T), Srt A → Srt B → c ≤ A.length + B.length →
    ∃ i j, i + j = c ∧ i ≤ A.length ∧ j ≤ B.length ∧ (mg c A B).Perm (A.take i ++ B.take j) ∧ (∀ a ∈ A.drop i, ∀ b ∈ B.take j, wt b < wt a) ∧ (∀ a ∈ A.take i, ∀ b ∈ B.drop j, wt a ≤ wt b)
  | 0, A, B, _, _, _ => ⟨0, 0, rfl, Nat.zero_le _, Nat.zero_le _, by rw [show mg 0 A B = [] by cases A <;> cases B <;> rfl]; simp, by simp, by simp⟩
  | c + 1, [], [], _, _, h => absurd h (by simp)
  | c + 1, a :: A, [], hA, hB, h => by
    obtain ⟨i, j, h1, h2, h3, h4, h5, h6⟩ := mg_split c A [] (List.Pairwise.of_cons hA) hB (by simp at h ⊢; omega)
    simp at h3
    subst h3
    refine ⟨i + 1, 0, by omega, by simp; omega, by simp, ?_, by simp, by simp⟩
    rw [mg]
    simpa using h4
  | c + 1, [], b :: B, hA, hB, h => by
    obtain ⟨i, j, h1, h2, h3, h4, h5, h6⟩ := mg_split c [] B hA (List.Pairwise.of_cons hB) (by simp at h ⊢; omega)
    simp at h2
    subst h2
    refine ⟨0, j + 1, by omega, by simp, by simp; omega, ?_, by simp, by simp⟩
    rw [mg]
    simpa using h4
  | c + 1, a :: A, b :: B, hA, hB, h => by
    rw [mg]
    split
    · rename_i hab
      obtain ⟨i, j, h1, h2, h3, h4, h5, h6⟩ := mg_split c A (b :: B) (List.Pairwise.of_cons hA) hB (by simp at h ⊢; omega)
      refine ⟨i + 1, j, by omega, by simp; omega, h3, ?_, ?_, ?_⟩
      · rw [List.take_succ_cons, List.cons_append]; exact h4.cons a
      · rw [List.drop_succ_cons]; exact h5
      · intro x hx y hy
        rw [List.take_succ_cons] at hx
        rcases List.mem_cons.1 hx with rfl | hx
        · have hy' : y ∈ b :: B := List.mem_of_mem_drop hy
          rcases List.mem_cons.1 hy' with rfl | hy'
          · exact hab
          · exact Nat.le_trans hab ((List.pairwise_cons.1 hB).1 y hy')
        · exact h6 x hx y hy
    · rename_i hab
      obtain ⟨i, j, h1, h2, h3, h4, h5, h6⟩ := mg_split c (a :: A) B hA (List.Pairwise.of_cons hB) (by simp at h ⊢; omega)
      refine ⟨i, j + 1, by omega, h2, by simp; omega, ?_, ?_, ?_⟩
      · rw [List.take_succ_cons]
        exact (h4.cons b).trans (List.perm_middle.symm)
      · intro x hx y hy
        rw [List.take_succ_cons] at hy
        rcases List.mem_cons.1 hy with rfl | hy
        · have hx' : x ∈ a :: A := List.mem_of_mem_drop hx
          rcases List.mem_cons.1 hx' with rfl | hx'
          · omega
          · have := (List.pairwise_cons.1 hA).1 x hx'; omega
        · exact h5 x hx y hy
      · rw [List.drop_succ_cons]; exact h6
theorem mg_all (A B : List T) (hA : Srt A) (hB : Srt B) : (mg (A.length + B.length) A B).Perm (A ++ B) := by
  obtain ⟨i, j, h1, h2, h3, h4, _⟩ := mg_split (A.length + B.length) A B hA hB (Nat.le_refl _)
  rw [List.take_of_length_le (by omega), List.take_of_length_le (by omega)] at h4
  exact h4
theorem mg_srt : ∀ (c : Nat) (A B : List T), Srt A → Srt B → Srt (mg c A B)
  | 0, A, B, _, _ => by rw [show mg 0 A B = [] by cases A <;> cases B <;> rfl]; exact List.Pairwise.nil
  | c + 1, [], [], _, _ => by rw [mg]; exact List.Pairwise.nil
  | c + 1, a :: A, [], hA, hB => by
    rw [mg]
    refine List.pairwise_cons.2 ⟨fun y hy => ?_, mg_srt c A [] (List.Pairwise.of_cons hA) hB⟩
    exact (List.pairwise_cons.1 hA).1 y (mg_mem c A [] y hy |>.elim id fun h => absurd h (by simp))
  | c + 1, [], b :: B, hA, hB => by
    rw [mg]
    refine List.pairwise_cons.2 ⟨fun y hy => ?_, mg_srt c [] B hA (List.Pairwise.of_cons hB)⟩
    exact (List.pairwise_cons.1 hB).1 y (mg_mem c [] B y hy |>.elim (fun h => absurd h (by simp)) id)
  | c + 1, a :: A, b :: B, hA, hB => by
    rw [mg]
    have a1 := (List.pairwise_cons.1 hA).1
    have b1 := (List.pairwise_cons.1 hB).1
    split
    · rename_i hab
      refine List.pairwise_cons.2 ⟨fun y hy => ?_, mg_srt c A (b :: B) (List.Pairwise.of_cons hA) hB⟩
      rcases mg_mem c A (b :: B) y hy with h | h
      · exact a1 y h
      · rcases List.mem_cons.1 h with rfl | h
        · exact hab
        · exact Nat.le_trans hab (b1 y h)
    · rename_i hab
      refine List.pairwise_cons.2 ⟨fun y hy => ?_, mg_srt c (a :: A) B hA (List.Pairwise.of_cons hB)⟩
      rcases mg_mem c (a :: A) B y hy with h | h
      · rcases List.mem_cons.1 h with rfl | h
        · omega
        · have := a1 y h; omega
      · exact b1 y h
where
  mg_mem : ∀ (c : Nat) (A B : List T) (y : T), y ∈ mg c A B → y ∈ A ∨ y ∈ B
    | 0, A, B, y, h => by rw [show mg 0 A B = [] by cases A <;> cases B <;> rfl] at h; simp at h
    | c + 1, [], [], y, h => by rw [mg] at h; simp at h
    | c + 1, a :: A, [], y, h => by
      rw [mg] at h
      rcases List.mem_cons.1 h with rfl | h
      · simp
      · exact (mg_mem c A [] y h).imp (List.mem_cons_of_mem _) id
    | c + 1, [], b :: B, y, h => by
      rw [mg] at h
      rcases List.mem_cons.1 h with rfl | h
      · simp
      · exact (mg_mem c [] B y h).imp id (List.mem_cons_of_mem _)
    | c + 1, a :: A, b :: B, y, h => by
      rw [mg] at h
      split at h
      · rcases List.mem_cons.1 h with rfl | h
        · simp
        · exact (mg_mem c A (b :: B) y h).imp (List.mem_cons_of_mem _) id
      · rcases List.mem_cons.1 h with rfl | h
        · simp
        · exact (mg_mem c (a :: A) B y h).imp id (List.mem_cons_of_mem _)
theorem prs_srt : ∀ {l : List T}, Srt l → Srt (prs l)
  | [], _ => List.Pairwise.nil
  | [_], _ => List.Pairwise.nil
  | a :: b :: r, h => by
    rw [prs]
    refine List.pairwise_cons.2 ⟨fun y hy => ?_, prs_srt (List.Pairwise.of_cons (List.Pairwise.of_cons h))⟩
    obtain ⟨x, z, hx, hz, rfl⟩ := prs_mem r y hy
    have h1 := (List.pairwise_cons.1 h).1
    have h2 := (List.pairwise_cons.1 (List.Pairwise.of_cons h)).1
    show wt a + wt b ≤ wt x + wt z
    have := h1 x (by simp [hx]); have := h2 z hz
    omega
where
  prs_mem : ∀ (l : List T) (y : T), y ∈ prs l → ∃ x z, x ∈ l ∧ z ∈ l ∧ y = .node x z
    | [], y, h => by simp [prs] at h
    | [_], y, h => by simp [prs] at h
    | a :: b :: r, y, h => by
      rw [prs] at h
      rcases List.mem_cons.1 h with rfl | h
      · exact ⟨a, b, by simp, by simp, rfl⟩
      · obtain ⟨x, z, hx, hz, e⟩ := prs_mem r y h
        exact ⟨x, z, by simp [hx], by simp [hz], e⟩
theorem sw_app (A B : List T) : sw (A ++ B) = sw A + sw B := by simp [sw]
theorem sc_app (s : Nat) (A B : List T) : sc s (A ++ B) = sc s A + sc s B := by simp [sc]
theorem sw_perm {A B : List T} (h : A.Perm B) : sw A = sw B := (h.map wt).sum_nat
theorem sc_perm {s : Nat} {A B : List T} (h : A.Perm B) : sc s A = sc s B := (h.map (cn s)).sum_nat
theorem prs_sw : ∀ (l : List T) (p : Nat), 2 * p ≤ l.length → sw ((prs l).take p) = sw (l.take (2 * p))
  | l, 0, _ => rfl
  | [], p + 1, h => absurd h (by simp)
  | [_], p + 1, h => absurd h (by simp; omega)
  | a :: b :: r, p + 1, h => by
    have ih := prs_sw r p (by simp at h; omega)
    rw [prs, List.take_succ_cons, show 2 * (p + 1) = 2 * p + 1 + 1 by omega, List.take_succ_cons, List.take_succ_cons]
    simp only [sw, List.map_cons, List.sum_cons] at ih ⊢
    rw [ih]; simp only [wt]; omega
theorem prs_sc (s : Nat) : ∀ (l : List T) (p : Nat), 2 * p ≤ l.length → sc s ((prs l).take p) = sc s (l.take (2 * p))
  | l, 0, _ => rfl
  | [], p + 1, h => absurd h (by simp)
  | [_], p + 1, h => absurd h (by simp; omega)
  | a :: b :: r, p + 1, h => by
    have ih := prs_sc s r p (by simp at h; omega)
    rw [prs, List.take_succ_cons, show 2 * (p + 1) = 2 * p + 1 + 1 by omega, List.take_succ_cons, List.take_succ_cons]
    simp only [sc, List.map_cons, List.sum_cons] at ih ⊢
    rw [ih]; simp only [cn]; omega
/-- the least ones of a sorted list weigh least -/
theorem min_sum : ∀ (l X Y : List T), Srt l → (X ++ Y).Perm l → sw (l.take X.length) ≤ sw X := by
  intro l
  induction l with
  | nil =>
    intro X Y _ h
    have := h.length_eq
    simp at this
    simp [this.1, sw]
  | cons a r ih =>
    intro X Y hl h
    have hr := List.Pairwise.of_cons hl
    have hmem : a ∈ X ++ Y := h.symm.mem_iff.1 (by simp)
    rcases List.mem_append.1 hmem with hX | hY
    · obtain ⟨X1, X2, rfl⟩ := List.append_of_mem hX
      have hp : ((X1 ++ X2) ++ Y).Perm r := by
        have : (a :: (X1 ++ X2 ++ Y)).Perm (a :: r) := by
          refine List.Perm.trans ?_ h
          simp only [List.append_assoc, List.cons_append]
          exact (List.perm_middle).symm
        exact (List.perm_cons a).1 this
      have h1 := ih (X1 ++ X2) Y hr hp
      have e : (X1 ++ a :: X2).length = (X1 ++ X2).length + 1 := by simp; omega
      rw [e, List.take_succ_cons]
      have e2 : sw (X1 ++ a :: X2) = wt a + sw (X1 ++ X2) := by simp [sw]; omega
      rw [e2]
      simp only [sw, List.map_cons, List.sum_cons] at h1 ⊢
      omega
    · obtain ⟨Y1, Y2, rfl⟩ := List.append_of_mem hY
      have hp : (X ++ (Y1 ++ Y2)).Perm r := by
        have : (a :: (X ++ (Y1 ++ Y2))).Perm (a :: r) := by
          refine List.Perm.trans ?_ h
          have e : X ++ (Y1 ++ a :: Y2) = (X ++ Y1) ++ a :: Y2 := by simp
          have e2 : X ++ (Y1 ++ Y2) = (X ++ Y1) ++ Y2 := by simp
          rw [e, e2]
          exact (List.perm_middle).symm
        exact (List.perm_cons a).1 this
      have h1 := ih X (Y1 ++ Y2) hr hp
      refine Nat.le_trans ?_ h1
      have hlen : X.length ≤ r.length := by have := hp.length_eq; simp at this; omega
      cases hm : X.length with
      | zero => simp
      | succ m =>
        rw [List.take_succ_cons, List.take_add_one, List.getElem?_eq_getElem (show m < r.length by omega), sw_app]
        have h2 := (List.pairwise_cons.1 hl).1 (r[m]'(by omega)) (List.getElem_mem _)
        simp only [sw, List.map_cons, List.sum_cons, Option.toList, List.map_nil, List.sum_nil] at h2 ⊢
        omega
end Pm

set_option linter.unusedVariables false
set_option linter.unusedSimpArgs false
namespace Pm
/-- the lists of packs, level by level -/
def lev (one : List T) : Nat → List T
  | 0 => one
  | k + 1 => mg (one.length + (prs (lev one k)).length) one (prs (lev one k))
def sm (f : Nat → Nat) : Nat → Nat
  | 0 => f 0
  | k + 1 => sm f k + f (k + 1)
theorem sm_congr {f g : Nat → Nat} : ∀ k, (∀ j, j ≤ k → f j = g j) → sm f k = sm g k
  | 0, h => h 0 (Nat.le_refl _)
  | k + 1, h => by rw [sm, sm, sm_congr k fun j hj => h j (by omega), h (k + 1) (Nat.le_refl _)]
theorem sm_add (f g : Nat → Nat) : ∀ k, sm (fun j => f j + g j) k = sm f k + sm g k
  | 0 => rfl
  | k + 1 => by rw [sm, sm, sm, sm_add f g k]; omega
theorem sm_zero : ∀ k, sm (fun _ => 0) k = 0
  | 0 => rfl
  | k + 1 => by rw [sm, sm_zero k]
/-- sums over the first ones -/
def rs : Nat → (Nat → Nat) → Nat
  | 0, _ => 0
  | n + 1, f => rs n f + f n
theorem rs_congr {f g : Nat → Nat} : ∀ n, (∀ r, r < n → f r = g r) → rs n f = rs n g
  | 0, _ => rfl
  | n + 1, h => by rw [rs, rs, rs_congr n fun r hr => h r (by omega), h n (by omega)]
theorem rs_add (f g : Nat → Nat) : ∀ n, rs n (fun r => f r + g r) = rs n f + rs n g
  | 0 => rfl
  | n + 1 => by rw [rs, rs, rs, rs_add f g n]; omega
theorem rs_const (c : Nat) : ∀ n, rs n (fun _ => c) = n * c
  | 0 => by simp [rs]
  | n + 1 => by rw [rs, rs_const c n, Nat.succ_mul]
theorem rs_ind (i c : Nat) : ∀ n, i ≤ n → rs n (fun r => if r < i then c else 0) = i * c := by
  intro n
  induction n with
  | zero =>
    intro h
    obtain rfl : i = 0 := by omega
    rw [rs, Nat.zero_mul]
  | succ n ih =>
    intro h
    rw [rs]
    by_cases hi : i ≤ n
    · rw [ih hi, if_neg (by omega), Nat.add_zero]
    · obtain rfl : i = n + 1 := by omega
      rw [if_pos (by omega), rs_congr n (g := fun _ => c) fun r hr => if_pos (by omega), rs_const, Nat.succ_mul]
section
variable {one : List T}
theorem lev_srt (h : Srt one) : ∀ k, Srt (lev one k)
  | 0 => h
  | k + 1 => mg_srt _ _ _ h (prs_srt (lev_srt h k))
theorem lev_perm (h : Srt one) (k : Nat) : (lev one (k + 1)).Perm (one ++ prs (lev one k)) := mg_all one _ h (prs_srt (lev_srt h k))
theorem lev_len (h : Srt one) (k : Nat) : (lev one (k + 1)).length = one.length + (lev one k).length / 2 := by
  rw [(lev_perm h k).length_eq, List.length_append, prs_len]
theorem lev_big (h : Srt one) : ∀ (k e : Nat), one.length ≤ e * 2 ^ k → 2 * one.length ≤ (lev one k).length + e
  | 0, e, he => by simp at he; show 2 * one.length ≤ one.length + e; omega
  | k + 1, e, he => by
    have ih := lev_big h k (2 * e) (by rw [Nat.pow_succ, Nat.mul_comm (2 ^ k) 2, ← Nat.mul_assoc, Nat.mul_comm e 2] at he; exact he)
    rw [lev_len h k]; omega
theorem coin (h : Srt one) : ∀ (k : Nat) (Q : Nat → List T) (m p : Nat → Nat), (∀ j, j ≤ k → ∃ R, (Q j ++ R).Perm one) → m 0 = (Q 0).length → (∀ j, j < k → m j = 2 * p j ∧ m (j + 1) = (Q (j + 1)).length + p j) →
    m k ≤ (lev one k).length ∧ sw ((lev one k).take (m k)) ≤ sm (fun j => sw (Q j)) k
  | 0, Q, m, p, hQ, h0, _ => by
    obtain ⟨R, hR⟩ := hQ 0 (Nat.le_refl _)
    refine ⟨?_, ?_⟩
    · have := hR.length_eq; simp at this; show m 0 ≤ one.length; omega
    · rw [h0]; exact min_sum one (Q 0) R h hR
  | k + 1, Q, m, p, hQ, h0, hm => by
    obtain ⟨ih1, ih2⟩ := coin h k Q m p (fun j hj => hQ j (by omega)) h0 (fun j hj => hm j (by omega))
    obtain ⟨e1, e2⟩ := hm k (by omega)
    obtain ⟨R, hR⟩ := hQ (k + 1) (Nat.le_refl _)
    have hpl : p k ≤ (prs (lev one k)).length := by rw [prs_len]; omega
    have hX : ((Q (k + 1) ++ (prs (lev one k)).take (p k)) ++ (R ++ (prs (lev one k)).drop (p k))).Perm (lev one (k + 1)) := by
      refine List.Perm.trans ?_ (lev_perm h k).symm
      have a1 : ((Q (k + 1) ++ (prs (lev one k)).take (p k)) ++ (R ++ (prs (lev one k)).drop (p k))).Perm ((Q (k + 1) ++ R) ++ ((prs (lev one k)).take (p k) ++ (prs (lev one k)).drop (p k))) := by
        simp only [List.append_assoc]
        refine List.Perm.append_left _ ?_
        rw [← List.append_assoc, ← List.append_assoc]
        exact List.Perm.append_right _ List.perm_append_comm
      rw [List.take_append_drop] at a1
      exact a1.trans (List.Perm.append_right _ hR)
    have hl : (Q (k + 1) ++ (prs (lev one k)).take (p k)).length = m (k + 1) := by
      rw [List.length_append, List.length_take, e2]; omega
    have h1 := min_sum _ _ _ (lev_srt h (k + 1)) hX
    rw [hl, sw_app, prs_sw _ _ (by omega), ← e1] at h1
    refine ⟨?_, by rw [sm]; omega⟩
    have := hX.length_eq
    rw [List.length_append, hl] at this
    omega
theorem prs_in : ∀ (l : List T) (j : Nat) (x : T), (∀ y ∈ l, 0 < wt y) → 2 * j ≤ l.length → x ∈ l.take (2 * j) → ∃ b ∈ (prs l).take j, wt x < wt b
  | l, 0, x, _, _, h => by simp at h
  | [], j + 1, x, _, hl, h => by simp at h
  | [_], j + 1, x, _, hl, h => absurd hl (by simp; omega)
  | a :: b :: r, j + 1, x, hp, hl, h => by
    rw [show 2 * (j + 1) = 2 * j + 1 + 1 by omega, List.take_succ_cons, List.take_succ_cons] at h
    have ha := hp a (by simp)
    have hb := hp b (by simp)
    rw [prs, List.take_succ_cons]
    rcases List.mem_cons.1 h with rfl | h
    · exact ⟨.node x b, by simp, by show wt x < wt x + wt b; omega⟩
    · rcases List.mem_cons.1 h with rfl | h
      · exact ⟨.node a x, by simp, by show wt x < wt a + wt x; omega⟩
      · obtain ⟨c, hc, hw⟩ := prs_in r j x (fun y hy => hp y (by simp [hy])) (by simp at hl; omega) h
        exact ⟨c, by simp [hc], hw⟩
theorem lev_pos (h : Srt one) (hp : ∀ y ∈ one, 0 < wt y) : ∀ k, ∀ y ∈ lev one k, 0 < wt y
  | 0 => hp
  | k + 1 => fun y hy => by
    rcases List.mem_append.1 ((lev_perm h k).mem_iff.1 hy) with hy | hy
    · exact hp y hy
    · obtain ⟨x, z, hx, hz, rfl⟩ := prs_srt.prs_mem _ _ hy
      have := lev_pos h hp k x hx
      show 0 < wt x + wt z
      omega
/-- how many leaves of each level are among the first packs -/
theorem sel (h : Srt one) (hp : ∀ y ∈ one, 0 < wt y) : ∀ (k c : Nat), c ≤ (lev one k).length → ∃ I : Nat → Nat, (∀ t, t ≤ k → I t ≤ one.length) ∧ (∀ t, t < k → I t ≤ I (t + 1)) ∧ sm (fun t => I t * 2 ^ t) k = c * 2 ^ k ∧
      (∀ s, sc s ((lev one k).take c) = sm (fun t => sc s (one.take (I t))) k) ∧ sw ((lev one k).take c) = sm (fun t => sw (one.take (I t))) k ∧ (∀ x ∈ one.take (I k), x ∈ (lev one k).take c)
  | 0, c, hc => ⟨fun _ => c, fun t _ => hc, fun t ht => absurd ht (by omega), rfl, fun s => rfl, rfl, fun x hx => hx⟩
  | k + 1, c, hc => by
    have hs := prs_srt (lev_srt h k)
    have hl : c ≤ one.length + (prs (lev one k)).length := by rw [lev_len h k] at hc; rw [prs_len]; exact hc
    obtain ⟨i, j, h1, h2, h3, h4, h5, h6⟩ := mg_split c one (prs (lev one k)) h hs hl
    have htk : (lev one (k + 1)).take c = mg c one (prs (lev one k)) := mg_take _ _ _ _ hl
    rw [prs_len] at h3
    obtain ⟨I, g1, g2, g3, g4, g5, g6⟩ := sel h hp k (2 * j) (by omega)
    have hik : I k ≤ i := by
      rcases Nat.lt_or_ge i (I k) with hlt | hge
      · exfalso
        have hil : i < one.length := Nat.lt_of_lt_of_le hlt (g1 k (Nat.le_refl _))
        have hm : one[i] ∈ one.take (I k) := by
          rw [List.mem_take_iff_getElem]
          exact ⟨i, by omega, rfl⟩
        have hd : one[i] ∈ one.drop i := by
          rw [List.mem_drop_iff_getElem]
          exact ⟨0, by omega, by simp⟩
        obtain ⟨b, hb, hw⟩ := prs_in (lev one k) j one[i] (lev_pos h hp k) (by omega) (g6 _ hm)
        have := h5 _ hd b hb
        omega
      · exact hge
    have hI : ∀ (f : Nat → Nat) , (fun t => f (if t = k + 1 then i else I t)) (k + 1) = f i := fun f => by simp
    refine ⟨fun t => if t = k + 1 then i else I t, ?_, ?_, ?_, ?_, ?_, ?_⟩
    · intro t ht
      by_cases e : t = k + 1
      · simp only [e, if_true]; exact h2
      · simp only [if_neg e]; exact g1 t (by omega)
    · intro t ht
      by_cases e : t = k
      · subst e; simp only [if_neg (show ¬ t = t + 1 by omega), if_true]; exact hik
      · simp only [if_neg (show ¬ t = k + 1 by omega), if_neg (show ¬ t + 1 = k + 1 by omega)]; exact g2 t (by omega)
    · rw [sm, sm_congr k (g := fun t => I t * 2 ^ t) fun t ht => by simp only [if_neg (show ¬ t = k + 1 by omega)], g3]
      simp only [if_true]
      rw [← h1, Nat.add_mul, Nat.pow_succ]
      have : 2 * j * 2 ^ k = j * (2 ^ k * 2) := by rw [Nat.mul_comm (2 ^ k) 2, ← Nat.mul_assoc, Nat.mul_comm j 2]
      omega
    · intro s
      have e := sm_congr (f := fun t => sc s (one.take (if t = k + 1 then i else I t))) (g := fun t => sc s (one.take (I t))) k fun t ht => by simp only [if_neg (show ¬ t = k + 1 by omega)]
      rw [htk, sc_perm h4, sc_app, prs_sc s _ _ (by omega), g4 s, sm, e]
      simp only [if_true]
      omega
    · have e := sm_congr (f := fun t => sw (one.take (if t = k + 1 then i else I t))) (g := fun t => sw (one.take (I t))) k fun t ht => by simp only [if_neg (show ¬ t = k + 1 by omega)]
      rw [htk, sw_perm h4, sw_app, prs_sw _ _ (by omega), g5, sm, e]
      simp only [if_true]
      omega
    · intro x hx
      simp only [if_true] at hx
      rw [htk]
      exact h4.symm.mem_iff.1 (List.mem_append_left _ hx)
end
end Pm

set_option linter.unusedVariables false
set_option linter.unusedSimpArgs false
namespace Pm
/-! what the numbers of leaves say of the lengths -/
/-- a symbol's length: in how many levels it stands -/
def ln (I : Nat → Nat) (k r : Nat) : Nat := sm (fun t => if r < I t then 1 else 0) k
theorem ln_le (I : Nat → Nat) : ∀ k r, ln I k r ≤ k + 1
  | 0, r => by show (if r < I 0 then 1 else 0) ≤ 1; split <;> omega
  | k + 1, r => by
    have := ln_le I k r
    show ln I k r + (if r < I (k + 1) then 1 else 0) ≤ k + 1 + 1
    split <;> omega
theorem ln_pow (I : Nat → Nat) (r : Nat) : ∀ k, (∀ t, t < k → I t ≤ I (t + 1)) → (r < I k → True) ∧ (¬ r < I k → ln I k r = 0) ∧ sm (fun t => if r < I t then 2 ^ t else 0) k + 2 ^ (k + 1 - ln I k r) = 2 ^ (k + 1)
  | 0, _ => by
    refine ⟨fun _ => trivial, fun h => ?_, ?_⟩
    · show (if r < I 0 then 1 else 0) = 0; rw [if_neg h]
    · show (if r < I 0 then 2 ^ 0 else 0) + 2 ^ (0 + 1 - (if r < I 0 then 1 else 0)) = 2 ^ (0 + 1)
      split <;> decide
  | k + 1, hI => by
    obtain ⟨_, h1, h2⟩ := ln_pow I r k fun t ht => hI t (by omega)
    have hm := hI k (by omega)
    have hle := ln_le I k r
    have e : ln I (k + 1) r = ln I k r + (if r < I (k + 1) then 1 else 0) := rfl
    refine ⟨fun _ => trivial, fun h => ?_, ?_⟩
    · rw [e, if_neg h, h1 (by omega)]
    · rw [sm, e]
      by_cases h : r < I (k + 1)
      · rw [if_pos h, if_pos h, show k + 1 + 1 - (ln I k r + 1) = k + 1 - ln I k r by omega, Nat.pow_succ 2 (k + 1)]
        omega
      · rw [if_neg h, if_neg h]
        have hz := h1 (by omega)
        rw [hz] at h2 ⊢
        have : sm (fun t => if r < I t then 2 ^ t else 0) k = 0 := by
          rw [Nat.sub_zero] at h2; omega
        rw [this]
        simp
theorem rs_sm (n : Nat) (f : Nat → Nat → Nat) : ∀ k, rs n (fun r => sm (fun t => f r t) k) = sm (fun t => rs n (fun r => f r t)) k
  | 0 => rfl
  | k + 1 => by
    rw [sm, ← rs_sm n f k, ← rs_add]; rfl
/-- the lengths are just full -/
theorem kraft {I : Nat → Nat} {n k c : Nat} (hn : ∀ t, t ≤ k → I t ≤ n) (hI : ∀ t, t < k → I t ≤ I (t + 1)) (hw : sm (fun t => I t * 2 ^ t) k = c * 2 ^ k) : c * 2 ^ k + rs n (fun r => 2 ^ (k + 1 - ln I k r)) = n * 2 ^ (k + 1) := by
  have h1 : rs n (fun r => sm (fun t => if r < I t then 2 ^ t else 0) k + 2 ^ (k + 1 - ln I k r)) = n * 2 ^ (k + 1) := by
    rw [rs_congr n (g := fun _ => 2 ^ (k + 1)) fun r _ => (ln_pow I r k hI).2.2, rs_const]
  rw [rs_add, rs_sm, sm_congr k (g := fun t => I t * 2 ^ t) fun t ht => rs_ind (I t) (2 ^ t) n (hn t ht), hw] at h1
  exact h1
theorem rs_ge (f : Nat → Nat) : ∀ n r, r < n → f r ≤ rs n f
  | 0, r, h => absurd h (by omega)
  | n + 1, r, h => by
    rw [rs]
    rcases Nat.lt_or_ge r n with h' | h'
    · have := rs_ge f n r h'; omega
    · obtain rfl : r = n := by omega
      omega
theorem rs_two (f : Nat → Nat) (h1 : ∀ r, 0 < f r) : ∀ n r, r < n → 2 ≤ n → f r < rs n f
  | 0, r, h, _ => absurd h (by omega)
  | 1, r, _, h => absurd h (by omega)
  | n + 2, r, h, _ => by
    rw [rs]
    rcases Nat.lt_or_ge r (n + 1) with h' | h'
    · have := rs_ge f (n + 1) r h'; have := h1 (n + 1); omega
    · obtain rfl : r = n + 1 := by omega
      have := rs_ge f (n + 1) 0 (by omega)
      have := h1 0
      omega
/-- each symbol has a length -/
theorem ln_pos {I : Nat → Nat} {n k : Nat} (h2 : 2 ≤ n) (hn : ∀ t, t ≤ k → I t ≤ n) (hI : ∀ t, t < k → I t ≤ I (t + 1)) (hw : sm (fun t => I t * 2 ^ t) k = (2 * n - 2) * 2 ^ k) : (∀ r, r < n → 1 ≤ ln I k r) ∧ rs n (fun r => 2 ^ (k + 1 - ln I k r)) = 2 ^ (k + 1) := by
  have hk := kraft hn hI hw
  have hsum : rs n (fun r => 2 ^ (k + 1 - ln I k r)) = 2 ^ (k + 1) := by
    have e1 : n * 2 ^ (k + 1) = (2 * n) * 2 ^ k := by rw [Nat.pow_succ, Nat.mul_comm (2 ^ k) 2, ← Nat.mul_assoc, Nat.mul_comm n 2]
    have e2 : (2 * n) * 2 ^ k = (2 * n - 2) * 2 ^ k + 2 * 2 ^ k := by rw [← Nat.add_mul]; congr 1; omega
    have e3 : 2 ^ (k + 1) = 2 * 2 ^ k := by rw [Nat.pow_succ, Nat.mul_comm]
    omega
  refine ⟨fun r hr => ?_, hsum⟩
  rcases Nat.eq_zero_or_pos (ln I k r) with h | h
  · have : 2 ^ (k + 1 - ln I k r) < rs n (fun r => 2 ^ (k + 1 - ln I k r)) := rs_two (fun r => 2 ^ (k + 1 - ln I k r)) (fun r => Nat.pow_pos (by omega)) n r hr h2
    rw [hsum, h, Nat.sub_zero] at this
    omega
  · exact h
end Pm

set_option linter.unusedVariables false
set_option linter.unusedSimpArgs false
namespace Pm
/-! other lengths cost no less -/
section
variable (L : Nat) (o : T → Nat)
/-- the leaves whose other length reaches down to a level -/
def Qj (one : List T) (j : Nat) : List T := one.filter fun x => decide (L - j ≤ o x)
def qn (one : List T) (j : Nat) : Nat := (Qj L o one j).length
def Kj (one : List T) (j : Nat) : Nat := ((Qj L o one j).map fun x => 2 ^ (L - o x)).sum
def al (one : List T) : Nat := (one.map fun x => 2 ^ (L - o x)).sum
/-- how many are just at a level -/
def at_ (one : List T) (j : Nat) : Nat := (one.filter fun x => decide (o x = L - j)).length
theorem Qj_cons (a : T) (r : List T) (j : Nat) : Qj L o (a :: r) j = if L - j ≤ o a then a :: Qj L o r j else Qj L o r j := by
  unfold Qj
  by_cases h : L - j ≤ o a
  · rw [List.filter_cons_of_pos (by simpa using h), if_pos h]
  · rw [List.filter_cons_of_neg (by simpa using h), if_neg h]
theorem at_cons (a : T) (r : List T) (j : Nat) : at_ L o (a :: r) j = at_ L o r j + if o a = L - j then 1 else 0 := by
  unfold at_
  by_cases h : o a = L - j
  · rw [List.filter_cons_of_pos (by simpa using h), if_pos h]; rfl
  · rw [List.filter_cons_of_neg (by simpa using h), if_neg h]; rfl
theorem q_step (j : Nat) (hj : j + 1 ≤ L) : ∀ one : List T, qn L o one (j + 1) = qn L o one j + at_ L o one (j + 1) ∧ Kj L o one (j + 1) = Kj L o one j + at_ L o one (j + 1) * 2 ^ (j + 1)
  | [] => ⟨rfl, by simp [Kj, Qj, at_]⟩
  | a :: r => by
    obtain ⟨h1, h2⟩ := q_step j hj r
    unfold qn Kj at *
    rw [Qj_cons, Qj_cons, at_cons]
    by_cases ha : L - j ≤ o a
    · rw [if_pos (show L - (j + 1) ≤ o a by omega), if_pos ha, if_neg (show ¬ o a = L - (j + 1) by omega)]
      simp only [List.length_cons, List.map_cons, List.sum_cons, Nat.add_zero]
      omega
    · rw [if_neg ha]
      by_cases hb : o a = L - (j + 1)
      · rw [if_pos (show L - (j + 1) ≤ o a by omega), if_pos hb]
        simp only [List.length_cons, List.map_cons, List.sum_cons, Nat.add_mul, Nat.one_mul]
        rw [show L - o a = j + 1 by omega]
        omega
      · rw [if_neg (show ¬ L - (j + 1) ≤ o a by omega), if_neg hb, Nat.add_zero]
        exact ⟨h1, h2⟩
theorem q_zero : ∀ one : List T, (∀ x ∈ one, o x ≤ L) → Kj L o one 0 = qn L o one 0
  | [], _ => rfl
  | a :: r, h => by
    have ih := q_zero r fun x hx => h x (by simp [hx])
    have ha := h a (by simp)
    unfold qn Kj at *
    rw [Qj_cons]
    split
    · rename_i hc
      simp only [List.length_cons, List.map_cons, List.sum_cons, ih]
      rw [show L - o a = 0 by omega]; omega
    · exact ih
theorem q_last : ∀ one : List T, (∀ x ∈ one, 1 ≤ o x) → qn L o one (L - 1) = one.length ∧ Kj L o one (L - 1) = al L o one
  | [], _ => ⟨rfl, rfl⟩
  | a :: r, h => by
    obtain ⟨i1, i2⟩ := q_last r fun x hx => h x (by simp [hx])
    have ha := h a (by simp)
    unfold qn Kj al at *
    rw [Qj_cons, if_pos (by omega)]
    simp only [List.length_cons, List.map_cons, List.sum_cons]
    omega
/-- the rest are multiples of a greater part -/
theorem rest_div (j : Nat) : ∀ one : List T, ∃ e, al L o one = Kj L o one j + e * 2 ^ (j + 1)
  | [] => ⟨0, by simp [al, Kj, Qj]⟩
  | a :: r => by
    obtain ⟨e, he⟩ := rest_div j r
    unfold al Kj at *
    rw [Qj_cons]
    split
    · exact ⟨e, by simp only [List.map_cons, List.sum_cons]; omega⟩
    · rename_i hc
      obtain ⟨d, hd⟩ : ∃ d, L - o a = j + 1 + d := ⟨L - o a - (j + 1), by omega⟩
      refine ⟨e + 2 ^ d, ?_⟩
      simp only [List.map_cons, List.sum_cons]
      rw [hd, Nat.pow_add, Nat.add_mul, Nat.mul_comm (2 ^ (j + 1)) (2 ^ d)]
      omega
theorem K_le (j : Nat) : ∀ one : List T, Kj L o one j ≤ qn L o one j * 2 ^ j
  | [] => by simp [Kj, Qj]
  | a :: r => by
    have ih := K_le j r
    unfold qn Kj at *
    rw [Qj_cons]
    split
    · rename_i hc
      simp only [List.length_cons, List.map_cons, List.sum_cons, Nat.add_mul, Nat.one_mul]
      have : 2 ^ (L - o a) ≤ 2 ^ j := Nat.pow_le_pow_right (by omega) (by omega)
      omega
    · exact ih
theorem cost_eq (hL : 1 ≤ L) : ∀ one : List T, (∀ x ∈ one, 1 ≤ o x ∧ o x ≤ L) → sm (fun j => sw (Qj L o one j)) (L - 1) = (one.map fun x => wt x * o x).sum
  | [], _ => by
    have e := sm_congr (f := fun j => sw (Qj L o [] j)) (g := fun _ => 0) (L - 1) fun j _ => rfl
    rw [e, sm_zero]; rfl
  | a :: r, h => by
    have ih := cost_eq hL r fun x hx => h x (by simp [hx])
    obtain ⟨a1, a2⟩ := h a (by simp)
    have hs : ∀ k, sm (fun j => if L - j ≤ o a then wt a else 0) k = wt a * (k + 1 - (L - o a)) := by
      intro k
      induction k with
      | zero =>
        show (if L - 0 ≤ o a then wt a else 0) = _
        split
        · rw [show 0 + 1 - (L - o a) = 1 by omega, Nat.mul_one]
        · rw [show 0 + 1 - (L - o a) = 0 by omega, Nat.mul_zero]
      | succ k ih =>
        rw [sm, ih]
        split
        · rw [show k + 1 + 1 - (L - o a) = (k + 1 - (L - o a)) + 1 by omega, Nat.mul_add, Nat.mul_one]
        · rw [show k + 1 + 1 - (L - o a) = k + 1 - (L - o a) by omega, Nat.add_zero]
    have e : sm (fun j => sw (Qj L o (a :: r) j)) (L - 1) = sm (fun j => (if L - j ≤ o a then wt a else 0) + sw (Qj L o r j)) (L - 1) := sm_congr _ fun j _ => by
      rw [Qj_cons]
      split
      · simp [sw]
      · rw [Nat.zero_add]
    rw [e, sm_add, ih, hs]
    simp only [List.map_cons, List.sum_cons]
    rw [show L - 1 + 1 - (L - o a) = o a by omega]
end
/-- no other lengths that are just full cost less -/
theorem best {one : List T} (h : Srt one) (L : Nat) (hL : 1 ≤ L) (o : T → Nat) (ho : ∀ x ∈ one, 1 ≤ o x ∧ o x ≤ L) (hf : al L o one = 2 ^ L) : 2 * one.length - 2 ≤ (lev one (L - 1)).length ∧ sw ((lev one (L - 1)).take (2 * one.length - 2)) ≤ (one.map fun x => wt x * o x).sum := by
  have hdiv : ∀ j, j + 1 ≤ L → ∃ e, Kj L o one j = e * 2 ^ (j + 1) := fun j hj => by
    obtain ⟨e, he⟩ := rest_div L o j one
    obtain ⟨d, hd⟩ : ∃ d, L = j + 1 + d := ⟨L - (j + 1), by omega⟩
    have h2 : 2 ^ L = 2 ^ d * 2 ^ (j + 1) := by rw [hd, Nat.pow_add, Nat.mul_comm]
    rw [hf, h2] at he
    refine ⟨2 ^ d - e, ?_⟩
    rw [Nat.sub_mul]; omega
  have hm : ∀ j, j < L - 1 → (fun j => 2 * qn L o one j - Kj L o one j / 2 ^ j) j = 2 * (fun j => qn L o one j - Kj L o one j / 2 ^ (j + 1)) j ∧ (fun j => 2 * qn L o one j - Kj L o one j / 2 ^ j) (j + 1) = (Qj L o one (j + 1)).length + (fun j => qn L o one j - Kj L o one j / 2 ^ (j + 1)) j := by
    intro j hj
    obtain ⟨e, he⟩ := hdiv j (by omega)
    obtain ⟨s1, s2⟩ := q_step L o j (by omega) one
    have hle := K_le L o j one
    have hp : 0 < 2 ^ j := Nat.pow_pos (by omega)
    have hp1 : 0 < 2 ^ (j + 1) := Nat.pow_pos (by omega)
    have e1 : Kj L o one j / 2 ^ j = 2 * e := by
      rw [he, Nat.pow_succ, Nat.mul_comm (2 ^ j) 2, ← Nat.mul_assoc, Nat.mul_div_cancel _ hp, Nat.mul_comm]
    have e2 : Kj L o one j / 2 ^ (j + 1) = e := by rw [he, Nat.mul_div_cancel _ hp1]
    have e3 : Kj L o one (j + 1) / 2 ^ (j + 1) = e + at_ L o one (j + 1) := by rw [s2, he, ← Nat.add_mul, Nat.mul_div_cancel _ hp1]
    have hle2 : 2 * e ≤ qn L o one j := by
      rw [he, Nat.pow_succ, Nat.mul_comm (2 ^ j) 2, ← Nat.mul_assoc] at hle
      have := Nat.le_of_mul_le_mul_right hle hp
      omega
    show 2 * qn L o one j - Kj L o one j / 2 ^ j = 2 * (qn L o one j - Kj L o one j / 2 ^ (j + 1)) ∧ 2 * qn L o one (j + 1) - Kj L o one (j + 1) / 2 ^ (j + 1) = (Qj L o one (j + 1)).length + (qn L o one j - Kj L o one j / 2 ^ (j + 1))
    rw [e1, e2, e3]
    have : (Qj L o one (j + 1)).length = qn L o one (j + 1) := rfl
    rw [this, s1]
    omega
  have hc := coin h (L - 1) (fun j => Qj L o one j) (fun j => 2 * qn L o one j - Kj L o one j / 2 ^ j) (fun j => qn L o one j - Kj L o one j / 2 ^ (j + 1))
    (fun j _ => ⟨one.filter fun x => !decide (L - j ≤ o x), List.filter_append_perm _ _⟩)
    (by show 2 * qn L o one 0 - Kj L o one 0 / 2 ^ 0 = qn L o one 0; rw [q_zero L o one fun x hx => (ho x hx).2, Nat.pow_zero, Nat.div_one]; omega) hm
  obtain ⟨l1, l2⟩ := q_last L o one fun x hx => (ho x hx).1
  have e4 : 2 ^ L / 2 ^ (L - 1) = 2 := by
    rw [show (2 : Nat) ^ L = 2 * 2 ^ (L - 1) by rw [← Nat.pow_succ', show (L - 1).succ = L by omega], Nat.mul_div_cancel _ (Nat.pow_pos (by omega))]
  rw [l1, l2, hf, e4, cost_eq L o hL one ho] at hc
  exact hc
end Pm

set_option linter.unusedVariables false
set_option linter.unusedSimpArgs false
namespace Pm
/-! the lengths of symbols (plain laws) -/
theorem mg_mrg : ∀ (f : Nat) (A B : List T), A.length + B.length ≤ f → mg f A B = mrg wt A B
  | 0, [], [], _ => rfl
  | 0, a :: A, _, h => absurd h (by simp)
  | 0, [], b :: B, h => absurd h (by simp)
  | f + 1, [], [], _ => rfl
  | f + 1, a :: A, [], h => by rw [mg, mg_mrg f A [] (by simp at h ⊢; omega), mrg_nilR, mrg_nilR]
  | f + 1, [], b :: B, h => by rw [mg, mg_mrg f [] B (by simp at h ⊢; omega)]; rfl
  | f + 1, a :: A, b :: B, h => by
    rw [mg, mrg_cons, mg_mrg f A (b :: B) (by simp at h ⊢; omega), mg_mrg f (a :: A) B (by simp at h ⊢; omega)]
/-- the leaves of the symbols that come -/
def lvf : Nat → List Nat → List T
  | _, [] => []
  | i, w :: r => if 0 < w then .leaf w i :: lvf (i + 1) r else lvf (i + 1) r
def sy : T → Nat
  | .leaf _ s => s
  | .node _ _ => 0
def isLf : T → Prop
  | .leaf _ _ => True
  | .node _ _ => False
theorem lvf_app : ∀ (A B : List Nat) (i : Nat), lvf i (A ++ B) = lvf i A ++ lvf (i + A.length) B
  | [], B, i => by simp [lvf]
  | a :: A, B, i => by
    rw [List.cons_append, lvf, lvf, lvf_app A B (i + 1), List.length_cons, show i + 1 + A.length = i + (A.length + 1) by omega]
    split <;> rfl
theorem lvf_mem : ∀ {W : List Nat} {i : Nat} {x : T}, x ∈ lvf i W → ∃ k, k < W.length ∧ x = .leaf (W.getD k 0) (i + k) ∧ 0 < W.getD k 0
  | [], i, x, h => by simp [lvf] at h
  | w :: r, i, x, h => by
    rw [lvf] at h
    split at h
    · rename_i hw
      rcases List.mem_cons.1 h with rfl | h
      · exact ⟨0, by simp, by simp, by simpa using hw⟩
      · obtain ⟨k, h1, h2, h3⟩ := lvf_mem h
        exact ⟨k + 1, by simp; omega, by rw [h2, show i + 1 + k = i + (k + 1) by omega]; simp, by simpa using h3⟩
    · obtain ⟨k, h1, h2, h3⟩ := lvf_mem h
      exact ⟨k + 1, by simp; omega, by rw [h2, show i + 1 + k = i + (k + 1) by omega]; simp, by simpa using h3⟩
theorem lvf_in : ∀ {W : List Nat} {i k : Nat}, k < W.length → 0 < W.getD k 0 → T.leaf (W.getD k 0) (i + k) ∈ lvf i W
  | [], i, k, h, _ => absurd h (by simp)
  | w :: r, i, 0, h, h0 => by
    rw [lvf, if_pos (by simpa using h0)]; simp
  | w :: r, i, k + 1, h, h0 => by
    have := lvf_in (W := r) (i := i + 1) (k := k) (by simpa using h) (by simpa using h0)
    rw [show i + 1 + k = i + (k + 1) by omega] at this
    rw [lvf]
    have e : (w :: r).getD (k + 1) 0 = r.getD k 0 := by simp
    rw [e]
    split
    · exact List.mem_cons_of_mem _ this
    · exact this
theorem lvf_inc : ∀ (W : List Nat) (i : Nat), ((lvf i W).map sy).Pairwise (· < ·)
  | [], i => List.Pairwise.nil
  | w :: r, i => by
    rw [lvf]
    split
    · rw [List.map_cons]
      refine List.pairwise_cons.2 ⟨fun y hy => ?_, lvf_inc r (i + 1)⟩
      obtain ⟨x, hx, rfl⟩ := List.mem_map.1 hy
      obtain ⟨k, _, rfl, _⟩ := lvf_mem hx
      show i < i + 1 + k
      omega
    · exact lvf_inc r (i + 1)
theorem lvf_len_le : ∀ (W : List Nat) (i : Nat), (lvf i W).length ≤ W.length
  | [], i => by simp [lvf]
  | w :: r, i => by
    have := lvf_len_le r (i + 1)
    rw [lvf]
    split <;> simp <;> omega
/-- the symbols that come, the rarest ones first -/
def oneW (W : List Nat) : List T := isrt wt (lvf 0 W)
theorem oneW_perm (W : List Nat) : (oneW W).Perm (lvf 0 W) := isrt_perm wt _
theorem oneW_srt (W : List Nat) : Srt (oneW W) := isrt_srt wt _
theorem oneW_len (W : List Nat) : (oneW W).length = (lvf 0 W).length := isrt_len wt _
theorem oneW_nodup (W : List Nat) : ((oneW W).map sy).Nodup := by
  refine ((oneW_perm W).map sy).nodup_iff.2 ?_
  exact (lvf_inc W 0).imp (fun h => by omega)
theorem oneW_mem {W : List Nat} {x : T} (h : x ∈ oneW W) : ∃ k, k < W.length ∧ x = .leaf (W.getD k 0) k ∧ 0 < W.getD k 0 := by
  obtain ⟨k, h1, h2, h3⟩ := lvf_mem ((oneW_perm W).mem_iff.1 h)
  exact ⟨k, h1, by rw [h2, Nat.zero_add], h3⟩
theorem oneW_in {W : List Nat} {k : Nat} (h : k < W.length) (h0 : 0 < W.getD k 0) : T.leaf (W.getD k 0) k ∈ oneW W := by
  have := lvf_in (i := 0) h h0
  rw [Nat.zero_add] at this
  exact (oneW_perm W).mem_iff.2 this
theorem oneW_pos (W : List Nat) : ∀ y ∈ oneW W, 0 < wt y := fun y hy => by
  obtain ⟨k, _, rfl, h⟩ := oneW_mem hy
  exact h
/-- the length of a symbol -/
def LL (W : List Nat) (L s : Nat) : Nat :=
  match (oneW W).length with
  | 0 => 0
  | 1 => sc s (oneW W)
  | _ => sc s ((lev (oneW W) (L - 1)).take (2 * (oneW W).length - 2))
theorem LL_two {W : List Nat} {L : Nat} (s : Nat) (h : 2 ≤ (oneW W).length) : LL W L s = sc s ((lev (oneW W) (L - 1)).take (2 * (oneW W).length - 2)) := by
  unfold LL
  split <;> first | omega | rfl
theorem sc_none {s : Nat} : ∀ {l : List T}, (∀ x ∈ l, isLf x ∧ sy x ≠ s) → sc s l = 0
  | [], _ => rfl
  | .leaf w t :: r, h => by
    have h1 : ¬ t = s := (h (.leaf w t) (by simp)).2
    have h2 := sc_none (l := r) fun x hx => h x (by simp [hx])
    simp only [sc, List.map_cons, List.sum_cons, cn] at h2 ⊢
    rw [h2, if_neg h1]
  | .node a b :: r, h => (h (.node a b) (by simp)).1.elim
theorem sc_rank : ∀ {l : List T} {r : Nat} (i : Nat) (hr : r < l.length), (∀ x ∈ l, isLf x) → (l.map sy).Nodup → sc (sy l[r]) (l.take i) = if r < i then 1 else 0
  | [], r, i, hr, _, _ => absurd hr (by simp)
  | .node a b :: l, r, i, hr, h, _ => (h (.node a b) (by simp)).elim
  | .leaf w t :: l, r, 0, hr, h, hd => by simp [sc]
  | .leaf w t :: l, 0, i + 1, hr, h, hd => by
    rw [List.map_cons, List.nodup_cons] at hd
    have h2 : sc t (l.take i) = 0 := sc_none fun x hx => ⟨h x (by simp [List.mem_of_mem_take hx]), fun e => hd.1 (List.mem_map.2 ⟨x, List.mem_of_mem_take hx, e⟩)⟩
    rw [List.take_succ_cons, if_pos (by omega)]
    show sc t (_ :: _) = 1
    simp only [sc, List.map_cons, List.sum_cons, cn, if_true] at h2 ⊢
    omega
  | .leaf w t :: l, r + 1, i + 1, hr, h, hd => by
    rw [List.map_cons, List.nodup_cons] at hd
    have hr' : r < l.length := by simpa using hr
    have ih := sc_rank i hr' (fun x hx => h x (by simp [hx])) hd.2
    rw [List.take_succ_cons]
    show sc (sy l[r]) (_ :: _) = _
    have hne : ¬ t = sy l[r] := fun e => hd.1 (List.mem_map.2 ⟨l[r], List.getElem_mem _, e.symm⟩)
    simp only [sc, List.map_cons, List.sum_cons, cn] at ih ⊢
    rw [ih, if_neg hne, Nat.zero_add]
    by_cases hri : r < i
    · rw [if_pos hri, if_pos (by omega)]
    · rw [if_neg hri, if_neg (by omega)]
theorem rs_list (g : T → Nat) : ∀ l : List T, (l.map g).sum = rs l.length fun r => g (l.getD r (.leaf 0 0)) := by
  intro l
  refine snoc_ind (p := fun l => (l.map g).sum = rs l.length fun r => g (l.getD r (.leaf 0 0))) rfl ?_ l
  intro l x ih
  rw [List.length_append, List.length_singleton, rs, List.map_append, List.sum_append, ih]
  congr 1
  · exact rs_congr _ fun r hr => by
      congr 1
      rw [List.getD_eq_getElem?_getD, List.getD_eq_getElem?_getD, List.getElem?_append_left hr]
  · simp
theorem rs_sw (l : List T) (i : Nat) (hi : i ≤ l.length) : rs l.length (fun r => if r < i then wt (l.getD r (.leaf 0 0)) else 0) = sw (l.take i) := by
  have key : ∀ n, n ≤ l.length → rs n (fun r => if r < i then wt (l.getD r (.leaf 0 0)) else 0) = sw ((l.take i).take n) := by
    intro n
    induction n with
    | zero => intro _; rfl
    | succ n ih =>
      intro hn
      rw [rs, ih (by omega)]
      have hx : l.getD n (.leaf 0 0) = l[n] := by rw [List.getD_eq_getElem?_getD, List.getElem?_eq_getElem (by omega)]; rfl
      rw [List.take_take, List.take_take]
      by_cases h : n < i
      · rw [if_pos h, hx, show min n i = n by omega, show min (n + 1) i = n + 1 by omega, List.take_add_one, List.getElem?_eq_getElem (show n < l.length by omega), sw_app]
        simp [sw]
      · rw [if_neg h, show min n i = i by omega, show min (n + 1) i = i by omega, Nat.add_zero]
  rw [key _ (Nat.le_refl _), List.take_of_length_le (by rw [List.length_take]; omega)]
theorem sm_mul (c : Nat) (f : Nat → Nat) : ∀ k, c * sm f k = sm (fun t => c * f t) k
  | 0 => rfl
  | k + 1 => by rw [sm, sm, Nat.mul_add, sm_mul c f k]
theorem ln_anti (I : Nat → Nat) {r q : Nat} (h : q ≤ r) : ∀ k, ln I k r ≤ ln I k q
  | 0 => by
    show (if r < I 0 then 1 else 0) ≤ (if q < I 0 then 1 else 0)
    split
    · rw [if_pos (by omega)]; exact Nat.le_refl _
    · exact Nat.zero_le _
  | k + 1 => by
    have ih := ln_anti I h k
    show ln I k r + (if r < I (k + 1) then 1 else 0) ≤ ln I k q + (if q < I (k + 1) then 1 else 0)
    split
    · rw [if_pos (by omega)]; omega
    · omega
/-- what the packs say of the lengths -/
structure Lens (W : List Nat) (L : Nat) : Prop where
  long : 2 * (oneW W).length - 2 ≤ (lev (oneW W) (L - 1)).length
  ranks : ∃ I : Nat → Nat, (∀ r (hr : r < (oneW W).length), LL W L (sy (oneW W)[r]) = ln I (L - 1) r ∧ 1 ≤ ln I (L - 1) r ∧ ln I (L - 1) r ≤ L) ∧
    rs (oneW W).length (fun r => 2 ^ (L - ln I (L - 1) r)) = 2 ^ L ∧ rs (oneW W).length (fun r => wt ((oneW W).getD r (.leaf 0 0)) * ln I (L - 1) r) = sw ((lev (oneW W) (L - 1)).take (2 * (oneW W).length - 2))
  none : ∀ s, (∀ x ∈ oneW W, sy x ≠ s) → LL W L s = 0
theorem lens {W : List Nat} {L : Nat} (hL : 1 ≤ L) (h2 : 2 ≤ (oneW W).length) (hb : (oneW W).length ≤ 2 ^ L) : Lens W L := by
  have hs := oneW_srt W
  have hlong : 2 * (oneW W).length - 2 ≤ (lev (oneW W) (L - 1)).length := by
    have := lev_big hs (L - 1) 2 (by rw [← Nat.pow_succ', show (L - 1).succ = L by omega]; exact hb)
    omega
  obtain ⟨I, g1, g2, g3, g4, g5, g6⟩ := sel hs (oneW_pos W) (L - 1) _ hlong
  have hlf : ∀ x ∈ oneW W, isLf x := fun x hx => by obtain ⟨k, _, rfl, _⟩ := oneW_mem hx; trivial
  obtain ⟨p1, p2⟩ := ln_pos h2 g1 g2 g3
  have eL : L - 1 + 1 = L := by omega
  rw [eL] at p2
  refine ⟨hlong, ⟨I, fun r hr => ⟨?_, p1 r hr, by have := ln_le I (L - 1) r; omega⟩, p2, ?_⟩, fun s hn => ?_⟩
  · rw [LL_two _ h2, g4]
    exact sm_congr _ fun t ht => sc_rank _ hr hlf (oneW_nodup W)
  · rw [g5]
    have e : rs (oneW W).length (fun r => wt ((oneW W).getD r (.leaf 0 0)) * ln I (L - 1) r) = rs (oneW W).length (fun r => sm (fun t => if r < I t then wt ((oneW W).getD r (.leaf 0 0)) else 0) (L - 1)) := rs_congr _ fun r _ => by
      unfold ln
      rw [sm_mul]
      exact sm_congr _ fun t _ => by split <;> simp
    rw [e, rs_sm]
    exact sm_congr _ fun t ht => rs_sw _ _ (g1 t ht)
  · rw [LL_two _ h2, g4]
    rw [sm_congr (g := fun _ => 0) _ fun t ht => sc_none fun x hx => ⟨hlf x (List.mem_of_mem_take hx), hn x (List.mem_of_mem_take hx)⟩, sm_zero]
end Pm

set_option linter.unusedVariables false
set_option linter.unusedSimpArgs false
namespace Pm
/-! the lengths may be, and none cost less (plain laws) -/
theorem sum_perm {A B : List T} (h : A.Perm B) (g : T → Nat) : (A.map g).sum = (B.map g).sum := (h.map g).sum_nat
theorem sum_congr {l : List T} {f g : T → Nat} (h : ∀ x ∈ l, f x = g x) : (l.map f).sum = (l.map g).sum := by rw [List.map_congr_left h]
theorem sum_mul (c : Nat) (g : T → Nat) : ∀ l : List T, (l.map fun x => c * g x).sum = c * (l.map g).sum
  | [] => rfl
  | a :: r => by rw [List.map_cons, List.map_cons, List.sum_cons, List.sum_cons, sum_mul c g r, Nat.mul_add]
theorem one_getD {W : List Nat} {r : Nat} (hr : r < (oneW W).length) : (oneW W).getD r (.leaf 0 0) = (oneW W)[r] := by rw [List.getD_eq_getElem?_getD, List.getElem?_eq_getElem hr]; rfl
theorem pw15 {L l : Nat} (hL : L ≤ 15) (hl : l ≤ L) : 32768 / 2 ^ l = 2 ^ (15 - L) * 2 ^ (L - l) := by
  rw [← Nat.pow_add, show 15 - L + (L - l) = 15 - l by omega]
  exact (Nat.pow_div (show l ≤ 15 by omega) (by omega) : 2 ^ 15 / 2 ^ l = 2 ^ (15 - l))
theorem LL_zero {W : List Nat} {L : Nat} (s : Nat) (h : (oneW W).length = 0) : LL W L s = 0 := by
  unfold LL
  rw [h]; rfl
theorem LL_one {W : List Nat} {L : Nat} (s : Nat) (h : (oneW W).length = 1) : LL W L s = sc s (oneW W) := by
  unfold LL
  rw [h]; rfl
theorem sc_leaf {W : List Nat} {k s : Nat} (h : oneW W = [.leaf (W.getD k 0) k]) : sc s (oneW W) = if k = s then 1 else 0 := by
  rw [h]; simp [sc, cn]
theorem one_leaf {W : List Nat} (h : (oneW W).length = 1) : ∃ k, k < W.length ∧ oneW W = [.leaf (W.getD k 0) k] ∧ 0 < W.getD k 0 := by
  obtain ⟨x, hx⟩ := List.length_eq_one_iff.1 h
  obtain ⟨k, h1, rfl, h3⟩ := oneW_mem (show x ∈ oneW W by rw [hx]; simp)
  exact ⟨k, h1, hx, h3⟩
/-- just those that come have a length, within the bound -/
theorem LL_bd {W : List Nat} {L s : Nat} (hL : 1 ≤ L) (hb : (oneW W).length ≤ 2 ^ L) (hs : s < W.length) : LL W L s ≤ L ∧ (0 < LL W L s ↔ 0 < W.getD s 0) := by
  have key : (¬ 0 < W.getD s 0) → ∀ x ∈ oneW W, sy x ≠ s := fun h0 x hx e => by
    obtain ⟨k, _, rfl, h⟩ := oneW_mem hx
    exact h0 (by rw [← e]; exact h)
  match hm : (oneW W).length with
  | 0 =>
    rw [LL_zero s hm]
    refine ⟨Nat.zero_le _, ⟨fun h => absurd h (by omega), fun h => ?_⟩⟩
    have := List.length_pos_of_mem (oneW_in hs h)
    omega
  | 1 =>
    obtain ⟨k, h1, h2, h3⟩ := one_leaf hm
    rw [LL_one s hm, sc_leaf h2]
    by_cases hks : k = s
    · subst hks; rw [if_pos rfl]; exact ⟨hL, ⟨fun _ => h3, fun _ => by omega⟩⟩
    · rw [if_neg hks]
      refine ⟨Nat.zero_le _, ⟨fun h => absurd h (by omega), fun h => ?_⟩⟩
      have := oneW_in hs h
      rw [h2] at this
      simp at this
      exact absurd this.2.symm hks
  | n + 2 =>
    obtain ⟨_, ⟨I, g1, _, _⟩, g4⟩ := lens (L := L) hL (by omega) hb
    by_cases h0 : 0 < W.getD s 0
    · obtain ⟨r, hr, e⟩ := List.mem_iff_getElem.1 (oneW_in hs h0)
      obtain ⟨a1, a2, a3⟩ := g1 r hr
      rw [e] at a1
      rw [show LL W L s = ln I (L - 1) r from a1]
      exact ⟨a3, ⟨fun _ => h0, fun _ => by omega⟩⟩
    · rw [g4 s (key h0)]
      exact ⟨Nat.zero_le _, ⟨fun h => absurd h (by omega), fun h => absurd h h0⟩⟩
/-- what the lengths take of the whole -/
def tkn (W : List Nat) (g : Nat → Nat) : Nat := ((lvf 0 W).map fun x => 32768 / 2 ^ g (sy x)).sum
def cst (W : List Nat) (g : Nat → Nat) : Nat := ((lvf 0 W).map fun x => wt x * g (sy x)).sum
theorem tkn_one (W : List Nat) (g : Nat → Nat) : tkn W g = ((oneW W).map fun x => 32768 / 2 ^ g (sy x)).sum := (sum_perm (oneW_perm W) _).symm
theorem cst_one (W : List Nat) (g : Nat → Nat) : cst W g = ((oneW W).map fun x => wt x * g (sy x)).sum := (sum_perm (oneW_perm W) _).symm
theorem tkn_L {W : List Nat} {L : Nat} {g : Nat → Nat} (hL : L ≤ 15) (hg : ∀ x ∈ oneW W, g (sy x) ≤ L) : tkn W g = 2 ^ (15 - L) * ((oneW W).map fun x => 2 ^ (L - g (sy x))).sum := by
  rw [tkn_one, ← sum_mul]
  exact sum_congr fun x hx => pw15 hL (hg x hx)
theorem LL_tkn {W : List Nat} {L : Nat} (hL : 1 ≤ L) (hL2 : L ≤ 15) (hb : (oneW W).length ≤ 2 ^ L) : ((oneW W).length = 1 → tkn W (LL W L) = 16384) ∧ (2 ≤ (oneW W).length → tkn W (LL W L) = 32768) := by
  refine ⟨fun h => ?_, fun h => ?_⟩
  · obtain ⟨k, h1, h2, h3⟩ := one_leaf h
    rw [tkn_one, h2]
    simp only [List.map_cons, List.map_nil, List.sum_cons, List.sum_nil, sy]
    rw [LL_one k h, sc_leaf h2, if_pos rfl]; rfl
  · obtain ⟨_, ⟨I, g1, g2, _⟩, _⟩ := lens (L := L) hL h hb
    have hle : ∀ x ∈ oneW W, LL W L (sy x) ≤ L := fun x hx => by
      obtain ⟨k, hk, rfl, _⟩ := oneW_mem hx
      exact (LL_bd hL hb hk).1
    rw [tkn_L hL2 hle, rs_list]
    rw [rs_congr (g := fun r => 2 ^ (L - ln I (L - 1) r)) _ fun r hr => by rw [one_getD hr, (g1 r hr).1], g2, ← Nat.pow_add, show 15 - L + L = 15 by omega]
/-- no other lengths that may be cost less -/
theorem LL_best {W : List Nat} {L : Nat} (hL : 1 ≤ L) (hL2 : L ≤ 15) (hb : (oneW W).length ≤ 2 ^ L) (g : Nat → Nat) (hg : ∀ s, s < W.length → g s ≤ L ∧ (0 < g s ↔ 0 < W.getD s 0))
    (h1 : (oneW W).length = 1 → tkn W g = 16384) (h2 : 2 ≤ (oneW W).length → tkn W g = 32768) : cst W (LL W L) ≤ cst W g := by
  match hm : (oneW W).length with
  | 0 =>
    rw [cst_one, List.eq_nil_of_length_eq_zero hm]; exact Nat.zero_le _
  | 1 =>
    obtain ⟨k, k1, k2, k3⟩ := one_leaf hm
    have := (hg k k1).2.2 k3
    rw [cst_one, cst_one, k2]
    simp only [List.map_cons, List.map_nil, List.sum_cons, List.sum_nil, sy]
    rw [LL_one k hm, sc_leaf k2, if_pos rfl, Nat.add_zero, Nat.add_zero]
    exact Nat.mul_le_mul_left _ this
  | n + 2 =>
    obtain ⟨_, ⟨I, g1, _, g3⟩, _⟩ := lens (L := L) hL (by omega) hb
    have ho : ∀ x ∈ oneW W, 1 ≤ g (sy x) ∧ g (sy x) ≤ L := fun x hx => by
      obtain ⟨k, hk, rfl, h0⟩ := oneW_mem hx
      exact ⟨(hg k hk).2.2 h0, (hg k hk).1⟩
    have hf : al L (fun x => g (sy x)) (oneW W) = 2 ^ L := by
      have e := h2 (by omega)
      rw [tkn_L hL2 fun x hx => (ho x hx).2] at e
      have e2 : (32768 : Nat) = 2 ^ (15 - L) * 2 ^ L := by rw [← Nat.pow_add, show 15 - L + L = 15 by omega]
      rw [e2] at e
      exact Nat.eq_of_mul_eq_mul_left (Nat.pow_pos (by omega)) e
    obtain ⟨_, b2⟩ := best (oneW_srt W) L hL (fun x => g (sy x)) ho hf
    rw [← g3] at b2
    rw [cst_one, cst_one, rs_list]
    rw [rs_congr (g := fun r => wt ((oneW W).getD r (.leaf 0 0)) * ln I (L - 1) r) _ fun r hr => by rw [one_getD hr, (g1 r hr).1]]
    exact b2
/-- who comes more often has no longer one -/
theorem LL_swap {W : List Nat} {L i k : Nat} (hL : 1 ≤ L) (hb : (oneW W).length ≤ 2 ^ L) (hi : i < W.length) (hk : k < W.length) (h : W.getD k 0 < W.getD i 0) (h0 : 0 < W.getD k 0) : LL W L i ≤ LL W L k := by
  obtain ⟨r, hr, er⟩ := List.mem_iff_getElem.1 (oneW_in hi (by omega))
  obtain ⟨q, hq, eq⟩ := List.mem_iff_getElem.1 (oneW_in hk h0)
  have hs := oneW_srt W
  have hrq : q < r := by
    rcases Nat.lt_or_ge q r with h' | h'
    · exact h'
    · rcases Nat.lt_or_ge r q with h'' | h''
      · have := (List.pairwise_iff_getElem.1 hs) r q hr hq h''
        rw [er, eq] at this
        exact absurd (show W.getD i 0 ≤ W.getD k 0 from this) (by omega)
      · obtain rfl : r = q := by omega
        rw [er] at eq
        have := congrArg wt eq
        exact absurd (show W.getD i 0 = W.getD k 0 from this) (by omega)
  obtain ⟨_, ⟨I, g1, _, _⟩, _⟩ := lens (L := L) hL (by omega) hb
  have a := (g1 r hr).1
  have b := (g1 q hq).1
  rw [er] at a
  rw [eq] at b
  rw [show LL W L i = ln I (L - 1) r from a, show LL W L k = ln I (L - 1) q from b]
  exact ln_anti I (by omega) _
/-- costs, one by one -/
theorem cst_rs (g : Nat → Nat) (W : List Nat) : cst W g = rs W.length fun i => W.getD i 0 * g i := by
  unfold cst
  refine snoc_ind (p := fun W => ((lvf 0 W).map fun x => wt x * g (sy x)).sum = rs W.length fun i => W.getD i 0 * g i) rfl ?_ W
  intro l x ih
  rw [lvf_app, Nat.zero_add, List.map_append, List.sum_append, ih, List.length_append, List.length_singleton, rs]
  congr 1
  · exact rs_congr _ fun r hr => by
      congr 1
      rw [List.getD_eq_getElem?_getD, List.getD_eq_getElem?_getD, List.getElem?_append_left hr]
  · have e : (l ++ [x]).getD l.length 0 = x := by simp
    rw [e, lvf]
    split
    · simp [lvf, sy, wt]
    · rename_i hx
      obtain rfl : x = 0 := by omega
      simp [lvf]
end Pm

namespace Go.Proofs.Ytbiocgenbgbfpaa
open Sx Go Pm
set_option linter.unusedVariables false
set_option linter.unusedSimpArgs false
/-! packs in memory -/
abbrev ptr (b : Nat) : Value := .pointer (some ⟨b, 0, none⟩)
/-- a pack lies at block b -/
def Rp (H : List Asn) : Nat → T → Prop
  | b, .leaf w s => blk b [.int .u64 w, .int .i64 s, .pointer none, .pointer none] ∈ H
  | b, .node x y => ∃ p q, blk b [.int .u64 (wt x + wt y : Nat), .int .i64 0, ptr p, ptr q] ∈ H ∧ Rp H p x ∧ Rp H q y
theorem Rp.sub {H H' : List Asn} (h : ∀ a ∈ H, a ∈ H') : ∀ {t : T} {b : Nat}, Rp H b t → Rp H' b t
  | .leaf w s, b, hr => h _ hr
  | .node x y, b, ⟨p, q, h1, h2, h3⟩ => ⟨p, q, h _ h1, Rp.sub h h2, Rp.sub h h3⟩
theorem Rp.head {H : List Asn} : ∀ {t : T} {b : Nat}, Rp H b t → ∃ x y z, blk b [.int .u64 (wt t : Nat), x, y, z] ∈ H
  | .leaf w s, b, hr => ⟨_, _, _, hr⟩
  | .node x y, b, ⟨p, q, h1, _, _⟩ => ⟨_, _, _, h1⟩
theorem mrg_map {α β : Type} (f : α → β) (ω : β → Nat) : ∀ (m : Nat) (A B : List α), A.length + B.length ≤ m → (mrg (fun x => ω (f x)) A B).map f = mrg ω (A.map f) (B.map f)
  | _, [], B, _ => rfl
  | _, a :: A, [], _ => by rw [mrg_nilR, List.map_nil, mrg_nilR]
  | 0, a :: A, b :: B, h => absurd h (by simp)
  | m + 1, a :: A, b :: B, h => by
    rw [mrg_cons, List.map_cons, List.map_cons, mrg_cons]
    split
    · rw [List.map_cons, mrg_map f ω m A (b :: B) (by simp at h ⊢; omega), List.map_cons]
    · rw [List.map_cons, mrg_map f ω m (a :: A) B (by simp at h ⊢; omega), List.map_cons]
theorem isrt_map {α β : Type} (f : α → β) (ω : β → Nat) (l : List α) : (isrt (fun x => ω (f x)) l).map f = isrt ω (l.map f) := by
  refine snoc_ind (p := fun l => (isrt (fun x => ω (f x)) l).map f = isrt ω (l.map f)) rfl ?_ l
  intro l x ih
  rw [isrt_snoc, mrg_map f ω _ _ _ (Nat.le_refl _), ih, List.map_append, List.map_cons, List.map_nil, isrt_snoc]
theorem sg_map {α β : Type} (f : α → β) (D : Nat → α) : ∀ (n a : Nat), (sg D a n).map f = sg (fun k => f (D k)) a n
  | 0, _ => rfl
  | n + 1, a => by rw [sg, sg, List.map_cons, sg_map f D n]
section
variable {w0 : World} {H : List Asn}
theorem Rarer_c (b1 b2 : Nat) (t1 t2 : T) (h1 : Rp H b1 t1) (h2 : Rp H b2 t2) (w : World) (hw : St w0 H w) :
    Calls Try.prog 54 #[ptr b1, ptr b2] w fun e w' => e = .returned (.int .i64 (cmpI (wt t1) (wt t2))) ∧ St w0 H w' := by
  obtain ⟨x1, y1, z1, m1⟩ := h1.head
  obtain ⟨x2, y2, z2, m2⟩ := h2.head
  refine enter (vs := [ptr b1, ptr b2]) Try.func54 rfl rfl rfl hw ?_
  clear h1 h2
  generalize wt t1 = p at *
  generalize wt t2 = q at *
  unfold cmpI
  by_cases ha : p < q
  · rw [if_pos ha]
    repeat (first | (apply gQO; first | refine QO_v rfl (V_load (tb := tb) rfl m1 rfl rfl rfl rfl) ?_ | refine QO_v rfl (V_load (tb := tb) rfl m2 rfl rfl rfl rfl) ?_) | (first | (refine sx ?_; try intro _)))
    exact JS_ret Try.func54 rfl rfl fun w hw => ⟨rfl, hw⟩
  · rw [if_neg ha]
    by_cases hb : q < p
    · rw [if_pos hb]
      repeat (first | (apply gQO; first | refine QO_v rfl (V_load (tb := tb) rfl m1 rfl rfl rfl rfl) ?_ | refine QO_v rfl (V_load (tb := tb) rfl m2 rfl rfl rfl rfl) ?_) | (first | (refine sx ?_; try intro _)))
      exact JS_ret Try.func54 rfl rfl fun w hw => ⟨rfl, hw⟩
    · rw [if_neg hb]
      repeat (first | (apply gQO; first | refine QO_v rfl (V_load (tb := tb) rfl m1 rfl rfl rfl rfl) ?_ | refine QO_v rfl (V_load (tb := tb) rfl m2 rfl rfl rfl rfl) ?_) | (first | (refine sx ?_; try intro _)))
      exact JS_ret Try.func54 rfl rfl fun w hw => ⟨rfl, hw⟩
/-- a row of packs in memory -/
def encP (x : Nat × T) : Value := ptr x.1
theorem encP_one (x : Nat × T) : Sx.one (encP x) := rfl
/-- packs are sorted -/
theorem SortP_c {K : List Asn} (hK : ∀ a ∈ K, a ∈ H) (p : Option Addr) (c N : Nat) (hN : N ≤ 1000000) (D : Nat → Nat × T) (hD : ∀ k, k < N → Rp K (D k).1 (D k).2) (w : World) (hw : St w0 (vec 55 1 (.slice p N c) N (vals encP D N) :: H) w) :
    Calls Try.prog 53 #[.slice p N c, .func (.func 54) #[] #[]] w fun e w' => e = .returned (.tuple #[]) ∧ ∃ D' : Nat → Nat × T, St w0 (vec 55 1 (.slice p N c) N (vals encP D' N) :: H) w' ∧ (∀ k, k < N → Rp K (D' k).1 (D' k).2) ∧ sg (fun k => (D' k).2) 0 N = isrt wt (sg (fun k => (D k).2) 0 N) := by
  rcases Nat.eq_zero_or_pos N with h0 | h0
  · subst h0
    refine (SortS_c (α := Unit) (enc := fun _ => .pointer none) (ω := fun _ => 0) (H := H) (fun _ => rfl) p c 54 0 ⟨Try.call54, fun D x y w h => absurd h (by omega)⟩ hN (fun _ => ()) w hw).mono ?_
    rintro e w' ⟨rfl, D', hw', _⟩
    exact ⟨rfl, D, hw', fun k hk => absurd hk (by omega), rfl⟩
  · let α := { x : Nat × T // Rp K x.1 x.2 }
    let d0 : α := ⟨D 0, hD 0 h0⟩
    let E : Nat → α := fun k => if h : k < N then ⟨D k, hD k h⟩ else d0
    have hE : ∀ k, k < N → (E k).1 = D k := fun k hk => by show (if h : k < N then (⟨D k, hD k h⟩ : α) else d0).1 = _; rw [dif_pos hk]
    have hv : vals encP D N = vals (fun x : α => encP x.1) E N := by
      unfold vals
      exact List.map_congr_left fun k hk => by show encP (D k) = encP (E k).1; rw [hE k (by simpa using hk)]
    rw [hv] at hw
    refine (SortS_c (α := α) (enc := fun x => encP x.1) (ω := fun x => wt x.1.2) (H := H) (fun _ => rfl) p c 54 N ⟨Try.call54, fun D x y w _ hw => Rarer_c x.1.1 y.1.1 x.1.2 y.1.2 (x.2.sub fun a ha => List.Mem.tail _ (hK a ha)) (y.2.sub fun a ha => List.Mem.tail _ (hK a ha)) w hw⟩ hN E w hw).mono ?_
    rintro e w' ⟨rfl, D', hw', hs⟩
    refine ⟨rfl, fun k => (D' k).1, hw', fun k _ => (D' k).2, ?_⟩
    have e1 := congrArg (List.map fun x : α => x.1.2) hs
    rw [isrt_map (fun x : α => x.1.2) wt, sg_map, sg_map] at e1
    rw [e1]
    congr 1
    exact sg_congr _ _ _ fun k hk => by show (E (0 + k)).1.2 = _; rw [hE (0 + k) (by omega)]
set_option maxHeartbeats 1000000 in
/-- a row of packs, cloned -/
theorem CloneP_c (p : Option Addr) (c m : Nat) (cs : List Value) (hr : Rd w0 H (.slice p m c) m cs) (hm : cs.length = m) (h1 : All1 cs) (hm1 : m ≤ 1000000) (hpm : p = none → m = 0) (w : World) (hw : St w0 H w) :
    Calls Try.prog 55 #[.slice p m c] w fun e w' => ∃ q d, e = .returned (.slice q m d) ∧ St w0 (vec 55 1 (.slice q m d) m cs :: H) w' := by
  refine enter (vs := [.slice p m c]) Try.func55 rfl rfl rfl hw ?_
  repeat (first | (apply gJO; refine JO_v (V_eqNil (tb := tb) rfl rfl rfl rfl) ?_) | (apply gJR; first | (refine sx ?_; try intro _)) | (apply gJO; first | (refine sx ?_; try intro _)) | apply JS_seq | apply JS_region)
  cases p with
  | none =>
    obtain rfl : m = 0 := hpm rfl
    obtain rfl : cs = [] := List.eq_nil_of_length_eq_zero hm
    repeat (first | (refine sx ?_; try intro _))
    refine JS_ret Try.func55 rfl rfl ?_
    intro w hw
    exact ⟨none, 0, rfl, St.nilvec hw⟩
  | some a =>
    repeat (first | (refine sx ?_; try intro _))
    refine JO_app (tb := tb) rfl rfl rfl rfl rfl rfl (by repeat (first | exact Sel.here _ _ | apply Sel.there)) (Rd_weak hr fun w hw => St.sub (by repeat (first | exact List.Sublist.refl _ | apply List.Sublist.cons_cons | apply List.Sublist.cons)) hw) (by omega) h1 (by omega) rfl ?_
    intro q d
    repeat (first | (refine sx ?_; try intro _))
    refine JS_ret Try.func55 rfl rfl ?_
    intro w hw
    rw [Nat.zero_add] at hw
    exact ⟨q, d, by rw [Nat.zero_add]; rfl, hw⟩
end
end Go.Proofs.Ytbiocgenbgbfpaa

set_option linter.unusedVariables false
namespace Sx
open Go
/-! a slice, and what it became by an append: both still stand -/
@[irreducible] def vecB (e size : Nat) (v : Value) (n : Nat) (cs : List Value) (v' : Value) (n' : Nat) (cs' : List Value) : Asn where
  holds w fp := ∃ f1 f2, VecIn e size v n cs w f1 ∧ VecIn e size v' n' cs' w f2 ∧ (∀ b, b ∈ fp ↔ b ∈ f1 ∨ b ∈ f2)
  frame w w' fp h hk := by
    obtain ⟨f1, f2, h1, h2, h3⟩ := h
    have e1 := (vec_holds (e := e) (size := size) (v := v) (n := n) (cs := cs) (w := w') (fp := f1)).1 ((vec e size v n cs).frame w w' f1 (vec_holds.2 h1) fun b hb => hk b ((h3 b).2 (.inl hb)))
    have e2 := (vec_holds (e := e) (size := size) (v := v') (n := n') (cs := cs') (w := w') (fp := f2)).1 ((vec e size v' n' cs').frame w w' f2 (vec_holds.2 h2) fun b hb => hk b ((h3 b).2 (.inr hb)))
    exact ⟨f1, f2, e1, e2, h3⟩
  live w fp h b hb := by
    obtain ⟨f1, f2, h1, h2, h3⟩ := h
    rcases (h3 b).1 hb with h | h
    · exact (vec e size v n cs).live w f1 (vec_holds.2 h1) b h
    · exact (vec e size v' n' cs').live w f2 (vec_holds.2 h2) b h
theorem vecB_holds {e size v n cs v' n' cs' w fp} : (vecB e size v n cs v' n' cs').holds w fp ↔ ∃ f1 f2, VecIn e size v n cs w f1 ∧ VecIn e size v' n' cs' w f2 ∧ (∀ b, b ∈ fp ↔ b ∈ f1 ∨ b ∈ f2) := by
  unfold vecB; exact Iff.rfl
theorem VecIn.nodup {e size v n cs w fp} (h : VecIn e size v n cs w fp) : fp.Nodup := by
  rcases h.2 with ⟨_, _, _, rfl⟩ | ⟨_, _, _, _, rfl, _⟩ <;> simp
section
variable {P : Program} {n : Nat} {D : List Deferred} {w0 : World} {ov : Ov} {H : List Asn} {d : Option Nat} {T : Nat} {pos : String} {af : Array Edge} {g : Option (Nat × Bool)} {x y : Operand} {tb : Tb P} {w : World}
theorem vecB_new {e size v m cs v' m' cs'} (h : St w0 (vecB e size v m cs v' m' cs' :: H) w) : St w0 (vec e size v' m' cs' :: H) w := by
  refine @St.step w0 [vecB e size v m cs v' m' cs'] H w w [vec e size v' m' cs'] h rfl rfl rfl (Nat.le_refl _) fun f1 h1 hn _ => ⟨fun _ _ _ => rfl, ?_⟩
  obtain ⟨fa, fb, e1, h2, h3⟩ := h1
  have : fb = [] := h3
  subst this
  rw [List.append_nil] at e1
  subst e1
  obtain ⟨g1, g2, ha, hb, hc⟩ := vecB_holds.1 h2
  exact ⟨g2, hb.nodup, fun b hb' => .inl ((hc b).2 (.inr hb')), g2, [], by simp, vec_holds.2 hb, rfl⟩
theorem vecB_old {e size v m cs v' m' cs'} (h : St w0 (vecB e size v m cs v' m' cs' :: H) w) : St w0 (vec e size v m cs :: H) w := by
  refine @St.step w0 [vecB e size v m cs v' m' cs'] H w w [vec e size v m cs] h rfl rfl rfl (Nat.le_refl _) fun f1 h1 hn _ => ⟨fun _ _ _ => rfl, ?_⟩
  obtain ⟨fa, fb, e1, h2, h3⟩ := h1
  have : fb = [] := h3
  subst this
  rw [List.append_nil] at e1
  subst e1
  obtain ⟨g1, g2, ha, hb, hc⟩ := vecB_holds.1 h2
  exact ⟨g1, ha.nodup, fun b hb' => .inl ((hc b).2 (.inl hb')), g1, [], by simp, vec_holds.2 ha, rfl⟩
theorem Sel.back {H : List Asn} {a : Asn} {F : Asn → List Asn} (h : Sel H a F) (a' : Asn) : Upd (F a') a' a H := by
  induction h with
  | here a r => exact Upd.here _ _ _
  | there y a r F _ ih => exact Upd.there _ _ _ _ _ ih
theorem vecB_back {e size v m cs v' m' cs'} {F : Asn → List Asn} (hs : Sel H (vec e size v m cs) F) (h : St w0 (F (vecB e size v m cs v' m' cs')) w) : St w0 H w :=
  h.upd (hs.back _) rfl rfl rfl (Nat.le_refl _) fun f1 h1 => by
    obtain ⟨g1, g2, ha, hb, hc⟩ := vecB_holds.1 h1
    exact ⟨fun _ _ _ => rfl, g1, ha.nodup, fun b hb' => .inl ((hc b).2 (.inl hb')), vec_holds.2 ha⟩
theorem vecB_fwd {e size v m cs v' m' cs'} {F : Asn → List Asn} (hs : Sel H (vecB e size v m cs v' m' cs') F) (h : St w0 H w) : St w0 (F (vec e size v' m' cs')) w :=
  h.upd (hs.upd _) rfl rfl rfl (Nat.le_refl _) fun f1 h1 => by
    obtain ⟨g1, g2, ha, hb, hc⟩ := vecB_holds.1 h1
    exact ⟨fun _ _ _ => rfl, g2, hb.nodup, fun b hb' => .inl ((hc b).2 (.inr hb')), vec_holds.2 hb⟩
theorem run_appendB {t ty e size bytes : Nat} {i : TypeInfo} {z : Value} {u ux : Value} {m q : Nat} {cs news : List Value} {F : Asn → List Asn} (hw : St w0 H w)
    (ht : P.underlying t = some (.slice e)) (hi : P.info? e = some i) (hz : i.zero = some z) (hsize : i.size = size) (hby : i.bytes = bytes) (hzs : z.cells.size = size) (hsz : 0 < size)
    (hu : Sel H (vec e size u m cs) F) (hr : Rd w0 H ux q news) (hl : news.length = q * size) (h1 : All1 news) (hq0 : 0 < q) (hb : (m + q) * bytes ≤ 140737488355328) (hq : m + q ≤ 140737488355328) :
    ∃ p c w', (Builtin.append_ #[t, t] ty #[u, ux]).run P w = .ok (.slice p (m + q) c) w' ∧ St w0 (F (vecB e size u m cs (.slice p (m + q) c) (m + q) (cs ++ news))) w' := by
  obtain ⟨fp, hfp⟩ := hw.mem hu.mem
  rw [vec_holds] at hfp
  unfold Rd at hr
  obtain ⟨⟨bx, cx, rfl, hbx, _⟩, hrd⟩ := hr w hw
  subst hsize; subst hby
  have h63 : ((m + q : Nat) : Int) ≤ 9223372036854775807 := by omega
  cases bx with
  | none => exact absurd (hbx rfl) (by omega)
  | some a =>
    have hnews := reads_some hrd
    have hgrow : ∀ (old cap2 : Nat), cap2 = grownCap w (m + q) old e → (cs.length = m * i.size) →
        ∀ f1, (vec e i.size u m cs).holds w f1 → (∀ b, b < w.heap.size → b ∉ f1 → (w.drew.alloc (.cells (cs.toArray ++ news.toArray ++ Builtin.zeroCells z.cells (cap2 - (m + q))) e)).heap[b]? = w.heap[b]?) ∧
        ∃ f1' : List Nat, f1'.Nodup ∧ (∀ b ∈ f1', b ∈ f1 ∨ w.heap.size ≤ b) ∧ (vecB e i.size u m cs (.slice (some ⟨w.heap.size, 0, none⟩) (m + q) cap2) (m + q) (cs ++ news)).holds (w.drew.alloc (.cells (cs.toArray ++ news.toArray ++ Builtin.zeroCells z.cells (cap2 - (m + q))) e)) f1' := by
      intro old cap2 hcap hcl f1 hf1
      have hge := grownCap_ge w (m + q) old e
      have hle := grownCap_le_maxLen w (m + q) old e (by unfold maxLen; omega)
      have hlive := (vec e i.size u m cs).live w f1 hf1
      have hkeep : ∀ b, b < w.heap.size → (w.drew.alloc (.cells (cs.toArray ++ news.toArray ++ Builtin.zeroCells z.cells (cap2 - (m + q))) e)).heap[b]? = w.heap[b]? := fun b hb => heap_alloc_old w.drew _ hb
      have hold := (vec e i.size u m cs).frame w _ f1 hf1 fun b hb => hkeep b (hlive b hb)
      refine ⟨fun b hb _ => hkeep b hb, f1 ++ [w.heap.size], ?_, ?_, ?_⟩
      · refine List.nodup_append.2 ⟨(vec_holds.1 hf1).nodup, by simp, ?_⟩
        intro b hb c hc
        have := hlive b hb
        simp only [List.mem_singleton] at hc
        omega
      · intro b hb
        rcases List.mem_append.1 hb with h | h
        · exact .inl h
        · right; simp at h; omega
      · rw [vecB_holds]
        have hlen : (cs ++ news).length = (m + q) * i.size := by rw [List.length_append, hcl, hl, Nat.add_mul]
        refine ⟨f1, [w.heap.size], vec_holds.1 hold, ⟨hlen, .inr ⟨w.heap.size, cap2, _, rfl, rfl, heap_alloc_new w.drew _, by omega, by omega, ?_, ?_⟩⟩, by simp⟩
        · simp only [Array.size_append, List.size_toArray, size_zeroCells, hzs, hcl, hl, ← Nat.add_mul]
          congr 1; omega
        · simp only [Array.toList_append, List.append_assoc]
          rw [← List.append_assoc, ← hlen]
          exact List.take_left
    rcases hfp.2 with ⟨base, rfl, rfl, rfl⟩ | ⟨gb, cap, cur, rfl, _, hg, hn, hcm, hsz2, htk⟩
    · have hcs : cs = [] := List.eq_nil_of_length_eq_zero (by have := hfp.1; simpa using this)
      subst hcs
      cases base with
      | none =>
        have hrr := run_append_nil (P := P) w t ty e i z ht hi hz a q cx news hl hnews (by omega) (by omega) (by simp only [Nat.zero_add] at hb; omega)
        have hg := hgrow 0 _ rfl (by simp)
        simp only [Nat.zero_add, Array.empty_append] at hg ⊢
        exact ⟨_, _, _, hrr, hw.upd (hu.upd _) rfl rfl rfl (by simp) hg⟩
      | some b0 =>
        have hrr := run_append_grow (P := P) w t ty e i z ht hi hz b0 0 0 [] (by simp) (by simp) a q cx news hl hnews (by omega) (by omega) (growslice_fits (by omega) hb)
        exact ⟨_, _, _, hrr, hw.upd (hu.upd _) rfl rfl rfl (by simp) (hgrow 0 _ rfl (by simp))⟩
    · by_cases hroom : m + q ≤ cap
      · have hcl := hfp.1
        have hfit : m * i.size + news.length ≤ cur.size := by rw [hl, hsz2, ← Nat.add_mul]; exact Nat.mul_le_mul_right _ hroom
        have hrr := run_append_room (P := P) w t ty e i ht hi gb m cap cur hg a q cx news hl hnews h1.mem hroom hfit
        refine ⟨_, _, _, hrr, hw.upd (hu.upd _) rfl rfl rfl (by simp [World.setRow]) fun f1 h => ?_⟩
        have hf1 : f1 = [gb] ∨ (f1 = [] ∧ m = 0 ∧ cap = 0) := by
          rw [vec_holds] at h
          rcases h.2 with ⟨base, hb', h0, hf⟩ | ⟨g', cap', cur', hv', hf, _⟩
          · simp at hb'; exact .inr ⟨hf, h0, hb'.2.2⟩
          · simp at hv'; left; rw [hf, hv'.1]
        have hf1' : f1 = [gb] := by
          rcases hf1 with h | h
          · exact h
          · omega
        subst hf1'
        refine ⟨fun c hc hne => setRow_other w gb c _ (by simpa using hne), [gb], by simp, fun c hc => .inl hc, ?_⟩
        rw [vecB_holds]
        have hlen : (cs ++ news).length = (m + q) * i.size := by rw [List.length_append, hcl, hl, Nat.add_mul]
        have hsz3 : (cur.toList.take (m * i.size) ++ news ++ cur.toList.drop (m * i.size + news.length)).length = cap * i.size := by
          simp only [List.length_append, List.length_take, List.length_drop, Array.length_toList]
          omega
        refine ⟨[gb], [gb], ⟨hcl, .inr ⟨gb, cap, _, rfl, rfl, setRow_heap w gb cur _ e _ hg, hn, hcm, by simpa using hsz3, ?_⟩⟩, ⟨hlen, .inr ⟨gb, cap, _, rfl, rfl, setRow_heap w gb cur _ e _ hg, hroom, hcm, by simpa using hsz3, ?_⟩⟩, by simp⟩
        · simp only []
          rw [htk, ← hcl, List.append_assoc]
          exact List.take_left
        · simp only []
          rw [htk, ← hlen]
          exact List.take_left
      · have hcl := hfp.1
        have holds : ∀ j u', cs[j]? = some u' → w.cell? ((⟨gb, 0, none⟩ : Addr).add j) = some u' := reads_some hfp.reads
        have hrr := run_append_grow (P := P) w t ty e i z ht hi hz ⟨gb, 0, none⟩ m cap cs hcl holds a q cx news hl hnews (by omega) (by omega) (growslice_fits (by omega) hb)
        exact ⟨_, _, _, hrr, hw.upd (hu.upd _) rfl rfl rfl (by simp) (hgrow cap _ rfl hcl)⟩
theorem E_appendB {t e sz by' m q sz1 by1 : Nat} {ty2 : Ty} {z1 : Option (List Value)} {z : List Value} {u ux : Value} {cs news : List Value} {F : Asn → List Asn}
    (hx : ev ov x = some u) (hy : ev ov y = some ux) (h : tlook tb.l t = some ⟨.slice e, sz1, by1, z1⟩) (h2 : tlook tb.l e = some ⟨ty2, sz, by', some z⟩) (hzl : Nat.beq z.length sz = true) (hsz : Nat.blt 0 sz = true)
    (hu : Sel H (vec e sz u m cs) F) (hr : Rd w0 H ux q news) (hl : news.length = q * sz) (h1 : All1 news) (hq0 : 0 < q) (hb : (m + q) * by' ≤ 140737488355328 ∧ m + q ≤ 140737488355328) (hd : dOk d n = true) :
    OpE (ι := Option Addr × Nat) P n D w0 ov H ⟨d, .call ⟨.builtin .append, #[x, y], #[t, t]⟩, T, pos, af, g⟩ (fun pc => .slice pc.1 (m + q) pc.2) (fun pc => F (vecB e sz u m cs (.slice pc.1 (m + q) pc.2) (m + q) (cs ++ news))) :=
  ⟨hd, fun A w ha hw => by
    obtain ⟨i, zv, hi, e1, e2, e3, e4⟩ := Tb.inf' h2
    obtain ⟨p, c, w', hr', hw'⟩ := run_appendB (ty := T) hw (und_slice h) hi e3 e1 e2 (by have := Nat.eq_of_beq_eq_true hzl; rw [cellsL_eq, e4]; simpa using this) (by simpa [Nat.blt_eq] using hsz) hu hr hl h1 hq0 hb.1 hb.2
    exact ⟨(p, c), w', by simp [execOp, resolve, invoke, builtin, ha.ev hx, ha.ev hy, hr'], hw'⟩⟩
/-- a new slice of given values -/
theorem E_buildSlice {t e sz by' s1 b1 m : Nat} {ty2 : Ty} {z1 : Option (List Value)} {z : List Value} {xs : List (Nat × Operand)} {vs : List (Nat × Value)} {cs : List Value} (h : tlook tb.l t = some ⟨.slice e, s1, b1, z1⟩) (h2 : tlook tb.l e = some ⟨ty2, sz, by', some z⟩) (hzl : Nat.beq z.length sz = true) (hsz : Nat.blt 0 sz = true)
    (hm : Nat.ble (m * sz) 16777216 = true) (hx : pevs ov xs = some vs) (hc : fillL (fun i => some (i * sz, sz)) (rep m z) vs = some cs) (hcl : Nat.beq cs.length (m * sz) = true) (hd : dOk d n = true) :
    OpE (ι := Addr) P n D w0 ov H ⟨d, .buildSlice t m xs.toArray, T, pos, af, g⟩ (fun p => .slice (some p) m m) (fun p => vec e sz (.slice (some p) m m) m cs :: H) :=
  ⟨hd, fun a w ha hw => by
    have e1 := run_underlying (und_slice h) w
    obtain ⟨zv, hz, e3⟩ := Tb.run_zero w h2
    have hsz' : 0 < sz := by rw [Nat.blt_eq] at hsz; exact hsz
    have hzl' := Nat.eq_of_beq_eq_true hzl
    have hm' : m * sz ≤ 16777216 := Nat.le_of_ble_eq_true hm
    have hfill := fill_eq _ hc
    have hx' := ha.pevs hx
    have hmr := made_rep z (by omega) m
    rw [hzl'] at hmr
    have hma : madeCells z.toArray (m * sz) = (rep m z).toArray := by rw [← hmr]
    refine ⟨⟨w.heap.size, 0, none⟩, w.alloc (.cells cs.toArray e), ?_, hw.new cs e _ fun w' h' => ?_⟩
    · simp only [execOp, Instr.buildSlice, Sem.run_bind, e1, Result.andThen_ok, Tb.run_size w h2]
      rw [if_neg (by omega)]
      simp only [Sem.run_pure, pure_bind, Sem.run_ite, List.map_toArray, hx']
      by_cases h0 : m * sz = 0
      · have hm0 : m = 0 := by
          rcases Nat.mul_eq_zero.1 h0 with h | h <;> omega
        subst hm0
        simp only [h0, ↓reduceIte]
        rw [show (Array.range 0).map (fun i => (#[] : Array Value)[i % (#[] : Array Value).size]!) = ([] : List Value).toArray from by simp]
        rw [show fillL (fun i => some (i * sz, sz)) (rep 0 z) vs = fillL (fun i => some (i * sz, sz)) [] vs from rfl] at hc
        have hfill := fill_eq _ hc
        simp [hfill, newRow]
      · simp only [h0, ↓reduceIte, Sem.run_bind, e3, Result.andThen_ok, cellsL_eq, hz]
        rw [show (Array.range (m * sz)).map (fun i => z.toArray[i % z.toArray.size]!) = madeCells z.toArray (m * sz) from rfl, hma]
        simp [hfill, newRow]
    · rw [vec_holds]
      have hcl' := Nat.eq_of_beq_eq_true hcl
      refine ⟨hcl', .inr ⟨_, m, _, rfl, rfl, h', Nat.le_refl _, ?_, by simp [hcl'], by simp [← hcl']⟩⟩
      have : m ≤ m * sz := Nat.le_mul_of_pos_right m hsz'
      unfold maxLen; omega⟩
end
end Sx

namespace Sx
open Go
section
variable {P : Program} {n : Nat} {D : List Deferred} {w0 : World} {ov : Ov} {H : List Asn} {d : Option Nat} {T : Nat} {pos : String} {af : Array Edge} {g : Option (Nat × Bool)} {x y : Operand} {v : Value} {tb : Tb P}
theorem E_box {e : Nat} {cs : List Value} (hx : ev ov x = some v) (hc : cellsL v = cs) (hd : dOk d n = true) : OpE (ι := Nat) P n D w0 ov H ⟨d, .box e x, T, pos, af, g⟩ (fun b => .pointer (some ⟨b, 0, none⟩)) (fun b => blk b cs :: H) :=
  ⟨hd, fun a w ha hw => ⟨w.heap.size, w.alloc (.cells cs.toArray e), by
    simp [execOp, ha.ev hx, Instr.box, newVar, newRow, cellsL_eq, hc], hw.new cs e _ fun w' h' => blk_holds.2 ⟨rfl, e, h'⟩⟩⟩
theorem E_app {t e sz by' m q sz1 by1 : Nat} {ty2 : Ty} {z1 : Option (List Value)} {z : List Value} {u ux : Value} {cs news : List Value} {F : Asn → List Asn}
    (hx : ev ov x = some u) (hy : ev ov y = some ux) (h : tlook tb.l t = some ⟨.slice e, sz1, by1, z1⟩) (h2 : tlook tb.l e = some ⟨ty2, sz, by', some z⟩) (hzl : Nat.beq z.length sz = true) (hsz : Nat.blt 0 sz = true)
    (hu : Sel H (vec e sz u m cs) F) (hr : Rd w0 H ux q news) (hl : news.length = q * sz) (h1 : All1 news) (hb : (m + q) * by' ≤ 140737488355328 ∧ m + q ≤ 140737488355328) (hd : dOk d n = true) :
    OpE (ι := Option Addr × Nat) P n D w0 ov H ⟨d, .call ⟨.builtin .append, #[x, y], #[t, t]⟩, T, pos, af, g⟩ (fun pc => .slice pc.1 (m + q) pc.2) (fun pc => F (vec e sz (.slice pc.1 (m + q) pc.2) (m + q) (cs ++ news))) :=
  ⟨hd, fun A w ha hw => by
    obtain ⟨i, zv, hi, e1, e2, e3, e4⟩ := Tb.inf' h2
    obtain ⟨p, c, w', hr', hw'⟩ := run_appendV (ty := T) hw (und_slice h) hi e3 e1 e2 (by have := Nat.eq_of_beq_eq_true hzl; rw [cellsL_eq, e4]; simpa using this) (by simpa [Nat.blt_eq] using hsz) (fun _ _ => hu.upd _) hr hl h1 hb.1 hb.2
    exact ⟨(p, c), w', by simp [execOp, resolve, invoke, builtin, ha.ev hx, ha.ev hy, hr'], hw'⟩⟩
end
end Sx
namespace Go.Proofs.Ytbiocgenbgbfpaa
open Sx Go Pm
set_option linter.unusedVariables false
set_option linter.unusedSimpArgs false
def nats (W : List Nat) : List Int := W.map fun (x : Nat) => (x : Int)
theorem nats_len (W : List Nat) : (nats W).length = W.length := by simp [nats]
theorem nats_getD (W : List Nat) (j : Nat) : (nats W).getD j 0 = (W.getD j 0 : Nat) := by
  unfold nats
  rw [List.getD_eq_getElem?_getD, List.getD_eq_getElem?_getD, List.getElem?_map]
  cases W[j]? <;> rfl
theorem nats_get {W : List Nat} {j : Nat} (h : j < W.length) : (ints .u64 (nats W))[j]? = some (.int .u64 (W.getD j 0 : Nat)) := by
  rw [ints_get (by rw [nats_len]; exact h), nats_getD]
theorem take_snoc (W : List Nat) {i : Nat} (h : i < W.length) : W.take (i + 1) = W.take i ++ [W.getD i 0] := by
  rw [List.take_succ_eq_append_getElem h]; simp [h]
theorem sum_take_le (W : List Nat) (k : Nat) : (W.take k).sum ≤ W.sum := by
  have := congrArg List.sum (List.take_append_drop k W)
  rw [List.sum_append] at this
  omega
theorem vals_snoc {α : Type} (enc : α → Value) (D : Nat → α) (m : Nat) (x : α) : vals enc D m ++ [enc x] = vals enc (upd D m x) (m + 1) := by
  unfold vals
  rw [List.range_succ, List.map_append, List.map_cons, List.map_nil]
  congr 1
  · exact List.map_congr_left fun k hk => by unfold upd; rw [if_neg (by have := List.mem_range.1 hk; omega)]
  · unfold upd; rw [if_pos rfl]
theorem sg_upd {α β : Type} (f : α → β) (D : Nat → α) (m : Nat) (x : α) : sg (fun k => f (upd D m x k)) 0 (m + 1) = sg (fun k => f (D k)) 0 m ++ [f x] := by
  rw [sg_snoc]
  congr 1
  · exact sg_congr _ _ _ fun k hk => by unfold upd; rw [if_neg (by omega)]
  · unfold upd; rw [if_pos (by omega)]
theorem vals_one {α : Type} {enc : α → Value} (h : ∀ x, Sx.one (enc x)) (D : Nat → α) (N : Nat) : All1 (vals enc D N) := All1.of fun v hv => by
  unfold vals at hv
  obtain ⟨k, _, rfl⟩ := List.mem_map.1 hv
  exact h _
section
variable {w0 : World} {H : List Asn}
set_option maxHeartbeats 2000000 in
/-- the symbols that come -/
theorem Symbols_c (p : Option Addr) (c n : Nat) (W : List Nat) (hr : Rd w0 H (.slice p n c) n (ints .u64 (nats W))) (hn : W.length = n) (hn1 : n ≤ 1000) (hW : ∀ j, W.getD j 0 < 18446744073709551616) (w : World) (hw : St w0 H w) :
    Calls Try.prog 30 #[.slice p n c] w fun e w' => (4294967296 < W.sum ∧ e = .returned (.tuple #[.slice none 0 0, .bool false]) ∧ St w0 H w') ∨
      (W.sum ≤ 4294967296 ∧ ∃ (PK : List Asn) (D : Nat → Nat × T) (q : Option Addr) (d : Nat), e = .returned (.tuple #[.slice q (oneW W).length d, .bool true]) ∧ St w0 (vec 55 1 (.slice q (oneW W).length d) (oneW W).length (vals encP D (oneW W).length) :: (PK ++ H)) w' ∧
        (∀ k, k < (oneW W).length → Rp PK (D k).1 (D k).2) ∧ sg (fun k => (D k).2) 0 (oneW W).length = oneW W) := by
  refine enter (vs := [.slice p n c]) Try.func30 rfl rfl rfl hw ?_
  clear hw w
  repeat (first | (apply gJR; first | (refine sx ?_; try intro _)) | (apply gJO; first | (refine sx ?_; try intro _)) | apply JS_seq | apply JS_region)
  refine JS_block ?_
  refine JS_loop5 (fun (i : Nat) (PK : List Asn) (D : Nat → Nat × T) (q : Option Addr) (d : Nat) => [(8, .slice p n c), (4, .slice q (lvf 0 (W.take i)).length d), (5, .int .u64 (W.take i).sum), (9, .int .i64 n), (10, .int .i64 i)])
    (fun i PK D q d => vec 55 1 (.slice q (lvf 0 (W.take i)).length d) (lvf 0 (W.take i)).length (vals encP D (lvf 0 (W.take i)).length) :: (PK ++ H))
    (fun i PK D q d => i ≤ n ∧ (W.take i).sum ≤ 4294967296 ∧ (∀ k, k < (lvf 0 (W.take i)).length → Rp PK (D k).1 (D k).2) ∧ sg (fun k => (D k).2) 0 (lvf 0 (W.take i)).length = lvf 0 (W.take i)) (fun i _ _ _ _ => n - i)
    0 [] (fun _ => (0, .leaf 0 0)) none 0 ⟨Nat.zero_le _, by simp, fun k hk => by simp [lvf] at hk, rfl⟩ (by repeat (first | exact trivial | refine ⟨rfl, ?_⟩ | refine ⟨lookI rfl (by omega), ?_⟩)) (fun w hw => St.nilvec hw) ?_
  intro i PK D q d ⟨hi, hs, hRp, hsg⟩ again
  have hml : (lvf 0 (W.take i)).length ≤ i := Nat.le_trans (lvf_len_le _ _) (by rw [List.length_take]; omega)
  by_cases hlt : i < n
  · have gi := nats_get (W := W) (j := i) (by omega)
    have hwi := hW i
    have hts := take_snoc W (i := i) (by omega)
    have htl : (W.take i).length = i := by rw [List.length_take]; omega
    have hlv : lvf 0 (W.take (i + 1)) = lvf 0 (W.take i) ++ lvf i [W.getD i 0] := by rw [hts, lvf_app, htl, Nat.zero_add]
    have hsum : (W.take (i + 1)).sum = (W.take i).sum + W.getD i 0 := by rw [hts, List.sum_append]; simp
    have hle := sum_take_le W (i + 1)
    obtain ⟨x, hx⟩ : ∃ x, W.getD i 0 = x := ⟨_, rfl⟩
    rw [hx] at gi hwi hlv hsum
    generalize hS : (W.take i).sum = S at *
    generalize hM : (lvf 0 (W.take i)) = A at *
    by_cases hbig : 4294967296 - S < x
    · repeat (first | (apply gJO; refine JO_v (V_loadC (tb := tb) rfl (Rd_weak hr fun w hw => St.sub (by exact (List.sublist_append_right _ _).cons _) hw) rfl rfl gi rfl) ?_) | (apply gJO; refine JO_v (V_index (tb := tb) rfl rfl rfl rfl (Rd.sl (Rd_weak hr fun w hw => St.sub (by exact (List.sublist_append_right _ _).cons _) hw)) (by omega) (by (try simp only [tn, tna, tn1, tn2, tn3, tn4, tnd16, tnd8, Int.reduceToNat]); first | exact Nat.mul_one _ | exact rfl) rfl) ?_) | (first | (refine sx ?_; try intro _)))
      refine JS_ret Try.func30 rfl rfl ?_
      intro w hw
      exact .inl ⟨by omega, rfl, St.sub ((List.sublist_append_right _ _).cons _) hw⟩
    · by_cases h0 : 0 < x
      · have hlf : lvf i [x] = [.leaf x i] := by rw [lvf, if_pos h0]; rfl
        rw [hlf] at hlv
        repeat (first | (apply gJO; refine JO_v (V_loadC (tb := tb) rfl (Rd_weak hr fun w hw => St.sub (by exact (List.sublist_append_right _ _).cons _) hw) rfl rfl gi rfl) ?_) | (apply gJO; refine JO_v (V_index (tb := tb) rfl rfl rfl rfl (Rd.sl (Rd_weak hr fun w hw => St.sub (by exact (List.sublist_append_right _ _).cons _) hw)) (by omega) (by (try simp only [tn, tna, tn1, tn2, tn3, tn4, tnd16, tnd8, Int.reduceToNat]); first | exact Nat.mul_one _ | exact rfl) rfl) ?_) | (first | (refine sx ?_; try intro _)))
        rename_i b pa
        refine JO_app (tb := tb) rfl rfl rfl rfl rfl rfl (by repeat (first | exact Sel.here _ _ | apply Sel.there)) (vec_rd (List.Mem.head _)) (by rfl) ⟨rfl, trivial⟩ (by omega) rfl ?_
        intro p2 c2
        have hlen : (lvf 0 (W.take (i + 1))).length = A.length + 1 := by rw [hlv]; simp
        repeat (first | (refine sx ?_; try intro _))
        refine JS_again5 again (i + 1) (blk b [.int .u64 x, .int .i64 i, .pointer none, .pointer none] :: PK) (upd D A.length (b, .leaf x i)) p2 c2 ⟨by omega, by omega, ?_, ?_⟩ (by omega) ⟨rfl, by rw [hlen]; rfl, lookI rfl (by omega), rfl, lookI rfl (by omega), trivial⟩ (fun w hw => ?_)
        · intro k hk
          rw [hlen] at hk
          by_cases hkA : k = A.length
          · subst hkA
            have e : upd D A.length (b, T.leaf x i) A.length = (b, T.leaf x i) := by unfold upd; rw [if_pos rfl]
            rw [e]
            exact List.Mem.head _
          · have e : upd D A.length (b, T.leaf x i) k = D k := by unfold upd; rw [if_neg hkA]
            rw [e]
            exact (hRp k (by omega)).sub fun a ha => List.Mem.tail _ ha
        · rw [hlen, sg_upd (fun y : Nat × T => y.2), hsg, hlv]
        · rw [hlen, ← vals_snoc]
          exact hw.drop.perm (List.Perm.swap _ _ _)
      · have hlf : lvf i [x] = [] := by rw [lvf, if_neg h0]; rfl
        rw [hlf, List.append_nil] at hlv
        repeat (first | (apply gJO; refine JO_v (V_loadC (tb := tb) rfl (Rd_weak hr fun w hw => St.sub (by exact (List.sublist_append_right _ _).cons _) hw) rfl rfl gi rfl) ?_) | (apply gJO; refine JO_v (V_index (tb := tb) rfl rfl rfl rfl (Rd.sl (Rd_weak hr fun w hw => St.sub (by exact (List.sublist_append_right _ _).cons _) hw)) (by omega) (by (try simp only [tn, tna, tn1, tn2, tn3, tn4, tnd16, tnd8, Int.reduceToNat]); first | exact Nat.mul_one _ | exact rfl) rfl) ?_) | (first | (refine sx ?_; try intro _)))
        exact JS_again5 again (i + 1) PK D q d ⟨by omega, by omega, by rw [hlv]; exact hRp, by rw [hlv]; exact hsg⟩ (by omega) ⟨rfl, by rw [hlv]; rfl, lookI rfl (by omega), rfl, lookI rfl (by omega), trivial⟩ (fun w hw => by rw [hlv]; exact hw)
  · obtain rfl : i = n := by omega
    clear again
    have hWt : W.take i = W := List.take_of_length_le (by omega)
    rw [hWt] at hs hRp hsg hml ⊢
    repeat (first | (refine sx ?_; try intro _))
    refine JO_call Try.call53 rfl rfl fun w hw => (SortP_c (K := PK) (fun a ha => List.mem_append_left _ ha) q d _ (by omega) D hRp w hw).mono ?_
    rintro e w' ⟨rfl, D', hw', g1, g2⟩
    refine ⟨_, rfl, _, hw', ?_⟩
    clear hw' hw w w'
    have hlo : (lvf 0 W).length = (oneW W).length := (oneW_len W).symm
    repeat (first | (refine sx ?_; try intro _))
    refine JS_ret Try.func30 rfl rfl ?_
    intro w hw
    rw [hlo] at hw g1 g2
    refine .inr ⟨hs, PK, D', q, d, by rw [hlo]; rfl, hw, g1, ?_⟩
    rw [g2, ← hlo, hsg]
    rfl
end
end Go.Proofs.Ytbiocgenbgbfpaa

set_option linter.unusedVariables false
set_option linter.unusedSimpArgs false
namespace Sq
/-! ## runs of lengths (plain) -/
abbrev Run := Nat × Nat × Nat
def zr : Nat → Nat → List Run
  | 0, _ => []
  | f + 1, n => if n = 0 then [] else if 11 ≤ n then (18, min n 138 - 11, 7) :: zr f (n - min n 138) else if 3 ≤ n then [(17, n - 3, 3)] else (0, 0, 0) :: zr f (n - 1)
theorem zr_zero (f : Nat) : zr f 0 = [] := by cases f <;> rfl
theorem zr_fuel : ∀ (f g n : Nat), n ≤ f → n ≤ g → zr f n = zr g n
  | 0, g, n, h, _ => by obtain rfl : n = 0 := by omega
                        rw [zr_zero, zr_zero]
  | f + 1, 0, n, _, h => by obtain rfl : n = 0 := by omega
                            rw [zr_zero, zr_zero]
  | f + 1, g + 1, n, h1, h2 => by
    rw [zr, zr]
    by_cases h0 : n = 0
    · rw [if_pos h0, if_pos h0]
    · rw [if_neg h0, if_neg h0, zr_fuel f g (n - min n 138) (by omega) (by omega), zr_fuel f g (n - 1) (by omega) (by omega)]
/-- runs of so many zeros -/
def zeros (n : Nat) : List Run := zr n n
theorem zeros_0 : zeros 0 = [] := rfl
theorem zeros_big {n : Nat} (h : 11 ≤ n) : zeros n = (18, min n 138 - 11, 7) :: zeros (n - min n 138) := by
  unfold zeros
  obtain ⟨m, rfl⟩ : ∃ m, n = m + 1 := ⟨n - 1, by omega⟩
  rw [zr, if_neg (by omega), if_pos h, zr_fuel m (m + 1 - min (m + 1) 138) _ (by omega) (by omega)]
theorem zeros_mid {n : Nat} (h : 3 ≤ n) (h2 : n < 11) : zeros n = [(17, n - 3, 3)] := by
  unfold zeros
  obtain ⟨m, rfl⟩ : ∃ m, n = m + 1 := ⟨n - 1, by omega⟩
  rw [zr, if_neg (by omega), if_neg (by omega), if_pos h]
theorem zeros_small {n : Nat} (h : 1 ≤ n) (h2 : n < 3) : zeros n = (0, 0, 0) :: zeros (n - 1) := by
  unfold zeros
  obtain ⟨m, rfl⟩ : ∃ m, n = m + 1 := ⟨n - 1, by omega⟩
  rw [zr, if_neg (by omega), if_neg (by omega), if_neg (by omega), Nat.add_sub_cancel]
def tr (l : Nat) : Nat → Nat → List Run
  | 0, _ => []
  | f + 1, n => if n = 0 then [] else if n < 3 then (l, 0, 0) :: tr l f (n - 1) else (16, min n 6 - 3, 2) :: tr l f (n - min n 6)
theorem tr_zero (l f : Nat) : tr l f 0 = [] := by cases f <;> rfl
theorem tr_fuel (l : Nat) : ∀ (f g n : Nat), n ≤ f → n ≤ g → tr l f n = tr l g n
  | 0, g, n, h, _ => by obtain rfl : n = 0 := by omega
                        rw [tr_zero, tr_zero]
  | f + 1, 0, n, _, h => by obtain rfl : n = 0 := by omega
                            rw [tr_zero, tr_zero]
  | f + 1, g + 1, n, h1, h2 => by
    rw [tr, tr]
    by_cases h0 : n = 0
    · rw [if_pos h0, if_pos h0]
    · rw [if_neg h0, if_neg h0, tr_fuel l f g (n - min n 6) (by omega) (by omega), tr_fuel l f g (n - 1) (by omega) (by omega)]
/-- behind the first one of so many that are alike -/
def tails (l n : Nat) : List Run := tr l n n
theorem tails_0 (l : Nat) : tails l 0 = [] := rfl
theorem tails_small {l n : Nat} (h : 1 ≤ n) (h2 : n < 3) : tails l n = (l, 0, 0) :: tails l (n - 1) := by
  unfold tails
  obtain ⟨m, rfl⟩ : ∃ m, n = m + 1 := ⟨n - 1, by omega⟩
  rw [tr, if_neg (by omega), if_pos h2, Nat.add_sub_cancel]
theorem tails_big {l n : Nat} (h : 3 ≤ n) : tails l n = (16, min n 6 - 3, 2) :: tails l (n - min n 6) := by
  unfold tails
  obtain ⟨m, rfl⟩ : ∃ m, n = m + 1 := ⟨n - 1, by omega⟩
  rw [tr, if_neg (by omega), if_neg (by omega), tr_fuel l m (m + 1 - min (m + 1) 6) _ (by omega) (by omega)]
def again (l n : Nat) : List Run := (l, 0, 0) :: tails l (n - 1)
def rl : Nat → List Nat → List Run
  | 0, _ => []
  | _, [] => []
  | f + 1, a :: r => (if a = 0 then zeros (1 + (r.takeWhile (· == a)).length) else again a (1 + (r.takeWhile (· == a)).length)) ++ rl f (r.dropWhile (· == a))
theorem rl_nil (f : Nat) : rl f [] = [] := by cases f <;> rfl
theorem drop_le (a : Nat) : ∀ r : List Nat, (r.dropWhile (· == a)).length ≤ r.length := fun r => (List.dropWhile_suffix _).length_le
theorem rl_fuel : ∀ (f g : Nat) (l : List Nat), l.length ≤ f → l.length ≤ g → rl f l = rl g l
  | f, g, [], _, _ => by rw [rl_nil, rl_nil]
  | 0, g, a :: r, h, _ => absurd h (by simp)
  | f + 1, 0, a :: r, _, h => absurd h (by simp)
  | f + 1, g + 1, a :: r, h1, h2 => by
    have := drop_le a r
    rw [rl, rl, rl_fuel f g _ (by simp at h1; omega) (by simp at h2; omega)]
/-- runs of all lengths -/
def runs (l : List Nat) : List Run := rl l.length l
theorem runs_nil : runs [] = [] := rfl
theorem take_rep (a : Nat) (r : List Nat) (h : r.head? ≠ some a) : ∀ m, (List.replicate m a ++ r).takeWhile (· == a) = List.replicate m a ∧ (List.replicate m a ++ r).dropWhile (· == a) = r
  | 0 => by
    cases r with
    | nil => exact ⟨rfl, rfl⟩
    | cons b r =>
      have hb : (b == a) = false := by
        rw [beq_eq_false_iff_ne]
        exact fun e => h (by rw [e]; rfl)
      simp [hb]
  | m + 1 => by
    obtain ⟨h1, h2⟩ := take_rep a r h m
    rw [List.replicate_succ, List.cons_append, List.takeWhile_cons, List.dropWhile_cons]
    simp [h1, h2]
/-- one run -/
theorem runs_step {a m : Nat} {r : List Nat} (h : r.head? ≠ some a) : runs (List.replicate (m + 1) a ++ r) = (if a = 0 then zeros (m + 1) else again a (m + 1)) ++ runs r := by
  obtain ⟨h1, h2⟩ := take_rep a r h m
  unfold runs
  rw [List.replicate_succ, List.cons_append, List.length_cons, rl, h1, h2, List.length_replicate, Nat.add_comm 1 m, rl_fuel _ r.length r (by simp) (Nat.le_refl _)]
/-! what runs say -/
def ex1 (l : List Nat) (r : Run) : List Nat :=
  if r.1 = 16 then l ++ List.replicate (3 + r.2.1) (l.getD (l.length - 1) 0) else if r.1 = 17 then l ++ List.replicate (3 + r.2.1) 0 else if r.1 = 18 then l ++ List.replicate (11 + r.2.1) 0 else l ++ [r.1]
/-- runs as they may be, behind so many lengths -/
def okR (l : List Nat) (r : Run) : Prop := (r.1 = 16 ∧ r.2.2 = 2 ∧ r.2.1 < 4 ∧ l ≠ []) ∨ (r.1 = 17 ∧ r.2.2 = 3 ∧ r.2.1 < 8) ∨ (r.1 = 18 ∧ r.2.2 = 7 ∧ r.2.1 < 128) ∨ (r.1 < 16 ∧ r.2.2 = 0 ∧ r.2.1 = 0)
def okRs : List Nat → List Run → Prop
  | _, [] => True
  | l, r :: rs => okR l r ∧ okRs (ex1 l r) rs
theorem okRs_app : ∀ (l : List Nat) (A B : List Run), okRs l A → okRs (A.foldl ex1 l) B → okRs l (A ++ B)
  | l, [], B, _, h => h
  | l, a :: A, B, ⟨h1, h2⟩, h => ⟨h1, okRs_app (ex1 l a) A B h2 h⟩
theorem rep_app (a m n : Nat) : List.replicate m a ++ List.replicate n a = List.replicate (m + n) a := List.replicate_append_replicate
theorem zeros_ex : ∀ (n : Nat) (l : List Nat), (zeros n).foldl ex1 l = l ++ List.replicate n 0 ∧ okRs l (zeros n) := by
  intro n
  induction n using Nat.strongRecOn with
  | _ n ih =>
    intro l
    by_cases h0 : n = 0
    · subst h0; rw [zeros_0]; exact ⟨by simp, trivial⟩
    by_cases h11 : 11 ≤ n
    · rw [zeros_big h11]
      obtain ⟨i1, i2⟩ := ih (n - min n 138) (by omega) (ex1 l (18, min n 138 - 11, 7))
      have e : ex1 l (18, min n 138 - 11, 7) = l ++ List.replicate (min n 138) 0 := by
        show l ++ List.replicate (11 + (min n 138 - 11)) 0 = _
        rw [show 11 + (min n 138 - 11) = min n 138 by omega]
      refine ⟨?_, .inr (.inr (.inl ⟨rfl, rfl, by show min n 138 - 11 < 128; omega⟩)), i2⟩
      rw [List.foldl_cons, i1, e, List.append_assoc, rep_app, show min n 138 + (n - min n 138) = n by omega]
    · by_cases h3 : 3 ≤ n
      · rw [zeros_mid h3 (by omega)]
        refine ⟨?_, .inr (.inl ⟨rfl, rfl, by show n - 3 < 8; omega⟩), trivial⟩
        show l ++ List.replicate (3 + (n - 3)) 0 = _
        rw [show 3 + (n - 3) = n by omega]
      · rw [zeros_small (by omega) (by omega)]
        obtain ⟨i1, i2⟩ := ih (n - 1) (by omega) (ex1 l (0, 0, 0))
        refine ⟨?_, .inr (.inr (.inr ⟨by show 0 < 16; omega, rfl, rfl⟩)), i2⟩
        rw [List.foldl_cons, i1]
        show l ++ [0] ++ _ = _
        rw [List.append_assoc, show [0] = List.replicate 1 0 from rfl, rep_app, show 1 + (n - 1) = n by omega]
theorem last_rep (l : List Nat) (a m : Nat) : (l ++ List.replicate (m + 1) a).getD ((l ++ List.replicate (m + 1) a).length - 1) 0 = a := by
  rw [List.getD_eq_getElem?_getD, List.getElem?_append_right (by simp), List.getElem?_replicate]
  simp
theorem tails_ex (a : Nat) (ha : a < 16) : ∀ (n : Nat) (l : List Nat) (m : Nat), (tails a n).foldl ex1 (l ++ List.replicate (m + 1) a) = l ++ List.replicate (m + 1 + n) a ∧ okRs (l ++ List.replicate (m + 1) a) (tails a n) := by
  intro n
  induction n using Nat.strongRecOn with
  | _ n ih =>
    intro l m
    by_cases h0 : n = 0
    · subst h0; rw [tails_0]; exact ⟨rfl, trivial⟩
    by_cases h3 : n < 3
    · rw [tails_small (by omega) h3]
      have e : ex1 (l ++ List.replicate (m + 1) a) (a, 0, 0) = l ++ List.replicate (m + 1 + 1) a := by
        unfold ex1
        rw [if_neg (by show ¬ a = 16; omega), if_neg (by show ¬ a = 17; omega), if_neg (by show ¬ a = 18; omega), List.append_assoc]
        show l ++ (_ ++ [a]) = _
        rw [show [a] = List.replicate 1 a from rfl, rep_app]
      obtain ⟨i1, i2⟩ := ih (n - 1) (by omega) l (m + 1)
      rw [← e] at i1 i2
      refine ⟨?_, .inr (.inr (.inr ⟨ha, rfl, rfl⟩)), i2⟩
      rw [List.foldl_cons, i1, show m + 1 + 1 + (n - 1) = m + 1 + n by omega]
    · rw [tails_big (by omega)]
      have e : ex1 (l ++ List.replicate (m + 1) a) (16, min n 6 - 3, 2) = l ++ List.replicate (m + min n 6 + 1) a := by
        unfold ex1
        rw [if_pos rfl, last_rep, List.append_assoc, rep_app]
        show l ++ List.replicate (m + 1 + (3 + (min n 6 - 3))) a = _
        rw [show m + 1 + (3 + (min n 6 - 3)) = m + min n 6 + 1 by omega]
      obtain ⟨i1, i2⟩ := ih (n - min n 6) (by omega) l (m + min n 6)
      rw [← e] at i1 i2
      refine ⟨?_, .inl ⟨rfl, rfl, by show min n 6 - 3 < 4; omega, by simp⟩, i2⟩
      rw [List.foldl_cons, i1, show m + min n 6 + 1 + (n - min n 6) = m + 1 + n by omega]
theorem again_ex (a n : Nat) (ha : a < 16) (hn : 1 ≤ n) (l : List Nat) : (again a n).foldl ex1 l = l ++ List.replicate n a ∧ okRs l (again a n) := by
  have e : ex1 l (a, 0, 0) = l ++ List.replicate (0 + 1) a := by
    unfold ex1
    rw [if_neg (by show ¬ a = 16; omega), if_neg (by show ¬ a = 17; omega), if_neg (by show ¬ a = 18; omega)]; rfl
  obtain ⟨i1, i2⟩ := tails_ex a ha (n - 1) l 0
  rw [← e] at i1 i2
  refine ⟨?_, .inr (.inr (.inr ⟨ha, rfl, rfl⟩)), i2⟩
  unfold again
  rw [List.foldl_cons, i1, show 0 + 1 + (n - 1) = n by omega]
theorem split_rep (a : Nat) : ∀ r : List Nat, ∃ m s, a :: r = List.replicate (m + 1) a ++ s ∧ s.head? ≠ some a
  | [] => ⟨0, [], rfl, by simp⟩
  | b :: r => by
    by_cases h : b = a
    · subst h
      obtain ⟨m, s, h1, h2⟩ := split_rep b r
      exact ⟨m + 1, s, by rw [h1]; rfl, h2⟩
    · exact ⟨0, b :: r, rfl, by simpa using h⟩
theorem runs_ex : ∀ (k : Nat) (B l : List Nat), B.length ≤ k → (∀ x ∈ B, x < 16) → (runs B).foldl ex1 l = l ++ B ∧ okRs l (runs B)
  | _, [], l, _, _ => by rw [runs_nil]; exact ⟨by simp, trivial⟩
  | 0, a :: r, l, h, _ => absurd h (by simp)
  | k + 1, a :: r, l, h, hx => by
    obtain ⟨m, s, e, hs⟩ := split_rep a r
    have ha := hx a (by simp)
    rw [e] at h hx ⊢
    rw [List.length_append, List.length_replicate] at h
    rw [runs_step hs, List.foldl_append]
    have hx' : ∀ x ∈ s, x < 16 := fun x h => hx x (List.mem_append_right _ h)
    by_cases h0 : a = 0
    · subst h0
      rw [if_pos rfl]
      obtain ⟨j1, j2⟩ := zeros_ex (m + 1) l
      obtain ⟨i1, i2⟩ := runs_ex k s (l ++ List.replicate (m + 1) 0) (by omega) hx'
      exact ⟨by rw [j1, i1, List.append_assoc], okRs_app _ _ _ j2 (by rw [j1]; exact i2)⟩
    · rw [if_neg h0]
      obtain ⟨j1, j2⟩ := again_ex a (m + 1) ha (by omega) l
      obtain ⟨i1, i2⟩ := runs_ex k s (l ++ List.replicate (m + 1) a) (by omega) hx'
      exact ⟨by rw [j1, i1, List.append_assoc], okRs_app _ _ _ j2 (by rw [j1]; exact i2)⟩
/-- bounds of runs -/
def bdR (r : Run) : Prop := r.1 ≤ 18 ∧ r.2.2 ≤ 7 ∧ r.2.1 < 2 ^ r.2.2
theorem okR.bd {l : List Nat} {r : Run} (h : okR l r) : bdR r := by
  unfold bdR
  rcases h with ⟨h1, h2, h3, _⟩ | ⟨h1, h2, h3⟩ | ⟨h1, h2, h3⟩ | ⟨h1, h2, h3⟩ <;> rw [h2] <;> omega
theorem okRs.bd : ∀ {l : List Nat} {rs : List Run}, okRs l rs → ∀ r ∈ rs, bdR r
  | _, [], _, r, h => by simp at h
  | l, a :: rs, ⟨h1, h2⟩, r, h => by
    rcases List.mem_cons.1 h with rfl | h
    · exact h1.bd
    · exact h2.bd r h
theorem ex1_grow (l : List Nat) (r : Run) : l.length + 1 ≤ (ex1 l r).length := by
  unfold ex1
  split
  · simp; omega
  · split
    · simp; omega
    · split
      · simp; omega
      · simp
theorem fold_grow : ∀ (rs : List Run) (l : List Nat), l.length + rs.length ≤ (rs.foldl ex1 l).length
  | [], l => by simp
  | r :: rs, l => by
    have h1 := ex1_grow l r
    have h2 := fold_grow rs (ex1 l r)
    rw [List.foldl_cons, List.length_cons]
    omega
theorem runs_len (B : List Nat) (h : ∀ x ∈ B, x < 16) : (runs B).length ≤ B.length := by
  have h1 := fold_grow (runs B) []
  rw [(runs_ex B.length B [] (Nat.le_refl _) h).1] at h1
  simpa using h1
end Sq

namespace Go.Proofs.Ytbiocgenbgbfpaa
open Sx Go
set_option linter.unusedVariables false
set_option linter.unusedSimpArgs false
/-! runs in memory -/
def rv (R : List Sq.Run) : List Value := R.flatMap fun r => [.int .i64 r.1, .int .i64 r.2.1, .int .i64 r.2.2]
theorem rv_app (A B : List Sq.Run) : rv A ++ rv B = rv (A ++ B) := by unfold rv; rw [List.flatMap_append]
theorem rv_app1 (A : List Sq.Run) (s r b : Nat) : rv A ++ [.int .i64 s, .int .i64 r, .int .i64 b] = rv (A ++ [(s, r, b)]) := by rw [← rv_app]; rfl
theorem rv_len (A : List Sq.Run) : (rv A).length = A.length * 3 := by
  unfold rv
  induction A with
  | nil => rfl
  | cons a r ih => rw [List.flatMap_cons, List.length_append, ih, List.length_cons]; simp; omega
theorem rv_one (A : List Sq.Run) : All1 (rv A) := All1.of fun v hv => by
  unfold rv at hv
  obtain ⟨a, _, hv⟩ := List.mem_flatMap.1 hv
  simp at hv
  rcases hv with rfl | rfl | rfl <;> rfl
section
variable {w0 : World} {H : List Asn}
set_option maxHeartbeats 2000000 in
theorem Zeros_c (N : Nat) (hN : N ≤ 1000) (w : World) (hw : St w0 H w) :
    Calls Try.prog 121 #[.int .i64 N] w fun e w' => ∃ q d, e = .returned (.slice q (Sq.zeros N).length d) ∧ St w0 (vec 83 3 (.slice q (Sq.zeros N).length d) (Sq.zeros N).length (rv (Sq.zeros N)) :: H) w' := by
  refine enter (vs := [.int .i64 N]) Try.func121 rfl rfl rfl hw ?_
  repeat (first | (apply gJR; first | (refine sx ?_; try intro _)) | (apply gJO; first | (refine sx ?_; try intro _)) | apply JS_seq | apply JS_region)
  refine JS_block ?_
  refine JS_loop4 (fun (n : Nat) (A : List Sq.Run) (q : Option Addr) (d : Nat) => [(0, .int .i64 n), (3, .slice q A.length d)]) (fun n A q d => vec 83 3 (.slice q A.length d) A.length (rv A) :: H)
    (fun n A _ _ => A ++ Sq.zeros n = Sq.zeros N ∧ n + A.length ≤ N) (fun n _ _ _ => n) N [] none 0 ⟨rfl, Nat.le_refl _⟩ (by repeat (first | exact trivial | refine ⟨rfl, ?_⟩ | refine ⟨lookI rfl (by omega), ?_⟩)) (fun w hw => St.nilvec hw) ?_
  intro n A q d ⟨hA, hnA⟩ again
  by_cases h0 : n = 0
  · subst h0
    clear again
    rw [Sq.zeros_0, List.append_nil] at hA
    repeat (first | (refine sx ?_; try intro _))
    refine JS_ret Try.func121 rfl rfl fun w hw => ?_
    rw [hA] at hw
    rw [← hA]
    rw [← hA] at hw
    exact ⟨q, d, rfl, hw⟩
  · by_cases h11 : 11 ≤ n
    · have hmin : min (n : Int) 138 = ((min n 138 : Nat) : Int) := by omega
      have hk : min n 138 ≤ n ∧ 11 ≤ min n 138 ∧ min n 138 ≤ 138 := by omega
      rw [Sq.zeros_big h11] at hA
      generalize min n 138 = k at hA hmin hk
      have e1 : IntKind.i64.wrap ((k : Int) - 11) = ((k - 11 : Nat) : Int) := (wi64 (by omega)).trans (by omega)
      have e2 : IntKind.i64.wrap ((n : Int) - (k : Int)) = ((n - k : Nat) : Int) := (wi64 (by omega)).trans (by omega)
      repeat (first | (apply gJO; first | refine JO_v (oc_min (V_min rfl rfl hmin rfl)) ?_ | refine JO_v (V_sub rfl rfl e1 rfl) ?_ | refine JO_v (V_sub rfl rfl e2 rfl) ?_ | (refine JO_app (tb := tb) rfl rfl rfl rfl rfl rfl (by repeat (first | exact Sel.here _ _ | apply Sel.there)) (vec_rd (List.Mem.head _)) (by rfl) ⟨rfl, rfl, rfl, trivial⟩ (by omega) rfl ?_; intro _ _)) | (first | (refine sx ?_; try intro _)))
      refine JS_again4 again (n - k) (A ++ [(18, k - 11, 7)]) _ _ ⟨by rw [List.append_assoc]; exact hA, by simp; omega⟩ (by omega) ⟨rfl, by rw [List.length_append]; rfl, trivial⟩ (fun w hw => ?_)
      rw [← rv_app1, List.length_append]
      exact St.sub (by repeat (first | exact List.Sublist.refl _ | apply List.Sublist.cons_cons | apply List.Sublist.cons)) hw
    · by_cases h3 : 3 ≤ n
      · rw [Sq.zeros_mid h3 (by omega)] at hA
        have e1 : IntKind.i64.wrap ((n : Int) - 3) = ((n - 3 : Nat) : Int) := (wi64 (by omega)).trans (by omega)
        repeat (first | (apply gJO; first | refine JO_v (V_sub rfl rfl e1 rfl) ?_ | (refine JO_app (tb := tb) rfl rfl rfl rfl rfl rfl (by repeat (first | exact Sel.here _ _ | apply Sel.there)) (vec_rd (List.Mem.head _)) (by rfl) ⟨rfl, rfl, rfl, trivial⟩ (by omega) rfl ?_; intro _ _)) | (first | (refine sx ?_; try intro _)))
        refine JS_again4 again 0 (A ++ [(17, n - 3, 3)]) _ _ ⟨by rw [Sq.zeros_0, List.append_nil]; exact hA, by simp; omega⟩ (by omega) ⟨rfl, by rw [List.length_append]; rfl, trivial⟩ (fun w hw => ?_)
        rw [← rv_app1, List.length_append]
        exact St.sub (by repeat (first | exact List.Sublist.refl _ | apply List.Sublist.cons_cons | apply List.Sublist.cons)) hw
      · rw [Sq.zeros_small (by omega) (by omega)] at hA
        have e1 : IntKind.i64.wrap ((n : Int) - 1) = ((n - 1 : Nat) : Int) := (wi64 (by omega)).trans (by omega)
        repeat (first | (apply gJO; first | refine JO_v (V_sub rfl rfl e1 rfl) ?_ | (refine JO_app (tb := tb) rfl rfl rfl rfl rfl rfl (by repeat (first | exact Sel.here _ _ | apply Sel.there)) (vec_rd (List.Mem.head _)) (by rfl) ⟨rfl, rfl, rfl, trivial⟩ (by omega) rfl ?_; intro _ _)) | (first | (refine sx ?_; try intro _)))
        refine JS_again4 again (n - 1) (A ++ [(0, 0, 0)]) _ _ ⟨by rw [List.append_assoc]; exact hA, by simp; omega⟩ (by omega) ⟨rfl, by rw [List.length_append]; rfl, trivial⟩ (fun w hw => ?_)
        rw [← rv_app1, List.length_append]
        exact St.sub (by repeat (first | exact List.Sublist.refl _ | apply List.Sublist.cons_cons | apply List.Sublist.cons)) hw
set_option maxHeartbeats 2000000 in
theorem SqAgain_c (l N : Nat) (hl : l < 16) (hN1 : 1 ≤ N) (hN : N ≤ 1000) (w : World) (hw : St w0 H w) :
    Calls Try.prog 122 #[.int .i64 l, .int .i64 N] w fun e w' => ∃ q d, e = .returned (.slice q (Sq.again l N).length d) ∧ St w0 (vec 83 3 (.slice q (Sq.again l N).length d) (Sq.again l N).length (rv (Sq.again l N)) :: H) w' := by
  refine enter (vs := [.int .i64 l, .int .i64 N]) Try.func122 rfl rfl rfl hw ?_
  have e0 : IntKind.i64.wrap ((N : Int) - 1) = ((N - 1 : Nat) : Int) := (wi64 (by omega)).trans (by omega)
  repeat (first | (apply gJR; first | (refine sx ?_; try intro _)) | (apply gJO; first | refine JO_v (V_sub rfl rfl e0 rfl) ?_ | first | (refine sx ?_; try intro _)) | apply JS_seq | apply JS_region)
  refine JS_block ?_
  rename_i p0
  refine JS_loop4 (fun (n : Nat) (A : List Sq.Run) (q : Option Addr) (d : Nat) => [(0, .int .i64 l), (1, .int .i64 n), (5, .slice q A.length d)]) (fun n A q d => vec 83 3 (.slice q A.length d) A.length (rv A) :: H)
    (fun n A _ _ => A ++ Sq.tails l n = Sq.again l N ∧ n + A.length ≤ N) (fun n _ _ _ => n) (N - 1) [(l, 0, 0)] (some p0) 1 ⟨rfl, by simp; omega⟩ (by repeat (first | exact trivial | refine ⟨rfl, ?_⟩ | refine ⟨lookI rfl (by omega), ?_⟩)) (fun w hw => hw) ?_
  intro n A q d ⟨hA, hnA⟩ again
  by_cases h0 : n = 0
  · subst h0
    clear again
    rw [Sq.tails_0, List.append_nil] at hA
    repeat (first | (refine sx ?_; try intro _))
    refine JS_ret Try.func122 rfl rfl fun w hw => ?_
    rw [← hA]
    exact ⟨q, d, rfl, hw⟩
  · by_cases h3 : n < 3
    · rw [Sq.tails_small (by omega) h3] at hA
      have e1 : IntKind.i64.wrap ((n : Int) - 1) = ((n - 1 : Nat) : Int) := (wi64 (by omega)).trans (by omega)
      repeat (first | (apply gJO; first | refine JO_v (V_sub rfl rfl e1 rfl) ?_ | (refine JO_app (tb := tb) rfl rfl rfl rfl rfl rfl (by repeat (first | exact Sel.here _ _ | apply Sel.there)) (vec_rd (List.Mem.head _)) (by rfl) ⟨rfl, rfl, rfl, trivial⟩ (by omega) rfl ?_; intro _ _)) | (first | (refine sx ?_; try intro _)))
      refine JS_again4 again (n - 1) (A ++ [(l, 0, 0)]) _ _ ⟨by rw [List.append_assoc]; exact hA, by simp; omega⟩ (by omega) ⟨rfl, rfl, by rw [List.length_append]; rfl, trivial⟩ (fun w hw => ?_)
      rw [← rv_app1, List.length_append]
      exact St.sub (by repeat (first | exact List.Sublist.refl _ | apply List.Sublist.cons_cons | apply List.Sublist.cons)) hw
    · have hmin : min (n : Int) 6 = ((min n 6 : Nat) : Int) := by omega
      have hk : min n 6 ≤ n ∧ 3 ≤ min n 6 ∧ min n 6 ≤ 6 := by omega
      rw [Sq.tails_big (by omega)] at hA
      generalize min n 6 = k at hA hmin hk
      have e1 : IntKind.i64.wrap ((k : Int) - 3) = ((k - 3 : Nat) : Int) := (wi64 (by omega)).trans (by omega)
      have e2 : IntKind.i64.wrap ((n : Int) - (k : Int)) = ((n - k : Nat) : Int) := (wi64 (by omega)).trans (by omega)
      repeat (first | (apply gJO; first | refine JO_v (oc_min (V_min rfl rfl hmin rfl)) ?_ | refine JO_v (V_sub rfl rfl e1 rfl) ?_ | refine JO_v (V_sub rfl rfl e2 rfl) ?_ | (refine JO_app (tb := tb) rfl rfl rfl rfl rfl rfl (by repeat (first | exact Sel.here _ _ | apply Sel.there)) (vec_rd (List.Mem.head _)) (by rfl) ⟨rfl, rfl, rfl, trivial⟩ (by omega) rfl ?_; intro _ _)) | (first | (refine sx ?_; try intro _)))
      refine JS_again4 again (n - k) (A ++ [(16, k - 3, 2)]) _ _ ⟨by rw [List.append_assoc]; exact hA, by simp; omega⟩ (by omega) ⟨rfl, rfl, by rw [List.length_append]; rfl, trivial⟩ (fun w hw => ?_)
      rw [← rv_app1, List.length_append]
      exact St.sub (by repeat (first | exact List.Sublist.refl _ | apply List.Sublist.cons_cons | apply List.Sublist.cons)) hw
end
end Go.Proofs.Ytbiocgenbgbfpaa
