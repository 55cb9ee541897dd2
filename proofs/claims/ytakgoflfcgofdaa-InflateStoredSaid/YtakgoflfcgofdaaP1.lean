import Derived.Test.YtakgoflfcgofdaaTb
/- Steps whose side goals are sought by a default tactic: one word an operation. -/
namespace Go.Proofs.Ytakgoflfcgofdaa
open Sx Go
section
variable {f n : Nat} {R : Ending → World → Prop} {D : List Deferred} {w0 : World} {k : List Item} {ov : Ov} {H H' : List Asn} {K : KC} {Z : Array Oper × List Nat}
  {ops : Array Oper} {l : List Oper} {d : Option Nat} {T T1 T2 : Nat} {pos : String} {af : Array Edge} {g : Option (Nat × Bool)} {x y z : Operand} {v u : Value} {op : Op} {bop : BinOp} {c : Call}
theorem oB (h : OpV Try.prog n D w0 ov H ⟨d, .binOp bop T1 x y T2, T, pos, af, g⟩ v) : OpV Try.prog n D w0 ov H ⟨d, .binOp bop T1 x y T2, T, pos, af, g⟩ v := h
theorem oK (h : OpV Try.prog n D w0 ov H ⟨d, .binOp bop T1 x (.const u) T2, T, pos, af, g⟩ v) : OpV Try.prog n D w0 ov H ⟨d, .binOp bop T1 x (.const u) T2, T, pos, af, g⟩ v := h
theorem ob_add (h : OpV Try.prog n D w0 ov H ⟨d, .binOp .add T1 x y T2, T, pos, af, g⟩ v) : OpV Try.prog n D w0 ov H ⟨d, .binOp .add T1 x y T2, T, pos, af, g⟩ v := h
theorem ob_sub (h : OpV Try.prog n D w0 ov H ⟨d, .binOp .sub T1 x y T2, T, pos, af, g⟩ v) : OpV Try.prog n D w0 ov H ⟨d, .binOp .sub T1 x y T2, T, pos, af, g⟩ v := h
theorem ob_mul (h : OpV Try.prog n D w0 ov H ⟨d, .binOp .mul T1 x y T2, T, pos, af, g⟩ v) : OpV Try.prog n D w0 ov H ⟨d, .binOp .mul T1 x y T2, T, pos, af, g⟩ v := h
theorem ob_quo (h : OpV Try.prog n D w0 ov H ⟨d, .binOp .quo T1 x y T2, T, pos, af, g⟩ v) : OpV Try.prog n D w0 ov H ⟨d, .binOp .quo T1 x y T2, T, pos, af, g⟩ v := h
theorem ob_rem (h : OpV Try.prog n D w0 ov H ⟨d, .binOp .rem T1 x y T2, T, pos, af, g⟩ v) : OpV Try.prog n D w0 ov H ⟨d, .binOp .rem T1 x y T2, T, pos, af, g⟩ v := h
theorem ob_and (h : OpV Try.prog n D w0 ov H ⟨d, .binOp .and T1 x y T2, T, pos, af, g⟩ v) : OpV Try.prog n D w0 ov H ⟨d, .binOp .and T1 x y T2, T, pos, af, g⟩ v := h
theorem ob_or (h : OpV Try.prog n D w0 ov H ⟨d, .binOp .or T1 x y T2, T, pos, af, g⟩ v) : OpV Try.prog n D w0 ov H ⟨d, .binOp .or T1 x y T2, T, pos, af, g⟩ v := h
theorem ob_xor (h : OpV Try.prog n D w0 ov H ⟨d, .binOp .xor T1 x y T2, T, pos, af, g⟩ v) : OpV Try.prog n D w0 ov H ⟨d, .binOp .xor T1 x y T2, T, pos, af, g⟩ v := h
theorem ob_shl (h : OpV Try.prog n D w0 ov H ⟨d, .binOp .shl T1 x y T2, T, pos, af, g⟩ v) : OpV Try.prog n D w0 ov H ⟨d, .binOp .shl T1 x y T2, T, pos, af, g⟩ v := h
theorem ob_shr (h : OpV Try.prog n D w0 ov H ⟨d, .binOp .shr T1 x y T2, T, pos, af, g⟩ v) : OpV Try.prog n D w0 ov H ⟨d, .binOp .shr T1 x y T2, T, pos, af, g⟩ v := h
theorem ob_eql (h : OpV Try.prog n D w0 ov H ⟨d, .binOp .eql T1 x y T2, T, pos, af, g⟩ v) : OpV Try.prog n D w0 ov H ⟨d, .binOp .eql T1 x y T2, T, pos, af, g⟩ v := h
theorem ob_neq (h : OpV Try.prog n D w0 ov H ⟨d, .binOp .neq T1 x y T2, T, pos, af, g⟩ v) : OpV Try.prog n D w0 ov H ⟨d, .binOp .neq T1 x y T2, T, pos, af, g⟩ v := h
theorem ob_lss (h : OpV Try.prog n D w0 ov H ⟨d, .binOp .lss T1 x y T2, T, pos, af, g⟩ v) : OpV Try.prog n D w0 ov H ⟨d, .binOp .lss T1 x y T2, T, pos, af, g⟩ v := h
theorem ob_leq (h : OpV Try.prog n D w0 ov H ⟨d, .binOp .leq T1 x y T2, T, pos, af, g⟩ v) : OpV Try.prog n D w0 ov H ⟨d, .binOp .leq T1 x y T2, T, pos, af, g⟩ v := h
theorem ob_gtr (h : OpV Try.prog n D w0 ov H ⟨d, .binOp .gtr T1 x y T2, T, pos, af, g⟩ v) : OpV Try.prog n D w0 ov H ⟨d, .binOp .gtr T1 x y T2, T, pos, af, g⟩ v := h
theorem ob_geq (h : OpV Try.prog n D w0 ov H ⟨d, .binOp .geq T1 x y T2, T, pos, af, g⟩ v) : OpV Try.prog n D w0 ov H ⟨d, .binOp .geq T1 x y T2, T, pos, af, g⟩ v := h
theorem oc_len {xs : Array Operand} {ts : Array Nat} (h : OpV Try.prog n D w0 ov H ⟨d, .call ⟨.builtin .len, xs, ts⟩, T, pos, af, g⟩ v) : OpV Try.prog n D w0 ov H ⟨d, .call ⟨.builtin .len, xs, ts⟩, T, pos, af, g⟩ v := h
theorem oc_cap {xs : Array Operand} {ts : Array Nat} (h : OpV Try.prog n D w0 ov H ⟨d, .call ⟨.builtin .cap, xs, ts⟩, T, pos, af, g⟩ v) : OpV Try.prog n D w0 ov H ⟨d, .call ⟨.builtin .cap, xs, ts⟩, T, pos, af, g⟩ v := h
theorem oc_min {xs : Array Operand} {ts : Array Nat} (h : OpV Try.prog n D w0 ov H ⟨d, .call ⟨.builtin .min, xs, ts⟩, T, pos, af, g⟩ v) : OpV Try.prog n D w0 ov H ⟨d, .call ⟨.builtin .min, xs, ts⟩, T, pos, af, g⟩ v := h
theorem oc_max {xs : Array Operand} {ts : Array Nat} (h : OpV Try.prog n D w0 ov H ⟨d, .call ⟨.builtin .max, xs, ts⟩, T, pos, af, g⟩ v) : OpV Try.prog n D w0 ov H ⟨d, .call ⟨.builtin .max, xs, ts⟩, T, pos, af, g⟩ v := h
theorem oMv (h : OpV Try.prog n D w0 ov H ⟨d, .move x, T, pos, af, g⟩ v) : OpV Try.prog n D w0 ov H ⟨d, .move x, T, pos, af, g⟩ v := h
theorem oAs (h : OpV Try.prog n D w0 ov H ⟨d, .assign x, T, pos, af, g⟩ v) : OpV Try.prog n D w0 ov H ⟨d, .assign x, T, pos, af, g⟩ v := h
theorem oL (h : OpV Try.prog n D w0 ov H ⟨d, .load T1 x, T, pos, af, g⟩ v) : OpV Try.prog n D w0 ov H ⟨d, .load T1 x, T, pos, af, g⟩ v := h
theorem oE (h : OpV Try.prog n D w0 ov H ⟨d, .extract x T1, T, pos, af, g⟩ v) : OpV Try.prog n D w0 ov H ⟨d, .extract x T1, T, pos, af, g⟩ v := h
theorem oCv (h : OpV Try.prog n D w0 ov H ⟨d, .convert T1 T2 x, T, pos, af, g⟩ v) : OpV Try.prog n D w0 ov H ⟨d, .convert T1 T2 x, T, pos, af, g⟩ v := h
theorem oP (h : OpV Try.prog n D w0 ov H ⟨d, .pick x y z, T, pos, af, g⟩ v) : OpV Try.prog n D w0 ov H ⟨d, .pick x y z, T, pos, af, g⟩ v := h
theorem oN (h : OpV Try.prog n D w0 ov H ⟨d, .nilCheck x, T, pos, af, g⟩ v) : OpV Try.prog n D w0 ov H ⟨d, .nilCheck x, T, pos, af, g⟩ v := h
theorem oFA (h : OpV Try.prog n D w0 ov H ⟨d, .fieldAddr T1 x T2, T, pos, af, g⟩ v) : OpV Try.prog n D w0 ov H ⟨d, .fieldAddr T1 x T2, T, pos, af, g⟩ v := h
theorem oIA (h : OpV Try.prog n D w0 ov H ⟨d, .indexAddr T1 x y, T, pos, af, g⟩ v) : OpV Try.prog n D w0 ov H ⟨d, .indexAddr T1 x y, T, pos, af, g⟩ v := h
theorem oI (h : OpV Try.prog n D w0 ov H ⟨d, .index T1 x y, T, pos, af, g⟩ v) : OpV Try.prog n D w0 ov H ⟨d, .index T1 x y, T, pos, af, g⟩ v := h
theorem oU {uop : UnOp} (h : OpV Try.prog n D w0 ov H ⟨d, .unOp uop T1 x, T, pos, af, g⟩ v) : OpV Try.prog n D w0 ov H ⟨d, .unOp uop T1 x, T, pos, af, g⟩ v := h
theorem oBd {ps : Array (Nat × Operand)} (h : OpV Try.prog n D w0 ov H ⟨d, .build T1 ps, T, pos, af, g⟩ v) : OpV Try.prog n D w0 ov H ⟨d, .build T1 ps, T, pos, af, g⟩ v := h
theorem oF {fn : Fn} {xs ys : Array Operand} (h : OpV Try.prog n D w0 ov H ⟨d, .makeFunc fn xs ys, T, pos, af, g⟩ v) : OpV Try.prog n D w0 ov H ⟨d, .makeFunc fn xs ys, T, pos, af, g⟩ v := h
theorem oSl {lo hi mx : Option Operand} (h : OpV Try.prog n D w0 ov H ⟨d, .slice T1 x lo hi mx, T, pos, af, g⟩ v) : OpV Try.prog n D w0 ov H ⟨d, .slice T1 x lo hi mx, T, pos, af, g⟩ v := h
theorem oJL (h : JO Try.prog f n R D w0 ops ⟨d, .load T1 x, T, pos, af, g⟩ l k ov H) : JO Try.prog f n R D w0 ops ⟨d, .load T1 x, T, pos, af, g⟩ l k ov H := h
theorem kS (h : JO Try.prog f n R D w0 ops ⟨d, .store T1 x y, T, pos, af, g⟩ l k ov H) : JO Try.prog f n R D w0 ops ⟨d, .store T1 x y, T, pos, af, g⟩ l k ov H := h
theorem kX (h : JO Try.prog f n R D w0 ops ⟨d, .box T1 x, T, pos, af, g⟩ l k ov H) : JO Try.prog f n R D w0 ops ⟨d, .box T1 x, T, pos, af, g⟩ l k ov H := h
theorem kA (h : JO Try.prog f n R D w0 ops ⟨d, .alloc T1, T, pos, af, g⟩ l k ov H) : JO Try.prog f n R D w0 ops ⟨d, .alloc T1, T, pos, af, g⟩ l k ov H := h
theorem kBs {ps : Array (Nat × Operand)} (h : JO Try.prog f n R D w0 ops ⟨d, .buildSlice T1 T2 ps, T, pos, af, g⟩ l k ov H) : JO Try.prog f n R D w0 ops ⟨d, .buildSlice T1 T2 ps, T, pos, af, g⟩ l k ov H := h
theorem kM (h : JO Try.prog f n R D w0 ops ⟨d, .makeSlice T1 x y, T, pos, af, g⟩ l k ov H) : JO Try.prog f n R D w0 ops ⟨d, .makeSlice T1 x y, T, pos, af, g⟩ l k ov H := h
theorem kC {xs : Array Operand} {ts : Array Nat} (h : JO Try.prog f n R D w0 ops ⟨d, .call ⟨.value x, xs, ts⟩, T, pos, af, g⟩ l k ov H) : JO Try.prog f n R D w0 ops ⟨d, .call ⟨.value x, xs, ts⟩, T, pos, af, g⟩ l k ov H := h
theorem aO (hn : JR Try.prog f n R D w0 ops l k (put d v ov) H) (h : OpV Try.prog n D w0 ov H ⟨d, op, T, pos, af, g⟩ v := by first | (apply oMv; exact V_move rfl rfl) | (apply oAs; exact V_assign rfl rfl) | (apply oL; first | exact V_load (tb := tb) rfl (by repeat (first | apply List.Mem.head | apply List.Mem.tail)) rfl rfl rfl rfl | exact V_loadC (tb := tb) rfl (by first | exact vec_rd (by repeat (first | apply List.Mem.head | apply List.Mem.tail)) | assumption | exact ArgRd.rd (by assumption) _ | (apply Rd_weak; assumption; intro _ hx; exact St.sub (by repeat (first | exact List.Sublist.refl _ | apply List.Sublist.cons_cons | apply List.Sublist.cons)) hx)) rfl rfl (by first | exact ints_get (by omega) | exact rfl) rfl | exact V_loadA (tb := tb) rfl (by repeat (first | apply List.Mem.head | apply List.Mem.tail)) rfl rfl rfl rfl) | (apply oB; first | (apply ob_add; first | exact V_add rfl rfl (by first | exact wi64 (by omega) | exact wu64 (by omega) | exact wu32 (by omega) | exact wu8 (by omega) | exact mu64 _ | exact mu32 _ | exact mu8 _ | exact mi64 _ | exact rfl) rfl) | (apply ob_sub; first | exact V_sub rfl rfl (by first | exact wi64 (by omega) | exact wu64 (by omega) | exact wu32 (by omega) | exact wu8 (by omega) | exact mu64 _ | exact mu32 _ | exact mu8 _ | exact mi64 _ | exact rfl) rfl) | (apply ob_mul; first | exact V_mul rfl rfl (by first | exact wi64 (by omega) | exact wu64 (by omega) | exact wu32 (by omega) | exact wu8 (by omega) | exact mu64 _ | exact mu32 _ | exact mu8 _ | exact mi64 _ | exact rfl) rfl) | (apply ob_eql; first | exact V_eqlT rfl rfl (by omega) rfl | exact V_eqlF rfl rfl (by omega) rfl | exact V_eql rfl rfl rfl) | (apply ob_neq; first | exact V_neqT rfl rfl (by omega) rfl | exact V_neqF rfl rfl (by omega) rfl | exact V_neq rfl rfl rfl) | (apply ob_lss; first | exact V_lssT rfl rfl (by omega) rfl | exact V_lssF rfl rfl (by omega) rfl | exact V_lss rfl rfl rfl) | (apply ob_leq; first | exact V_leqT rfl rfl (by omega) rfl | exact V_leqF rfl rfl (by omega) rfl | exact V_leq rfl rfl rfl) | (apply ob_gtr; first | exact V_gtrT rfl rfl (by omega) rfl | exact V_gtrF rfl rfl (by omega) rfl | exact V_gtr rfl rfl rfl) | (apply ob_geq; first | exact V_geqT rfl rfl (by omega) rfl | exact V_geqF rfl rfl (by omega) rfl | exact V_geq rfl rfl rfl) | (apply ob_quo; first | exact V_quo rfl rfl (by omega) (by first | exact IntWalk.i64_quo _ _ (by omega) | exact IntWalk.u64_quo _ _ (by omega) | exact IntWalk.u32_quo _ _ (by omega) | exact IntWalk.u8_quo _ _ (by omega)) rfl) | (apply ob_rem; first | exact V_rem rfl rfl (by omega) (Int.tmod_eq_emod_of_nonneg (by omega)) rfl) | (apply ob_and; first | exact V_and rfl rfl (by first | exact mask32_u64 (by omega) | exact mask_u64 8 (by decide) (by omega) rfl | exact mask_u64 16 (by decide) (by omega) rfl) rfl) | (apply ob_eql; first | exact V_eqP (tb := tb) rfl rfl rfl rfl | exact V_eqBB (tb := tb) rfl rfl rfl rfl | exact V_eqB (tb := tb) rfl rfl rfl rfl | exact V_eqNil (tb := tb) rfl rfl rfl rfl | exact V_eqStr rfl rfl (by assumption) (by assumption) rfl) | (apply ob_neq; first | exact V_neP (tb := tb) rfl rfl rfl rfl | exact V_neBB (tb := tb) rfl rfl rfl rfl | exact V_neB (tb := tb) rfl rfl rfl rfl | exact V_neStr rfl rfl (by assumption) (by assumption) rfl) | (apply oK; first | (apply ob_shr; exact V_shr (m := _) rfl rfl (by omega) (by simp only [IntKind.bits, Int.reduceToNat, Nat.reduceLeDiff, Nat.min_eq_left]; exact rfl) (by first | (simp only [Int.reducePow]; exact rfl) | exact rfl) rfl) | (apply ob_shl; exact V_shl (m := _) rfl rfl (by omega) (by simp only [IntKind.bits, Int.reduceToNat, Nat.reduceLeDiff, Nat.min_eq_left]; exact rfl) (by (try simp only [Int.reducePow]); first | exact wi64 (by omega) | exact wu64 (by omega) | exact wu32 (by omega) | exact wu8 (by omega) | exact mu64 _ | exact mu32 _ | exact mu8 _ | exact mi64 _ | exact rfl) rfl))) | (apply oE; first | exact V_extract rfl rfl rfl) | (apply oc_len; exact V_len (tb := tb) rfl rfl rfl) | (apply oc_len; exact V_lenS (tb := tb) rfl rfl rfl) | (apply oc_min; exact V_min rfl rfl rfl rfl) | (apply oc_max; exact V_max rfl rfl rfl rfl) | (apply oCv; first | exact V_conv (tb := tb) rfl rfl rfl (by first | exact wi64 (by omega) | exact wu64 (by omega) | exact wu32 (by omega) | exact wu8 (by omega) | exact mu64 _ | exact mu32 _ | exact mu8 _ | exact mi64 _ | exact rfl) rfl | exact V_str (tb := tb) rfl (by first | exact vec_rd (by repeat (first | apply List.Mem.head | apply List.Mem.tail)) | assumption | exact ArgRd.rd (by assumption) _ | (apply Rd_weak; assumption; intro _ hx; exact St.sub (by repeat (first | exact List.Sublist.refl _ | apply List.Sublist.cons_cons | apply List.Sublist.cons)) hx)) (by first | assumption | rfl | omega) rfl rfl rfl rfl) | (apply oP; first | exact V_pickT rfl rfl rfl | exact V_pickF rfl rfl rfl | exact V_pickB rfl rfl rfl rfl) | (apply oU; first | exact V_notD rfl rfl | exact V_not rfl rfl | exact V_neg rfl (by first | exact wi64 (by omega) | exact wu64 (by omega) | exact wu32 (by omega) | exact wu8 (by omega) | exact mu64 _ | exact mu32 _ | exact mu8 _ | exact mi64 _ | exact rfl) rfl) | (apply oN; first | exact V_nilCheck rfl rfl) | (apply oFA; first | exact V_field (tb := tb) rfl rfl rfl rfl rfl rfl | exact V_fieldC (tb := tb) rfl (by first | exact Rd.sl (vec_rd (by repeat (first | apply List.Mem.head | apply List.Mem.tail))) | exact Rd.sl (by assumption) | exact Rd.sl (ArgRd.rd (by assumption) _) | (apply Rd.sl; (apply Rd_weak; assumption; intro _ hx; exact St.sub (by repeat (first | exact List.Sublist.refl _ | apply List.Sublist.cons_cons | apply List.Sublist.cons)) hx))) (by omega) rfl rfl rfl rfl rfl) | (apply oIA; first | exact V_index (tb := tb) rfl rfl rfl rfl (by first | exact Rd.sl (vec_rd (by repeat (first | apply List.Mem.head | apply List.Mem.tail))) | exact Rd.sl (by assumption) | exact Rd.sl (ArgRd.rd (by assumption) _) | (apply Rd.sl; (apply Rd_weak; assumption; intro _ hx; exact St.sub (by repeat (first | exact List.Sublist.refl _ | apply List.Sublist.cons_cons | apply List.Sublist.cons)) hx))) (by omega) (by (try simp only [tn, tna, tn1, tn2, tn3, tn4, tnd16, tnd8, Int.reduceToNat]); first | exact Nat.mul_one _ | exact rfl) rfl | exact V_indexA (tb := tb) rfl rfl rfl rfl (by omega) rfl) | (apply oBd; first | exact V_build (tb := tb) rfl rfl rfl rfl rfl) | (apply oF; first | exact V_makeFunc rfl rfl rfl)) : JO Try.prog f n R D w0 ops ⟨d, op, T, pos, af, g⟩ l k ov H := JO_v h hn
theorem aU (hn : JR Try.prog f n R D w0 ops l k (put d v ov) H) (h : OpV Try.prog n D w0 ov H ⟨d, op, T, pos, af, g⟩ v := by first | (apply oMv; exact V_move rfl rfl) | (apply oAs; exact V_assign rfl rfl) | (apply oL; first | exact V_load (tb := tb) rfl (by repeat (first | apply List.Mem.head | apply List.Mem.tail)) rfl rfl rfl rfl | exact V_loadC (tb := tb) rfl (by first | exact vec_rd (by repeat (first | apply List.Mem.head | apply List.Mem.tail)) | assumption | exact ArgRd.rd (by assumption) _ | (apply Rd_weak; assumption; intro _ hx; exact St.sub (by repeat (first | exact List.Sublist.refl _ | apply List.Sublist.cons_cons | apply List.Sublist.cons)) hx)) rfl rfl (by first | exact ints_get (by omega) | exact rfl) rfl | exact V_loadA (tb := tb) rfl (by repeat (first | apply List.Mem.head | apply List.Mem.tail)) rfl rfl rfl rfl) | (apply oB; first | (apply ob_add; first | exact V_add rfl rfl (by first | exact mu64 _ | exact mu32 _ | exact mu8 _ | exact rfl) rfl) | (apply ob_sub; first | exact V_sub rfl rfl (by first | exact mu64 _ | exact mu32 _ | exact mu8 _ | exact rfl) rfl) | (apply ob_mul; first | exact V_mul rfl rfl (by first | exact mu64 _ | exact mu32 _ | exact mu8 _ | exact rfl) rfl) | (apply ob_eql; first | exact V_eqlT rfl rfl (by omega) rfl | exact V_eqlF rfl rfl (by omega) rfl | exact V_eql rfl rfl rfl) | (apply ob_neq; first | exact V_neqT rfl rfl (by omega) rfl | exact V_neqF rfl rfl (by omega) rfl | exact V_neq rfl rfl rfl) | (apply ob_lss; first | exact V_lssT rfl rfl (by omega) rfl | exact V_lssF rfl rfl (by omega) rfl | exact V_lss rfl rfl rfl) | (apply ob_leq; first | exact V_leqT rfl rfl (by omega) rfl | exact V_leqF rfl rfl (by omega) rfl | exact V_leq rfl rfl rfl) | (apply ob_gtr; first | exact V_gtrT rfl rfl (by omega) rfl | exact V_gtrF rfl rfl (by omega) rfl | exact V_gtr rfl rfl rfl) | (apply ob_geq; first | exact V_geqT rfl rfl (by omega) rfl | exact V_geqF rfl rfl (by omega) rfl | exact V_geq rfl rfl rfl) | (apply ob_quo; first | exact V_quo rfl rfl (by omega) (by first | exact IntWalk.i64_quo _ _ (by omega) | exact IntWalk.u64_quo _ _ (by omega) | exact IntWalk.u32_quo _ _ (by omega) | exact IntWalk.u8_quo _ _ (by omega)) rfl) | (apply ob_rem; first | exact V_rem rfl rfl (by omega) (Int.tmod_eq_emod_of_nonneg (by omega)) rfl) | (apply ob_and; first | exact V_and rfl rfl (by first | exact mask32_u64 (by omega) | exact mask_u64 8 (by decide) (by omega) rfl | exact mask_u64 16 (by decide) (by omega) rfl) rfl) | (apply ob_eql; first | exact V_eqP (tb := tb) rfl rfl rfl rfl | exact V_eqBB (tb := tb) rfl rfl rfl rfl | exact V_eqB (tb := tb) rfl rfl rfl rfl | exact V_eqNil (tb := tb) rfl rfl rfl rfl | exact V_eqStr rfl rfl (by assumption) (by assumption) rfl) | (apply ob_neq; first | exact V_neP (tb := tb) rfl rfl rfl rfl | exact V_neBB (tb := tb) rfl rfl rfl rfl | exact V_neB (tb := tb) rfl rfl rfl rfl | exact V_neStr rfl rfl (by assumption) (by assumption) rfl) | (apply oK; first | (apply ob_shr; exact V_shr (m := _) rfl rfl (by omega) (by simp only [IntKind.bits, Int.reduceToNat, Nat.reduceLeDiff, Nat.min_eq_left]; exact rfl) (by first | (simp only [Int.reducePow]; exact rfl) | exact rfl) rfl) | (apply ob_shl; exact V_shl (m := _) rfl rfl (by omega) (by simp only [IntKind.bits, Int.reduceToNat, Nat.reduceLeDiff, Nat.min_eq_left]; exact rfl) (by (try simp only [Int.reducePow]); first | exact mu64 _ | exact mu32 _ | exact mu8 _ | exact rfl) rfl))) | (apply oE; first | exact V_extract rfl rfl rfl) | (apply oc_len; exact V_len (tb := tb) rfl rfl rfl) | (apply oc_len; exact V_lenS (tb := tb) rfl rfl rfl) | (apply oc_min; exact V_min rfl rfl rfl rfl) | (apply oc_max; exact V_max rfl rfl rfl rfl) | (apply oCv; first | exact V_conv (tb := tb) rfl rfl rfl (by first | exact mu64 _ | exact mu32 _ | exact mu8 _ | exact rfl) rfl | exact V_str (tb := tb) rfl (by first | exact vec_rd (by repeat (first | apply List.Mem.head | apply List.Mem.tail)) | assumption | exact ArgRd.rd (by assumption) _ | (apply Rd_weak; assumption; intro _ hx; exact St.sub (by repeat (first | exact List.Sublist.refl _ | apply List.Sublist.cons_cons | apply List.Sublist.cons)) hx)) (by first | assumption | rfl | omega) rfl rfl rfl rfl) | (apply oP; first | exact V_pickT rfl rfl rfl | exact V_pickF rfl rfl rfl | exact V_pickB rfl rfl rfl rfl) | (apply oU; first | exact V_notD rfl rfl | exact V_not rfl rfl | exact V_neg rfl (by first | exact mu64 _ | exact mu32 _ | exact mu8 _ | exact rfl) rfl) | (apply oN; first | exact V_nilCheck rfl rfl) | (apply oFA; first | exact V_field (tb := tb) rfl rfl rfl rfl rfl rfl | exact V_fieldC (tb := tb) rfl (by first | exact Rd.sl (vec_rd (by repeat (first | apply List.Mem.head | apply List.Mem.tail))) | exact Rd.sl (by assumption) | exact Rd.sl (ArgRd.rd (by assumption) _) | (apply Rd.sl; (apply Rd_weak; assumption; intro _ hx; exact St.sub (by repeat (first | exact List.Sublist.refl _ | apply List.Sublist.cons_cons | apply List.Sublist.cons)) hx))) (by omega) rfl rfl rfl rfl rfl) | (apply oIA; first | exact V_index (tb := tb) rfl rfl rfl rfl (by first | exact Rd.sl (vec_rd (by repeat (first | apply List.Mem.head | apply List.Mem.tail))) | exact Rd.sl (by assumption) | exact Rd.sl (ArgRd.rd (by assumption) _) | (apply Rd.sl; (apply Rd_weak; assumption; intro _ hx; exact St.sub (by repeat (first | exact List.Sublist.refl _ | apply List.Sublist.cons_cons | apply List.Sublist.cons)) hx))) (by omega) (by (try simp only [tn, tna, tn1, tn2, tn3, tn4, tnd16, tnd8, Int.reduceToNat]); first | exact Nat.mul_one _ | exact rfl) rfl | exact V_indexA (tb := tb) rfl rfl rfl rfl (by omega) rfl) | (apply oBd; first | exact V_build (tb := tb) rfl rfl rfl rfl rfl) | (apply oF; first | exact V_makeFunc rfl rfl rfl)) : JO Try.prog f n R D w0 ops ⟨d, op, T, pos, af, g⟩ l k ov H := JO_v h hn
theorem aK (hn : JR Try.prog f n R D w0 ops l k (put d undef ov) H') (h : OpK Try.prog n D w0 ov H ⟨d, op, T, pos, af, g⟩ H' := by first | exact K_store (tb := tb) rfl rfl (by repeat (first | apply Upd.here | apply Upd.there)) rfl rfl rfl (by repeat (first | exact trivial | refine ⟨rfl, ?_⟩)) rfl rfl | exact K_storeC1 (tb := tb) rfl rfl ints_set (by repeat (first | apply Upd.here | apply Upd.there)) rfl rfl (by rw [ints_len]; omega) rfl) : JO Try.prog f n R D w0 ops ⟨d, op, T, pos, af, g⟩ l k ov H := JO_k h hn
theorem aQ (hn : QR Try.prog n D w0 Z l (put d v ov) H K) (h : OpV Try.prog n D w0 ov H ⟨d, op, T, pos, af, g⟩ v := by first | (apply oMv; exact V_move rfl rfl) | (apply oAs; exact V_assign rfl rfl) | (apply oL; first | exact V_load (tb := tb) rfl (by repeat (first | apply List.Mem.head | apply List.Mem.tail)) rfl rfl rfl rfl | exact V_loadC (tb := tb) rfl (by first | exact vec_rd (by repeat (first | apply List.Mem.head | apply List.Mem.tail)) | assumption | exact ArgRd.rd (by assumption) _ | (apply Rd_weak; assumption; intro _ hx; exact St.sub (by repeat (first | exact List.Sublist.refl _ | apply List.Sublist.cons_cons | apply List.Sublist.cons)) hx)) rfl rfl (by first | exact ints_get (by omega) | exact rfl) rfl | exact V_loadA (tb := tb) rfl (by repeat (first | apply List.Mem.head | apply List.Mem.tail)) rfl rfl rfl rfl) | (apply oB; first | (apply ob_add; first | exact V_add rfl rfl (by first | exact wi64 (by omega) | exact wu64 (by omega) | exact wu32 (by omega) | exact wu8 (by omega) | exact mu64 _ | exact mu32 _ | exact mu8 _ | exact mi64 _ | exact rfl) rfl) | (apply ob_sub; first | exact V_sub rfl rfl (by first | exact wi64 (by omega) | exact wu64 (by omega) | exact wu32 (by omega) | exact wu8 (by omega) | exact mu64 _ | exact mu32 _ | exact mu8 _ | exact mi64 _ | exact rfl) rfl) | (apply ob_mul; first | exact V_mul rfl rfl (by first | exact wi64 (by omega) | exact wu64 (by omega) | exact wu32 (by omega) | exact wu8 (by omega) | exact mu64 _ | exact mu32 _ | exact mu8 _ | exact mi64 _ | exact rfl) rfl) | (apply ob_eql; first | exact V_eqlT rfl rfl (by omega) rfl | exact V_eqlF rfl rfl (by omega) rfl | exact V_eql rfl rfl rfl) | (apply ob_neq; first | exact V_neqT rfl rfl (by omega) rfl | exact V_neqF rfl rfl (by omega) rfl | exact V_neq rfl rfl rfl) | (apply ob_lss; first | exact V_lssT rfl rfl (by omega) rfl | exact V_lssF rfl rfl (by omega) rfl | exact V_lss rfl rfl rfl) | (apply ob_leq; first | exact V_leqT rfl rfl (by omega) rfl | exact V_leqF rfl rfl (by omega) rfl | exact V_leq rfl rfl rfl) | (apply ob_gtr; first | exact V_gtrT rfl rfl (by omega) rfl | exact V_gtrF rfl rfl (by omega) rfl | exact V_gtr rfl rfl rfl) | (apply ob_geq; first | exact V_geqT rfl rfl (by omega) rfl | exact V_geqF rfl rfl (by omega) rfl | exact V_geq rfl rfl rfl) | (apply ob_quo; first | exact V_quo rfl rfl (by omega) (by first | exact IntWalk.i64_quo _ _ (by omega) | exact IntWalk.u64_quo _ _ (by omega) | exact IntWalk.u32_quo _ _ (by omega) | exact IntWalk.u8_quo _ _ (by omega)) rfl) | (apply ob_rem; first | exact V_rem rfl rfl (by omega) (Int.tmod_eq_emod_of_nonneg (by omega)) rfl) | (apply ob_and; first | exact V_and rfl rfl (by first | exact mask32_u64 (by omega) | exact mask_u64 8 (by decide) (by omega) rfl | exact mask_u64 16 (by decide) (by omega) rfl) rfl) | (apply ob_eql; first | exact V_eqP (tb := tb) rfl rfl rfl rfl | exact V_eqBB (tb := tb) rfl rfl rfl rfl | exact V_eqB (tb := tb) rfl rfl rfl rfl | exact V_eqNil (tb := tb) rfl rfl rfl rfl | exact V_eqStr rfl rfl (by assumption) (by assumption) rfl) | (apply ob_neq; first | exact V_neP (tb := tb) rfl rfl rfl rfl | exact V_neBB (tb := tb) rfl rfl rfl rfl | exact V_neB (tb := tb) rfl rfl rfl rfl | exact V_neStr rfl rfl (by assumption) (by assumption) rfl) | (apply oK; first | (apply ob_shr; exact V_shr (m := _) rfl rfl (by omega) (by simp only [IntKind.bits, Int.reduceToNat, Nat.reduceLeDiff, Nat.min_eq_left]; exact rfl) (by first | (simp only [Int.reducePow]; exact rfl) | exact rfl) rfl) | (apply ob_shl; exact V_shl (m := _) rfl rfl (by omega) (by simp only [IntKind.bits, Int.reduceToNat, Nat.reduceLeDiff, Nat.min_eq_left]; exact rfl) (by (try simp only [Int.reducePow]); first | exact wi64 (by omega) | exact wu64 (by omega) | exact wu32 (by omega) | exact wu8 (by omega) | exact mu64 _ | exact mu32 _ | exact mu8 _ | exact mi64 _ | exact rfl) rfl))) | (apply oE; first | exact V_extract rfl rfl rfl) | (apply oc_len; exact V_len (tb := tb) rfl rfl rfl) | (apply oc_len; exact V_lenS (tb := tb) rfl rfl rfl) | (apply oc_min; exact V_min rfl rfl rfl rfl) | (apply oc_max; exact V_max rfl rfl rfl rfl) | (apply oCv; first | exact V_conv (tb := tb) rfl rfl rfl (by first | exact wi64 (by omega) | exact wu64 (by omega) | exact wu32 (by omega) | exact wu8 (by omega) | exact mu64 _ | exact mu32 _ | exact mu8 _ | exact mi64 _ | exact rfl) rfl | exact V_str (tb := tb) rfl (by first | exact vec_rd (by repeat (first | apply List.Mem.head | apply List.Mem.tail)) | assumption | exact ArgRd.rd (by assumption) _ | (apply Rd_weak; assumption; intro _ hx; exact St.sub (by repeat (first | exact List.Sublist.refl _ | apply List.Sublist.cons_cons | apply List.Sublist.cons)) hx)) (by first | assumption | rfl | omega) rfl rfl rfl rfl) | (apply oP; first | exact V_pickT rfl rfl rfl | exact V_pickF rfl rfl rfl | exact V_pickB rfl rfl rfl rfl) | (apply oU; first | exact V_notD rfl rfl | exact V_not rfl rfl | exact V_neg rfl (by first | exact wi64 (by omega) | exact wu64 (by omega) | exact wu32 (by omega) | exact wu8 (by omega) | exact mu64 _ | exact mu32 _ | exact mu8 _ | exact mi64 _ | exact rfl) rfl) | (apply oN; first | exact V_nilCheck rfl rfl) | (apply oFA; first | exact V_field (tb := tb) rfl rfl rfl rfl rfl rfl | exact V_fieldC (tb := tb) rfl (by first | exact Rd.sl (vec_rd (by repeat (first | apply List.Mem.head | apply List.Mem.tail))) | exact Rd.sl (by assumption) | exact Rd.sl (ArgRd.rd (by assumption) _) | (apply Rd.sl; (apply Rd_weak; assumption; intro _ hx; exact St.sub (by repeat (first | exact List.Sublist.refl _ | apply List.Sublist.cons_cons | apply List.Sublist.cons)) hx))) (by omega) rfl rfl rfl rfl rfl) | (apply oIA; first | exact V_index (tb := tb) rfl rfl rfl rfl (by first | exact Rd.sl (vec_rd (by repeat (first | apply List.Mem.head | apply List.Mem.tail))) | exact Rd.sl (by assumption) | exact Rd.sl (ArgRd.rd (by assumption) _) | (apply Rd.sl; (apply Rd_weak; assumption; intro _ hx; exact St.sub (by repeat (first | exact List.Sublist.refl _ | apply List.Sublist.cons_cons | apply List.Sublist.cons)) hx))) (by omega) (by (try simp only [tn, tna, tn1, tn2, tn3, tn4, tnd16, tnd8, Int.reduceToNat]); first | exact Nat.mul_one _ | exact rfl) rfl | exact V_indexA (tb := tb) rfl rfl rfl rfl (by omega) rfl) | (apply oBd; first | exact V_build (tb := tb) rfl rfl rfl rfl rfl) | (apply oF; first | exact V_makeFunc rfl rfl rfl)) (hlo : loud op = false := by rfl) : QO Try.prog n D w0 Z ⟨d, op, T, pos, af, g⟩ l ov H K := QO_v hlo h hn
theorem aQK (hs : Z.2.contains l.length = true) (hn : QR Try.prog n D w0 Z l (put d undef ov) H' K) (h : OpK Try.prog n D w0 ov H ⟨d, op, T, pos, af, g⟩ H' := by first | exact K_store (tb := tb) rfl rfl (by repeat (first | apply Upd.here | apply Upd.there)) rfl rfl rfl (by repeat (first | exact trivial | refine ⟨rfl, ?_⟩)) rfl rfl | exact K_storeC1 (tb := tb) rfl rfl ints_set (by repeat (first | apply Upd.here | apply Upd.there)) rfl rfl (by rw [ints_len]; omega) rfl) (hlo : loud op = true := by rfl) : QO Try.prog n D w0 Z ⟨d, op, T, pos, af, g⟩ l ov H K := QO_k hlo h hs hn
end
end Go.Proofs.Ytakgoflfcgofdaa

set_option linter.unusedVariables false
namespace Sx
open Go
/-! recover: a deferred function that begins with it -/
section
variable {P : Program} {f n : Nat} {R : Ending → World → Prop} {D : List Deferred} {w0 : World} {k : List Item} {ov : Ov} {H H' : List Asn}
  {ops : Array Oper} {l : List Oper} {d : Option Nat} {T : Nat} {pos : String} {af : Array Edge} {g : Option (Nat × Bool)} {x y : Operand} {v : Value} {tb : Tb P}
theorem enterR {fn : Func} {id : Nat} {dd : Nat} {rest : Code} {ts : Array Nat} {vs : List Value} {u u' : FrameMode} {w : World} (hf : P.funcs[f]? = some fn) (hb : fn.body = some (.seq (.region id #[⟨some dd, .call ⟨.builtin .recover, #[], ts⟩, T, pos, af, none⟩] false) rest)) (hn : fn.ntmps = n) (hl : Nat.ble vs.length n = true) (hd : Nat.blt dd n = true)
    (hw : St w0 H w) (hu : (u = .returning ∧ v = .nilIface ∧ u' = .returning) ∨ (∃ older, u = .panicking ({ v, recovered := false } :: older) ∧ u' = .panicking ({ v, recovered := true } :: older)))
    (h : JS P f n R [] w0 [.code rest] ((dd, v) :: argsOv 0 vs) H) : CallsD P f vs.toArray u w fun e u2 w' => u2 = u' ∧ R e w' := by
  intro c₀ cs hm
  let b : Frame := { (default : Frame) with fn := f, kind := .deferred }
  have hl' : vs.length ≤ n := Nat.le_of_ble_eq_true hl
  have hd' : dd < n := by rwa [Nat.blt_eq] at hd
  let o : Oper := ⟨some dd, .call ⟨.builtin .recover, #[], ts⟩, T, pos, af, none⟩
  let a0 : Act := { tmps := vs.toArray ++ Array.replicate (fn.ntmps - vs.toArray.size) undef, defers := [] }
  have henter : Frame.enter P f vs.toArray .deferred = b.at a0 [.code (.seq (.region id #[o] false) rest)] := by
    simp [Frame.enter, Frame.at, hf, hb, b, a0, o]
  have hrep : Rep n [] (argsOv 0 vs) a0 := by
    refine ⟨by simp [a0, hn]; omega, rfl, ?_⟩
    intro t v ht
    obtain ⟨_, h2⟩ := look_args vs 0 t v ht
    simp only [Nat.sub_zero] at h2
    have hlt : t < vs.length := (List.getElem?_eq_some_iff.1 h2).1
    simp only [a0]
    rw [Array.getElem?_append_left (by simpa using hlt)]
    simpa using h2
  have hrep' : Rep n [] ((dd, v) :: argsOv 0 vs) (a0.put (some dd) v) := hrep.put (d := some dd) (by simp [dOk, Nat.blt_eq, hd']) v
  have hrec : recoverD (c₀ :: cs) = match u with
      | .returning => none
      | _ => some (v, { c₀ with mode := u' } :: cs) := by
    rcases hu with ⟨rfl, rfl, rfl⟩ | ⟨older, rfl, rfl⟩
    · simp [recoverD, hm]
    · simp [recoverD, hm]
  have hrun : (execOp a0.eval o).run P w = .ok .recover w := by simp [o, execOp, resolve, invoke, builtin]
  have htr : tryRecover (b.at a0 (.inRegion #[o] [0] :: [.code rest])) (c₀ :: cs) = recoverD (c₀ :: cs) := tryRecover_deferred rfl _
  have hfin : ∀ v, (b.at a0 (.inRegion #[o] (0 :: []) :: [.code rest])).finish v = b.at (a0.put o.dst v) (.inRegion #[o] [] :: [.code rest]) := by
    intro v; rw [Frame.finish_at]; rfl
  have hg := stepG_op (P := P) (b := b) (a := a0) (k := [.code rest]) (cs := c₀ :: cs) (w := w) (ops := #[o]) (i := 0) (rest := []) (o := o) rfl rfl
  have h1 : step P (lone (b.at a0 [.code (.seq (.region id #[o] false) rest)]) (c₀ :: cs) w) = .next (lone (b.at a0 [.code (.region id #[o] false), .code rest]) (c₀ :: cs) w) := step_seq
  have h2 : step P (lone (b.at a0 [.code (.region id #[o] false), .code rest]) (c₀ :: cs) w) = .next (lone (b.at a0 [.inRegion #[o] [0], .code rest]) (c₀ :: cs) w) := step_region
  have h3 : step P (lone (b.at a0 [.inRegion #[o] [0], .code rest]) (c₀ :: cs) w) = .next (lone (b.at (a0.put (some dd) v) [.inRegion #[o] [], .code rest]) ({ c₀ with mode := u' } :: cs) w) := by
    refine step_lone_go ?_
    rw [hg]
    have hf' := hfin v
    rcases hu with ⟨rfl, rfl, rfl⟩ | ⟨older, rfl, rfl⟩
    · have hc : ({ c₀ with mode := .returning } : Frame) = c₀ := by rw [← hm]
      rw [hc, ← hf']
      simp only [Frame.at] at htr hrec ⊢
      simp [stepG.apply, hrun, htr, hrec]
    · rw [← hf']
      simp only [Frame.at] at htr hrec ⊢
      simp [stepG.apply, hrun, htr, hrec]
  have h4 : step P (lone (b.at (a0.put (some dd) v) [.inRegion #[o] [], .code rest]) ({ c₀ with mode := u' } :: cs) w) = .next (lone (b.at (a0.put (some dd) v) [.code rest]) ({ c₀ with mode := u' } :: cs) w) := step_region_end
  unfold JS J at h
  obtain ⟨e, w', fr, hR, hcm, hfn, hk, hgo⟩ := h _ w hrep' hw b ({ c₀ with mode := u' } :: cs) rfl (.inr rfl)
  rw [henter]
  exact ⟨e, u', w', fr, ⟨rfl, hR⟩, Comes.of_steps (.head h1 (.head h2 (.head h3 (.one h4)))) hcm, hk, hgo⟩
section
variable {t s1 b1 T2 : Nat} {z1 : Option (List Value)}
theorem und_iface (h : tlook tb.l t = some ⟨.iface, s1, b1, z1⟩) : ∃ ms, P.underlying t = some (.interface ms) := by
  obtain ⟨d, h1, h2⟩ := Tb.und h
  cases d <;> simp [tyOf] at h2
  exact ⟨_, h1⟩
theorem run_eqIN {ms : Array (String × TypeId)} (w : World) (d : Nat) (e1 : P.underlying t = some (.interface ms)) : (Op.equalIn (d + 1) t .nilIface .nilIface).run P w = .ok true w := by simp [Op.equalIn, run_underlying e1]
theorem run_eqIV {t2 : Nat} {u : Value} {ms : Array (String × TypeId)} (w : World) (d : Nat) (e1 : P.underlying t = some (.interface ms)) : (Op.equalIn (d + 1) t (.iface t2 u) .nilIface).run P w = .ok false w := by simp [Op.equalIn, run_underlying e1]
theorem V_eqIN (hx : ev ov x = some .nilIface) (h : tlook tb.l t = some ⟨.iface, s1, b1, z1⟩) (hd : dOk d n = true) :
    OpV P n D w0 ov H ⟨d, .binOp .eql t x (.const .nilIface) T2, T, pos, af, g⟩ (.bool true) := by
  unfold OpV
  exact ⟨hd, fun a w ha _ => by
    obtain ⟨ms, e1⟩ := und_iface h
    have hg : (eqGuard .eql t x (.const .nilIface) .nilIface .nilIface).run P w = .ok () w := by simp [eqGuard]
    have e2 := run_eqIN (P := P) w 9999 e1
    have hb : (binOp .eql t .nilIface .nilIface).run P w = .ok (.bool true) w := by
      simp only [binOp, Op.equal, Op.maxDepth, Sem.run_bind, e2, Result.andThen_ok, Sem.run_pure]
    have hc : a.eval (.const .nilIface) = .nilIface := rfl
    simp [execOp, ha.ev hx, hc, hg, hb]⟩
theorem V_eqIV {t2 : Nat} {u : Value} (hx : ev ov x = some (.iface t2 u)) (h : tlook tb.l t = some ⟨.iface, s1, b1, z1⟩) (hd : dOk d n = true) :
    OpV P n D w0 ov H ⟨d, .binOp .eql t x (.const .nilIface) T2, T, pos, af, g⟩ (.bool false) := by
  unfold OpV
  exact ⟨hd, fun a w ha _ => by
    obtain ⟨ms, e1⟩ := und_iface h
    have hg : (eqGuard .eql t x (.const .nilIface) (.iface t2 u) .nilIface).run P w = .ok () w := by simp [eqGuard]
    have e2 := run_eqIV (P := P) (t2 := t2) (u := u) w 9999 e1
    have hb : (binOp .eql t (.iface t2 u) .nilIface).run P w = .ok (.bool false) w := by
      simp only [binOp, Op.equal, Op.maxDepth, Sem.run_bind, e2, Result.andThen_ok, Sem.run_pure]
    have hc : a.eval (.const .nilIface) = .nilIface := rfl
    simp [execOp, ha.ev hx, hc, hg, hb]⟩
/-- the type is as it is asked -/
theorem V_assertT {tx t9 s2 b2 : Nat} {ty : Ty} {z2 : Option (List Value)} {u : Value} (hx : ev ov x = some (.iface t9 u)) (h : tlook tb.l t9 = some ⟨ty, s2, b2, z2⟩) (hi : ty ≠ .iface) (hd : dOk d n = true) :
    OpV P n D w0 ov H ⟨d, .typeAssert x tx t9 true, T, pos, af, g⟩ (.tuple #[u, .bool true]) := by
  unfold OpV
  exact ⟨hd, fun a w ha _ => by
    obtain ⟨dd, e1, e2⟩ := Tb.und h
    cases dd <;> simp [execOp, ha.ev hx, Instr.typeAssert, run_underlying e1]
    simp [tyOf] at e2; exact absurd e2.symm hi⟩
end
end
end Sx

set_option linter.unusedVariables false
namespace Sx
open Go
/-! arrays: built, sliced, read -/
section
variable {P : Program} {f n : Nat} {R : Ending → World → Prop} {D : List Deferred} {w0 : World} {k : List Item} {ov : Ov} {H H' : List Asn}
  {ops : Array Oper} {l : List Oper} {d : Option Nat} {T : Nat} {pos : String} {af : Array Edge} {g : Option (Nat × Bool)} {x y : Operand} {v : Value} {tb : Tb P}
section
variable {t e s1 b1 s2 b2 m : Nat} {z1 z2 : Option (List Value)} {ty2 : Ty}
theorem V_buildA {xs : List (Nat × Operand)} {vs : List (Nat × Value)} {z cs : List Value} (h : tlook tb.l t = some ⟨.arr m e, s1, b1, some z⟩) (h2 : tlook tb.l e = some ⟨ty2, s2, b2, z2⟩)
    (hx : pevs ov xs = some vs) (hc : fillL (fun i => some (i * s2, s2)) z vs = some cs) (hd : dOk d n = true) : OpV P n D w0 ov H ⟨d, .build t xs.toArray, T, pos, af, g⟩ (.agg cs.toArray) := by
  unfold OpV
  exact ⟨hd, (fun a w ha _ => by
    have e1 := run_underlying (und_arr h) w
    obtain ⟨zv, hz, e3⟩ := Tb.run_zero w h
    have hfill := fill_eq _ hc
    have hx' := ha.pevs hx
    simp only [execOp, Instr.build, Sem.run_bind, e3, Result.andThen_ok, e1, cellsL_eq, hz, Tb.run_size w h2, List.map_toArray, hx']
    simp [hfill])⟩
/-- an array behind a pointer, sliced -/
theorem V_sliceP {b c lo hi : Nat} {il ih : Int} {ol oh : Option Operand} (hx : ev ov x = some (.pointer (some ⟨b, 0, none⟩))) (h : tlook tb.l t = some ⟨.arr c e, s1, b1, z1⟩) (h2 : tlook tb.l e = some ⟨ty2, s2, b2, z2⟩)
    (hlo : evb ov ol 0 = some il) (hhi : evb ov oh c = some ih) (el : il = (lo : Int)) (eh : ih = (hi : Int)) (hb : lo ≤ hi ∧ hi ≤ c) (hd : dOk d n = true) :
    OpV P n D w0 ov H ⟨d, .slice t x ol oh none, T, pos, af, g⟩ (.slice (subB (some ⟨b, 0, none⟩) lo c s2) (hi - lo) (c - lo)) := by
  unfold OpV
  exact ⟨hd, (fun A w ha hw => by
    obtain ⟨hb1, hb2⟩ := hb
    have e1 := run_underlying (und_arr h) w
    have hL : (match ol.map A.eval with | some v => Instr.sliceBound v hi .sliceB | none => pure 0 : Sem Nat).run P w = .ok lo w := by
      cases ol with
      | none => simp only [evb, Option.some.injEq] at hlo; simp; omega
      | some y =>
        simp only [evb] at hlo
        split at hlo
        · rename_i K i hy
          cases hlo
          simp only [Option.map_some, ha.ev hy]
          rw [run_sliceBound w (by omega)]; congr 1; omega
        · cases hlo
    have hH : (match oh.map A.eval with | some v => Instr.sliceBound v c .sliceAlen | none => pure c : Sem Nat).run P w = .ok hi w := by
      cases oh with
      | none => simp only [evb, Option.some.injEq] at hhi; simp; omega
      | some y =>
        simp only [evb] at hhi
        split at hhi
        · rename_i K i hy
          cases hhi
          simp only [Option.map_some, ha.ev hy]
          rw [run_sliceBound w (by omega)]; congr 1; omega
        · cases hhi
    have hS : (Instr.sliceBounds false c c (ol.map A.eval) (oh.map A.eval) none).run P w = .ok (lo, hi, c) w := by
      cases ol <;> cases oh <;> simp_all [Instr.sliceBounds]
    have e4 : (if c = lo then (⟨b, 0, none⟩ : Addr) else (⟨b, 0, none⟩ : Addr).add (lo * s2)) = (if c = lo then (⟨b, 0, none⟩ : Addr) else (⟨b, 0, none⟩ : Addr).add (lo * s2)) := rfl
    by_cases hcl : c = lo
    · subst hcl; simp [execOp, ha.ev hx, Instr.sliceAt, Instr.sureAddr, e1, hS, Tb.run_size w h2, subB]
    · simp [execOp, ha.ev hx, Instr.sliceAt, Instr.sureAddr, e1, hS, Tb.run_size w h2, subB, hcl])⟩
end
theorem subB_0 {a : Option Addr} {c sz : Nat} : subB a 0 c sz = a := by
  unfold subB
  split
  · rfl
  · cases a with
    | none => rfl
    | some a => simp only [Option.map_some, Nat.zero_mul]; unfold Addr.add; simp
/-- a block, read as a slice -/
theorem blk_rd {b m c : Nat} {cs : List Value} (h : blk b cs ∈ H) (hm : m ≤ c) : Rd w0 H (.slice (some ⟨b, 0, none⟩) m c) m cs := by
  unfold Rd
  intro w hw
  obtain ⟨E, hE⟩ := blk_heap h hw
  refine ⟨⟨_, c, rfl, (fun h => nomatch h), hm⟩, fun j v hv => ⟨⟨b, 0 + j, none⟩, by rw [cellPtr_eq, add_blk], ?_⟩⟩
  rw [cell_row hE]
  simpa using hv
theorem setSeg_set : ∀ {cs : List Value} {i : Nat} {v : Value}, i < cs.length → setSeg cs i [v] = some (cs.set i v)
  | [], i, v, h => by simp at h
  | c :: cs, 0, v, h => by simp [setSeg, over]
  | c :: cs, i + 1, v, h => by
    simp only [setSeg]
    rw [setSeg_set (by simpa using h)]
    simp
theorem setSeg_ints {K : IntKind} {l : List Int} {i : Nat} {a : Int} (h : i < l.length) : setSeg (ints K l) i [.int K a] = some (ints K (l.set i a)) := by
  rw [setSeg_set (by rw [ints_len]; exact h), ints_set]
end
end Sx

set_option linter.unusedVariables false
namespace Sx
open Go
/-! a region that draws its order: the quiet operations are shown in a wider class of worlds (Hi) than the loud ones (H) -/
section
variable (P : Program) (E : List PanicEntry → List Deferred → World → Prop) (ops : Array Oper) (sy : List Nat) (K : (World → Prop) → Act → Prop)
def goN2 (next : (World → Prop) → (World → Prop) → Act → Prop) (m : Nat) (o : Oper) (I C : World → Prop) (a : Act) : Prop :=
  (loud o.op = false ∧ ∃ v, (∀ w, I w → (execOp a.eval o).run P w = .ok (.value v) w) ∧ next I C (a.put o.dst v)) ∨
  (loud o.op = true ∧ ∀ w, C w → Oper.wpN P E o a w fun a' w' => ∃ I' C' : World → Prop, C' w' ∧ (∀ w, C' w → I' w) ∧ ((∀ w, I' w → I w) ∨ sy.contains m = true) ∧ next I' C' a')
def walkN2 : List Oper → (World → Prop) → (World → Prop) → Act → Prop
  | [], I, C, a => K C a
  | o :: rest, I, C, a => if Region.wanted o (yielded ops a.tmps) then goN2 P E sy (walkN2 rest) rest.length o I C a else walkN2 rest I C (a.put o.dst undef)
end
section
variable {P : Program} {E : List PanicEntry → List Deferred → World → Prop} {ops : Array Oper}
theorem wpS_walk2 {sy : List Nat} {K : (World → Prop) → Act → Prop} (hsel : Region.noSelect ops = true) : ∀ (st done : List Nat) (l : List Oper) (listed : Array Bool) (I C : World → Prop) (a : Act), (∀ w, C w → I w) →
    l.map some = st.map (fun i => ops[i]?) → ordB ops sy done st listed = true → (∀ s ∈ done, s < ops.size) → (∀ j, listed.getD j false = true ↔ j ∈ done) → (∀ S, (∀ s ∈ done, calmAt ops s = false → s ∈ S) → Sofar ops S listed) → walkN2 P E ops sy K l I C a →
    ∀ w, C w → wpS P E ops I (till ops sy done st) (fun a w => ∃ C' : World → Prop, C' w ∧ K C' a) st.length listed a w
  | [], done, l, listed, I, C, a, hIC, hl, hB, hs, hd, hG, h, w, hw => by
    have : l = [] := by simpa using hl
    subst this
    simp only [ordB, Bool.and_eq_true, List.isEmpty_iff] at hB
    exact ⟨hB.1, C, hw, h⟩
  | i :: st, done, [], listed, I, C, a, hIC, hl, hB, hs, hd, hG, h, w, hw => by simp at hl
  | i :: st, done, o :: l, listed, I, C, a, hIC, hl, hB, hs, hd, hG, h, w, hw => by
    obtain ⟨hgate, hsz⟩ := ordB_gate (i :: st) done listed hB hs
    simp only [List.map_cons, List.cons.injEq] at hl
    have ho : ops[i]? = some o := hl.1.symm
    have hlen : l.length = st.length := by simpa using congrArg List.length hl.2
    have hi : i < ops.size := (Array.getElem?_eq_some_iff.1 ho).1
    have hB0 := hB
    simp only [ordB, ho, Bool.and_eq_true] at hB
    obtain ⟨⟨hB1, hB2⟩, hB3⟩ := hB
    have hrdy : i ∈ Region.ready .any ops listed := by
      split at hB2
      · rw [beq_iff_eq] at hB2; rw [hB2]; simp
      · rw [Bool.and_eq_true] at hB2; simpa using hB2.1
    have hs' : ∀ s ∈ i :: done, s < ops.size := fun s hs' => (List.mem_cons.1 hs').elim (fun e => e ▸ hi) (hs s)
    have hiun : listed.getD i true = false := (mem_ready.1 hrdy).1
    have hlt : i < listed.size := by
      rcases Nat.lt_or_ge i listed.size with h' | h'
      · exact h'
      · simp [Array.getElem?_eq_none h'] at hiun
    have hd' : ∀ j, (listed.setIfInBounds i true).getD j false = true ↔ j ∈ i :: done := fun j => by
      by_cases hij : i = j
      · subst hij
        simp [hlt]
      · rw [getD_set_ne false hij, hd j]
        simp [Ne.symm hij]
    have hG' : ∀ S, (∀ s ∈ i :: done, calmAt ops s = false → s ∈ S) → Sofar ops S (listed.setIfInBounds i true) := fun S hS => by
      refine ⟨fun j oj hj hl e he hb => ?_, fun k hk hkc hl => absurd (hS k ((hd' k).1 hl) hkc) hk⟩
      by_cases hij : i = j
      · subst hij
        rw [ho] at hj; cases hj
        obtain ⟨_, o', ho', hall⟩ := mem_ready.1 hrdy
        rw [ho] at ho'; cases ho'
        exact getD_set_true (hall e he hb)
      · rw [getD_set_ne false hij] at hl
        exact getD_set_true ((hG S fun s hs => hS s (List.mem_cons_of_mem _ hs)).down j oj hj hl e he hb)
    have IH := fun (I C : World → Prop) (a : Act) (hIC : ∀ w, C w → I w) (h : walkN2 P E ops sy K l I C a) => wpS_walk2 hsel st (i :: done) l (listed.setIfInBounds i true) I C a hIC hl.2 hB3 hs' hd' hG' h
    have hunl : ∀ j, (listed.setIfInBounds i true).getD j true = false → j ∉ i :: done := fun j h hj => getD_conf h ((hd' j).2 hj)
    simp only [walkN2] at h
    have hpure : ∀ v, loud o.op = false → Stays P ops I o v a → walkN2 P E ops sy K l I C (a.put o.dst v) → wpS P E ops I (till ops sy done (i :: st)) (fun a w => ∃ C' : World → Prop, C' w ∧ K C' a) (st.length + 1) listed a w := by
      intro v hlo hst hn
      have hnsy : sy.contains st.length = false := by
        cases hc : sy.contains st.length with
        | false => rfl
        | true => rw [hc] at hB1; simp [hlo] at hB1
      have htl : till ops sy done (i :: st) = till ops sy (i :: done) st := by simp only [till]; rw [hnsy]; simp
      simp only [hlo, Bool.false_eq_true, if_false, Bool.and_eq_true] at hB2
      cases hcal : calm o.op with
      | false =>
        refine wpS_first ho (Region.noSelect_spec hsel) hgate hsz (by rw [htl]; exact till_sub _ _ _ (List.mem_cons_self ..) (by unfold calmAt; simp only [ho]; exact hcal)) st.length listed a w (hG _ fun s hs hc => till_sub _ _ _ hs hc) (Region.free_spec ho hB2.2) hrdy hst (hIC w hw) ?_
        rw [htl]
        exact IH I C _ hIC hn w hw
      | true =>
        refine wpS_calm ho (Region.noSelect_spec hsel) (fun h => by have h' := till_calm _ _ _ h; unfold calmAt at h'; simp only [ho, hcal] at h'; cases h') st.length listed a w (Region.free_spec ho hB2.2) hrdy (hst.calm hcal (hIC w hw)) ?_
        rw [htl]
        exact IH I C _ hIC hn w hw
    have hloud : loud o.op = true → ∀ (a' : Act) (w' : World) (I' C' : World → Prop), C' w' → (∀ w, C' w → I' w) → ((∀ w, I' w → I w) ∨ sy.contains st.length = true) → walkN2 P E ops sy K l I' C' a' →
        ((i ∈ till ops sy done (i :: st) → I w') ∧ wpS P E ops I (till ops sy done (i :: st)) (fun a w => ∃ C' : World → Prop, C' w ∧ K C' a) st.length (listed.setIfInBounds i true) a' w') := by
      intro hlo a' w' I' C' hw' hIC' hor hn
      have h1 := IH I' C' a' hIC' hn w' hw'
      cases hc : sy.contains st.length with
      | true =>
        have htl : till ops sy done (i :: st) = done.filter fun k => !calmAt ops k := by simp only [till]; rw [hc]; simp
        rw [htl]
        refine ⟨fun hid => ?_, wpS_weak _ _ _ _ (fun j hj hu => absurd (List.mem_cons_of_mem _ (mem_noncalm.1 hj).1) (hunl j hu)) h1⟩
        exact (getD_conf hiun ((hd i).2 (mem_noncalm.1 hid).1)).elim
      | false =>
        have hsub := hor.resolve_right (by rw [hc]; simp)
        have htl : till ops sy done (i :: st) = till ops sy (i :: done) st := by simp only [till]; rw [hc]; simp
        rw [htl]
        exact ⟨fun _ => hsub _ (hIC' _ hw'), wpS_weak _ _ _ _ (fun j hj _ => ⟨hj, hsub⟩) h1⟩
    by_cases hwt : Region.wanted o (yielded ops a.tmps) = true
    · rw [if_pos hwt] at h
      rcases h with ⟨hlo, v, hv, hn⟩ | ⟨hlo, hn⟩
      · exact hpure v hlo (.inl ⟨hwt, hv⟩) hn
      · rw [if_pos hlo, beq_iff_eq] at hB2
        refine ⟨fun h0 => (by rw [h0] at hrdy; cases hrdy), fun j hj => ?_⟩
        have : j = i := by rw [hB2] at hj; simpa using hj
        subst this
        unfold stepN
        simp only [ho, hwt, if_true]
        exact Oper.wpN_mono (fun a' w' ⟨I', C', hw', hIC', hor, hn'⟩ => hloud hlo a' w' I' C' hw' hIC' (by rwa [hlen] at hor) hn') (hn w hw)
    · have hwt' : Region.wanted o (yielded ops a.tmps) = false := by simpa using hwt
      rw [if_neg hwt] at h
      cases hlo : loud o.op with
      | false => exact hpure undef hlo (.inr ⟨hwt', rfl⟩) h
      | true =>
        rw [if_pos hlo, beq_iff_eq] at hB2
        refine ⟨fun h0 => (by rw [h0] at hrdy; cases hrdy), fun j hj => ?_⟩
        have : j = i := by rw [hB2] at hj; simpa using hj
        subst this
        unfold stepN
        simp only [ho, hwt', Bool.false_eq_true, if_false]
        exact hloud hlo _ _ I C hw hIC (.inl fun _ h => h) h
end
section
variable (P : Program) (n : Nat) (D : List Deferred) (w0 : World)
def QR2 (Z : Array Oper × List Nat) (l : List Oper) (ov : Ov) (Hi H : List Asn) (K : KC) : Prop :=
  ∀ a, Rep n D ov a → walkN2 P K.e Z.1 Z.2 K.k l (St w0 Hi) (St w0 H) a
def QO2 (Z : Array Oper × List Nat) (o : Oper) (l : List Oper) (ov : Ov) (Hi H : List Asn) (K : KC) : Prop :=
  ∀ a, Rep n D ov a → goN2 P K.e Z.2 (walkN2 P K.e Z.1 Z.2 K.k l) l.length o (St w0 Hi) (St w0 H) a
end
section
variable {P : Program} {f n : Nat} {R : Ending → World → Prop} {D : List Deferred} {w0 : World} {k : List Item} {ov : Ov} {Hi H H' : List Asn} {K : KC}
  {Z : Array Oper × List Nat} {l : List Oper} {d : Option Nat} {T : Nat} {pos : String} {af : Array Edge} {g : Option (Nat × Bool)} {v : Value} {op : Op} {o : Oper}
theorem gQR2 (h : QR2 P n D w0 Z l ov Hi H K) : QR2 P n D w0 Z l ov Hi H K := h
theorem gQO2 (h : QO2 P n D w0 Z o l ov Hi H K) : QO2 P n D w0 Z o l ov Hi H K := h
theorem QR2_nil (h : JS P f n R D w0 k ov H) : QR2 P n D w0 Z [] ov Hi H (QK P f R k) := by
  unfold QK JS at *
  exact fun a ha w hw => h a w ha hw
theorem QR2_un (h : QO2 P n D w0 Z ⟨d, op, T, pos, af, none⟩ l ov Hi H K) : QR2 P n D w0 Z (⟨d, op, T, pos, af, none⟩ :: l) ov Hi H K := by
  intro a ha
  simp only [walkN2]
  rw [if_pos (by simp [Region.wanted])]
  exact h a ha
theorem QO2_v (hlo : loud op = false) (h : OpV P n D w0 ov Hi ⟨d, op, T, pos, af, g⟩ v) (hn : QR2 P n D w0 Z l (put d v ov) Hi H K) : QO2 P n D w0 Z ⟨d, op, T, pos, af, g⟩ l ov Hi H K := by
  unfold OpV at h
  exact fun a ha => .inl ⟨hlo, v, fun w hw => h.2 a w ha hw, hn _ (ha.put h.1 v)⟩
theorem QO2_callE {q : Nat} {xs : List Operand} {vs : List Value} {ts : Array Nat} (hc : ∀ args w, (callFunc q args).run P w = .ok (.enter q args) w) (hx : evs ov xs = some vs) (hd : dOk d n = true)
    (h : ∀ w, St w0 H w → Calls P q vs.toArray w fun e w' => (∃ v, e = .returned v ∧ ∃ Hi' H', St w0 H' w' ∧ (∀ w, St w0 H' w → St w0 Hi' w) ∧ ((∀ w, St w0 Hi' w → St w0 Hi w) ∨ Z.2.contains l.length = true) ∧ QR2 P n D w0 Z l (put d v ov) Hi' H' K) ∨ (∃ ch, e = .panicked ch ∧ K.e ch D w')) :
    QO2 P n D w0 Z ⟨d, .call ⟨.value (.func q), xs.toArray, ts⟩, T, pos, af, g⟩ l ov Hi H K := by
  intro a ha
  refine .inr ⟨rfl, fun w hw => ?_⟩
  have hrun : (execOp a.eval ⟨d, .call ⟨.value (.func q), xs.toArray, ts⟩, T, pos, af, g⟩).run P w = .ok (.enter q vs.toArray) w := by
    simp only [execOp, resolve, Deferred.ofValue, Act.eval, Sem.run_bind, Sem.run_pure, Result.andThen_ok, invoke]
    rw [List.map_toArray, ha.evs hx]
    simpa using hc vs.toArray w
  simp only [Oper.wpN, hrun, Oper.upN]
  exact (h w hw).mono fun e w' h' => h'.imp (fun ⟨v, he, Hi', H', hw', hI, hor, hn⟩ => ⟨v, he, St w0 Hi', St w0 H', hw', hI, hor, hn _ (ha.put hd v)⟩) (fun ⟨ch, he, hk⟩ => ⟨ch, he, by rw [ha.defers]; exact hk⟩)
theorem QO2_k (hlo : loud op = true) (h : OpK P n D w0 ov H ⟨d, op, T, pos, af, g⟩ H') (hI : ∀ w, St w0 H' w → St w0 Hi w) (hn : QR2 P n D w0 Z l (put d undef ov) Hi H' K) : QO2 P n D w0 Z ⟨d, op, T, pos, af, g⟩ l ov Hi H K := by
  intro a ha
  unfold OpK at h
  refine .inr ⟨hlo, fun w hw => ?_⟩
  obtain ⟨w', hrun, hw'⟩ := h.2 a w ha hw
  simp only [Oper.wpN, hrun, Oper.upN]
  exact ⟨St w0 Hi, St w0 H', hw', hI, .inl fun _ h => h, hn _ (ha.put h.1 undef)⟩
theorem JS_order2 {id : Nat} {l : List Oper} (Hi : List Asn) (st sy : List Nat) {l' : List Oper} (hI : ∀ w, St w0 H w → St w0 Hi w) (hp : Picks l st l') (hm : P.follows .mixedOrders = true) (hs : Region.noSelect l.toArray = true) (hlen : st.length = l.length)
    (hB : ordB l.toArray sy [] st (Array.replicate l.length false) = true) (h : QR2 P n D w0 (l.toArray, sy) l' ov Hi H (QK P f R k)) :
    JS P f n R D w0 (.code (.region id l.toArray true) :: k) ov H := by
  unfold JS
  intro a w ha hw
  refine J_of_wpE (Q := QQ P f R k) (wp_region_any hm ?_) fun e a' w' h => h
  have h0 : ∀ j, (Array.replicate l.length false).getD j false = false := fun j => by
    rcases Nat.lt_or_ge j l.length with h | h
    · simp [h]
    · simp [h]
  have hws := wpS_walk2 (P := P) (E := (QK P f R k).e) (K := (QK P f R k).k) (sy := sy) hs st [] l' (Array.replicate l.length false) (St w0 Hi) (St w0 H) a hI hp.map hB (by simp) (fun j => by rw [h0 j]; simp)
    (fun S _ => ⟨fun j oj _ hj => (by rw [h0 j] at hj; cases hj), fun k _ _ hk => (by rw [h0 k] at hk; cases hk)⟩) (h a ha) w.drew hw.drew
  have := wpAny_of_S (Q' := QQ P f R k) (fun ch a w h => by unfold QK at h; exact h) (fun a w ⟨C, hC, hk⟩ => by unfold QK at hk; exact hk w hC) _ _ _ _ hws
  rw [hlen] at this
  simpa using this
attribute [irreducible] QR2 QO2
end
end Sx
namespace Go.Proofs.Ytakgoflfcgofdaa
open Sx Go
section
variable {n : Nat} {D : List Deferred} {w0 : World} {ov : Ov} {Hi H : List Asn} {K : KC} {Z : Array Oper × List Nat} {l : List Oper} {d : Option Nat} {T : Nat} {pos : String} {af : Array Edge} {g : Option (Nat × Bool)} {v : Value} {op : Op}
theorem aQ2 (hn : QR2 Try.prog n D w0 Z l (put d v ov) Hi H K) (h : OpV Try.prog n D w0 ov Hi ⟨d, op, T, pos, af, g⟩ v := by first | (apply oMv; exact V_move rfl rfl) | (apply oAs; exact V_assign rfl rfl) | (apply oL; first | exact V_load (tb := tb) rfl (by repeat (first | apply List.Mem.head | apply List.Mem.tail)) rfl rfl rfl rfl | exact V_loadC (tb := tb) rfl (by first | exact vec_rd (by repeat (first | apply List.Mem.head | apply List.Mem.tail)) | assumption | exact ArgRd.rd (by assumption) _ | (apply Rd_weak; assumption; intro _ hx; exact St.sub (by repeat (first | exact List.Sublist.refl _ | apply List.Sublist.cons_cons | apply List.Sublist.cons)) hx)) rfl rfl (by first | exact ints_get (by omega) | exact rfl) rfl | exact V_loadA (tb := tb) rfl (by repeat (first | apply List.Mem.head | apply List.Mem.tail)) rfl rfl rfl rfl) | (apply oB; first | (apply ob_add; first | exact V_add rfl rfl (by first | exact wi64 (by omega) | exact wu64 (by omega) | exact wu32 (by omega) | exact wu8 (by omega) | exact mu64 _ | exact mu32 _ | exact mu8 _ | exact mi64 _ | exact rfl) rfl) | (apply ob_sub; first | exact V_sub rfl rfl (by first | exact wi64 (by omega) | exact wu64 (by omega) | exact wu32 (by omega) | exact wu8 (by omega) | exact mu64 _ | exact mu32 _ | exact mu8 _ | exact mi64 _ | exact rfl) rfl) | (apply ob_mul; first | exact V_mul rfl rfl (by first | exact wi64 (by omega) | exact wu64 (by omega) | exact wu32 (by omega) | exact wu8 (by omega) | exact mu64 _ | exact mu32 _ | exact mu8 _ | exact mi64 _ | exact rfl) rfl) | (apply ob_eql; first | exact V_eqlT rfl rfl (by omega) rfl | exact V_eqlF rfl rfl (by omega) rfl | exact V_eql rfl rfl rfl) | (apply ob_neq; first | exact V_neqT rfl rfl (by omega) rfl | exact V_neqF rfl rfl (by omega) rfl | exact V_neq rfl rfl rfl) | (apply ob_lss; first | exact V_lssT rfl rfl (by omega) rfl | exact V_lssF rfl rfl (by omega) rfl | exact V_lss rfl rfl rfl) | (apply ob_leq; first | exact V_leqT rfl rfl (by omega) rfl | exact V_leqF rfl rfl (by omega) rfl | exact V_leq rfl rfl rfl) | (apply ob_gtr; first | exact V_gtrT rfl rfl (by omega) rfl | exact V_gtrF rfl rfl (by omega) rfl | exact V_gtr rfl rfl rfl) | (apply ob_geq; first | exact V_geqT rfl rfl (by omega) rfl | exact V_geqF rfl rfl (by omega) rfl | exact V_geq rfl rfl rfl) | (apply ob_quo; first | exact V_quo rfl rfl (by omega) (by first | exact IntWalk.i64_quo _ _ (by omega) | exact IntWalk.u64_quo _ _ (by omega) | exact IntWalk.u32_quo _ _ (by omega) | exact IntWalk.u8_quo _ _ (by omega)) rfl) | (apply ob_rem; first | exact V_rem rfl rfl (by omega) (Int.tmod_eq_emod_of_nonneg (by omega)) rfl) | (apply ob_and; first | exact V_and rfl rfl (by first | exact mask32_u64 (by omega) | exact mask_u64 8 (by decide) (by omega) rfl | exact mask_u64 16 (by decide) (by omega) rfl) rfl) | (apply ob_eql; first | exact V_eqP (tb := tb) rfl rfl rfl rfl | exact V_eqBB (tb := tb) rfl rfl rfl rfl | exact V_eqB (tb := tb) rfl rfl rfl rfl | exact V_eqNil (tb := tb) rfl rfl rfl rfl | exact V_eqStr rfl rfl (by assumption) (by assumption) rfl) | (apply ob_neq; first | exact V_neP (tb := tb) rfl rfl rfl rfl | exact V_neBB (tb := tb) rfl rfl rfl rfl | exact V_neB (tb := tb) rfl rfl rfl rfl | exact V_neStr rfl rfl (by assumption) (by assumption) rfl) | (apply oK; first | (apply ob_shr; exact V_shr (m := _) rfl rfl (by omega) (by simp only [IntKind.bits, Int.reduceToNat, Nat.reduceLeDiff, Nat.min_eq_left]; exact rfl) (by first | (simp only [Int.reducePow]; exact rfl) | exact rfl) rfl) | (apply ob_shl; exact V_shl (m := _) rfl rfl (by omega) (by simp only [IntKind.bits, Int.reduceToNat, Nat.reduceLeDiff, Nat.min_eq_left]; exact rfl) (by (try simp only [Int.reducePow]); first | exact wi64 (by omega) | exact wu64 (by omega) | exact wu32 (by omega) | exact wu8 (by omega) | exact mu64 _ | exact mu32 _ | exact mu8 _ | exact mi64 _ | exact rfl) rfl))) | (apply oE; first | exact V_extract rfl rfl rfl) | (apply oc_len; exact V_len (tb := tb) rfl rfl rfl) | (apply oc_len; exact V_lenS (tb := tb) rfl rfl rfl) | (apply oc_min; exact V_min rfl rfl rfl rfl) | (apply oc_max; exact V_max rfl rfl rfl rfl) | (apply oCv; first | exact V_conv (tb := tb) rfl rfl rfl (by first | exact wi64 (by omega) | exact wu64 (by omega) | exact wu32 (by omega) | exact wu8 (by omega) | exact mu64 _ | exact mu32 _ | exact mu8 _ | exact mi64 _ | exact rfl) rfl | exact V_str (tb := tb) rfl (by first | exact vec_rd (by repeat (first | apply List.Mem.head | apply List.Mem.tail)) | assumption | exact ArgRd.rd (by assumption) _ | (apply Rd_weak; assumption; intro _ hx; exact St.sub (by repeat (first | exact List.Sublist.refl _ | apply List.Sublist.cons_cons | apply List.Sublist.cons)) hx)) (by first | assumption | rfl | omega) rfl rfl rfl rfl) | (apply oP; first | exact V_pickT rfl rfl rfl | exact V_pickF rfl rfl rfl | exact V_pickB rfl rfl rfl rfl) | (apply oU; first | exact V_notD rfl rfl | exact V_not rfl rfl | exact V_neg rfl (by first | exact wi64 (by omega) | exact wu64 (by omega) | exact wu32 (by omega) | exact wu8 (by omega) | exact mu64 _ | exact mu32 _ | exact mu8 _ | exact mi64 _ | exact rfl) rfl) | (apply oN; first | exact V_nilCheck rfl rfl) | (apply oFA; first | exact V_field (tb := tb) rfl rfl rfl rfl rfl rfl | exact V_fieldC (tb := tb) rfl (by first | exact Rd.sl (vec_rd (by repeat (first | apply List.Mem.head | apply List.Mem.tail))) | exact Rd.sl (by assumption) | exact Rd.sl (ArgRd.rd (by assumption) _) | (apply Rd.sl; (apply Rd_weak; assumption; intro _ hx; exact St.sub (by repeat (first | exact List.Sublist.refl _ | apply List.Sublist.cons_cons | apply List.Sublist.cons)) hx))) (by omega) rfl rfl rfl rfl rfl) | (apply oIA; first | exact V_index (tb := tb) rfl rfl rfl rfl (by first | exact Rd.sl (vec_rd (by repeat (first | apply List.Mem.head | apply List.Mem.tail))) | exact Rd.sl (by assumption) | exact Rd.sl (ArgRd.rd (by assumption) _) | (apply Rd.sl; (apply Rd_weak; assumption; intro _ hx; exact St.sub (by repeat (first | exact List.Sublist.refl _ | apply List.Sublist.cons_cons | apply List.Sublist.cons)) hx))) (by omega) (by (try simp only [tn, tna, tn1, tn2, tn3, tn4, tnd16, tnd8, Int.reduceToNat]); first | exact Nat.mul_one _ | exact rfl) rfl | exact V_indexA (tb := tb) rfl rfl rfl rfl (by omega) rfl) | (apply oBd; first | exact V_build (tb := tb) rfl rfl rfl rfl rfl) | (apply oF; first | exact V_makeFunc rfl rfl rfl)) (hlo : loud op = false := by rfl) : QO2 Try.prog n D w0 Z ⟨d, op, T, pos, af, g⟩ l ov Hi H K := QO2_v hlo h hn
theorem aK2 {H' : List Asn} (hI : ∀ w, St w0 H' w → St w0 Hi w) (hn : QR2 Try.prog n D w0 Z l (put d undef ov) Hi H' K) (h : OpK Try.prog n D w0 ov H ⟨d, op, T, pos, af, g⟩ H' := by first | exact K_store (tb := tb) rfl rfl (by repeat (first | apply Upd.here | apply Upd.there)) rfl rfl rfl (by repeat (first | exact trivial | refine ⟨rfl, ?_⟩)) rfl rfl | exact K_storeC1 (tb := tb) rfl rfl ints_set (by repeat (first | apply Upd.here | apply Upd.there)) rfl rfl (by rw [ints_len]; omega) rfl) (hlo : loud op = true := by rfl) : QO2 Try.prog n D w0 Z ⟨d, op, T, pos, af, g⟩ l ov Hi H K := QO2_k hlo h hI hn
end
end Go.Proofs.Ytakgoflfcgofdaa

namespace Sx
open Go
/-! operations that hand back a value and change memory -/
section
variable {P : Program} {f n : Nat} {R : Ending → World → Prop} {D : List Deferred} {w0 : World} {k : List Item} {ov : Ov} {H : List Asn} {K : KC} {Z : Array Oper × List Nat}
  {ops : Array Oper} {l : List Oper} {d : Option Nat} {T : Nat} {pos : String} {af : Array Edge} {g : Option (Nat × Bool)} {x y : Operand} {op : Op} {tb : Tb P}
/-- operation o yields v c, for some c, and the assertions become H' c -/
def OpE {ι : Type} (P : Program) (n : Nat) (D : List Deferred) (w0 : World) (ov : Ov) (H : List Asn) (o : Oper) (v : ι → Value) (H' : ι → List Asn) : Prop :=
  dOk o.dst n = true ∧ ∀ a w, Rep n D ov a → St w0 H w → ∃ c w', (execOp a.eval o).run P w = .ok (.value (v c)) w' ∧ St w0 (H' c) w'
theorem JO_e {ι : Type} {v : ι → Value} {H' : ι → List Asn} (h : OpE P n D w0 ov H ⟨d, op, T, pos, af, g⟩ v H') (hn : ∀ c, JR P f n R D w0 ops l k (put d (v c) ov) (H' c)) : JO P f n R D w0 ops ⟨d, op, T, pos, af, g⟩ l k ov H :=
  JO_step fun a w ha hw => let ⟨c, w', h1, h2⟩ := h.2 a w ha hw; ⟨v c, w', h1, h.1, H' c, h2, hn c⟩
theorem QO_e {ι : Type} {v : ι → Value} {H' : ι → List Asn} (h : OpE P n D w0 ov H ⟨d, op, T, pos, af, g⟩ v H') (hlo : loud op = true) (hs : Z.2.contains l.length = true ∨ ∀ c w, St w0 (H' c) w → St w0 H w) (hn : ∀ c, QR P n D w0 Z l (put d (v c) ov) (H' c) K) : QO P n D w0 Z ⟨d, op, T, pos, af, g⟩ l ov H K := by
  unfold QO
  intro a ha
  refine .inr ⟨hlo, fun w hw => ?_⟩
  obtain ⟨c, w', hrun, hw'⟩ := h.2 a w ha hw
  simp only [Oper.wpN, hrun, Oper.upN]
  exact ⟨St w0 (H' c), hw', hs.symm.imp (fun h => h c) id, by have := hn c; unfold QR at this; exact this _ (ha.put h.1 _)⟩
theorem Rd.nil {p : Option Addr} {m c m' : Nat} {cs : List Value} {w : World} (h : Rd w0 H (.slice p m c) m' cs) (hw : St w0 H w) : p = none → m = 0 := by
  unfold Rd at h
  obtain ⟨⟨b, c', e, hn, _⟩, _⟩ := h w hw
  cases e
  exact hn
theorem Sel.self {H a F} (h : Sel H a F) : F a = H := by
  induction h with
  | here a r => rfl
  | there y a r F _ ih => simp [ih]
theorem Sel.mem {H a F} (h : Sel H a F) : a ∈ H := by
  induction h with
  | here a r => exact List.Mem.head _
  | there y a r F _ ih => exact List.Mem.tail _ ih
theorem add_zero' (a : Addr) : a.add 0 = a := by unfold Addr.add; simp
theorem run_storeSeg {e size m j : Nat} {u : Value} {cs vs : List Value} {w : World} {F : Asn → List Asn} (hu : Sel H (vec e size u m cs) F) (hw : St w0 H w) (hp : 0 < vs.length) (h1 : All1 vs) (hf : j + vs.length ≤ cs.length) :
    ∃ b c w', u = .slice (some ⟨b, 0, none⟩) m c ∧ (storeCells ⟨b, j, none⟩ vs).run P w = .ok () w' ∧ St w0 (F (vec e size u m (cs.take j ++ vs ++ cs.drop (j + vs.length)))) w' := by
  obtain ⟨fp, hfp⟩ := hw.mem hu.mem
  rw [vec_holds] at hfp
  rcases hfp.2 with ⟨base, rfl, rfl, _⟩ | ⟨gb, cap, cur, rfl, _, hg, hn, hcm, hsz, ht⟩
  · have := hfp.1; rw [Nat.zero_mul] at this; omega
  · have hcl := hfp.1
    have hlen : cs.length ≤ cur.size := by rw [hcl, hsz]; exact Nat.mul_le_mul_right _ hn
    have hst := run_storeCells_at P gb j e vs 0 cur w hg (by omega) h1.mem
    simp only [Nat.add_zero] at hst
    refine ⟨gb, cap, _, rfl, hst, ?_⟩
    refine hw.row (hu.upd _) (cs := cur.toList) (by simpa using hg) (fun fq hq2 => ?_) fun w' h' => ?_
    · rw [vec_holds] at hq2
      rcases hq2.2 with ⟨base, hb, _⟩ | ⟨g', cap', cur', hv', hfq, _⟩
      · simp at hb; rw [hb.2.1, Nat.zero_mul] at hcl; omega
      · simp at hv'; rw [hfq, hv'.1]
    · rw [vec_holds]
      refine ⟨by rw [← hcl]; simp; omega, .inr ⟨gb, cap, _, rfl, rfl, h', hn, hcm, by simp; omega, ?_⟩⟩
      have hcs : cs = cur.toList.take cs.length := by rw [hcl]; exact ht.symm
      rw [← hcl]
      have e1 : cs.take j = cur.toList.take j := by rw [hcs, List.take_take]; congr 1; omega
      rw [e1, List.take_append, List.take_append]
      congr 1
      · congr 1
        · rw [List.take_take]; congr 1; omega
        · simp
          rw [List.take_of_length_le (by omega)]
      · have e2 : cs.drop (j + vs.length) = (cur.toList.drop (j + vs.length)).take (cs.length - (j + vs.length)) := by
          conv => lhs; rw [hcs]
          rw [List.drop_take]
        rw [e2]
        congr 1
        simp
        omega
theorem All1.take {l : List Value} (h : All1 l) (n : Nat) : All1 (l.take n) := All1.of fun v hv => h.mem v (List.mem_of_mem_take hv)
/-- copy into a slice, or a slice's part -/
theorem E_copy {t e sz by' m q lo kk c cd sz1 by1 : Nat} {ty2 : Ty} {z1 z2 : Option (List Value)} {a pd : Option Addr} {ux : Value} {cs news : List Value} {F : Asn → List Asn}
    (hx : ev ov x = some (.slice pd kk cd)) (hy : ev ov y = some ux) (h : tlook tb.l t = some ⟨.slice e, sz1, by1, z1⟩) (h2 : tlook tb.l e = some ⟨ty2, sz, by', z2⟩) (hsz : Nat.blt 0 sz = true)
    (hu : Sel H (vec e sz (.slice a m c) m cs) F) (hp : 0 < kk → pd = a.map (·.add (lo * sz))) (hk : lo + kk ≤ m) (hr : Rd w0 H ux q news) (hl : news.length = q * sz) (h1 : All1 news) (hd : dOk d n = true) :
    OpE (ι := Unit) P n D w0 ov H ⟨d, .call ⟨.builtin .copy, #[x, y], #[t, t]⟩, T, pos, af, g⟩ (fun _ => .int .i64 (min q kk : Nat)) (fun _ => F (vec e sz (.slice a m c) m (cs.take (lo * sz) ++ news.take (min q kk * sz) ++ cs.drop (lo * sz + min q kk * sz)))) :=
  ⟨hd, fun A w ha hw => by
    unfold Rd at hr
    obtain ⟨⟨bx, cx, rfl, hbx, _⟩, hrd⟩ := hr w hw
    have hsz' : 0 < sz := by simpa [Nat.blt_eq] using hsz
    have hcl := vec_len hu.mem hw
    have e0 := run_underlying (und_slice h) w
    have hlen : (news.take (min q kk * sz)).length = min q kk * sz := by
      rw [List.length_take, hl]
      have : min q kk * sz ≤ q * sz := Nat.mul_le_mul_right _ (Nat.min_le_left _ _)
      omega
    have hfirst : (Builtin.firstCells sz (min q kk) (.slice bx q cx)).run P w = .ok (news.take (min q kk * sz)).toArray w := by
      cases bx with
      | none =>
        have : q = 0 := hbx rfl
        subst this
        have : news = [] := List.eq_nil_of_length_eq_zero (by simpa using hl)
        subst this
        simp [Builtin.firstCells]
      | some b =>
        have := run_loadCells_list (P := P) w b (news.take (min q kk * sz)) (fun j v hv => by
          rw [List.getElem?_take] at hv
          split at hv
          · exact reads_some hrd j v hv
          · cases hv)
        rw [hlen] at this
        simpa [Builtin.firstCells] using this
    by_cases hn0 : min q kk = 0
    · refine ⟨(), w, ?_, ?_⟩
      · simp only [hn0, Nat.zero_mul, List.take_zero] at hfirst
        cases pd <;> simp [execOp, resolve, invoke, builtin, ha.ev hx, ha.ev hy, Builtin.copy_, e0, Builtin.lenOf, Tb.run_size w h2, hn0, hfirst, storeCells, goInt] <;> simp_all
      · simp only [hn0, Nat.zero_mul, List.take_zero, List.append_nil, Nat.add_zero, List.take_append_drop]
        rw [hu.self]; exact hw
    · have hmul : lo * sz + min q kk * sz ≤ m * sz := by
        rw [← Nat.add_mul]; exact Nat.mul_le_mul_right _ (by omega)
      obtain ⟨b, cc, w', hb, hst, hw'⟩ := run_storeSeg (P := P) (vs := news.take (min q kk * sz)) (j := lo * sz) hu hw (by rw [hlen]; exact Nat.mul_pos (by omega) hsz') (h1.take _) (by rw [hlen, hcl]; exact hmul)
      cases hb
      have hpd := hp (by omega)
      rw [Option.map_some, add_blk, Nat.zero_add] at hpd
      subst hpd
      rw [hlen] at hw'
      refine ⟨(), w', ?_, hw'⟩
      simp [execOp, resolve, invoke, builtin, ha.ev hx, ha.ev hy, Builtin.copy_, e0, Builtin.lenOf, Tb.run_size w h2, hfirst, hst, goInt]⟩
theorem V_eqStrT {A : List Int} {T1 T2 : Nat} (hx : ev ov x = some (.string (bstr A))) (hy : ev ov y = some (.string (bstr A))) (hA : Byt A) (hd : dOk d n = true) :
    OpV P n D w0 ov H ⟨d, .binOp .eql T1 x y T2, T, pos, af, g⟩ (.bool true) := by
  have : OpV P n D w0 ov H ⟨d, .binOp .eql T1 x y T2, T, pos, af, g⟩ (.bool (decide (A = A))) := V_eqStr hx hy hA hA hd
  simpa using this
theorem V_neStrF {A : List Int} {T1 T2 : Nat} (hx : ev ov x = some (.string (bstr A))) (hy : ev ov y = some (.string (bstr A))) (hA : Byt A) (hd : dOk d n = true) :
    OpV P n D w0 ov H ⟨d, .binOp .neq T1 x y T2, T, pos, af, g⟩ (.bool false) := by
  have : OpV P n D w0 ov H ⟨d, .binOp .neq T1 x y T2, T, pos, af, g⟩ (.bool (decide (A ≠ A))) := V_neStr hx hy hA hA hd
  simpa using this
end
end Sx

set_option linter.unusedVariables false
namespace Sx
open Go
/-! a slice, and what it became by an append: both still stand -/
@[irreducible] def vecB (e size : Nat) (v : Value) (n : Nat) (cs : List Value) (v' : Value) (n' : Nat) (cs' : List Value) : Asn where
  holds w fp := ∃ f1 f2, VecIn e size v n cs w f1 ∧ VecIn e size v' n' cs' w f2 ∧ (∀ b, b ∈ fp ↔ b ∈ f1 ∨ b ∈ f2)
  frame w w' fp h hk := by
    obtain ⟨f1, f2, h1, h2, h3⟩ := h
    have e1 := (vec_holds (e := e) (size := size) (v := v) (n := n) (cs := cs) (w := w') (fp := f1)).1 ((vec e size v n cs).frame w w' f1 (vec_holds.2 h1) fun b hb => hk b ((h3 b).2 (.inl hb)))
    have e2 := (vec_holds (e := e) (size := size) (v := v') (n := n') (cs := cs') (w := w') (fp := f2)).1 ((vec e size v' n' cs').frame w w' f2 (vec_holds.2 h2) fun b hb => hk b ((h3 b).2 (.inr hb)))
    exact ⟨f1, f2, e1, e2, h3⟩
  live w fp h b hb := by
    obtain ⟨f1, f2, h1, h2, h3⟩ := h
    rcases (h3 b).1 hb with h | h
    · exact (vec e size v n cs).live w f1 (vec_holds.2 h1) b h
    · exact (vec e size v' n' cs').live w f2 (vec_holds.2 h2) b h
theorem vecB_holds {e size v n cs v' n' cs' w fp} : (vecB e size v n cs v' n' cs').holds w fp ↔ ∃ f1 f2, VecIn e size v n cs w f1 ∧ VecIn e size v' n' cs' w f2 ∧ (∀ b, b ∈ fp ↔ b ∈ f1 ∨ b ∈ f2) := by
  unfold vecB; exact Iff.rfl
theorem VecIn.nodup {e size v n cs w fp} (h : VecIn e size v n cs w fp) : fp.Nodup := by
  rcases h.2 with ⟨_, _, _, rfl⟩ | ⟨_, _, _, _, rfl, _⟩ <;> simp
section
variable {P : Program} {n : Nat} {D : List Deferred} {w0 : World} {ov : Ov} {H : List Asn} {d : Option Nat} {T : Nat} {pos : String} {af : Array Edge} {g : Option (Nat × Bool)} {x y : Operand} {tb : Tb P} {w : World}
theorem vecB_new {e size v m cs v' m' cs'} (h : St w0 (vecB e size v m cs v' m' cs' :: H) w) : St w0 (vec e size v' m' cs' :: H) w := by
  refine @St.step w0 [vecB e size v m cs v' m' cs'] H w w [vec e size v' m' cs'] h rfl rfl rfl (Nat.le_refl _) fun f1 h1 hn _ => ⟨fun _ _ _ => rfl, ?_⟩
  obtain ⟨fa, fb, e1, h2, h3⟩ := h1
  have : fb = [] := h3
  subst this
  rw [List.append_nil] at e1
  subst e1
  obtain ⟨g1, g2, ha, hb, hc⟩ := vecB_holds.1 h2
  exact ⟨g2, hb.nodup, fun b hb' => .inl ((hc b).2 (.inr hb')), g2, [], by simp, vec_holds.2 hb, rfl⟩
theorem vecB_old {e size v m cs v' m' cs'} (h : St w0 (vecB e size v m cs v' m' cs' :: H) w) : St w0 (vec e size v m cs :: H) w := by
  refine @St.step w0 [vecB e size v m cs v' m' cs'] H w w [vec e size v m cs] h rfl rfl rfl (Nat.le_refl _) fun f1 h1 hn _ => ⟨fun _ _ _ => rfl, ?_⟩
  obtain ⟨fa, fb, e1, h2, h3⟩ := h1
  have : fb = [] := h3
  subst this
  rw [List.append_nil] at e1
  subst e1
  obtain ⟨g1, g2, ha, hb, hc⟩ := vecB_holds.1 h2
  exact ⟨g1, ha.nodup, fun b hb' => .inl ((hc b).2 (.inl hb')), g1, [], by simp, vec_holds.2 ha, rfl⟩
theorem Sel.back {H : List Asn} {a : Asn} {F : Asn → List Asn} (h : Sel H a F) (a' : Asn) : Upd (F a') a' a H := by
  induction h with
  | here a r => exact Upd.here _ _ _
  | there y a r F _ ih => exact Upd.there _ _ _ _ _ ih
theorem vecB_back {e size v m cs v' m' cs'} {F : Asn → List Asn} (hs : Sel H (vec e size v m cs) F) (h : St w0 (F (vecB e size v m cs v' m' cs')) w) : St w0 H w :=
  h.upd (hs.back _) rfl rfl rfl (Nat.le_refl _) fun f1 h1 => by
    obtain ⟨g1, g2, ha, hb, hc⟩ := vecB_holds.1 h1
    exact ⟨fun _ _ _ => rfl, g1, ha.nodup, fun b hb' => .inl ((hc b).2 (.inl hb')), vec_holds.2 ha⟩
theorem vecB_fwd {e size v m cs v' m' cs'} {F : Asn → List Asn} (hs : Sel H (vecB e size v m cs v' m' cs') F) (h : St w0 H w) : St w0 (F (vec e size v' m' cs')) w :=
  h.upd (hs.upd _) rfl rfl rfl (Nat.le_refl _) fun f1 h1 => by
    obtain ⟨g1, g2, ha, hb, hc⟩ := vecB_holds.1 h1
    exact ⟨fun _ _ _ => rfl, g2, hb.nodup, fun b hb' => .inl ((hc b).2 (.inr hb')), vec_holds.2 hb⟩
theorem run_appendB {t ty e size bytes : Nat} {i : TypeInfo} {z : Value} {u ux : Value} {m q : Nat} {cs news : List Value} {F : Asn → List Asn} (hw : St w0 H w)
    (ht : P.underlying t = some (.slice e)) (hi : P.info? e = some i) (hz : i.zero = some z) (hsize : i.size = size) (hby : i.bytes = bytes) (hzs : z.cells.size = size) (hsz : 0 < size)
    (hu : Sel H (vec e size u m cs) F) (hr : Rd w0 H ux q news) (hl : news.length = q * size) (h1 : All1 news) (hq0 : 0 < q) (hb : (m + q) * bytes ≤ 140737488355328) (hq : m + q ≤ 140737488355328) :
    ∃ p c w', (Builtin.append_ #[t, t] ty #[u, ux]).run P w = .ok (.slice p (m + q) c) w' ∧ St w0 (F (vecB e size u m cs (.slice p (m + q) c) (m + q) (cs ++ news))) w' := by
  obtain ⟨fp, hfp⟩ := hw.mem hu.mem
  rw [vec_holds] at hfp
  unfold Rd at hr
  obtain ⟨⟨bx, cx, rfl, hbx, _⟩, hrd⟩ := hr w hw
  subst hsize; subst hby
  have h63 : ((m + q : Nat) : Int) ≤ 9223372036854775807 := by omega
  cases bx with
  | none => exact absurd (hbx rfl) (by omega)
  | some a =>
    have hnews := reads_some hrd
    have hgrow : ∀ (old cap2 : Nat), cap2 = grownCap w (m + q) old e → (cs.length = m * i.size) →
        ∀ f1, (vec e i.size u m cs).holds w f1 → (∀ b, b < w.heap.size → b ∉ f1 → (w.drew.alloc (.cells (cs.toArray ++ news.toArray ++ Builtin.zeroCells z.cells (cap2 - (m + q))) e)).heap[b]? = w.heap[b]?) ∧
        ∃ f1' : List Nat, f1'.Nodup ∧ (∀ b ∈ f1', b ∈ f1 ∨ w.heap.size ≤ b) ∧ (vecB e i.size u m cs (.slice (some ⟨w.heap.size, 0, none⟩) (m + q) cap2) (m + q) (cs ++ news)).holds (w.drew.alloc (.cells (cs.toArray ++ news.toArray ++ Builtin.zeroCells z.cells (cap2 - (m + q))) e)) f1' := by
      intro old cap2 hcap hcl f1 hf1
      have hge := grownCap_ge w (m + q) old e
      have hle := grownCap_le_maxLen w (m + q) old e (by unfold maxLen; omega)
      have hlive := (vec e i.size u m cs).live w f1 hf1
      have hkeep : ∀ b, b < w.heap.size → (w.drew.alloc (.cells (cs.toArray ++ news.toArray ++ Builtin.zeroCells z.cells (cap2 - (m + q))) e)).heap[b]? = w.heap[b]? := fun b hb => heap_alloc_old w.drew _ hb
      have hold := (vec e i.size u m cs).frame w _ f1 hf1 fun b hb => hkeep b (hlive b hb)
      refine ⟨fun b hb _ => hkeep b hb, f1 ++ [w.heap.size], ?_, ?_, ?_⟩
      · refine List.nodup_append.2 ⟨(vec_holds.1 hf1).nodup, by simp, ?_⟩
        intro b hb c hc
        have := hlive b hb
        simp only [List.mem_singleton] at hc
        omega
      · intro b hb
        rcases List.mem_append.1 hb with h | h
        · exact .inl h
        · right; simp at h; omega
      · rw [vecB_holds]
        have hlen : (cs ++ news).length = (m + q) * i.size := by rw [List.length_append, hcl, hl, Nat.add_mul]
        refine ⟨f1, [w.heap.size], vec_holds.1 hold, ⟨hlen, .inr ⟨w.heap.size, cap2, _, rfl, rfl, heap_alloc_new w.drew _, by omega, by omega, ?_, ?_⟩⟩, by simp⟩
        · simp only [Array.size_append, List.size_toArray, size_zeroCells, hzs, hcl, hl, ← Nat.add_mul]
          congr 1; omega
        · simp only [Array.toList_append, List.append_assoc]
          rw [← List.append_assoc, ← hlen]
          exact List.take_left
    rcases hfp.2 with ⟨base, rfl, rfl, rfl⟩ | ⟨gb, cap, cur, rfl, _, hg, hn, hcm, hsz2, htk⟩
    · have hcs : cs = [] := List.eq_nil_of_length_eq_zero (by have := hfp.1; simpa using this)
      subst hcs
      cases base with
      | none =>
        have hrr := run_append_nil (P := P) w t ty e i z ht hi hz a q cx news hl hnews (by omega) (by omega) (by simp only [Nat.zero_add] at hb; omega)
        have hg := hgrow 0 _ rfl (by simp)
        simp only [Nat.zero_add, Array.empty_append] at hg ⊢
        exact ⟨_, _, _, hrr, hw.upd (hu.upd _) rfl rfl rfl (by simp) hg⟩
      | some b0 =>
        have hrr := run_append_grow (P := P) w t ty e i z ht hi hz b0 0 0 [] (by simp) (by simp) a q cx news hl hnews (by omega) (by omega) (growslice_fits (by omega) hb)
        exact ⟨_, _, _, hrr, hw.upd (hu.upd _) rfl rfl rfl (by simp) (hgrow 0 _ rfl (by simp))⟩
    · by_cases hroom : m + q ≤ cap
      · have hcl := hfp.1
        have hfit : m * i.size + news.length ≤ cur.size := by rw [hl, hsz2, ← Nat.add_mul]; exact Nat.mul_le_mul_right _ hroom
        have hrr := run_append_room (P := P) w t ty e i ht hi gb m cap cur hg a q cx news hl hnews h1.mem hroom hfit
        refine ⟨_, _, _, hrr, hw.upd (hu.upd _) rfl rfl rfl (by simp [World.setRow]) fun f1 h => ?_⟩
        have hf1 : f1 = [gb] ∨ (f1 = [] ∧ m = 0 ∧ cap = 0) := by
          rw [vec_holds] at h
          rcases h.2 with ⟨base, hb', h0, hf⟩ | ⟨g', cap', cur', hv', hf, _⟩
          · simp at hb'; exact .inr ⟨hf, h0, hb'.2.2⟩
          · simp at hv'; left; rw [hf, hv'.1]
        have hf1' : f1 = [gb] := by
          rcases hf1 with h | h
          · exact h
          · omega
        subst hf1'
        refine ⟨fun c hc hne => setRow_other w gb c _ (by simpa using hne), [gb], by simp, fun c hc => .inl hc, ?_⟩
        rw [vecB_holds]
        have hlen : (cs ++ news).length = (m + q) * i.size := by rw [List.length_append, hcl, hl, Nat.add_mul]
        have hsz3 : (cur.toList.take (m * i.size) ++ news ++ cur.toList.drop (m * i.size + news.length)).length = cap * i.size := by
          simp only [List.length_append, List.length_take, List.length_drop, Array.length_toList]
          omega
        refine ⟨[gb], [gb], ⟨hcl, .inr ⟨gb, cap, _, rfl, rfl, setRow_heap w gb cur _ e _ hg, hn, hcm, by simpa using hsz3, ?_⟩⟩, ⟨hlen, .inr ⟨gb, cap, _, rfl, rfl, setRow_heap w gb cur _ e _ hg, hroom, hcm, by simpa using hsz3, ?_⟩⟩, by simp⟩
        · simp only []
          rw [htk, ← hcl, List.append_assoc]
          exact List.take_left
        · simp only []
          rw [htk, ← hlen]
          exact List.take_left
      · have hcl := hfp.1
        have holds : ∀ j u', cs[j]? = some u' → w.cell? ((⟨gb, 0, none⟩ : Addr).add j) = some u' := reads_some hfp.reads
        have hrr := run_append_grow (P := P) w t ty e i z ht hi hz ⟨gb, 0, none⟩ m cap cs hcl holds a q cx news hl hnews (by omega) (by omega) (growslice_fits (by omega) hb)
        exact ⟨_, _, _, hrr, hw.upd (hu.upd _) rfl rfl rfl (by simp) (hgrow cap _ rfl hcl)⟩
theorem E_appendB {t e sz by' m q sz1 by1 : Nat} {ty2 : Ty} {z1 : Option (List Value)} {z : List Value} {u ux : Value} {cs news : List Value} {F : Asn → List Asn}
    (hx : ev ov x = some u) (hy : ev ov y = some ux) (h : tlook tb.l t = some ⟨.slice e, sz1, by1, z1⟩) (h2 : tlook tb.l e = some ⟨ty2, sz, by', some z⟩) (hzl : Nat.beq z.length sz = true) (hsz : Nat.blt 0 sz = true)
    (hu : Sel H (vec e sz u m cs) F) (hr : Rd w0 H ux q news) (hl : news.length = q * sz) (h1 : All1 news) (hq0 : 0 < q) (hb : (m + q) * by' ≤ 140737488355328 ∧ m + q ≤ 140737488355328) (hd : dOk d n = true) :
    OpE (ι := Option Addr × Nat) P n D w0 ov H ⟨d, .call ⟨.builtin .append, #[x, y], #[t, t]⟩, T, pos, af, g⟩ (fun pc => .slice pc.1 (m + q) pc.2) (fun pc => F (vecB e sz u m cs (.slice pc.1 (m + q) pc.2) (m + q) (cs ++ news))) :=
  ⟨hd, fun A w ha hw => by
    obtain ⟨i, zv, hi, e1, e2, e3, e4⟩ := Tb.inf' h2
    obtain ⟨p, c, w', hr', hw'⟩ := run_appendB (ty := T) hw (und_slice h) hi e3 e1 e2 (by have := Nat.eq_of_beq_eq_true hzl; rw [cellsL_eq, e4]; simpa using this) (by simpa [Nat.blt_eq] using hsz) hu hr hl h1 hq0 hb.1 hb.2
    exact ⟨(p, c), w', by simp [execOp, resolve, invoke, builtin, ha.ev hx, ha.ev hy, hr'], hw'⟩⟩
/-- a new slice of given values -/
theorem E_buildSlice {t e sz by' s1 b1 m : Nat} {ty2 : Ty} {z1 : Option (List Value)} {z : List Value} {xs : List (Nat × Operand)} {vs : List (Nat × Value)} {cs : List Value} (h : tlook tb.l t = some ⟨.slice e, s1, b1, z1⟩) (h2 : tlook tb.l e = some ⟨ty2, sz, by', some z⟩) (hzl : Nat.beq z.length sz = true) (hsz : Nat.blt 0 sz = true)
    (hm : Nat.ble (m * sz) 16777216 = true) (hx : pevs ov xs = some vs) (hc : fillL (fun i => some (i * sz, sz)) (rep m z) vs = some cs) (hcl : Nat.beq cs.length (m * sz) = true) (hd : dOk d n = true) :
    OpE (ι := Addr) P n D w0 ov H ⟨d, .buildSlice t m xs.toArray, T, pos, af, g⟩ (fun p => .slice (some p) m m) (fun p => vec e sz (.slice (some p) m m) m cs :: H) :=
  ⟨hd, fun a w ha hw => by
    have e1 := run_underlying (und_slice h) w
    obtain ⟨zv, hz, e3⟩ := Tb.run_zero w h2
    have hsz' : 0 < sz := by rw [Nat.blt_eq] at hsz; exact hsz
    have hzl' := Nat.eq_of_beq_eq_true hzl
    have hm' : m * sz ≤ 16777216 := Nat.le_of_ble_eq_true hm
    have hfill := fill_eq _ hc
    have hx' := ha.pevs hx
    have hmr := made_rep z (by omega) m
    rw [hzl'] at hmr
    have hma : madeCells z.toArray (m * sz) = (rep m z).toArray := by rw [← hmr]
    refine ⟨⟨w.heap.size, 0, none⟩, w.alloc (.cells cs.toArray e), ?_, hw.new cs e _ fun w' h' => ?_⟩
    · simp only [execOp, Instr.buildSlice, Sem.run_bind, e1, Result.andThen_ok, Tb.run_size w h2]
      rw [if_neg (by omega)]
      simp only [Sem.run_pure, pure_bind, Sem.run_ite, List.map_toArray, hx']
      by_cases h0 : m * sz = 0
      · have hm0 : m = 0 := by
          rcases Nat.mul_eq_zero.1 h0 with h | h <;> omega
        subst hm0
        simp only [h0, ↓reduceIte]
        rw [show (Array.range 0).map (fun i => (#[] : Array Value)[i % (#[] : Array Value).size]!) = ([] : List Value).toArray from by simp]
        rw [show fillL (fun i => some (i * sz, sz)) (rep 0 z) vs = fillL (fun i => some (i * sz, sz)) [] vs from rfl] at hc
        have hfill := fill_eq _ hc
        simp [hfill, newRow]
      · simp only [h0, ↓reduceIte, Sem.run_bind, e3, Result.andThen_ok, cellsL_eq, hz]
        rw [show (Array.range (m * sz)).map (fun i => z.toArray[i % z.toArray.size]!) = madeCells z.toArray (m * sz) from rfl, hma]
        simp [hfill, newRow]
    · rw [vec_holds]
      have hcl' := Nat.eq_of_beq_eq_true hcl
      refine ⟨hcl', .inr ⟨_, m, _, rfl, rfl, h', Nat.le_refl _, ?_, by simp [hcl'], by simp [← hcl']⟩⟩
      have : m ≤ m * sz := Nat.le_mul_of_pos_right m hsz'
      unfold maxLen; omega⟩
end
end Sx

set_option linter.unusedVariables false
namespace Sx
open Go
/-! a region that draws its order, where two loud operations may come up at once: a tree of orders -/
inductive FT where
  | leaf (st : List Nat)
  | node (st : List Nat) (i : Nat) (t : FT) (j : Nat) (u : FT)
inductive FTL where
  | leaf (l : List Oper)
  | node (l : List Oper) (o : Oper) (t : FTL) (o' : Oper) (u : FTL)
def FT.len : FT → Nat
  | .leaf st => st.length
  | .node st _ t _ _ => st.length + (t.len + 1)
def KN (P : Program) (E : List PanicEntry → List Deferred → World → Prop) (ops : Array Oper) (kt ku : (World → Prop) → Act → Prop) (o o' : Oper) : (World → Prop) → Act → Prop :=
  fun C a => walkN P E ops [] kt [o] C a ∧ walkN P E ops [] ku [o'] C a
def KT (P : Program) (E : List PanicEntry → List Deferred → World → Prop) (ops : Array Oper) (sy : List Nat) (K : (World → Prop) → Act → Prop) : FTL → (World → Prop) → Act → Prop
  | .leaf l => walkN P E ops sy K l
  | .node l o t o' u => walkN P E ops [] (KN P E ops (KT P E ops sy K t) (KT P E ops sy K u) o o') l
def preB (ops : Array Oper) (k : List Nat → Array Bool → Bool) : List Nat → List Nat → Array Bool → Bool
  | [], done, listed => k done listed
  | x :: st, done, listed =>
    match ops[x]? with
    | none => false
    | some o => !loud o.op && (Region.ready .any ops listed).contains x && Region.free .any ops listed x && preB ops k st (x :: done) (listed.setIfInBounds x true)
def isLoud (ops : Array Oper) (i : Nat) : Bool :=
  match ops[i]? with
  | none => false
  | some o => loud o.op
def tillT (ops : Array Oper) (sy : List Nat) : FT → List Nat → List Nat
  | .leaf st, done => till ops sy done st
  | .node st i t _ _, done => tillT ops sy t (i :: List.reverseAux st done)
def ordT (ops : Array Oper) (sy : List Nat) : FT → List Nat → Array Bool → Bool
  | .leaf st, done, listed => ordB ops sy done st listed
  | .node st i t j u, done, listed => preB ops (fun done listed =>
      isLoud ops i && isLoud ops j && Region.ready .any ops listed == [i, j] && t.len == u.len &&
      ordT ops sy t (i :: done) (listed.setIfInBounds i true) && ordT ops sy u (j :: done) (listed.setIfInBounds j true) &&
      (tillT ops sy t (i :: done)).all (tillT ops sy u (j :: done)).contains) st done listed
section
variable {P : Program} {E : List PanicEntry → List Deferred → World → Prop} {ops : Array Oper}
theorem tillT_sub {sy : List Nat} : ∀ (t : FT) (done : List Nat) (k : Nat), k ∈ done → calmAt ops k = false → k ∈ tillT ops sy t done
  | .leaf st, done, k, h, hc => till_sub _ _ _ h hc
  | .node st i t j u, done, k, h, hc => tillT_sub t _ k (List.mem_cons_of_mem _ (by rw [List.reverseAux_eq]; simp [h])) hc
theorem tillT_calm {sy : List Nat} : ∀ (t : FT) (done : List Nat) (k : Nat), k ∈ tillT ops sy t done → calmAt ops k = false
  | .leaf st, done, k, h => till_calm _ _ _ h
  | .node st i t j u, done, k, h => tillT_calm t _ k h
/-- what a step does to the book -/
theorem book {done : List Nat} {listed : Array Bool} {i : Nat} {o : Oper} (ho : ops[i]? = some o) (hrdy : i ∈ Region.ready .any ops listed) (hs : ∀ s ∈ done, s < ops.size) (hd : ∀ j, listed.getD j false = true ↔ j ∈ done) (hG : ∀ S, (∀ s ∈ done, calmAt ops s = false → s ∈ S) → Sofar ops S listed) :
    (∀ s ∈ i :: done, s < ops.size) ∧ (∀ j, (listed.setIfInBounds i true).getD j false = true ↔ j ∈ i :: done) ∧ (∀ S, (∀ s ∈ i :: done, calmAt ops s = false → s ∈ S) → Sofar ops S (listed.setIfInBounds i true)) := by
  have hi : i < ops.size := (Array.getElem?_eq_some_iff.1 ho).1
  have hiun : listed.getD i true = false := (mem_ready.1 hrdy).1
  have hlt : i < listed.size := by
    rcases Nat.lt_or_ge i listed.size with h' | h'
    · exact h'
    · simp [Array.getElem?_eq_none h'] at hiun
  have hd' : ∀ j, (listed.setIfInBounds i true).getD j false = true ↔ j ∈ i :: done := fun j => by
    by_cases hij : i = j
    · subst hij
      simp [hlt]
    · rw [getD_set_ne false hij, hd j]
      simp [Ne.symm hij]
  refine ⟨fun s hs' => (List.mem_cons.1 hs').elim (fun e => e ▸ hi) (hs s), hd', fun S hS => ⟨fun j oj hj hl e he hb => ?_, fun k hk hkc hl => absurd (hS k ((hd' k).1 hl) hkc) hk⟩⟩
  by_cases hij : i = j
  · subst hij
    rw [ho] at hj; cases hj
    obtain ⟨_, o', ho', hall⟩ := mem_ready.1 hrdy
    rw [ho] at ho'; cases ho'
    exact getD_set_true (hall e he hb)
  · rw [getD_set_ne false hij] at hl
    exact getD_set_true ((hG S fun s hs => hS s (List.mem_cons_of_mem _ hs)).down j oj hj hl e he hb)
inductive PickT (l : List Oper) : FT → FTL → Prop where
  | leaf {st : List Nat} {l' : List Oper} (h : Picks l st l') : PickT l (.leaf st) (.leaf l')
  | node {st : List Nat} {l' : List Oper} {i j : Nat} {o o' : Oper} {t u : FT} {t' u' : FTL} (h : Picks l st l') (hi : nthO l i = some o) (ht : PickT l t t') (hj : nthO l j = some o') (hu : PickT l u u') : PickT l (.node st i t j u) (.node l' o t' o' u')
/-- one of the two -/
theorem wpS_side {K : (World → Prop) → Act → Prop} {kt : (World → Prop) → Act → Prop} {i : Nat} {listed : Array Bool} {C : World → Prop} {a : Act} {S S' : List Nat} {o : Oper} {m : Nat}
    (ho : ops[i]? = some o) (hlo : loud o.op = true) (hS : ∀ s ∈ S, s ∈ S')
    (hrest : ∀ C a, kt C a → ∀ w, C w → wpS P E ops C S' (fun a w => ∃ C' : World → Prop, C' w ∧ K C' a) m (listed.setIfInBounds i true) a w)
    (h : walkN P E ops [] kt [o] C a) (w : World) (hw : C w) :
    stepN P E ops i (fun a' w' => (i ∈ S → C w') ∧ wpS P E ops C S (fun a w => ∃ C' : World → Prop, C' w ∧ K C' a) m (listed.setIfInBounds i true) a' w') a w := by
  have fin : ∀ (a' : Act) (w' : World) (C' : World → Prop), C' w' → (∀ w, C' w → C w) → kt C' a' →
      ((i ∈ S → C w') ∧ wpS P E ops C S (fun a w => ∃ C' : World → Prop, C' w ∧ K C' a) m (listed.setIfInBounds i true) a' w') := by
    intro a' w' C' hw' hsub hn
    exact ⟨fun _ => hsub _ hw', wpS_weak _ _ _ _ (fun j hj _ => ⟨hS j hj, hsub⟩) (hrest C' a' hn w' hw')⟩
  simp only [walkN] at h
  unfold stepN
  simp only [ho]
  by_cases hwt : Region.wanted o (yielded ops a.tmps) = true
  · rw [if_pos hwt] at h ⊢
    rcases h with ⟨hq, _⟩ | ⟨_, hn⟩
    · rw [hlo] at hq; cases hq
    · exact Oper.wpN_mono (fun a' w' ⟨C', hw', hor, hn'⟩ => fin a' w' C' hw' (hor.resolve_right (by simp)) hn') (hn w hw)
  · rw [if_neg hwt] at h ⊢
    exact fin _ _ C hw (fun _ h => h) h
/-- the book: what has come up, what it was waiting for -/
structure Book (ops : Array Oper) (done : List Nat) (listed : Array Bool) : Prop where
  hs : ∀ s ∈ done, s < ops.size
  hd : ∀ j, listed.getD j false = true ↔ j ∈ done
  hG : ∀ S, (∀ s ∈ done, calmAt ops s = false → s ∈ S) → Sofar ops S listed
theorem Book.step {done : List Nat} {listed : Array Bool} {i : Nat} {o : Oper} (b : Book ops done listed) (ho : ops[i]? = some o) (hrdy : i ∈ Region.ready .any ops listed) : Book ops (i :: done) (listed.setIfInBounds i true) :=
  let ⟨h1, h2, h3⟩ := book ho hrdy b.hs b.hd b.hG
  ⟨h1, h2, h3⟩
theorem mem_reverseAux {k : Nat} : ∀ (st done : List Nat), k ∈ done → k ∈ List.reverseAux st done
  | [], _, h => h
  | _ :: st, _, h => mem_reverseAux st _ (List.mem_cons_of_mem _ h)
theorem preB_end {kb : List Nat → Array Bool → Bool} : ∀ (st done : List Nat) (listed : Array Bool), preB ops kb st done listed = true → Book ops done listed → ∃ listed', kb (List.reverseAux st done) listed' = true ∧ Book ops (List.reverseAux st done) listed'
  | [], _, listed, hB, hb => ⟨listed, hB, hb⟩
  | x :: st, done, listed, hB, hb => by
    cases ho : ops[x]? with
    | none => simp [preB, ho] at hB
    | some o =>
      simp only [preB, ho, Bool.and_eq_true, Bool.not_eq_true'] at hB
      obtain ⟨⟨⟨_, hrd⟩, _⟩, hB3⟩ := hB
      exact preB_end st (x :: done) _ hB3 (hb.step ho (by simpa using hrd))
theorem ordT_gate {sy : List Nat} : ∀ (t : FT) (done : List Nat) (listed : Array Bool), ordT ops sy t done listed = true → Book ops done listed → Gate ops (tillT ops sy t done) ∧ ∀ s ∈ tillT ops sy t done, s < ops.size
  | .leaf st, done, listed, hB, hb => ordB_gate st done listed hB hb.hs
  | .node st i t j u, done, listed, hB, hb => by
    simp only [ordT] at hB
    obtain ⟨listed', hB', hb'⟩ := preB_end st done listed hB hb
    simp only [Bool.and_eq_true, beq_iff_eq] at hB'
    obtain ⟨⟨⟨⟨⟨⟨hli, _⟩, hr⟩, _⟩, hB1⟩, _⟩, _⟩ := hB'
    cases hoi : ops[i]? with
    | none => simp [isLoud, hoi] at hli
    | some oi => exact ordT_gate t _ _ hB1 (hb'.step hoi (by rw [hr]; simp))
/-- quiet operations ahead -/
theorem wpS_pre {kt : (World → Prop) → Act → Prop} {Q : Act → World → Prop} {S : List Nat} {m : Nat} (hsel : Region.noSelect ops = true) {kb : List Nat → Array Bool → Bool} (hSc : ∀ s ∈ S, calmAt ops s = false) (hg : Gate ops S) (hz : ∀ s ∈ S, s < ops.size) :
    ∀ (st done : List Nat) (l : List Oper) (listed : Array Bool) (C : World → Prop) (a : Act),
    l.map some = st.map (fun i => ops[i]?) → preB ops kb st done listed = true → Book ops done listed → (∀ s ∈ List.reverseAux st done, calmAt ops s = false → s ∈ S) →
    (∀ listed, kb (List.reverseAux st done) listed = true → Book ops (List.reverseAux st done) listed → ∀ C a, kt C a → ∀ w, C w → wpS P E ops C S Q m listed a w) →
    walkN P E ops [] kt l C a → ∀ w, C w → wpS P E ops C S Q (st.length + m) listed a w
  | [], done, l, listed, C, a, hl, hB, hb, hS, hk, h => by
    have : l = [] := by simpa using hl
    subst this
    have h2 := hk listed hB hb
    intro w hw
    rw [List.length_nil, Nat.zero_add]
    exact h2 C a h w hw
  | x :: st, done, [], listed, C, a, hl, hB, hb, hS, hk, h => by simp at hl
  | x :: st, done, o :: l, listed, C, a, hl, hB, hb, hS, hk, h => by
    simp only [List.map_cons, List.cons.injEq] at hl
    have ho : ops[x]? = some o := hl.1.symm
    simp only [preB, ho, Bool.and_eq_true, Bool.not_eq_true'] at hB
    obtain ⟨⟨⟨hlo, hrd⟩, hfr⟩, hB3⟩ := hB
    have hrdy : x ∈ Region.ready .any ops listed := by simpa using hrd
    simp only [walkN] at h
    have key : ∀ v, Stays P ops C o v a → walkN P E ops [] kt l C (a.put o.dst v) → ∀ w, C w → wpS P E ops C S Q ((x :: st).length + m) listed a w := by
      intro v hst hn
      have h1 := wpS_pre hsel hSc hg hz st (x :: done) l (listed.setIfInBounds x true) C (a.put o.dst v) hl.2 hB3 (hb.step ho hrdy) hS hk hn
      intro w hw
      have e : (x :: st).length + m = (st.length + m) + 1 := by simp; omega
      rw [e]
      cases hcal : calm o.op with
      | false =>
        exact wpS_first ho (Region.noSelect_spec hsel) hg hz (hS x (mem_reverseAux st _ (List.mem_cons_self ..)) (by unfold calmAt; simp only [ho]; exact hcal)) _ listed a w (hb.hG _ fun s hs hc => hS s (mem_reverseAux st _ (List.mem_cons_of_mem _ hs)) hc) (Region.free_spec ho hfr) hrdy hst hw (h1 w hw)
      | true =>
        exact wpS_calm ho (Region.noSelect_spec hsel) (fun h => by have h' := hSc _ h; unfold calmAt at h'; simp only [ho, hcal] at h'; cases h') _ listed a w (Region.free_spec ho hfr) hrdy (hst.calm hcal hw) (h1 w hw)
    by_cases hwt : Region.wanted o (yielded ops a.tmps) = true
    · rw [if_pos hwt] at h
      rcases h with ⟨_, v, hv, hn⟩ | ⟨hlo', _⟩
      · exact key v (.inl ⟨hwt, hv⟩) hn
      · rw [hlo] at hlo'; cases hlo'
    · rw [if_neg hwt] at h
      exact key undef (.inr ⟨by simpa using hwt, rfl⟩) h
theorem isLoud_spec {i : Nat} {o : Oper} (ho : ops[i]? = some o) (h : isLoud ops i = true) : loud o.op = true := by
  unfold isLoud at h
  rw [ho] at h; exact h
theorem wpS_tree {sy : List Nat} {K : (World → Prop) → Act → Prop} {l : List Oper} (hops : ops = l.toArray) (hsel : Region.noSelect ops = true) :
    ∀ (t : FT) (t' : FTL), PickT l t t' → ∀ (done : List Nat) (listed : Array Bool), ordT ops sy t done listed = true → Book ops done listed →
    ∀ C a, KT P E ops sy K t' C a → ∀ w, C w → wpS P E ops C (tillT ops sy t done) (fun a w => ∃ C' : World → Prop, C' w ∧ K C' a) t.len listed a w := by
  subst hops
  intro t
  induction t with
  | leaf st =>
    intro t' hp done listed hB hb
    cases hp with
    | leaf h => exact fun C a hk w hw => wpS_walk hsel st done _ listed C a h.map hB hb.hs hb.hd hb.hG hk w hw
  | node st i t j u iht ihu =>
    intro t' hp done listed hB hb C a hk w hw
    cases hp with
    | node h hi ht hj hu =>
      rename_i l' o o' tt uu
      have hoi : l.toArray[i]? = some o := by rw [← nthO_eq]; exact hi
      have hoj : l.toArray[j]? = some o' := by rw [← nthO_eq]; exact hj
      obtain ⟨hg, hz⟩ := ordT_gate _ _ _ hB hb
      simp only [ordT] at hB
      refine wpS_pre hsel (tillT_calm (.node st i t j u) done) hg hz st done l' listed C a h.map hB hb (fun s hs hc => tillT_sub t _ s (List.mem_cons_of_mem _ hs) hc) ?_ hk w hw
      intro listed' hB' hb' C a ⟨hk1, hk2⟩ w hw
      simp only [Bool.and_eq_true, beq_iff_eq, List.all_eq_true] at hB'
      obtain ⟨⟨⟨⟨⟨⟨hli, hlj⟩, hr⟩, hlen⟩, hB1⟩, hB2⟩, hall⟩ := hB'
      have hri : i ∈ Region.ready .any l.toArray listed' := by rw [hr]; simp
      have hrj : j ∈ Region.ready .any l.toArray listed' := by rw [hr]; simp
      have hA := iht tt ht _ _ hB1 (hb'.step hoi hri)
      have hBr := ihu uu hu _ _ hB2 (hb'.step hoj hrj)
      refine ⟨fun h0 => (by rw [h0] at hri; cases hri), fun k hk => ?_⟩
      rw [hr] at hk
      simp only [List.mem_cons, List.not_mem_nil, or_false] at hk
      rcases hk with rfl | rfl
      · exact wpS_side (K := K) hoi (isLoud_spec hoi hli) (fun s h => h) hA hk1 w hw
      · have := wpS_side (K := K) (S := tillT l.toArray sy t (i :: List.reverseAux st done)) hoj (isLoud_spec hoj hlj) (fun s h => by simpa using hall s h) hBr hk2 w hw
        rw [← hlen] at this
        exact this
end
section
variable {P : Program} {f n : Nat} {R : Ending → World → Prop} {D : List Deferred} {w0 : World} {k : List Item} {ov : Ov} {H : List Asn} {K : KC}
theorem QR_leaf {ops : Array Oper} {sy : List Nat} {l : List Oper} (h : QR P n D w0 (ops, sy) l ov H K) : QR P n D w0 (ops, []) [] ov H ⟨KT P K.e ops sy K.k (.leaf l), K.e⟩ := by
  unfold QR at *
  intro a ha
  simp only [walkN, KT]
  exact h a ha
theorem QR_node {ops : Array Oper} {sy : List Nat} {l : List Oper} {o o' : Oper} {t u : FTL} (h : QR P n D w0 (ops, []) l ov H ⟨KN P K.e ops (KT P K.e ops sy K.k t) (KT P K.e ops sy K.k u) o o', K.e⟩) : QR P n D w0 (ops, []) [] ov H ⟨KT P K.e ops sy K.k (.node l o t o' u), K.e⟩ := by
  unfold QR at *
  intro a ha
  simp only [walkN, KT]
  exact h a ha
theorem QR_both {ops : Array Oper} {o o' : Oper} {kt ku : (World → Prop) → Act → Prop} {e : List PanicEntry → List Deferred → World → Prop} (h1 : QR P n D w0 (ops, []) [o] ov H ⟨kt, e⟩) (h2 : QR P n D w0 (ops, []) [o'] ov H ⟨ku, e⟩) : QR P n D w0 (ops, []) [] ov H ⟨KN P e ops kt ku o o', e⟩ := by
  unfold QR at *
  intro a ha
  exact ⟨h1 a ha, h2 a ha⟩
theorem JS_tree {id : Nat} {l : List Oper} (t : FT) (sy : List Nat) {t' : FTL} (hp : PickT l t t') (hm : P.follows .mixedOrders = true) (hs : Region.noSelect l.toArray = true)
    (hlen : t.len = l.length) (hB : ordT l.toArray sy t [] (Array.replicate l.length false) = true) (h : QR P n D w0 (l.toArray, []) [] ov H ⟨KT P (QK P f R k).e l.toArray sy (QK P f R k).k t', (QK P f R k).e⟩) :
    JS P f n R D w0 (.code (.region id l.toArray true) :: k) ov H := by
  unfold JS
  intro a w ha hw
  refine J_of_wpE (Q := QQ P f R k) (wp_region_any hm ?_) fun e a' w' h => h
  have h0 : ∀ j, (Array.replicate l.length false).getD j false = false := fun j => by
    rcases Nat.lt_or_ge j l.length with h | h
    · simp [h]
    · simp [h]
  unfold QR at h
  have hk := h a ha
  simp only [walkN] at hk
  have hws := wpS_tree (P := P) (E := (QK P f R k).e) (K := (QK P f R k).k) (sy := sy) rfl hs t t' hp [] (Array.replicate l.length false) hB ⟨by simp, fun j => by rw [h0 j]; simp, fun S _ => ⟨fun j oj _ hj => (by rw [h0 j] at hj; cases hj), fun k _ _ hk => (by rw [h0 k] at hk; cases hk)⟩⟩ (St w0 H) a hk w.drew hw.drew
  have := wpAny_of_S (Q' := QQ P f R k) (fun ch a w h => by unfold QK at h; exact h) (fun a w ⟨C, hC, hk⟩ => by unfold QK at hk; exact hk w hC) _ _ _ _ hws
  rw [hlen] at this
  simpa using this
end
end Sx

namespace Go.Proofs.Ytakgoflfcgofdaa
open Sx Go
set_option linter.unusedVariables false
set_option linter.unusedSimpArgs false
theorem ints_app1 {K : IntKind} {l : List Int} {x : Int} : ints K l ++ [.int K x] = ints K (l ++ [x]) := by simp [ints]
/-- a table by its places -/
def tab (n : Nat) (f : Nat → Int) : List Int := (List.range n).map f
theorem tab_len (n : Nat) (f : Nat → Int) : (tab n f).length = n := by simp [tab]
theorem tab_set (n : Nat) (f : Nat → Int) (i : Nat) (v : Int) : (tab n f).set i v = tab n fun j => if j = i then v else f j := by
  apply List.ext_getElem?
  intro j
  unfold tab
  rw [List.getElem?_set]
  by_cases hj : j < n
  · by_cases hij : i = j
    · subst hij; simp [hj]
    · rw [if_neg hij]; simp [hj, Ne.symm hij, show ¬ j = i from fun h => hij h.symm]
  · rw [List.getElem?_eq_none (l := (List.range n).map _) (by simp; omega)]
    by_cases hij : i = j
    · subst hij; simp [hj]
    · simp [hij, hj]
theorem tab_congr {n : Nat} {f g : Nat → Int} (h : ∀ j, j < n → f j = g j) : tab n f = tab n g := by
  unfold tab
  apply List.map_congr_left
  intro j hj
  exact h j (by simpa using hj)
theorem tab_succ (n : Nat) (f : Nat → Int) : tab (n + 1) f = tab n f ++ [f n] := by simp [tab, List.range_succ]
theorem tab_const (n : Nat) (x : Int) : List.replicate n x = tab n fun _ => x := by
  unfold tab
  rw [show (fun _ : Nat => x) = Function.const _ x from rfl, List.map_const, List.length_range]
theorem tab_get {n : Nat} {f : Nat → Int} {j : Nat} (h : j < n) : (tab n f).getD j 0 = f j := by simp [tab, List.getD_eq_getElem?_getD, h]
theorem tab_out {n : Nat} {f : Nat → Int} {j : Nat} (h : n ≤ j) : (tab n f).getD j 0 = 0 := by
  rw [List.getD_eq_getElem?_getD, List.getElem?_eq_none (by rw [tab_len]; exact h)]; rfl
end Go.Proofs.Ytakgoflfcgofdaa

namespace Go.Proofs.Ytakgoflfcgofdaa
open Sx Go
set_option linter.unusedVariables false
set_option linter.unusedSimpArgs false
theorem Mul64_c {w0 : World} {H : List Asn} (a b : Int) (ha : 0 ≤ a ∧ a < 18446744073709551616) (hb : 0 ≤ b ∧ b < 18446744073709551616) (w : World) (hw : St w0 H w) :
    Calls Try.prog 99 #[.int .u64 a, .int .u64 b] w fun e w' => e = .returned (.tuple #[.int .u64 (a * b / 18446744073709551616), .int .u64 (a * b % 18446744073709551616)]) ∧ St w0 H w' := by
  refine enter (vs := [.int .u64 a, .int .u64 b]) Try.func99 rfl rfl rfl hw ?_
  repeat (first | (apply gJO; first | (apply kS; refine aK ?_) | (apply kX; refine JO_box rfl rfl rfl ?_; intro _) | (apply kA; refine JO_alloc (tb := tb) rfl rfl ?_; intro _) | (apply kBs; refine JO_buildSlice (tb := tb) rfl rfl rfl rfl rfl rfl rfl rfl rfl ?_; intro _) | (apply kM; refine JO_make (tb := tb) rfl rfl rfl rfl rfl rfl (by omega) rfl ?_; intro _) | refine aU ?_) | (apply gJR; first | apply JR_un | apply JR_nil | refine JR_yes rfl rfl ?_ | refine JR_no rfl rfl rfl rfl ?_ | refine JR_noU rfl rfl rfl ?_) | (apply gJS; first | apply JS_seq | apply JS_region | apply JS_skip | apply JS_block | apply JS_inBlock | apply JS_label | refine JS_exit rfl ?_ | refine JS_condT rfl ?_ | refine JS_condF rfl ?_ | refine JS_draw [0] (by kernel_rfl) (by kernel_rfl) (by decide +kernel) ?_ | refine JS_draw [] (by kernel_rfl) (by kernel_rfl) (by decide +kernel) ?_) | (apply gQR; first | apply QR_un | apply QR_nil | refine QR_yes rfl rfl ?_ | refine QR_no rfl rfl rfl rfl ?_ | refine QR_noU rfl rfl rfl ?_) | (apply gQO; first | refine aQ ?_ | refine aQK rfl ?_))
  refine JS_ret Try.func99 rfl rfl ?_
  intro w hw
  have := mul64_arith a b ha.1 ha.2 hb.1 hb.2
  refine ⟨?_, hw⟩
  rw [← this]
  rfl
end Go.Proofs.Ytakgoflfcgofdaa

namespace Go.Proofs.Ytakgoflfcgofdaa
open Sx Go
set_option linter.unusedVariables false
set_option linter.unusedSimpArgs false
/-- bytes -/
def OKB (B : List Int) : Prop := ∀ j, 0 ≤ B.getD j 0 ∧ B.getD j 0 < 256
theorem Big_c {w0 : World} {H : List Asn} (b : Int) (hb : 0 ≤ b ∧ b < 256) (w : World) (hw : St w0 H w) :
    Calls Try.prog 91 #[.int .u8 b] w fun e w' => e = .returned (.bool (decide (15 < b))) ∧ St w0 H w' := by
  refine enter (vs := [.int .u8 b]) Try.func91 rfl rfl rfl hw ?_
  repeat (first | (apply gJO; first | (apply kS; refine aK ?_) | (apply kX; refine JO_box rfl rfl rfl ?_; intro _) | (apply kA; refine JO_alloc (tb := tb) rfl rfl ?_; intro _) | (apply kBs; refine JO_buildSlice (tb := tb) rfl rfl rfl rfl rfl rfl rfl rfl rfl ?_; intro _) | (apply kM; refine JO_make (tb := tb) rfl rfl rfl rfl rfl rfl (by omega) rfl ?_; intro _) | refine aO ?_) | (apply gJR; first | apply JR_un | apply JR_nil | refine JR_yes rfl rfl ?_ | refine JR_no rfl rfl rfl rfl ?_ | refine JR_noU rfl rfl rfl ?_) | (apply gJS; first | apply JS_seq | apply JS_region | apply JS_skip | apply JS_block | apply JS_inBlock | apply JS_label | refine JS_exit rfl ?_ | refine JS_condT rfl ?_ | refine JS_condF rfl ?_ | refine JS_draw [0] (by kernel_rfl) (by kernel_rfl) (by decide +kernel) ?_ | refine JS_draw [] (by kernel_rfl) (by kernel_rfl) (by decide +kernel) ?_) | (apply gQR; first | apply QR_un | apply QR_nil | refine QR_yes rfl rfl ?_ | refine QR_no rfl rfl rfl rfl ?_ | refine QR_noU rfl rfl rfl ?_) | (apply gQO; first | refine aQ ?_ | refine aQK rfl ?_))
  refine JS_ret Try.func91 rfl rfl ?_
  intro w hw
  exact ⟨rfl, hw⟩
set_option maxHeartbeats 1000000 in
theorem Index_c {w0 : World} {H : List Asn} (p : Option Addr) (c m : Nat) (B : List Int) (hr : Rd w0 H (.slice p m c) m (ints .u8 B)) (hm : B.length = m) (hB : OKB B) (hm1 : m ≤ 4611686018427387904) (w : World) (hw : St w0 H w) :
    Calls Try.prog 100 #[.slice p m c, .func (.func 91) #[] #[]] w fun e w' => ∃ r, e = .returned (.int .i64 r) ∧ St w0 H w' ∧ ((r = -1 ∧ ∀ j, B.getD j 0 ≤ 15) ∨ (0 ≤ r ∧ ∃ j, 15 < B.getD j 0)) := by
  refine enter (vs := [.slice p m c, .func (.func 91) #[] #[]]) Try.func100 rfl rfl rfl hw ?_
  repeat (first | (apply gJR; first | (apply gJO; first | (apply kS; refine aK ?_) | (apply kX; refine JO_box rfl rfl rfl ?_; intro _) | (apply kA; refine JO_alloc (tb := tb) rfl rfl ?_; intro _) | (apply kBs; refine JO_buildSlice (tb := tb) rfl rfl rfl rfl rfl rfl rfl rfl rfl ?_; intro _) | (apply kM; refine JO_make (tb := tb) rfl rfl rfl rfl rfl rfl (by omega) rfl ?_; intro _) | refine aO ?_) | (apply gJR; first | apply JR_un | apply JR_nil | refine JR_yes rfl rfl ?_ | refine JR_no rfl rfl rfl rfl ?_ | refine JR_noU rfl rfl rfl ?_) | (apply gJS; first | apply JS_seq | apply JS_region | apply JS_skip | apply JS_block | apply JS_inBlock | apply JS_label | refine JS_exit rfl ?_ | refine JS_condT rfl ?_ | refine JS_condF rfl ?_ | refine JS_draw [0] (by kernel_rfl) (by kernel_rfl) (by decide +kernel) ?_ | refine JS_draw [] (by kernel_rfl) (by kernel_rfl) (by decide +kernel) ?_ | refine JS_cond_T rfl (by omega) ?_ | refine JS_cond_F rfl (by omega) ?_) | (apply gQR; first | apply QR_un | apply QR_nil | refine QR_yes rfl rfl ?_ | refine QR_no rfl rfl rfl rfl ?_ | refine QR_noU rfl rfl rfl ?_) | (apply gQO; first | refine aQ ?_ | refine aQK rfl ?_)) | (apply gJO; first | (apply gJO; first | (apply kS; refine aK ?_) | (apply kX; refine JO_box rfl rfl rfl ?_; intro _) | (apply kA; refine JO_alloc (tb := tb) rfl rfl ?_; intro _) | (apply kBs; refine JO_buildSlice (tb := tb) rfl rfl rfl rfl rfl rfl rfl rfl rfl ?_; intro _) | (apply kM; refine JO_make (tb := tb) rfl rfl rfl rfl rfl rfl (by omega) rfl ?_; intro _) | refine aO ?_) | (apply gJR; first | apply JR_un | apply JR_nil | refine JR_yes rfl rfl ?_ | refine JR_no rfl rfl rfl rfl ?_ | refine JR_noU rfl rfl rfl ?_) | (apply gJS; first | apply JS_seq | apply JS_region | apply JS_skip | apply JS_block | apply JS_inBlock | apply JS_label | refine JS_exit rfl ?_ | refine JS_condT rfl ?_ | refine JS_condF rfl ?_ | refine JS_draw [0] (by kernel_rfl) (by kernel_rfl) (by decide +kernel) ?_ | refine JS_draw [] (by kernel_rfl) (by kernel_rfl) (by decide +kernel) ?_ | refine JS_cond_T rfl (by omega) ?_ | refine JS_cond_F rfl (by omega) ?_) | (apply gQR; first | apply QR_un | apply QR_nil | refine QR_yes rfl rfl ?_ | refine QR_no rfl rfl rfl rfl ?_ | refine QR_noU rfl rfl rfl ?_) | (apply gQO; first | refine aQ ?_ | refine aQK rfl ?_)) | apply JS_seq | apply JS_region)
  refine JS_block ?_
  refine JS_loop1 (fun (i : Nat) => [(0, .slice p m c), (1, .func (.func 91) #[] #[]), (7, .int .i64 m), (8, .int .i64 i)]) (fun _ => H) (fun i => i ≤ m ∧ ∀ j, j < i → B.getD j 0 ≤ 15) (fun i => m - i) 0 ⟨by omega, fun j h => by omega⟩ (by repeat (first | exact trivial | refine ⟨rfl, ?_⟩ | refine ⟨lookI rfl (by omega), ?_⟩)) (fun _ h => h) ?_
  intro i ⟨hi, hall⟩ again
  by_cases him : i < m
  · have hb := hB i
    repeat (first | (apply gJO; first | (apply kS; refine aK ?_) | (apply kX; refine JO_box rfl rfl rfl ?_; intro _) | (apply kA; refine JO_alloc (tb := tb) rfl rfl ?_; intro _) | (apply kBs; refine JO_buildSlice (tb := tb) rfl rfl rfl rfl rfl rfl rfl rfl rfl ?_; intro _) | (apply kM; refine JO_make (tb := tb) rfl rfl rfl rfl rfl rfl (by omega) rfl ?_; intro _) | refine aO ?_) | (apply gJR; first | apply JR_un | apply JR_nil | refine JR_yes rfl rfl ?_ | refine JR_no rfl rfl rfl rfl ?_ | refine JR_noU rfl rfl rfl ?_) | (apply gJS; first | apply JS_seq | apply JS_region | apply JS_skip | apply JS_block | apply JS_inBlock | apply JS_label | refine JS_exit rfl ?_ | refine JS_condT rfl ?_ | refine JS_condF rfl ?_ | refine JS_draw [0] (by kernel_rfl) (by kernel_rfl) (by decide +kernel) ?_ | refine JS_draw [] (by kernel_rfl) (by kernel_rfl) (by decide +kernel) ?_ | refine JS_cond_T rfl (by omega) ?_ | refine JS_cond_F rfl (by omega) ?_) | (apply gQR; first | apply QR_un | apply QR_nil | refine QR_yes rfl rfl ?_ | refine QR_no rfl rfl rfl rfl ?_ | refine QR_noU rfl rfl rfl ?_) | (apply gQO; first | refine aQ ?_ | refine aQK rfl ?_))
    refine JO_callv (us := []) (cs := []) rfl Try.call91 rfl rfl fun w hw => (Big_c (B.getD i 0) hb w hw).mono ?_
    rintro e w' ⟨rfl, hw'⟩
    refine ⟨_, rfl, _, hw', ?_⟩
    clear hw' hw w w'
    by_cases h15 : 15 < B.getD i 0
    · rw [decide_eq_true h15]
      repeat (first | (apply gJO; first | (apply kS; refine aK ?_) | (apply kX; refine JO_box rfl rfl rfl ?_; intro _) | (apply kA; refine JO_alloc (tb := tb) rfl rfl ?_; intro _) | (apply kBs; refine JO_buildSlice (tb := tb) rfl rfl rfl rfl rfl rfl rfl rfl rfl ?_; intro _) | (apply kM; refine JO_make (tb := tb) rfl rfl rfl rfl rfl rfl (by omega) rfl ?_; intro _) | refine aO ?_) | (apply gJR; first | apply JR_un | apply JR_nil | refine JR_yes rfl rfl ?_ | refine JR_no rfl rfl rfl rfl ?_ | refine JR_noU rfl rfl rfl ?_) | (apply gJS; first | apply JS_seq | apply JS_region | apply JS_skip | apply JS_block | apply JS_inBlock | apply JS_label | refine JS_exit rfl ?_ | refine JS_condT rfl ?_ | refine JS_condF rfl ?_ | refine JS_draw [0] (by kernel_rfl) (by kernel_rfl) (by decide +kernel) ?_ | refine JS_draw [] (by kernel_rfl) (by kernel_rfl) (by decide +kernel) ?_ | refine JS_cond_T rfl (by omega) ?_ | refine JS_cond_F rfl (by omega) ?_) | (apply gQR; first | apply QR_un | apply QR_nil | refine QR_yes rfl rfl ?_ | refine QR_no rfl rfl rfl rfl ?_ | refine QR_noU rfl rfl rfl ?_) | (apply gQO; first | refine aQ ?_ | refine aQK rfl ?_))
      refine JS_ret Try.func100 rfl rfl ?_
      intro w hw
      exact ⟨_, rfl, hw, .inr ⟨by omega, i, h15⟩⟩
    · rw [decide_eq_false h15]
      repeat (first | (apply gJO; first | (apply kS; refine aK ?_) | (apply kX; refine JO_box rfl rfl rfl ?_; intro _) | (apply kA; refine JO_alloc (tb := tb) rfl rfl ?_; intro _) | (apply kBs; refine JO_buildSlice (tb := tb) rfl rfl rfl rfl rfl rfl rfl rfl rfl ?_; intro _) | (apply kM; refine JO_make (tb := tb) rfl rfl rfl rfl rfl rfl (by omega) rfl ?_; intro _) | refine aO ?_) | (apply gJR; first | apply JR_un | apply JR_nil | refine JR_yes rfl rfl ?_ | refine JR_no rfl rfl rfl rfl ?_ | refine JR_noU rfl rfl rfl ?_) | (apply gJS; first | apply JS_seq | apply JS_region | apply JS_skip | apply JS_block | apply JS_inBlock | apply JS_label | refine JS_exit rfl ?_ | refine JS_condT rfl ?_ | refine JS_condF rfl ?_ | refine JS_draw [0] (by kernel_rfl) (by kernel_rfl) (by decide +kernel) ?_ | refine JS_draw [] (by kernel_rfl) (by kernel_rfl) (by decide +kernel) ?_ | refine JS_cond_T rfl (by omega) ?_ | refine JS_cond_F rfl (by omega) ?_) | (apply gQR; first | apply QR_un | apply QR_nil | refine QR_yes rfl rfl ?_ | refine QR_no rfl rfl rfl rfl ?_ | refine QR_noU rfl rfl rfl ?_) | (apply gQO; first | refine aQ ?_ | refine aQK rfl ?_))
      exact JS_again1 again (i + 1) ⟨by omega, fun j hj => by
        rcases Nat.lt_or_ge j i with h | h
        · exact hall j h
        · obtain rfl : j = i := by omega
          omega⟩ (by omega) (by repeat (first | exact trivial | refine ⟨rfl, ?_⟩ | refine ⟨lookI rfl (by omega), ?_⟩)) (fun _ h => h)
  · repeat (first | (apply gJO; first | (apply kS; refine aK ?_) | (apply kX; refine JO_box rfl rfl rfl ?_; intro _) | (apply kA; refine JO_alloc (tb := tb) rfl rfl ?_; intro _) | (apply kBs; refine JO_buildSlice (tb := tb) rfl rfl rfl rfl rfl rfl rfl rfl rfl ?_; intro _) | (apply kM; refine JO_make (tb := tb) rfl rfl rfl rfl rfl rfl (by omega) rfl ?_; intro _) | refine aO ?_) | (apply gJR; first | apply JR_un | apply JR_nil | refine JR_yes rfl rfl ?_ | refine JR_no rfl rfl rfl rfl ?_ | refine JR_noU rfl rfl rfl ?_) | (apply gJS; first | apply JS_seq | apply JS_region | apply JS_skip | apply JS_block | apply JS_inBlock | apply JS_label | refine JS_exit rfl ?_ | refine JS_condT rfl ?_ | refine JS_condF rfl ?_ | refine JS_draw [0] (by kernel_rfl) (by kernel_rfl) (by decide +kernel) ?_ | refine JS_draw [] (by kernel_rfl) (by kernel_rfl) (by decide +kernel) ?_ | refine JS_cond_T rfl (by omega) ?_ | refine JS_cond_F rfl (by omega) ?_) | (apply gQR; first | apply QR_un | apply QR_nil | refine QR_yes rfl rfl ?_ | refine QR_no rfl rfl rfl rfl ?_ | refine QR_noU rfl rfl rfl ?_) | (apply gQO; first | refine aQ ?_ | refine aQK rfl ?_))
    refine JS_ret Try.func100 rfl rfl ?_
    intro w hw
    refine ⟨_, rfl, hw, .inl ⟨rfl, fun j => ?_⟩⟩
    rcases Nat.lt_or_ge j i with h | h
    · exact hall j h
    · rw [List.getD_eq_getElem?_getD, List.getElem?_eq_none (by omega)]; decide
set_option maxHeartbeats 1000000 in
theorem Contains_c {w0 : World} {H : List Asn} (p : Option Addr) (c m : Nat) (B : List Int) (hr : Rd w0 H (.slice p m c) m (ints .u8 B)) (hm : B.length = m) (hB : OKB B) (hm1 : m ≤ 4611686018427387904) (w : World) (hw : St w0 H w) :
    Calls Try.prog 90 #[.slice p m c, .func (.func 91) #[] #[]] w fun e w' => ∃ o, e = .returned (.bool o) ∧ St w0 H w' ∧ ((o = false ∧ ∀ j, B.getD j 0 ≤ 15) ∨ (o = true ∧ ∃ j, 15 < B.getD j 0)) := by
  refine enter (vs := [.slice p m c, .func (.func 91) #[] #[]]) Try.func90 rfl rfl rfl hw ?_
  repeat (first | (apply gJO; first | (apply kS; refine aK ?_) | (apply kX; refine JO_box rfl rfl rfl ?_; intro _) | (apply kA; refine JO_alloc (tb := tb) rfl rfl ?_; intro _) | (apply kBs; refine JO_buildSlice (tb := tb) rfl rfl rfl rfl rfl rfl rfl rfl rfl ?_; intro _) | (apply kM; refine JO_make (tb := tb) rfl rfl rfl rfl rfl rfl (by omega) rfl ?_; intro _) | refine aO ?_) | (apply gJR; first | apply JR_un | apply JR_nil | refine JR_yes rfl rfl ?_ | refine JR_no rfl rfl rfl rfl ?_ | refine JR_noU rfl rfl rfl ?_) | (apply gJS; first | apply JS_seq | apply JS_region | apply JS_skip | apply JS_block | apply JS_inBlock | apply JS_label | refine JS_exit rfl ?_ | refine JS_condT rfl ?_ | refine JS_condF rfl ?_ | refine JS_draw [0] (by kernel_rfl) (by kernel_rfl) (by decide +kernel) ?_ | refine JS_draw [] (by kernel_rfl) (by kernel_rfl) (by decide +kernel) ?_ | refine JS_cond_T rfl (by omega) ?_ | refine JS_cond_F rfl (by omega) ?_) | (apply gQR; first | apply QR_un | apply QR_nil | refine QR_yes rfl rfl ?_ | refine QR_no rfl rfl rfl rfl ?_ | refine QR_noU rfl rfl rfl ?_) | (apply gQO; first | refine aQ ?_ | refine aQK rfl ?_))
  refine JO_call Try.call100 rfl rfl fun w hw => (Index_c p c m B hr hm hB hm1 w hw).mono ?_
  rintro e w' ⟨r, rfl, hw', h⟩
  refine ⟨_, rfl, _, hw', ?_⟩
  clear hw' hw w w'
  rcases h with ⟨rfl, h⟩ | ⟨h0, h⟩
  · repeat (first | (apply gJO; first | (apply kS; refine aK ?_) | (apply kX; refine JO_box rfl rfl rfl ?_; intro _) | (apply kA; refine JO_alloc (tb := tb) rfl rfl ?_; intro _) | (apply kBs; refine JO_buildSlice (tb := tb) rfl rfl rfl rfl rfl rfl rfl rfl rfl ?_; intro _) | (apply kM; refine JO_make (tb := tb) rfl rfl rfl rfl rfl rfl (by omega) rfl ?_; intro _) | refine aO ?_) | (apply gJR; first | apply JR_un | apply JR_nil | refine JR_yes rfl rfl ?_ | refine JR_no rfl rfl rfl rfl ?_ | refine JR_noU rfl rfl rfl ?_) | (apply gJS; first | apply JS_seq | apply JS_region | apply JS_skip | apply JS_block | apply JS_inBlock | apply JS_label | refine JS_exit rfl ?_ | refine JS_condT rfl ?_ | refine JS_condF rfl ?_ | refine JS_draw [0] (by kernel_rfl) (by kernel_rfl) (by decide +kernel) ?_ | refine JS_draw [] (by kernel_rfl) (by kernel_rfl) (by decide +kernel) ?_ | refine JS_cond_T rfl (by omega) ?_ | refine JS_cond_F rfl (by omega) ?_) | (apply gQR; first | apply QR_un | apply QR_nil | refine QR_yes rfl rfl ?_ | refine QR_no rfl rfl rfl rfl ?_ | refine QR_noU rfl rfl rfl ?_) | (apply gQO; first | refine aQ ?_ | refine aQK rfl ?_))
    refine JS_ret Try.func90 rfl rfl ?_
    intro w hw
    exact ⟨_, rfl, hw, .inl ⟨rfl, h⟩⟩
  · repeat (first | (apply gJO; first | (apply kS; refine aK ?_) | (apply kX; refine JO_box rfl rfl rfl ?_; intro _) | (apply kA; refine JO_alloc (tb := tb) rfl rfl ?_; intro _) | (apply kBs; refine JO_buildSlice (tb := tb) rfl rfl rfl rfl rfl rfl rfl rfl rfl ?_; intro _) | (apply kM; refine JO_make (tb := tb) rfl rfl rfl rfl rfl rfl (by omega) rfl ?_; intro _) | refine aO ?_) | (apply gJR; first | apply JR_un | apply JR_nil | refine JR_yes rfl rfl ?_ | refine JR_no rfl rfl rfl rfl ?_ | refine JR_noU rfl rfl rfl ?_) | (apply gJS; first | apply JS_seq | apply JS_region | apply JS_skip | apply JS_block | apply JS_inBlock | apply JS_label | refine JS_exit rfl ?_ | refine JS_condT rfl ?_ | refine JS_condF rfl ?_ | refine JS_draw [0] (by kernel_rfl) (by kernel_rfl) (by decide +kernel) ?_ | refine JS_draw [] (by kernel_rfl) (by kernel_rfl) (by decide +kernel) ?_ | refine JS_cond_T rfl (by omega) ?_ | refine JS_cond_F rfl (by omega) ?_) | (apply gQR; first | apply QR_un | apply QR_nil | refine QR_yes rfl rfl ?_ | refine QR_no rfl rfl rfl rfl ?_ | refine QR_noU rfl rfl rfl ?_) | (apply gQO; first | refine aQ ?_ | refine aQK rfl ?_))
    refine JS_ret Try.func90 rfl rfl ?_
    intro w hw
    exact ⟨_, rfl, hw, .inr ⟨rfl, h⟩⟩
end Go.Proofs.Ytakgoflfcgofdaa

namespace Go.Proofs.Ytakgoflfcgofdaa
open Sx Go
set_option linter.unusedVariables false
set_option linter.unusedSimpArgs false
set_option maxHeartbeats 1000000 in
/-- a slice, cloned: not the same memory -/
theorem Clone_c {w0 : World} {H : List Asn} (p : Option Addr) (c m : Nat) (B : List Int) (hr : Rd w0 H (.slice p m c) m (ints .u8 B)) (hm : B.length = m) (hB : OKB B) (hm1 : m ≤ 140737488355328) (hpm : p = none → m = 0) (w : World) (hw : St w0 H w) :
    Calls Try.prog 72 #[.slice p m c] w fun e w' => ∃ q d, e = .returned (.slice q m d) ∧ St w0 (vec 5 1 (.slice q m d) m (ints .u8 B) :: H) w' := by
  refine enter (vs := [.slice p m c]) Try.func72 rfl rfl rfl hw ?_
  repeat (first | (apply gJO; refine JO_v (V_eqNil (tb := tb) rfl rfl rfl rfl) ?_) | (apply gJR; first | (apply gJO; first | (apply kS; refine aK ?_) | (apply kX; refine JO_box rfl rfl rfl ?_; intro _) | (apply kA; refine JO_alloc (tb := tb) rfl rfl ?_; intro _) | (apply kBs; refine JO_buildSlice (tb := tb) rfl rfl rfl rfl rfl rfl rfl rfl rfl ?_; intro _) | (apply kM; refine JO_make (tb := tb) rfl rfl rfl rfl rfl rfl (by omega) rfl ?_; intro _) | refine aO ?_) | (apply gJR; first | apply JR_un | apply JR_nil | refine JR_yes rfl rfl ?_ | refine JR_no rfl rfl rfl rfl ?_ | refine JR_noU rfl rfl rfl ?_) | (apply gJS; first | apply JS_seq | apply JS_region | apply JS_skip | apply JS_block | apply JS_inBlock | apply JS_label | refine JS_exit rfl ?_ | refine JS_condT rfl ?_ | refine JS_condF rfl ?_ | refine JS_draw [0] (by kernel_rfl) (by kernel_rfl) (by decide +kernel) ?_ | refine JS_draw [] (by kernel_rfl) (by kernel_rfl) (by decide +kernel) ?_ | refine JS_cond_T rfl (by omega) ?_ | refine JS_cond_F rfl (by omega) ?_) | (apply gQR; first | apply QR_un | apply QR_nil | refine QR_yes rfl rfl ?_ | refine QR_no rfl rfl rfl rfl ?_ | refine QR_noU rfl rfl rfl ?_) | (apply gQO; first | refine aQ ?_ | refine aQK rfl ?_)) | (apply gJO; first | (apply gJO; first | (apply kS; refine aK ?_) | (apply kX; refine JO_box rfl rfl rfl ?_; intro _) | (apply kA; refine JO_alloc (tb := tb) rfl rfl ?_; intro _) | (apply kBs; refine JO_buildSlice (tb := tb) rfl rfl rfl rfl rfl rfl rfl rfl rfl ?_; intro _) | (apply kM; refine JO_make (tb := tb) rfl rfl rfl rfl rfl rfl (by omega) rfl ?_; intro _) | refine aO ?_) | (apply gJR; first | apply JR_un | apply JR_nil | refine JR_yes rfl rfl ?_ | refine JR_no rfl rfl rfl rfl ?_ | refine JR_noU rfl rfl rfl ?_) | (apply gJS; first | apply JS_seq | apply JS_region | apply JS_skip | apply JS_block | apply JS_inBlock | apply JS_label | refine JS_exit rfl ?_ | refine JS_condT rfl ?_ | refine JS_condF rfl ?_ | refine JS_draw [0] (by kernel_rfl) (by kernel_rfl) (by decide +kernel) ?_ | refine JS_draw [] (by kernel_rfl) (by kernel_rfl) (by decide +kernel) ?_ | refine JS_cond_T rfl (by omega) ?_ | refine JS_cond_F rfl (by omega) ?_) | (apply gQR; first | apply QR_un | apply QR_nil | refine QR_yes rfl rfl ?_ | refine QR_no rfl rfl rfl rfl ?_ | refine QR_noU rfl rfl rfl ?_) | (apply gQO; first | refine aQ ?_ | refine aQK rfl ?_)) | apply JS_seq | apply JS_region)
  cases p with
  | none =>
    obtain rfl : m = 0 := hpm rfl
    obtain rfl : B = [] := List.eq_nil_of_length_eq_zero hm
    repeat (first | (apply gJO; first | (apply kS; refine aK ?_) | (apply kX; refine JO_box rfl rfl rfl ?_; intro _) | (apply kA; refine JO_alloc (tb := tb) rfl rfl ?_; intro _) | (apply kBs; refine JO_buildSlice (tb := tb) rfl rfl rfl rfl rfl rfl rfl rfl rfl ?_; intro _) | (apply kM; refine JO_make (tb := tb) rfl rfl rfl rfl rfl rfl (by omega) rfl ?_; intro _) | refine aO ?_) | (apply gJR; first | apply JR_un | apply JR_nil | refine JR_yes rfl rfl ?_ | refine JR_no rfl rfl rfl rfl ?_ | refine JR_noU rfl rfl rfl ?_) | (apply gJS; first | apply JS_seq | apply JS_region | apply JS_skip | apply JS_block | apply JS_inBlock | apply JS_label | refine JS_exit rfl ?_ | refine JS_condT rfl ?_ | refine JS_condF rfl ?_ | refine JS_draw [0] (by kernel_rfl) (by kernel_rfl) (by decide +kernel) ?_ | refine JS_draw [] (by kernel_rfl) (by kernel_rfl) (by decide +kernel) ?_ | refine JS_cond_T rfl (by omega) ?_ | refine JS_cond_F rfl (by omega) ?_) | (apply gQR; first | apply QR_un | apply QR_nil | refine QR_yes rfl rfl ?_ | refine QR_no rfl rfl rfl rfl ?_ | refine QR_noU rfl rfl rfl ?_) | (apply gQO; first | refine aQ ?_ | refine aQK rfl ?_))
    refine JS_ret Try.func72 rfl rfl ?_
    intro w hw
    exact ⟨none, 0, rfl, St.nilvec hw⟩
  | some a =>
    repeat (first | (apply gJO; first | (apply kS; refine aK ?_) | (apply kX; refine JO_box rfl rfl rfl ?_; intro _) | (apply kA; refine JO_alloc (tb := tb) rfl rfl ?_; intro _) | (apply kBs; refine JO_buildSlice (tb := tb) rfl rfl rfl rfl rfl rfl rfl rfl rfl ?_; intro _) | (apply kM; refine JO_make (tb := tb) rfl rfl rfl rfl rfl rfl (by omega) rfl ?_; intro _) | refine aO ?_) | (apply gJR; first | apply JR_un | apply JR_nil | refine JR_yes rfl rfl ?_ | refine JR_no rfl rfl rfl rfl ?_ | refine JR_noU rfl rfl rfl ?_) | (apply gJS; first | apply JS_seq | apply JS_region | apply JS_skip | apply JS_block | apply JS_inBlock | apply JS_label | refine JS_exit rfl ?_ | refine JS_condT rfl ?_ | refine JS_condF rfl ?_ | refine JS_draw [0] (by kernel_rfl) (by kernel_rfl) (by decide +kernel) ?_ | refine JS_draw [] (by kernel_rfl) (by kernel_rfl) (by decide +kernel) ?_ | refine JS_cond_T rfl (by omega) ?_ | refine JS_cond_F rfl (by omega) ?_) | (apply gQR; first | apply QR_un | apply QR_nil | refine QR_yes rfl rfl ?_ | refine QR_no rfl rfl rfl rfl ?_ | refine QR_noU rfl rfl rfl ?_) | (apply gQO; first | refine aQ ?_ | refine aQK rfl ?_))
    refine JO_app (tb := tb) rfl rfl rfl rfl rfl rfl (by repeat (first | exact Sel.here _ _ | apply Sel.there)) (Rd_weak hr fun w hw => St.sub (by repeat (first | exact List.Sublist.refl _ | apply List.Sublist.cons_cons | apply List.Sublist.cons)) hw) (by rw [ints_len]; omega) (by first | exact ints_one | (repeat (first | exact trivial | refine ⟨rfl, ?_⟩))) (by omega) rfl ?_
    intro q d
    repeat (first | (apply gJO; first | (apply kS; refine aK ?_) | (apply kX; refine JO_box rfl rfl rfl ?_; intro _) | (apply kA; refine JO_alloc (tb := tb) rfl rfl ?_; intro _) | (apply kBs; refine JO_buildSlice (tb := tb) rfl rfl rfl rfl rfl rfl rfl rfl rfl ?_; intro _) | (apply kM; refine JO_make (tb := tb) rfl rfl rfl rfl rfl rfl (by omega) rfl ?_; intro _) | refine aO ?_) | (apply gJR; first | apply JR_un | apply JR_nil | refine JR_yes rfl rfl ?_ | refine JR_no rfl rfl rfl rfl ?_ | refine JR_noU rfl rfl rfl ?_) | (apply gJS; first | apply JS_seq | apply JS_region | apply JS_skip | apply JS_block | apply JS_inBlock | apply JS_label | refine JS_exit rfl ?_ | refine JS_condT rfl ?_ | refine JS_condF rfl ?_ | refine JS_draw [0] (by kernel_rfl) (by kernel_rfl) (by decide +kernel) ?_ | refine JS_draw [] (by kernel_rfl) (by kernel_rfl) (by decide +kernel) ?_ | refine JS_cond_T rfl (by omega) ?_ | refine JS_cond_F rfl (by omega) ?_) | (apply gQR; first | apply QR_un | apply QR_nil | refine QR_yes rfl rfl ?_ | refine QR_no rfl rfl rfl rfl ?_ | refine QR_noU rfl rfl rfl ?_) | (apply gQO; first | refine aQ ?_ | refine aQK rfl ?_))
    refine JS_ret Try.func72 rfl rfl ?_
    intro w hw
    rw [Nat.zero_add] at hw
    exact ⟨q, d, by rw [Nat.zero_add]; rfl, hw⟩
end Go.Proofs.Ytakgoflfcgofdaa

namespace Go.Proofs.Ytakgoflfcgofdaa
open Sx Go
set_option linter.unusedVariables false
set_option linter.unusedSimpArgs false
/-- the cells of a set: its lengths, how many codes have each length, its symbols, whether it is full -/
def setCells (pl : Value) (f : Nat → Int) (ps : Value) (full : Bool) : List Value :=
  [pl, .int .i64 (f 0), .int .i64 (f 1), .int .i64 (f 2), .int .i64 (f 3), .int .i64 (f 4), .int .i64 (f 5), .int .i64 (f 6), .int .i64 (f 7), .int .i64 (f 8), .int .i64 (f 9), .int .i64 (f 10), .int .i64 (f 11), .int .i64 (f 12), .int .i64 (f 13), .int .i64 (f 14), .int .i64 (f 15), ps, .bool full]
theorem set_nth {pl : Value} {f : Nat → Int} {ps : Value} {full : Bool} {i : Nat} (h : i < 16) : nth (setCells pl f ps full) (1 + i) = some (.int .i64 (f i)) := by
  match i, h with
  | 0, _ | 1, _ | 2, _ | 3, _ | 4, _ | 5, _ | 6, _ | 7, _ | 8, _ | 9, _ | 10, _ | 11, _ | 12, _ | 13, _ | 14, _ | 15, _ => rfl
  | i + 16, h => exact absurd h (by omega)
theorem Full_c {w0 : World} {H : List Asn} (b : Nat) (pl : Value) (f : Nat → Int) (ps : Value) (full : Bool) (hb : blk b (setCells pl f ps full) ∈ H) (w : World) (hw : St w0 H w) :
    Calls Try.prog 80 #[.pointer (some ⟨b, 0, none⟩)] w fun e w' => e = .returned (.bool full) ∧ St w0 H w' := by
  refine enter (vs := [.pointer (some ⟨b, 0, none⟩)]) Try.func80 rfl rfl rfl hw ?_
  repeat (first | (apply gJO; refine JO_v (V_load (tb := tb) rfl hb rfl rfl rfl rfl) ?_) | (first | (apply gJO; first | (apply kS; refine aK ?_) | (apply kX; refine JO_box rfl rfl rfl ?_; intro _) | (apply kA; refine JO_alloc (tb := tb) rfl rfl ?_; intro _) | (apply kBs; refine JO_buildSlice (tb := tb) rfl rfl rfl rfl rfl rfl rfl rfl rfl ?_; intro _) | (apply kM; refine JO_make (tb := tb) rfl rfl rfl rfl rfl rfl (by omega) rfl ?_; intro _) | refine aO ?_) | (apply gJR; first | apply JR_un | apply JR_nil | refine JR_yes rfl rfl ?_ | refine JR_no rfl rfl rfl rfl ?_ | refine JR_noU rfl rfl rfl ?_) | (apply gJS; first | apply JS_seq | apply JS_region | apply JS_skip | apply JS_block | apply JS_inBlock | apply JS_label | refine JS_exit rfl ?_ | refine JS_condT rfl ?_ | refine JS_condF rfl ?_ | refine JS_draw [0] (by kernel_rfl) (by kernel_rfl) (by decide +kernel) ?_ | refine JS_draw [] (by kernel_rfl) (by kernel_rfl) (by decide +kernel) ?_) | (apply gQR; first | apply QR_un | apply QR_nil | refine QR_yes rfl rfl ?_ | refine QR_no rfl rfl rfl rfl ?_ | refine QR_noU rfl rfl rfl ?_) | (apply gQO; first | refine aQ ?_ | refine aQK rfl ?_)))
  refine JS_ret Try.func80 rfl rfl ?_
  intro w hw
  exact ⟨rfl, hw⟩
/-- a reader -/
theorem New_c {w0 : World} {H : List Asn} (p : Option Addr) (c m : Nat) (B : List Int) (hr : Rd w0 H (.slice p m c) m (ints .u8 B)) (hm : B.length = m) (hB : OKB B) (hm1 : m ≤ 140737488355328) (hpm : p = none → m = 0) (w : World) (hw : St w0 H w) :
    Calls Try.prog 51 #[.slice p m c] w fun e w' => ∃ b q d, e = .returned (.pointer (some ⟨b, 0, none⟩)) ∧ St w0 (blk b [.slice q m d, .int .i64 0] :: vec 5 1 (.slice q m d) m (ints .u8 B) :: H) w' := by
  refine enter (vs := [.slice p m c]) Try.func51 rfl rfl rfl hw ?_
  repeat (first | (apply gJO; first | (apply kS; refine aK ?_) | (apply kX; refine JO_box rfl rfl rfl ?_; intro _) | (apply kA; refine JO_alloc (tb := tb) rfl rfl ?_; intro _) | (apply kBs; refine JO_buildSlice (tb := tb) rfl rfl rfl rfl rfl rfl rfl rfl rfl ?_; intro _) | (apply kM; refine JO_make (tb := tb) rfl rfl rfl rfl rfl rfl (by omega) rfl ?_; intro _) | refine aO ?_) | (apply gJR; first | apply JR_un | apply JR_nil | refine JR_yes rfl rfl ?_ | refine JR_no rfl rfl rfl rfl ?_ | refine JR_noU rfl rfl rfl ?_) | (apply gJS; first | apply JS_seq | apply JS_region | apply JS_skip | apply JS_block | apply JS_inBlock | apply JS_label | refine JS_exit rfl ?_ | refine JS_condT rfl ?_ | refine JS_condF rfl ?_ | refine JS_draw [0] (by kernel_rfl) (by kernel_rfl) (by decide +kernel) ?_ | refine JS_draw [] (by kernel_rfl) (by kernel_rfl) (by decide +kernel) ?_) | (apply gQR; first | apply QR_un | apply QR_nil | refine QR_yes rfl rfl ?_ | refine QR_no rfl rfl rfl rfl ?_ | refine QR_noU rfl rfl rfl ?_) | (apply gQO; first | refine aQ ?_ | refine aQK rfl ?_))
  refine JO_call Try.call72 rfl rfl fun w hw => (Clone_c p c m B hr hm hB hm1 hpm w hw).mono ?_
  rintro e w' ⟨q, d, rfl, hw'⟩
  refine ⟨_, rfl, _, hw', ?_⟩
  clear hw' hw w w'
  repeat (first | (apply gJO; first | (apply kS; refine aK ?_) | (apply kX; refine JO_box rfl rfl rfl ?_; intro _) | (apply kA; refine JO_alloc (tb := tb) rfl rfl ?_; intro _) | (apply kBs; refine JO_buildSlice (tb := tb) rfl rfl rfl rfl rfl rfl rfl rfl rfl ?_; intro _) | (apply kM; refine JO_make (tb := tb) rfl rfl rfl rfl rfl rfl (by omega) rfl ?_; intro _) | refine aO ?_) | (apply gJR; first | apply JR_un | apply JR_nil | refine JR_yes rfl rfl ?_ | refine JR_no rfl rfl rfl rfl ?_ | refine JR_noU rfl rfl rfl ?_) | (apply gJS; first | apply JS_seq | apply JS_region | apply JS_skip | apply JS_block | apply JS_inBlock | apply JS_label | refine JS_exit rfl ?_ | refine JS_condT rfl ?_ | refine JS_condF rfl ?_ | refine JS_draw [0] (by kernel_rfl) (by kernel_rfl) (by decide +kernel) ?_ | refine JS_draw [] (by kernel_rfl) (by kernel_rfl) (by decide +kernel) ?_) | (apply gQR; first | apply QR_un | apply QR_nil | refine QR_yes rfl rfl ?_ | refine QR_no rfl rfl rfl rfl ?_ | refine QR_noU rfl rfl rfl ?_) | (apply gQO; first | refine aQ ?_ | refine aQK rfl ?_))
  rename_i b
  refine JS_ret Try.func51 rfl rfl ?_
  intro w hw
  exact ⟨b, q, d, rfl, hw⟩
theorem ReaderAt_c {w0 : World} {H : List Asn} (b : Nat) (u : Value) (n : Int) (hb : blk b [u, .int .i64 n] ∈ H) (w : World) (hw : St w0 H w) :
    Calls Try.prog 57 #[.pointer (some ⟨b, 0, none⟩)] w fun e w' => e = .returned (.int .i64 n) ∧ St w0 H w' := by
  refine enter (vs := [.pointer (some ⟨b, 0, none⟩)]) Try.func57 rfl rfl rfl hw ?_
  repeat (first | (apply gJO; refine JO_v (V_load (tb := tb) rfl hb rfl rfl rfl rfl) ?_) | (first | (apply gJO; first | (apply kS; refine aK ?_) | (apply kX; refine JO_box rfl rfl rfl ?_; intro _) | (apply kA; refine JO_alloc (tb := tb) rfl rfl ?_; intro _) | (apply kBs; refine JO_buildSlice (tb := tb) rfl rfl rfl rfl rfl rfl rfl rfl rfl ?_; intro _) | (apply kM; refine JO_make (tb := tb) rfl rfl rfl rfl rfl rfl (by omega) rfl ?_; intro _) | refine aO ?_) | (apply gJR; first | apply JR_un | apply JR_nil | refine JR_yes rfl rfl ?_ | refine JR_no rfl rfl rfl rfl ?_ | refine JR_noU rfl rfl rfl ?_) | (apply gJS; first | apply JS_seq | apply JS_region | apply JS_skip | apply JS_block | apply JS_inBlock | apply JS_label | refine JS_exit rfl ?_ | refine JS_condT rfl ?_ | refine JS_condF rfl ?_ | refine JS_draw [0] (by kernel_rfl) (by kernel_rfl) (by decide +kernel) ?_ | refine JS_draw [] (by kernel_rfl) (by kernel_rfl) (by decide +kernel) ?_) | (apply gQR; first | apply QR_un | apply QR_nil | refine QR_yes rfl rfl ?_ | refine QR_no rfl rfl rfl rfl ?_ | refine QR_noU rfl rfl rfl ?_) | (apply gQO; first | refine aQ ?_ | refine aQK rfl ?_)))
  refine JS_ret Try.func57 rfl rfl ?_
  intro w hw
  exact ⟨rfl, hw⟩
end Go.Proofs.Ytakgoflfcgofdaa

namespace Go.Proofs.Ytakgoflfcgofdaa
open Sx Go
set_option linter.unusedVariables false
set_option linter.unusedSimpArgs false
theorem set_nth' {pl : Value} {f : Nat → Int} {ps : Value} {full : Bool} {i : Nat} (h : i < 16) : nth (setCells pl f ps full) (0 + 1 + (i : Int).toNat * 1) = some (.int .i64 (f i)) := by
  rw [show 0 + 1 + (i : Int).toNat * 1 = 1 + i by omega]; exact set_nth h
theorem set_upd {pl : Value} {f : Nat → Int} {ps : Value} {full : Bool} {i : Nat} {v : Int} (h : i < 16) : setSeg (setCells pl f ps full) (0 + 1 + (i : Int).toNat * 1) [.int .i64 v] = some (setCells pl (fun j => if j = i then v else f j) ps full) := by
  match i, h with
  | 0, _ | 1, _ | 2, _ | 3, _ | 4, _ | 5, _ | 6, _ | 7, _ | 8, _ | 9, _ | 10, _ | 11, _ | 12, _ | 13, _ | 14, _ | 15, _ => rfl
  | i + 16, h => exact absurd h (by omega)
/-- how many lengths are k -/
def cn (l : List Int) (k : Nat) : Int := if k = 0 then 0 else (l.countP (fun x => x == (k : Int)) : Nat)
/-- what codes take, of 32768 -/
def tk : List Int → Int
  | [] => 0
  | x :: r => (if 0 < x then 2 ^ (15 - x.toNat) else 0) + tk r
theorem tk_app (A B : List Int) : tk (A ++ B) = tk A + tk B := by
  induction A with
  | nil => simp [tk]
  | cons x r ih => simp only [List.cons_append, tk, ih]; omega
theorem btake (B : List Int) (i : Nat) (h : i < B.length) : B.take (i + 1) = B.take i ++ [B.getD i 0] := by
  rw [List.take_succ_eq_append_getElem h]; simp [h]
theorem cn_step (B : List Int) (i : Nat) (h : i < B.length) (n : Nat) (hn : B.getD i 0 = (n : Int)) (h0 : 0 < n) : cn (B.take (i + 1)) = fun j => if j = n then cn (B.take i) n + 1 else cn (B.take i) j := by
  funext j
  unfold cn
  rw [btake B i h, List.countP_append, hn]
  by_cases hj : j = n
  · subst hj
    have : ¬ j = 0 := by omega
    simp [this]
  · rw [if_neg hj]
    have : ¬ ((n : Int) == (j : Int)) = true := by simp; omega
    simp [this]
theorem cn_zero (B : List Int) (i : Nat) (h : i < B.length) (hn : B.getD i 0 = 0) : cn (B.take (i + 1)) = cn (B.take i) := by
  funext j
  unfold cn
  rw [btake B i h, List.countP_append, hn]
  by_cases hj : j = 0
  · simp [hj]
  · have : ¬ ((0 : Int) == (j : Int)) = true := by simp; omega
    simp [hj, this]
theorem p2_bd (n : Nat) (h : n ≤ 15) : (1 : Int) ≤ 2 ^ (15 - n) ∧ (2 : Int) ^ (15 - n) ≤ 32768 := by
  have : ∀ k : Fin 16, (1 : Int) ≤ 2 ^ k.val ∧ (2 : Int) ^ k.val ≤ 32768 := by decide +kernel
  exact this ⟨15 - n, by omega⟩
theorem tk_step (B : List Int) (i : Nat) (h : i < B.length) (n : Nat) (hn : B.getD i 0 = (n : Int)) : tk (B.take (i + 1)) = tk (B.take i) + (if 0 < n then 2 ^ (15 - n) else 0) := by
  rw [btake B i h, tk_app, hn]
  simp only [tk, Int.add_zero, Int.toNat_natCast]
  by_cases h0 : 0 < n
  · simp [h0]
  · have : n = 0 := by omega
    subst this; simp
end Go.Proofs.Ytakgoflfcgofdaa
