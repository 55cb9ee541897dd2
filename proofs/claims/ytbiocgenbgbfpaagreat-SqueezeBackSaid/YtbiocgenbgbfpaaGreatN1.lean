import Derived.Test.YtbiocgenbgbfpaaGreatTb
import Derived.Carry
import Derived.Maps.Keyed
import Derived.WideKeyEntry
import Derived.Test.YtbiocgenbgbfpaaGreatSxG
/- Steps whose side goals are sought by a default tactic: one word an operation. -/
namespace Go.Proofs.YtbiocgenbgbfpaaGreat
open Sx Go
section
variable {f n : Nat} {R : Ending → World → Prop} {D : List Deferred} {w0 : World} {k : List Item} {ov : Ov} {H H' : List Asn} {K : KC} {Z : Array Oper × List Nat}
  {ops : Array Oper} {l : List Oper} {d : Option Nat} {T T1 T2 : Nat} {pos : String} {af : Array Edge} {g : Option (Nat × Bool)} {x y z : Operand} {v u : Value} {op : Op} {bop : BinOp} {c : Call}
theorem oB (h : OpV Tryz.prog n D w0 ov H ⟨d, .binOp bop T1 x y T2, T, pos, af, g⟩ v) : OpV Tryz.prog n D w0 ov H ⟨d, .binOp bop T1 x y T2, T, pos, af, g⟩ v := h
theorem oK (h : OpV Tryz.prog n D w0 ov H ⟨d, .binOp bop T1 x (.const u) T2, T, pos, af, g⟩ v) : OpV Tryz.prog n D w0 ov H ⟨d, .binOp bop T1 x (.const u) T2, T, pos, af, g⟩ v := h
theorem ob_add (h : OpV Tryz.prog n D w0 ov H ⟨d, .binOp .add T1 x y T2, T, pos, af, g⟩ v) : OpV Tryz.prog n D w0 ov H ⟨d, .binOp .add T1 x y T2, T, pos, af, g⟩ v := h
theorem ob_sub (h : OpV Tryz.prog n D w0 ov H ⟨d, .binOp .sub T1 x y T2, T, pos, af, g⟩ v) : OpV Tryz.prog n D w0 ov H ⟨d, .binOp .sub T1 x y T2, T, pos, af, g⟩ v := h
theorem ob_mul (h : OpV Tryz.prog n D w0 ov H ⟨d, .binOp .mul T1 x y T2, T, pos, af, g⟩ v) : OpV Tryz.prog n D w0 ov H ⟨d, .binOp .mul T1 x y T2, T, pos, af, g⟩ v := h
theorem ob_quo (h : OpV Tryz.prog n D w0 ov H ⟨d, .binOp .quo T1 x y T2, T, pos, af, g⟩ v) : OpV Tryz.prog n D w0 ov H ⟨d, .binOp .quo T1 x y T2, T, pos, af, g⟩ v := h
theorem ob_rem (h : OpV Tryz.prog n D w0 ov H ⟨d, .binOp .rem T1 x y T2, T, pos, af, g⟩ v) : OpV Tryz.prog n D w0 ov H ⟨d, .binOp .rem T1 x y T2, T, pos, af, g⟩ v := h
theorem ob_and (h : OpV Tryz.prog n D w0 ov H ⟨d, .binOp .and T1 x y T2, T, pos, af, g⟩ v) : OpV Tryz.prog n D w0 ov H ⟨d, .binOp .and T1 x y T2, T, pos, af, g⟩ v := h
theorem ob_shl (h : OpV Tryz.prog n D w0 ov H ⟨d, .binOp .shl T1 x y T2, T, pos, af, g⟩ v) : OpV Tryz.prog n D w0 ov H ⟨d, .binOp .shl T1 x y T2, T, pos, af, g⟩ v := h
theorem ob_shr (h : OpV Tryz.prog n D w0 ov H ⟨d, .binOp .shr T1 x y T2, T, pos, af, g⟩ v) : OpV Tryz.prog n D w0 ov H ⟨d, .binOp .shr T1 x y T2, T, pos, af, g⟩ v := h
theorem ob_eql (h : OpV Tryz.prog n D w0 ov H ⟨d, .binOp .eql T1 x y T2, T, pos, af, g⟩ v) : OpV Tryz.prog n D w0 ov H ⟨d, .binOp .eql T1 x y T2, T, pos, af, g⟩ v := h
theorem ob_neq (h : OpV Tryz.prog n D w0 ov H ⟨d, .binOp .neq T1 x y T2, T, pos, af, g⟩ v) : OpV Tryz.prog n D w0 ov H ⟨d, .binOp .neq T1 x y T2, T, pos, af, g⟩ v := h
theorem ob_lss (h : OpV Tryz.prog n D w0 ov H ⟨d, .binOp .lss T1 x y T2, T, pos, af, g⟩ v) : OpV Tryz.prog n D w0 ov H ⟨d, .binOp .lss T1 x y T2, T, pos, af, g⟩ v := h
theorem ob_leq (h : OpV Tryz.prog n D w0 ov H ⟨d, .binOp .leq T1 x y T2, T, pos, af, g⟩ v) : OpV Tryz.prog n D w0 ov H ⟨d, .binOp .leq T1 x y T2, T, pos, af, g⟩ v := h
theorem ob_gtr (h : OpV Tryz.prog n D w0 ov H ⟨d, .binOp .gtr T1 x y T2, T, pos, af, g⟩ v) : OpV Tryz.prog n D w0 ov H ⟨d, .binOp .gtr T1 x y T2, T, pos, af, g⟩ v := h
theorem ob_geq (h : OpV Tryz.prog n D w0 ov H ⟨d, .binOp .geq T1 x y T2, T, pos, af, g⟩ v) : OpV Tryz.prog n D w0 ov H ⟨d, .binOp .geq T1 x y T2, T, pos, af, g⟩ v := h
theorem oc_len {xs : Array Operand} {ts : Array Nat} (h : OpV Tryz.prog n D w0 ov H ⟨d, .call ⟨.builtin .len, xs, ts⟩, T, pos, af, g⟩ v) : OpV Tryz.prog n D w0 ov H ⟨d, .call ⟨.builtin .len, xs, ts⟩, T, pos, af, g⟩ v := h
theorem oc_min {xs : Array Operand} {ts : Array Nat} (h : OpV Tryz.prog n D w0 ov H ⟨d, .call ⟨.builtin .min, xs, ts⟩, T, pos, af, g⟩ v) : OpV Tryz.prog n D w0 ov H ⟨d, .call ⟨.builtin .min, xs, ts⟩, T, pos, af, g⟩ v := h
theorem oc_max {xs : Array Operand} {ts : Array Nat} (h : OpV Tryz.prog n D w0 ov H ⟨d, .call ⟨.builtin .max, xs, ts⟩, T, pos, af, g⟩ v) : OpV Tryz.prog n D w0 ov H ⟨d, .call ⟨.builtin .max, xs, ts⟩, T, pos, af, g⟩ v := h
theorem oMv (h : OpV Tryz.prog n D w0 ov H ⟨d, .move x, T, pos, af, g⟩ v) : OpV Tryz.prog n D w0 ov H ⟨d, .move x, T, pos, af, g⟩ v := h
theorem oAs (h : OpV Tryz.prog n D w0 ov H ⟨d, .assign x, T, pos, af, g⟩ v) : OpV Tryz.prog n D w0 ov H ⟨d, .assign x, T, pos, af, g⟩ v := h
theorem oL (h : OpV Tryz.prog n D w0 ov H ⟨d, .load T1 x, T, pos, af, g⟩ v) : OpV Tryz.prog n D w0 ov H ⟨d, .load T1 x, T, pos, af, g⟩ v := h
theorem oE (h : OpV Tryz.prog n D w0 ov H ⟨d, .extract x T1, T, pos, af, g⟩ v) : OpV Tryz.prog n D w0 ov H ⟨d, .extract x T1, T, pos, af, g⟩ v := h
theorem oCv (h : OpV Tryz.prog n D w0 ov H ⟨d, .convert T1 T2 x, T, pos, af, g⟩ v) : OpV Tryz.prog n D w0 ov H ⟨d, .convert T1 T2 x, T, pos, af, g⟩ v := h
theorem oP (h : OpV Tryz.prog n D w0 ov H ⟨d, .pick x y z, T, pos, af, g⟩ v) : OpV Tryz.prog n D w0 ov H ⟨d, .pick x y z, T, pos, af, g⟩ v := h
theorem oN (h : OpV Tryz.prog n D w0 ov H ⟨d, .nilCheck x, T, pos, af, g⟩ v) : OpV Tryz.prog n D w0 ov H ⟨d, .nilCheck x, T, pos, af, g⟩ v := h
theorem oFA (h : OpV Tryz.prog n D w0 ov H ⟨d, .fieldAddr T1 x T2, T, pos, af, g⟩ v) : OpV Tryz.prog n D w0 ov H ⟨d, .fieldAddr T1 x T2, T, pos, af, g⟩ v := h
theorem oIA (h : OpV Tryz.prog n D w0 ov H ⟨d, .indexAddr T1 x y, T, pos, af, g⟩ v) : OpV Tryz.prog n D w0 ov H ⟨d, .indexAddr T1 x y, T, pos, af, g⟩ v := h
theorem oU {uop : UnOp} (h : OpV Tryz.prog n D w0 ov H ⟨d, .unOp uop T1 x, T, pos, af, g⟩ v) : OpV Tryz.prog n D w0 ov H ⟨d, .unOp uop T1 x, T, pos, af, g⟩ v := h
theorem oBd {ps : Array (Nat × Operand)} (h : OpV Tryz.prog n D w0 ov H ⟨d, .build T1 ps, T, pos, af, g⟩ v) : OpV Tryz.prog n D w0 ov H ⟨d, .build T1 ps, T, pos, af, g⟩ v := h
theorem oF {fn : Fn} {xs ys : Array Operand} (h : OpV Tryz.prog n D w0 ov H ⟨d, .makeFunc fn xs ys, T, pos, af, g⟩ v) : OpV Tryz.prog n D w0 ov H ⟨d, .makeFunc fn xs ys, T, pos, af, g⟩ v := h
theorem kS (h : JO Tryz.prog f n R D w0 ops ⟨d, .store T1 x y, T, pos, af, g⟩ l k ov H) : JO Tryz.prog f n R D w0 ops ⟨d, .store T1 x y, T, pos, af, g⟩ l k ov H := h
end
end Go.Proofs.YtbiocgenbgbfpaaGreat

set_option linter.unusedVariables false
set_option linter.unusedSimpArgs false
namespace Go.Proofs.YtbiocgenbgbfpaaGreat
open Sx Go
/-! one step of a walk, as a lemma: the goal behind it is found by the default tactic -/
section
variable {f n : Nat} {R : Ending → World → Prop} {D : List Deferred} {w0 : World} {k : List Item} {ov : Ov} {H H' : List Asn} {K : KC} {Z : Array Oper × List Nat} {G' : Prop}
  {ops : Array Oper} {l : List Oper} {d : Option Nat} {T T1 T2 : Nat} {pos : String} {af : Array Edge} {g : Option (Nat × Bool)} {x y : Operand} {v : Value} {op : Op} {o : Oper}
theorem igJS (h : G' → JS Tryz.prog f n R D w0 k ov H) : G' → JS Tryz.prog f n R D w0 k ov H := h
theorem igJR (h : G' → JR Tryz.prog f n R D w0 ops l k ov H) : G' → JR Tryz.prog f n R D w0 ops l k ov H := h
theorem igQR (h : G' → QR Tryz.prog n D w0 Z l ov H K) : G' → QR Tryz.prog n D w0 Z l ov H K := h
theorem igQO (h : G' → QO Tryz.prog n D w0 Z o l ov H K) : G' → QO Tryz.prog n D w0 Z o l ov H K := h
theorem igJO (h : G' → JO Tryz.prog f n R D w0 ops o l k ov H) : G' → JO Tryz.prog f n R D w0 ops o l k ov H := h
theorem ikS (h : G' → JO Tryz.prog f n R D w0 ops ⟨d, .store T1 x y, T, pos, af, g⟩ l k ov H) : G' → JO Tryz.prog f n R D w0 ops ⟨d, .store T1 x y, T, pos, af, g⟩ l k ov H := h
theorem ikX (h : G' → JO Tryz.prog f n R D w0 ops ⟨d, .box T1 x, T, pos, af, g⟩ l k ov H) : G' → JO Tryz.prog f n R D w0 ops ⟨d, .box T1 x, T, pos, af, g⟩ l k ov H := h
theorem ikA (h : G' → JO Tryz.prog f n R D w0 ops ⟨d, .alloc T1, T, pos, af, g⟩ l k ov H) : G' → JO Tryz.prog f n R D w0 ops ⟨d, .alloc T1, T, pos, af, g⟩ l k ov H := h
theorem ikBs {ps : Array (Nat × Operand)} (h : G' → JO Tryz.prog f n R D w0 ops ⟨d, .buildSlice T1 T2 ps, T, pos, af, g⟩ l k ov H) : G' → JO Tryz.prog f n R D w0 ops ⟨d, .buildSlice T1 T2 ps, T, pos, af, g⟩ l k ov H := h
theorem ikM (h : G' → JO Tryz.prog f n R D w0 ops ⟨d, .makeSlice T1 x y, T, pos, af, g⟩ l k ov H) : G' → JO Tryz.prog f n R D w0 ops ⟨d, .makeSlice T1 x y, T, pos, af, g⟩ l k ov H := h
theorem iO (h : OpV Tryz.prog n D w0 ov H ⟨d, op, T, pos, af, g⟩ v := by first | (apply oMv; exact V_move rfl rfl) | (apply oAs; exact V_assign rfl rfl) | (apply oL; first | exact V_load (tb := tb) rfl (by repeat (first | apply List.Mem.head | apply List.Mem.tail)) rfl rfl rfl rfl | exact V_loadC (tb := tb) rfl (by first | exact vec_rd (by repeat (first | apply List.Mem.head | apply List.Mem.tail)) | assumption | exact ArgRd.rd (by assumption) _ | (apply Rd_weak; assumption; intro _ hx; exact St.sub (by repeat (first | exact List.Sublist.refl _ | apply List.Sublist.cons_cons | apply List.Sublist.cons)) hx)) rfl rfl (by first | exact ints_get (by omega) | exact rfl) rfl | exact V_loadA (tb := tb) rfl (by repeat (first | apply List.Mem.head | apply List.Mem.tail)) rfl rfl rfl rfl) | (apply oB; first | (apply ob_add; first | exact V_add rfl rfl (by first | exact wi64 (by omega) | exact wu64 (by omega) | exact wu32 (by omega) | exact wu8 (by omega) | exact mu64 _ | exact mu32 _ | exact mu8 _ | exact mi64 _ | exact rfl) rfl) | (apply ob_sub; first | exact V_sub rfl rfl (by first | exact wi64 (by omega) | exact wu64 (by omega) | exact wu32 (by omega) | exact wu8 (by omega) | exact mu64 _ | exact mu32 _ | exact mu8 _ | exact mi64 _ | exact rfl) rfl) | (apply ob_mul; first | exact V_mul rfl rfl (by first | exact wi64 (by omega) | exact wu64 (by omega) | exact wu32 (by omega) | exact wu8 (by omega) | exact mu64 _ | exact mu32 _ | exact mu8 _ | exact mi64 _ | exact rfl) rfl) | (apply ob_eql; first | exact V_eqlT rfl rfl (by omega) rfl | exact V_eqlF rfl rfl (by omega) rfl | exact V_eql rfl rfl rfl) | (apply ob_neq; first | exact V_neqT rfl rfl (by omega) rfl | exact V_neqF rfl rfl (by omega) rfl | exact V_neq rfl rfl rfl) | (apply ob_lss; first | exact V_lssT rfl rfl (by omega) rfl | exact V_lssF rfl rfl (by omega) rfl | exact V_lss rfl rfl rfl) | (apply ob_leq; first | exact V_leqT rfl rfl (by omega) rfl | exact V_leqF rfl rfl (by omega) rfl | exact V_leq rfl rfl rfl) | (apply ob_gtr; first | exact V_gtrT rfl rfl (by omega) rfl | exact V_gtrF rfl rfl (by omega) rfl | exact V_gtr rfl rfl rfl) | (apply ob_geq; first | exact V_geqT rfl rfl (by omega) rfl | exact V_geqF rfl rfl (by omega) rfl | exact V_geq rfl rfl rfl) | (apply ob_quo; first | exact V_quo rfl rfl (by omega) (by first | exact IntWalk.i64_quo _ _ (by omega) | exact IntWalk.u64_quo _ _ (by omega) | exact IntWalk.u32_quo _ _ (by omega) | exact IntWalk.u8_quo _ _ (by omega)) rfl) | (apply ob_rem; first | exact V_rem rfl rfl (by omega) (Int.tmod_eq_emod_of_nonneg (by omega)) rfl) | (apply ob_and; first | exact V_and rfl rfl (by first | exact mask32_u64 (by omega) | exact mask_u64 8 (by decide) (by omega) rfl | exact mask_u64 16 (by decide) (by omega) rfl) rfl) | (apply ob_eql; first | exact V_eqP (tb := tb) rfl rfl rfl rfl | exact V_eqBB (tb := tb) rfl rfl rfl rfl | exact V_eqB (tb := tb) rfl rfl rfl rfl | exact V_eqNil (tb := tb) rfl rfl rfl rfl | exact V_eqStr rfl rfl (by assumption) (by assumption) rfl) | (apply ob_neq; first | exact V_neP (tb := tb) rfl rfl rfl rfl | exact V_neBB (tb := tb) rfl rfl rfl rfl | exact V_neB (tb := tb) rfl rfl rfl rfl | exact V_neStr rfl rfl (by assumption) (by assumption) rfl) | (apply oK; first | (apply ob_shr; exact V_shr (m := _) rfl rfl (by omega) (by simp only [IntKind.bits, Int.reduceToNat, Nat.reduceLeDiff, Nat.min_eq_left]; exact rfl) (by first | (simp only [Int.reducePow]; exact rfl) | exact rfl) rfl) | (apply ob_shl; exact V_shl (m := _) rfl rfl (by omega) (by simp only [IntKind.bits, Int.reduceToNat, Nat.reduceLeDiff, Nat.min_eq_left]; exact rfl) (by (try simp only [Int.reducePow]); first | exact wi64 (by omega) | exact wu64 (by omega) | exact wu32 (by omega) | exact wu8 (by omega) | exact mu64 _ | exact mu32 _ | exact mu8 _ | exact mi64 _ | exact rfl) rfl))) | (apply oE; first | exact V_extract rfl rfl rfl) | (apply oc_len; exact V_len (tb := tb) rfl rfl rfl) | (apply oc_len; exact V_lenS (tb := tb) rfl rfl rfl) | (apply oc_min; exact V_min rfl rfl rfl rfl) | (apply oc_max; exact V_max rfl rfl rfl rfl) | (apply oCv; first | exact V_conv (tb := tb) rfl rfl rfl (by first | exact wi64 (by omega) | exact wu64 (by omega) | exact wu32 (by omega) | exact wu8 (by omega) | exact mu64 _ | exact mu32 _ | exact mu8 _ | exact mi64 _ | exact rfl) rfl | exact V_str (tb := tb) rfl (by first | exact vec_rd (by repeat (first | apply List.Mem.head | apply List.Mem.tail)) | assumption | exact ArgRd.rd (by assumption) _ | (apply Rd_weak; assumption; intro _ hx; exact St.sub (by repeat (first | exact List.Sublist.refl _ | apply List.Sublist.cons_cons | apply List.Sublist.cons)) hx)) (by first | assumption | rfl | omega) rfl rfl rfl rfl) | (apply oP; first | exact V_pickT rfl rfl rfl | exact V_pickF rfl rfl rfl | exact V_pickB rfl rfl rfl rfl) | (apply oU; first | exact V_notD rfl rfl | exact V_not rfl rfl | exact V_neg rfl (by first | exact wi64 (by omega) | exact wu64 (by omega) | exact wu32 (by omega) | exact wu8 (by omega) | exact mu64 _ | exact mu32 _ | exact mu8 _ | exact mi64 _ | exact rfl) rfl) | (apply oN; first | exact V_nilCheck rfl rfl) | (apply oFA; first | exact V_field (tb := tb) rfl rfl rfl rfl rfl rfl | exact V_fieldC (tb := tb) rfl (by first | exact Rd.sl (vec_rd (by repeat (first | apply List.Mem.head | apply List.Mem.tail))) | exact Rd.sl (by assumption) | exact Rd.sl (ArgRd.rd (by assumption) _) | (apply Rd.sl; (apply Rd_weak; assumption; intro _ hx; exact St.sub (by repeat (first | exact List.Sublist.refl _ | apply List.Sublist.cons_cons | apply List.Sublist.cons)) hx))) (by omega) rfl rfl rfl rfl rfl) | (apply oIA; first | exact V_index (tb := tb) rfl rfl rfl rfl (by first | exact Rd.sl (vec_rd (by repeat (first | apply List.Mem.head | apply List.Mem.tail))) | exact Rd.sl (by assumption) | exact Rd.sl (ArgRd.rd (by assumption) _) | (apply Rd.sl; (apply Rd_weak; assumption; intro _ hx; exact St.sub (by repeat (first | exact List.Sublist.refl _ | apply List.Sublist.cons_cons | apply List.Sublist.cons)) hx))) (by omega) (by (try simp only [tn, tna, tn1, tn2, tn3, tn4, tnd16, tnd8, Int.reduceToNat]); first | exact Nat.mul_one _ | exact rfl) rfl | exact V_indexA (tb := tb) rfl rfl rfl rfl (by omega) rfl) | (apply oBd; first | exact V_build (tb := tb) rfl rfl rfl rfl rfl) | (apply oF; first | exact V_makeFunc rfl rfl rfl)) : JR Tryz.prog f n R D w0 ops l k (put d v ov) H → JO Tryz.prog f n R D w0 ops ⟨d, op, T, pos, af, g⟩ l k ov H := fun hn => JO_v h hn
theorem iU (h : OpV Tryz.prog n D w0 ov H ⟨d, op, T, pos, af, g⟩ v := by first | (apply oMv; exact V_move rfl rfl) | (apply oAs; exact V_assign rfl rfl) | (apply oL; first | exact V_load (tb := tb) rfl (by repeat (first | apply List.Mem.head | apply List.Mem.tail)) rfl rfl rfl rfl | exact V_loadC (tb := tb) rfl (by first | exact vec_rd (by repeat (first | apply List.Mem.head | apply List.Mem.tail)) | assumption | exact ArgRd.rd (by assumption) _ | (apply Rd_weak; assumption; intro _ hx; exact St.sub (by repeat (first | exact List.Sublist.refl _ | apply List.Sublist.cons_cons | apply List.Sublist.cons)) hx)) rfl rfl (by first | exact ints_get (by omega) | exact rfl) rfl | exact V_loadA (tb := tb) rfl (by repeat (first | apply List.Mem.head | apply List.Mem.tail)) rfl rfl rfl rfl) | (apply oB; first | (apply ob_add; first | exact V_add rfl rfl (by first | exact mu64 _ | exact mu32 _ | exact mu8 _ | exact rfl) rfl) | (apply ob_sub; first | exact V_sub rfl rfl (by first | exact mu64 _ | exact mu32 _ | exact mu8 _ | exact rfl) rfl) | (apply ob_mul; first | exact V_mul rfl rfl (by first | exact mu64 _ | exact mu32 _ | exact mu8 _ | exact rfl) rfl) | (apply ob_eql; first | exact V_eqlT rfl rfl (by omega) rfl | exact V_eqlF rfl rfl (by omega) rfl | exact V_eql rfl rfl rfl) | (apply ob_neq; first | exact V_neqT rfl rfl (by omega) rfl | exact V_neqF rfl rfl (by omega) rfl | exact V_neq rfl rfl rfl) | (apply ob_lss; first | exact V_lssT rfl rfl (by omega) rfl | exact V_lssF rfl rfl (by omega) rfl | exact V_lss rfl rfl rfl) | (apply ob_leq; first | exact V_leqT rfl rfl (by omega) rfl | exact V_leqF rfl rfl (by omega) rfl | exact V_leq rfl rfl rfl) | (apply ob_gtr; first | exact V_gtrT rfl rfl (by omega) rfl | exact V_gtrF rfl rfl (by omega) rfl | exact V_gtr rfl rfl rfl) | (apply ob_geq; first | exact V_geqT rfl rfl (by omega) rfl | exact V_geqF rfl rfl (by omega) rfl | exact V_geq rfl rfl rfl) | (apply ob_quo; first | exact V_quo rfl rfl (by omega) (by first | exact IntWalk.i64_quo _ _ (by omega) | exact IntWalk.u64_quo _ _ (by omega) | exact IntWalk.u32_quo _ _ (by omega) | exact IntWalk.u8_quo _ _ (by omega)) rfl) | (apply ob_rem; first | exact V_rem rfl rfl (by omega) (Int.tmod_eq_emod_of_nonneg (by omega)) rfl) | (apply ob_and; first | exact V_and rfl rfl (by first | exact mask32_u64 (by omega) | exact mask_u64 8 (by decide) (by omega) rfl | exact mask_u64 16 (by decide) (by omega) rfl) rfl) | (apply ob_eql; first | exact V_eqP (tb := tb) rfl rfl rfl rfl | exact V_eqBB (tb := tb) rfl rfl rfl rfl | exact V_eqB (tb := tb) rfl rfl rfl rfl | exact V_eqNil (tb := tb) rfl rfl rfl rfl | exact V_eqStr rfl rfl (by assumption) (by assumption) rfl) | (apply ob_neq; first | exact V_neP (tb := tb) rfl rfl rfl rfl | exact V_neBB (tb := tb) rfl rfl rfl rfl | exact V_neB (tb := tb) rfl rfl rfl rfl | exact V_neStr rfl rfl (by assumption) (by assumption) rfl) | (apply oK; first | (apply ob_shr; exact V_shr (m := _) rfl rfl (by omega) (by simp only [IntKind.bits, Int.reduceToNat, Nat.reduceLeDiff, Nat.min_eq_left]; exact rfl) (by first | (simp only [Int.reducePow]; exact rfl) | exact rfl) rfl) | (apply ob_shl; exact V_shl (m := _) rfl rfl (by omega) (by simp only [IntKind.bits, Int.reduceToNat, Nat.reduceLeDiff, Nat.min_eq_left]; exact rfl) (by (try simp only [Int.reducePow]); first | exact mu64 _ | exact mu32 _ | exact mu8 _ | exact rfl) rfl))) | (apply oE; first | exact V_extract rfl rfl rfl) | (apply oc_len; exact V_len (tb := tb) rfl rfl rfl) | (apply oc_len; exact V_lenS (tb := tb) rfl rfl rfl) | (apply oc_min; exact V_min rfl rfl rfl rfl) | (apply oc_max; exact V_max rfl rfl rfl rfl) | (apply oCv; first | exact V_conv (tb := tb) rfl rfl rfl (by first | exact mu64 _ | exact mu32 _ | exact mu8 _ | exact rfl) rfl | exact V_str (tb := tb) rfl (by first | exact vec_rd (by repeat (first | apply List.Mem.head | apply List.Mem.tail)) | assumption | exact ArgRd.rd (by assumption) _ | (apply Rd_weak; assumption; intro _ hx; exact St.sub (by repeat (first | exact List.Sublist.refl _ | apply List.Sublist.cons_cons | apply List.Sublist.cons)) hx)) (by first | assumption | rfl | omega) rfl rfl rfl rfl) | (apply oP; first | exact V_pickT rfl rfl rfl | exact V_pickF rfl rfl rfl | exact V_pickB rfl rfl rfl rfl) | (apply oU; first | exact V_notD rfl rfl | exact V_not rfl rfl | exact V_neg rfl (by first | exact mu64 _ | exact mu32 _ | exact mu8 _ | exact rfl) rfl) | (apply oN; first | exact V_nilCheck rfl rfl) | (apply oFA; first | exact V_field (tb := tb) rfl rfl rfl rfl rfl rfl | exact V_fieldC (tb := tb) rfl (by first | exact Rd.sl (vec_rd (by repeat (first | apply List.Mem.head | apply List.Mem.tail))) | exact Rd.sl (by assumption) | exact Rd.sl (ArgRd.rd (by assumption) _) | (apply Rd.sl; (apply Rd_weak; assumption; intro _ hx; exact St.sub (by repeat (first | exact List.Sublist.refl _ | apply List.Sublist.cons_cons | apply List.Sublist.cons)) hx))) (by omega) rfl rfl rfl rfl rfl) | (apply oIA; first | exact V_index (tb := tb) rfl rfl rfl rfl (by first | exact Rd.sl (vec_rd (by repeat (first | apply List.Mem.head | apply List.Mem.tail))) | exact Rd.sl (by assumption) | exact Rd.sl (ArgRd.rd (by assumption) _) | (apply Rd.sl; (apply Rd_weak; assumption; intro _ hx; exact St.sub (by repeat (first | exact List.Sublist.refl _ | apply List.Sublist.cons_cons | apply List.Sublist.cons)) hx))) (by omega) (by (try simp only [tn, tna, tn1, tn2, tn3, tn4, tnd16, tnd8, Int.reduceToNat]); first | exact Nat.mul_one _ | exact rfl) rfl | exact V_indexA (tb := tb) rfl rfl rfl rfl (by omega) rfl) | (apply oBd; first | exact V_build (tb := tb) rfl rfl rfl rfl rfl) | (apply oF; first | exact V_makeFunc rfl rfl rfl)) : JR Tryz.prog f n R D w0 ops l k (put d v ov) H → JO Tryz.prog f n R D w0 ops ⟨d, op, T, pos, af, g⟩ l k ov H := fun hn => JO_v h hn
theorem iK (h : OpK Tryz.prog n D w0 ov H ⟨d, op, T, pos, af, g⟩ H' := by first | exact K_store (tb := tb) rfl rfl (by repeat (first | apply Upd.here | apply Upd.there)) rfl rfl rfl (by repeat (first | exact trivial | refine ⟨rfl, ?_⟩)) rfl rfl | exact K_storeC1 (tb := tb) rfl rfl ints_set (by repeat (first | apply Upd.here | apply Upd.there)) rfl rfl (by rw [ints_len]; omega) rfl) : JR Tryz.prog f n R D w0 ops l k (put d undef ov) H' → JO Tryz.prog f n R D w0 ops ⟨d, op, T, pos, af, g⟩ l k ov H := fun hn => JO_k h hn
theorem iQ (h : OpV Tryz.prog n D w0 ov H ⟨d, op, T, pos, af, g⟩ v := by first | (apply oMv; exact V_move rfl rfl) | (apply oAs; exact V_assign rfl rfl) | (apply oL; first | exact V_load (tb := tb) rfl (by repeat (first | apply List.Mem.head | apply List.Mem.tail)) rfl rfl rfl rfl | exact V_loadC (tb := tb) rfl (by first | exact vec_rd (by repeat (first | apply List.Mem.head | apply List.Mem.tail)) | assumption | exact ArgRd.rd (by assumption) _ | (apply Rd_weak; assumption; intro _ hx; exact St.sub (by repeat (first | exact List.Sublist.refl _ | apply List.Sublist.cons_cons | apply List.Sublist.cons)) hx)) rfl rfl (by first | exact ints_get (by omega) | exact rfl) rfl | exact V_loadA (tb := tb) rfl (by repeat (first | apply List.Mem.head | apply List.Mem.tail)) rfl rfl rfl rfl) | (apply oB; first | (apply ob_add; first | exact V_add rfl rfl (by first | exact wi64 (by omega) | exact wu64 (by omega) | exact wu32 (by omega) | exact wu8 (by omega) | exact mu64 _ | exact mu32 _ | exact mu8 _ | exact mi64 _ | exact rfl) rfl) | (apply ob_sub; first | exact V_sub rfl rfl (by first | exact wi64 (by omega) | exact wu64 (by omega) | exact wu32 (by omega) | exact wu8 (by omega) | exact mu64 _ | exact mu32 _ | exact mu8 _ | exact mi64 _ | exact rfl) rfl) | (apply ob_mul; first | exact V_mul rfl rfl (by first | exact wi64 (by omega) | exact wu64 (by omega) | exact wu32 (by omega) | exact wu8 (by omega) | exact mu64 _ | exact mu32 _ | exact mu8 _ | exact mi64 _ | exact rfl) rfl) | (apply ob_eql; first | exact V_eqlT rfl rfl (by omega) rfl | exact V_eqlF rfl rfl (by omega) rfl | exact V_eql rfl rfl rfl) | (apply ob_neq; first | exact V_neqT rfl rfl (by omega) rfl | exact V_neqF rfl rfl (by omega) rfl | exact V_neq rfl rfl rfl) | (apply ob_lss; first | exact V_lssT rfl rfl (by omega) rfl | exact V_lssF rfl rfl (by omega) rfl | exact V_lss rfl rfl rfl) | (apply ob_leq; first | exact V_leqT rfl rfl (by omega) rfl | exact V_leqF rfl rfl (by omega) rfl | exact V_leq rfl rfl rfl) | (apply ob_gtr; first | exact V_gtrT rfl rfl (by omega) rfl | exact V_gtrF rfl rfl (by omega) rfl | exact V_gtr rfl rfl rfl) | (apply ob_geq; first | exact V_geqT rfl rfl (by omega) rfl | exact V_geqF rfl rfl (by omega) rfl | exact V_geq rfl rfl rfl) | (apply ob_quo; first | exact V_quo rfl rfl (by omega) (by first | exact IntWalk.i64_quo _ _ (by omega) | exact IntWalk.u64_quo _ _ (by omega) | exact IntWalk.u32_quo _ _ (by omega) | exact IntWalk.u8_quo _ _ (by omega)) rfl) | (apply ob_rem; first | exact V_rem rfl rfl (by omega) (Int.tmod_eq_emod_of_nonneg (by omega)) rfl) | (apply ob_and; first | exact V_and rfl rfl (by first | exact mask32_u64 (by omega) | exact mask_u64 8 (by decide) (by omega) rfl | exact mask_u64 16 (by decide) (by omega) rfl) rfl) | (apply ob_eql; first | exact V_eqP (tb := tb) rfl rfl rfl rfl | exact V_eqBB (tb := tb) rfl rfl rfl rfl | exact V_eqB (tb := tb) rfl rfl rfl rfl | exact V_eqNil (tb := tb) rfl rfl rfl rfl | exact V_eqStr rfl rfl (by assumption) (by assumption) rfl) | (apply ob_neq; first | exact V_neP (tb := tb) rfl rfl rfl rfl | exact V_neBB (tb := tb) rfl rfl rfl rfl | exact V_neB (tb := tb) rfl rfl rfl rfl | exact V_neStr rfl rfl (by assumption) (by assumption) rfl) | (apply oK; first | (apply ob_shr; exact V_shr (m := _) rfl rfl (by omega) (by simp only [IntKind.bits, Int.reduceToNat, Nat.reduceLeDiff, Nat.min_eq_left]; exact rfl) (by first | (simp only [Int.reducePow]; exact rfl) | exact rfl) rfl) | (apply ob_shl; exact V_shl (m := _) rfl rfl (by omega) (by simp only [IntKind.bits, Int.reduceToNat, Nat.reduceLeDiff, Nat.min_eq_left]; exact rfl) (by (try simp only [Int.reducePow]); first | exact wi64 (by omega) | exact wu64 (by omega) | exact wu32 (by omega) | exact wu8 (by omega) | exact mu64 _ | exact mu32 _ | exact mu8 _ | exact mi64 _ | exact rfl) rfl))) | (apply oE; first | exact V_extract rfl rfl rfl) | (apply oc_len; exact V_len (tb := tb) rfl rfl rfl) | (apply oc_len; exact V_lenS (tb := tb) rfl rfl rfl) | (apply oc_min; exact V_min rfl rfl rfl rfl) | (apply oc_max; exact V_max rfl rfl rfl rfl) | (apply oCv; first | exact V_conv (tb := tb) rfl rfl rfl (by first | exact wi64 (by omega) | exact wu64 (by omega) | exact wu32 (by omega) | exact wu8 (by omega) | exact mu64 _ | exact mu32 _ | exact mu8 _ | exact mi64 _ | exact rfl) rfl | exact V_str (tb := tb) rfl (by first | exact vec_rd (by repeat (first | apply List.Mem.head | apply List.Mem.tail)) | assumption | exact ArgRd.rd (by assumption) _ | (apply Rd_weak; assumption; intro _ hx; exact St.sub (by repeat (first | exact List.Sublist.refl _ | apply List.Sublist.cons_cons | apply List.Sublist.cons)) hx)) (by first | assumption | rfl | omega) rfl rfl rfl rfl) | (apply oP; first | exact V_pickT rfl rfl rfl | exact V_pickF rfl rfl rfl | exact V_pickB rfl rfl rfl rfl) | (apply oU; first | exact V_notD rfl rfl | exact V_not rfl rfl | exact V_neg rfl (by first | exact wi64 (by omega) | exact wu64 (by omega) | exact wu32 (by omega) | exact wu8 (by omega) | exact mu64 _ | exact mu32 _ | exact mu8 _ | exact mi64 _ | exact rfl) rfl) | (apply oN; first | exact V_nilCheck rfl rfl) | (apply oFA; first | exact V_field (tb := tb) rfl rfl rfl rfl rfl rfl | exact V_fieldC (tb := tb) rfl (by first | exact Rd.sl (vec_rd (by repeat (first | apply List.Mem.head | apply List.Mem.tail))) | exact Rd.sl (by assumption) | exact Rd.sl (ArgRd.rd (by assumption) _) | (apply Rd.sl; (apply Rd_weak; assumption; intro _ hx; exact St.sub (by repeat (first | exact List.Sublist.refl _ | apply List.Sublist.cons_cons | apply List.Sublist.cons)) hx))) (by omega) rfl rfl rfl rfl rfl) | (apply oIA; first | exact V_index (tb := tb) rfl rfl rfl rfl (by first | exact Rd.sl (vec_rd (by repeat (first | apply List.Mem.head | apply List.Mem.tail))) | exact Rd.sl (by assumption) | exact Rd.sl (ArgRd.rd (by assumption) _) | (apply Rd.sl; (apply Rd_weak; assumption; intro _ hx; exact St.sub (by repeat (first | exact List.Sublist.refl _ | apply List.Sublist.cons_cons | apply List.Sublist.cons)) hx))) (by omega) (by (try simp only [tn, tna, tn1, tn2, tn3, tn4, tnd16, tnd8, Int.reduceToNat]); first | exact Nat.mul_one _ | exact rfl) rfl | exact V_indexA (tb := tb) rfl rfl rfl rfl (by omega) rfl) | (apply oBd; first | exact V_build (tb := tb) rfl rfl rfl rfl rfl) | (apply oF; first | exact V_makeFunc rfl rfl rfl)) (hlo : loud op = false := by rfl) : QR Tryz.prog n D w0 Z l (put d v ov) H K → QO Tryz.prog n D w0 Z ⟨d, op, T, pos, af, g⟩ l ov H K := fun hn => QO_v hlo h hn
theorem iQK (hs : Z.2.contains l.length = true) (h : OpK Tryz.prog n D w0 ov H ⟨d, op, T, pos, af, g⟩ H' := by first | exact K_store (tb := tb) rfl rfl (by repeat (first | apply Upd.here | apply Upd.there)) rfl rfl rfl (by repeat (first | exact trivial | refine ⟨rfl, ?_⟩)) rfl rfl | exact K_storeC1 (tb := tb) rfl rfl ints_set (by repeat (first | apply Upd.here | apply Upd.there)) rfl rfl (by rw [ints_len]; omega) rfl) (hlo : loud op = true := by rfl) : QR Tryz.prog n D w0 Z l (put d undef ov) H' K → QO Tryz.prog n D w0 Z ⟨d, op, T, pos, af, g⟩ l ov H K := fun hn => QO_k hlo h hs hn
end
theorem sx {G G' : Prop} (h : G') (t : G' → G := by first | (apply igJO; first | (apply ikS; exact iK) | (apply ikX; exact JO_box rfl rfl rfl) | (apply ikA; exact JO_alloc (tb := tb) rfl rfl) | (apply ikBs; exact JO_buildSlice (tb := tb) rfl rfl rfl rfl rfl rfl rfl rfl rfl) | (apply ikM; exact JO_make (tb := tb) rfl rfl rfl rfl rfl rfl (by omega) rfl) | exact iO) | (apply igJR; first | exact JR_un | exact JR_nil | exact JR_yes rfl rfl | exact JR_no rfl rfl rfl rfl | exact JR_noU rfl rfl rfl) | (apply igJS; first | exact JS_seq | exact JS_region | exact JS_skip | exact JS_block | exact JS_inBlock | exact JS_label | exact JS_exit rfl | exact JS_condT rfl | exact JS_condF rfl | exact JS_draw [0] (by kernel_rfl) (by kernel_rfl) (by decide +kernel) | exact JS_draw [] (by kernel_rfl) (by kernel_rfl) (by decide +kernel) | exact JS_cond_T rfl (by omega) | exact JS_cond_F rfl (by omega)) | (apply igQR; first | exact QR_un | exact QR_nil | exact QR_yes rfl rfl | exact QR_no rfl rfl rfl rfl | exact QR_noU rfl rfl rfl) | (apply igQO; first | exact iQ | exact iQK rfl)) : G := t h
theorem sy {G G' : Prop} (h : G') (t : G' → G := by first | (apply igJO; first | (apply ikS; exact iK) | (apply ikX; exact JO_box rfl rfl rfl) | (apply ikA; exact JO_alloc (tb := tb) rfl rfl) | (apply ikBs; exact JO_buildSlice (tb := tb) rfl rfl rfl rfl rfl rfl rfl rfl rfl) | (apply ikM; exact JO_make (tb := tb) rfl rfl rfl rfl rfl rfl (by omega) rfl) | exact iO) | (apply igJR; first | exact JR_un | exact JR_nil | exact JR_yes rfl rfl | exact JR_no rfl rfl rfl rfl | exact JR_noU rfl rfl rfl) | (apply igJS; first | exact JS_seq | exact JS_region | exact JS_skip | exact JS_block | exact JS_inBlock | exact JS_label | exact JS_exit rfl | exact JS_condT rfl | exact JS_condF rfl | exact JS_draw [0] (by kernel_rfl) (by kernel_rfl) (by decide +kernel) | exact JS_draw [] (by kernel_rfl) (by kernel_rfl) (by decide +kernel)) | (apply igQR; first | exact QR_un | exact QR_nil | exact QR_yes rfl rfl | exact QR_no rfl rfl rfl rfl | exact QR_noU rfl rfl rfl) | (apply igQO; first | exact iQ | exact iQK rfl)) : G := t h
theorem su {G G' : Prop} (h : G') (t : G' → G := by first | (apply igJO; first | (apply ikS; exact iK) | (apply ikX; exact JO_box rfl rfl rfl) | (apply ikA; exact JO_alloc (tb := tb) rfl rfl) | (apply ikBs; exact JO_buildSlice (tb := tb) rfl rfl rfl rfl rfl rfl rfl rfl rfl) | (apply ikM; exact JO_make (tb := tb) rfl rfl rfl rfl rfl rfl (by omega) rfl) | exact iU) | (apply igJR; first | exact JR_un | exact JR_nil | exact JR_yes rfl rfl | exact JR_no rfl rfl rfl rfl | exact JR_noU rfl rfl rfl) | (apply igJS; first | exact JS_seq | exact JS_region | exact JS_skip | exact JS_block | exact JS_inBlock | exact JS_label | exact JS_exit rfl | exact JS_condT rfl | exact JS_condF rfl | exact JS_draw [0] (by kernel_rfl) (by kernel_rfl) (by decide +kernel) | exact JS_draw [] (by kernel_rfl) (by kernel_rfl) (by decide +kernel)) | (apply igQR; first | exact QR_un | exact QR_nil | exact QR_yes rfl rfl | exact QR_no rfl rfl rfl rfl | exact QR_noU rfl rfl rfl) | (apply igQO; first | exact iQ | exact iQK rfl)) : G := t h
end Go.Proofs.YtbiocgenbgbfpaaGreat

namespace Sx
open Go
/-! operations that hand back a value and change memory -/
section
variable {P : Program} {f n : Nat} {R : Ending → World → Prop} {D : List Deferred} {w0 : World} {k : List Item} {ov : Ov} {H : List Asn} {K : KC} {Z : Array Oper × List Nat}
  {ops : Array Oper} {l : List Oper} {d : Option Nat} {T : Nat} {pos : String} {af : Array Edge} {g : Option (Nat × Bool)} {x y : Operand} {op : Op} {tb : Tb P}
/-- operation o yields v c, for some c, and the assertions become H' c -/
def OpE {ι : Type} (P : Program) (n : Nat) (D : List Deferred) (w0 : World) (ov : Ov) (H : List Asn) (o : Oper) (v : ι → Value) (H' : ι → List Asn) : Prop :=
  dOk o.dst n = true ∧ ∀ a w, Rep n D ov a → St w0 H w → ∃ c w', (execOp a.eval o).run P w = .ok (.value (v c)) w' ∧ St w0 (H' c) w'
theorem JO_e {ι : Type} {v : ι → Value} {H' : ι → List Asn} (h : OpE P n D w0 ov H ⟨d, op, T, pos, af, g⟩ v H') (hn : ∀ c, JR P f n R D w0 ops l k (put d (v c) ov) (H' c)) : JO P f n R D w0 ops ⟨d, op, T, pos, af, g⟩ l k ov H :=
  JO_step fun a w ha hw => let ⟨c, w', h1, h2⟩ := h.2 a w ha hw; ⟨v c, w', h1, h.1, H' c, h2, hn c⟩
theorem QO_e {ι : Type} {v : ι → Value} {H' : ι → List Asn} (h : OpE P n D w0 ov H ⟨d, op, T, pos, af, g⟩ v H') (hlo : loud op = true) (hs : Z.2.contains l.length = true ∨ ∀ c w, St w0 (H' c) w → St w0 H w) (hn : ∀ c, QR P n D w0 Z l (put d (v c) ov) (H' c) K) : QO P n D w0 Z ⟨d, op, T, pos, af, g⟩ l ov H K := by
  unfold QO
  intro a ha
  refine .inr ⟨hlo, fun w hw => ?_⟩
  obtain ⟨c, w', hrun, hw'⟩ := h.2 a w ha hw
  simp only [Oper.wpN, hrun, Oper.upN]
  exact ⟨St w0 (H' c), hw', hs.symm.imp (fun h => h c) id, by have := hn c; unfold QR at this; exact this _ (ha.put h.1 _)⟩
theorem Rd.nil {p : Option Addr} {m c m' : Nat} {cs : List Value} {w : World} (h : Rd w0 H (.slice p m c) m' cs) (hw : St w0 H w) : p = none → m = 0 := by
  unfold Rd at h
  obtain ⟨⟨b, c', e, hn, _⟩, _⟩ := h w hw
  cases e
  exact hn
theorem Sel.self {H a F} (h : Sel H a F) : F a = H := by
  induction h with
  | here a r => rfl
  | there y a r F _ ih => simp [ih]
theorem Sel.mem {H a F} (h : Sel H a F) : a ∈ H := by
  induction h with
  | here a r => exact List.Mem.head _
  | there y a r F _ ih => exact List.Mem.tail _ ih
theorem add_zero' (a : Addr) : a.add 0 = a := by unfold Addr.add; simp
theorem run_storeSeg {e size m j : Nat} {u : Value} {cs vs : List Value} {w : World} {F : Asn → List Asn} (hu : Sel H (vec e size u m cs) F) (hw : St w0 H w) (hp : 0 < vs.length) (h1 : All1 vs) (hf : j + vs.length ≤ cs.length) :
    ∃ b c w', u = .slice (some ⟨b, 0, none⟩) m c ∧ (storeCells ⟨b, j, none⟩ vs).run P w = .ok () w' ∧ St w0 (F (vec e size u m (cs.take j ++ vs ++ cs.drop (j + vs.length)))) w' := by
  obtain ⟨fp, hfp⟩ := hw.mem hu.mem
  rw [vec_holds] at hfp
  rcases hfp.2 with ⟨base, rfl, rfl, _⟩ | ⟨gb, cap, cur, rfl, _, hg, hn, hcm, hsz, ht⟩
  · have := hfp.1; rw [Nat.zero_mul] at this; omega
  · have hcl := hfp.1
    have hlen : cs.length ≤ cur.size := by rw [hcl, hsz]; exact Nat.mul_le_mul_right _ hn
    have hst := run_storeCells_at P gb j e vs 0 cur w hg (by omega) h1.mem
    simp only [Nat.add_zero] at hst
    refine ⟨gb, cap, _, rfl, hst, ?_⟩
    refine hw.row (hu.upd _) (cs := cur.toList) (by simpa using hg) (fun fq hq2 => ?_) fun w' h' => ?_
    · rw [vec_holds] at hq2
      rcases hq2.2 with ⟨base, hb, _⟩ | ⟨g', cap', cur', hv', hfq, _⟩
      · simp at hb; rw [hb.2.1, Nat.zero_mul] at hcl; omega
      · simp at hv'; rw [hfq, hv'.1]
    · rw [vec_holds]
      refine ⟨by rw [← hcl]; simp; omega, .inr ⟨gb, cap, _, rfl, rfl, h', hn, hcm, by simp; omega, ?_⟩⟩
      have hcs : cs = cur.toList.take cs.length := by rw [hcl]; exact ht.symm
      rw [← hcl]
      have e1 : cs.take j = cur.toList.take j := by rw [hcs, List.take_take]; congr 1; omega
      rw [e1, List.take_append, List.take_append]
      congr 1
      · congr 1
        · rw [List.take_take]; congr 1; omega
        · simp
          rw [List.take_of_length_le (by omega)]
      · have e2 : cs.drop (j + vs.length) = (cur.toList.drop (j + vs.length)).take (cs.length - (j + vs.length)) := by
          conv => lhs; rw [hcs]
          rw [List.drop_take]
        rw [e2]
        congr 1
        simp
        omega
theorem All1.take {l : List Value} (h : All1 l) (n : Nat) : All1 (l.take n) := All1.of fun v hv => h.mem v (List.mem_of_mem_take hv)
/-- copy into a slice, or a slice's part -/
theorem E_copy {t e sz by' m q lo kk c cd sz1 by1 : Nat} {ty2 : Ty} {z1 z2 : Option (List Value)} {a pd : Option Addr} {ux : Value} {cs news : List Value} {F : Asn → List Asn}
    (hx : ev ov x = some (.slice pd kk cd)) (hy : ev ov y = some ux) (h : tlook tb.l t = some ⟨.slice e, sz1, by1, z1⟩) (h2 : tlook tb.l e = some ⟨ty2, sz, by', z2⟩) (hsz : Nat.blt 0 sz = true)
    (hu : Sel H (vec e sz (.slice a m c) m cs) F) (hp : 0 < kk → pd = a.map (·.add (lo * sz))) (hk : lo + kk ≤ m) (hr : Rd w0 H ux q news) (hl : news.length = q * sz) (h1 : All1 news) (hd : dOk d n = true) :
    OpE (ι := Unit) P n D w0 ov H ⟨d, .call ⟨.builtin .copy, #[x, y], #[t, t]⟩, T, pos, af, g⟩ (fun _ => .int .i64 (min q kk : Nat)) (fun _ => F (vec e sz (.slice a m c) m (cs.take (lo * sz) ++ news.take (min q kk * sz) ++ cs.drop (lo * sz + min q kk * sz)))) :=
  ⟨hd, fun A w ha hw => by
    unfold Rd at hr
    obtain ⟨⟨bx, cx, rfl, hbx, _⟩, hrd⟩ := hr w hw
    have hsz' : 0 < sz := by simpa [Nat.blt_eq] using hsz
    have hcl := vec_len hu.mem hw
    have e0 := run_underlying (und_slice h) w
    have hlen : (news.take (min q kk * sz)).length = min q kk * sz := by
      rw [List.length_take, hl]
      have : min q kk * sz ≤ q * sz := Nat.mul_le_mul_right _ (Nat.min_le_left _ _)
      omega
    have hfirst : (Builtin.firstCells sz (min q kk) (.slice bx q cx)).run P w = .ok (news.take (min q kk * sz)).toArray w := by
      cases bx with
      | none =>
        have : q = 0 := hbx rfl
        subst this
        have : news = [] := List.eq_nil_of_length_eq_zero (by simpa using hl)
        subst this
        simp [Builtin.firstCells]
      | some b =>
        have := run_loadCells_list (P := P) w b (news.take (min q kk * sz)) (fun j v hv => by
          rw [List.getElem?_take] at hv
          split at hv
          · exact reads_some hrd j v hv
          · cases hv)
        rw [hlen] at this
        simpa [Builtin.firstCells] using this
    by_cases hn0 : min q kk = 0
    · refine ⟨(), w, ?_, ?_⟩
      · simp only [hn0, Nat.zero_mul, List.take_zero] at hfirst
        cases pd <;> simp [execOp, resolve, invoke, builtin, ha.ev hx, ha.ev hy, Builtin.copy_, e0, Builtin.lenOf, Tb.run_size w h2, hn0, hfirst, storeCells, goInt] <;> simp_all
      · simp only [hn0, Nat.zero_mul, List.take_zero, List.append_nil, Nat.add_zero, List.take_append_drop]
        rw [hu.self]; exact hw
    · have hmul : lo * sz + min q kk * sz ≤ m * sz := by
        rw [← Nat.add_mul]; exact Nat.mul_le_mul_right _ (by omega)
      obtain ⟨b, cc, w', hb, hst, hw'⟩ := run_storeSeg (P := P) (vs := news.take (min q kk * sz)) (j := lo * sz) hu hw (by rw [hlen]; exact Nat.mul_pos (by omega) hsz') (h1.take _) (by rw [hlen, hcl]; exact hmul)
      cases hb
      have hpd := hp (by omega)
      rw [Option.map_some, add_blk, Nat.zero_add] at hpd
      subst hpd
      rw [hlen] at hw'
      refine ⟨(), w', ?_, hw'⟩
      simp [execOp, resolve, invoke, builtin, ha.ev hx, ha.ev hy, Builtin.copy_, e0, Builtin.lenOf, Tb.run_size w h2, hfirst, hst, goInt]⟩
theorem V_neStrF {A : List Int} {T1 T2 : Nat} (hx : ev ov x = some (.string (bstr A))) (hy : ev ov y = some (.string (bstr A))) (hA : Byt A) (hd : dOk d n = true) :
    OpV P n D w0 ov H ⟨d, .binOp .neq T1 x y T2, T, pos, af, g⟩ (.bool false) := by
  have : OpV P n D w0 ov H ⟨d, .binOp .neq T1 x y T2, T, pos, af, g⟩ (.bool (decide (A ≠ A))) := V_neStr hx hy hA hA hd
  simpa using this
end
end Sx

namespace Sx
open Go
/-- block b holds a map -/
@[irreducible] def mapA (b : Nat) (es : Array MapEntry) (clock : Nat) : Asn where
  holds w fp := fp = [b] ∧ w.heap[b]? = some (.map es clock)
  frame w w' fp h hk := ⟨h.1, by rw [hk b (by simp [h.1])]; exact h.2⟩
  live w fp h b' hb := by
    obtain ⟨rfl, hT⟩ := h
    simp at hb; subst hb
    exact (Array.getElem?_eq_some_iff.1 hT).1
theorem mapA_holds {b es clock w fp} : (mapA b es clock).holds w fp ↔ fp = [b] ∧ w.heap[b]? = some (.map es clock) := by unfold mapA; exact Iff.rfl
theorem St.newMap {w0 H w} (h : St w0 H w) : St w0 (mapA w.heap.size #[] 0 :: H) (w.alloc (.map #[] 0)) := by
  refine St.step («as» := []) (bs := [mapA w.heap.size #[] 0]) h rfl rfl rfl (by simp) ?_
  intro f1 hf _ _
  simp [All] at hf
  subst hf
  refine ⟨fun b hb _ => heap_alloc_old w _ hb, [w.heap.size], by simp, by simp, [w.heap.size], [], by simp, mapA_holds.2 ⟨rfl, heap_alloc_new w _⟩, rfl⟩
section
variable {P : Program} {f n : Nat} {R : Ending → World → Prop} {D : List Deferred} {w0 : World} {k : List Item} {ov : Ov} {H : List Asn}
  {ops : Array Oper} {l : List Oper} {d : Option Nat} {T : Nat} {pos : String} {af : Array Edge} {g : Option (Nat × Bool)}
theorem kMm {t : Nat} {r : Option Operand} (h : JO P f n R D w0 ops ⟨d, .makeMap t r, T, pos, af, g⟩ l k ov H) : JO P f n R D w0 ops ⟨d, .makeMap t r, T, pos, af, g⟩ l k ov H := h
theorem JO_makeMap {t : Nat} (hd : dOk d n = true) (hn : ∀ b, JR P f n R D w0 ops l k (put d (.map (some b)) ov) (mapA b #[] 0 :: H)) : JO P f n R D w0 ops ⟨d, .makeMap t none, T, pos, af, g⟩ l k ov H :=
  JO_step fun a w ha hw => ⟨.map (some w.heap.size), w.alloc (.map #[] 0), by simp [execOp, RowKit.run_makeMap], hd, _, hw.newMap, hn w.heap.size⟩
end
end Sx

set_option linter.unusedVariables false
set_option linter.unusedSimpArgs false
namespace Sx
open Go
/-! maps: entries in a list, in the order in which they came -/
def isKey (P : Program) (k : TypeId) (v : Value) : Prop := ∃ l, keyOf P k v = some l
/-- what the operations need of a key's type -/
structure KeyT (P : Program) (k : TypeId) : Prop where
  check : ∀ (w : World) (em : Bool) {v : Value}, isKey P k v → (Instr.checkKey em 10000 k v).run P w = .ok () w
  find : ∀ (w : World) {x : Value}, isKey P k x → ∀ es : List MapEntry, (∀ e ∈ es, isKey P k e.key) →
    ((Instr.findKey k x es).run P w = .ok none w ∧ ∀ e ∈ es, e.key ≠ x) ∨ ∃ j e, (Instr.findKey k x es).run P w = .ok (some (j, e.val)) w ∧ es[j]? = some e ∧ e.key = x
  stays : ∀ (w : World) {v : Value}, isKey P k v → (Instr.keyThatStays v v).run P w = .ok v w
theorem KeyT.of {P : Program} {k : TypeId} (K : Maps.Keyed P k) : KeyT P k :=
  ⟨fun w em _ ⟨_, h⟩ => K.check w em h, fun w _ ⟨_, h⟩ es hes => K.find w h es hes, fun w _ ⟨_, h⟩ => K.stays w h⟩
structure MOk (P : Program) (k : TypeId) (es : List MapEntry) (clock : Nat) : Prop where
  key : ∀ e ∈ es, isKey P k e.key
  nodup : (es.map (·.key)).Nodup
  lt : ∀ e ∈ es, e.born < clock
  born : (es.map (·.born)).Nodup
theorem MOk.nil {P : Program} {k : TypeId} {clock : Nat} : MOk P k [] clock := ⟨by simp, by simp, by simp, by simp⟩
theorem MOk.push {P : Program} {k : TypeId} {es : List MapEntry} {clock : Nat} (h : MOk P k es clock) {key v : Value} (hk : isKey P k key) (hn : ∀ e ∈ es, e.key ≠ key) : MOk P k (es ++ [⟨key, v, clock⟩]) (clock + 1) := by
  refine ⟨?_, ?_, ?_, ?_⟩
  · intro e he
    rcases List.mem_append.1 he with he | he
    · exact h.key e he
    · simp at he; subst he; exact hk
  · rw [List.map_append, List.map_cons, List.map_nil]
    refine List.nodup_append.2 ⟨h.nodup, by simp, fun a ha b hb e => ?_⟩
    simp only [List.mem_singleton] at hb
    obtain ⟨x, hx, rfl⟩ := List.mem_map.1 ha
    exact hn x hx (e.trans hb)
  · intro e he
    rcases List.mem_append.1 he with he | he
    · have := h.lt e he; omega
    · simp at he; subst he; simp
  · rw [List.map_append, List.map_cons, List.map_nil]
    refine List.nodup_append.2 ⟨h.born, by simp, fun a ha b hb e => ?_⟩
    simp only [List.mem_singleton] at hb
    obtain ⟨x, hx, rfl⟩ := List.mem_map.1 ha
    have := h.lt x hx
    omega
theorem MOk.setv {P : Program} {k : TypeId} {A B : List MapEntry} {e : MapEntry} {clock : Nat} (h : MOk P k (A ++ e :: B) clock) (v : Value) : MOk P k (A ++ { e with val := v } :: B) clock := by
  refine ⟨?_, ?_, ?_, ?_⟩
  · intro x hx
    rcases List.mem_append.1 hx with hx | hx
    · exact h.key x (List.mem_append_left _ hx)
    · rcases List.mem_cons.1 hx with rfl | hx
      · exact h.key e (by simp)
      · exact h.key x (by simp [hx])
  · have := h.nodup
    simpa using this
  · intro x hx
    rcases List.mem_append.1 hx with hx | hx
    · exact h.lt x (List.mem_append_left _ hx)
    · rcases List.mem_cons.1 hx with rfl | hx
      · exact h.lt e (by simp)
      · exact h.lt x (by simp [hx])
  · have := h.born
    simpa using this
theorem key_inj : ∀ {es : List MapEntry}, (es.map (·.key)).Nodup → ∀ {x y : MapEntry}, x ∈ es → y ∈ es → x.key = y.key → x = y
  | [], _, _, _, hx, _, _ => absurd hx (by simp)
  | e :: r, h, x, y, hx, hy, hk => by
    rw [List.map_cons, List.nodup_cons] at h
    rcases List.mem_cons.1 hx with hx | hx <;> rcases List.mem_cons.1 hy with hy | hy
    · rw [hx, hy]
    · rw [hx] at hk; exact absurd (List.mem_map.2 ⟨y, hy, hk.symm⟩) h.1
    · rw [hy] at hk; exact absurd (List.mem_map.2 ⟨x, hx, hk⟩) h.1
    · exact key_inj h.2 hx hy hk
/-- a block holds a map of these entries -/
abbrev mapL (b : Nat) (es : List MapEntry) (clock : Nat) : Asn := mapA b es.toArray clock
theorem St.map_get {w0 H w b es clock} (h : St w0 H w) (hm : mapL b es clock ∈ H) : w.heap[b]? = some (.map es.toArray clock) := by
  obtain ⟨f, hf⟩ := h.mem hm
  exact (mapA_holds.1 hf).2
theorem St.map_put {w0 H w b es clock} {F : Asn → List Asn} (es' : List MapEntry) (clock' : Nat) (h : St w0 H w) (hu : Sel H (mapL b es clock) F) : St w0 (F (mapL b es' clock')) { w with heap := w.heap.setIfInBounds b (.map es'.toArray clock') } := by
  refine h.upd (hu.upd _) rfl rfl rfl (by simp) ?_
  intro f1 hf
  obtain ⟨rfl, hb⟩ := mapA_holds.1 hf
  have hs := MapKept.heap_set (o' := .map es'.toArray clock') hb
  exact ⟨fun b' _ hb' => hs.2 b' (by simpa using hb'), [b], by simp, by simp, mapA_holds.2 ⟨rfl, hs.1⟩⟩
section
variable {P : Program} {n : Nat} {D : List Deferred} {w0 : World} {ov : Ov} {H : List Asn}
  {d : Option Nat} {T : Nat} {pos : String} {af : Array Edge} {g : Option (Nat × Bool)} {x y y2 : Operand} {tb : Tb P} {t k e : TypeId} {s1 b1 : Nat} {z1 : Option (List Value)} {b clock : Nat} {es : List MapEntry} {key v : Value}
theorem KeyT.found (K : KeyT P k) (w : World) (hM : MOk P k es clock) {e0 : MapEntry} (he : e0 ∈ es) : ∃ j, (Instr.findKey k e0.key es).run P w = .ok (some (j, e0.val)) w ∧ es[j]? = some e0 := by
  rcases K.find w (hM.key e0 he) es hM.key with ⟨_, h⟩ | ⟨j, e1, h1, h2, h3⟩
  · exact absurd rfl (h e0 he)
  · have : e1 = e0 := key_inj hM.nodup (List.mem_of_getElem? h2) he h3
    subst this
    exact ⟨j, h1, h2⟩
theorem KeyT.missed (K : KeyT P k) (w : World) (hM : MOk P k es clock) (hk : isKey P k key) (hn : ∀ e ∈ es, e.key ≠ key) : (Instr.findKey k key es).run P w = .ok none w := by
  rcases K.find w hk es hM.key with ⟨h, _⟩ | ⟨j, e1, h1, h2, h3⟩
  · exact h
  · exact absurd h3 (hn e1 (List.mem_of_getElem? h2))
theorem V_lookupT (K : KeyT P k) (h : tlook tb.l t = some ⟨.map k e, s1, b1, z1⟩) (hx : ev ov x = some (.map (some b))) (hy : ev ov y = some key) (hb : mapL b es clock ∈ H) (hM : MOk P k es clock) {e0 : MapEntry} (he : e0 ∈ es) (hk : e0.key = key) (hd : dOk d n = true) :
    OpV P n D w0 ov H ⟨d, .lookup t x y false, T, pos, af, g⟩ e0.val := by
  unfold OpV
  refine ⟨hd, fun a w ha hw => ?_⟩
  subst hk
  obtain ⟨j, h1, h2⟩ := K.found w hM he
  simp [execOp, ha.ev hx, ha.ev hy, Instr.lookup, run_underlying (und_map h), MapKept.run_getObj_map (hw.map_get hb), K.check w _ (hM.key e0 he), h1]
theorem V_lookupF (K : KeyT P k) (h : tlook tb.l t = some ⟨.map k e, s1, b1, z1⟩) (hx : ev ov x = some (.map (some b))) (hy : ev ov y = some key) (hb : mapL b es clock ∈ H) (hM : MOk P k es clock) (hkey : isKey P k key) (hn : ∀ e ∈ es, e.key ≠ key) (hz : ∀ w, (zeroValue e).run P w = .ok v w) (hd : dOk d n = true) :
    OpV P n D w0 ov H ⟨d, .lookup t x y false, T, pos, af, g⟩ v := by
  unfold OpV
  refine ⟨hd, fun a w ha hw => ?_⟩
  have h1 := K.missed w hM hkey hn
  simp [execOp, ha.ev hx, ha.ev hy, Instr.lookup, run_underlying (und_map h), MapKept.run_getObj_map (hw.map_get hb), K.check w _ hkey, h1, hz]
theorem setIf_same {w : World} {o : Obj} (hb : w.heap[b]? = some o) : { w with heap := w.heap.setIfInBounds b o } = w := by
  have hlt := (Array.getElem?_eq_some_iff.1 hb).1
  have : w.heap.setIfInBounds b o = w.heap := by
    apply Array.ext_getElem?
    intro i
    by_cases hi : b = i
    · subst hi
      rw [Array.getElem?_setIfInBounds_self_of_lt hlt, hb]
    · rw [Array.getElem?_setIfInBounds_ne hi]
  rw [this]
/-- an entry that is there: nothing changes -/
theorem E_entryT (K : KeyT P k) (h : tlook tb.l t = some ⟨.map k e, s1, b1, z1⟩) (hx : ev ov x = some (.map (some b))) (hy : ev ov y = some key) (hb : mapL b es clock ∈ H) (hM : MOk P k es clock) {e0 : MapEntry} (he : e0 ∈ es) (hk : e0.key = key) (hd : dOk d n = true) :
    OpE (ι := Unit) P n D w0 ov H ⟨d, .mapEntry t x y, T, pos, af, g⟩ (fun _ => .tuple #[e0.val, .int .i64 e0.born]) (fun _ => H) := by
  unfold OpE
  refine ⟨hd, fun a w ha hw => ?_⟩
  subst hk
  obtain ⟨j, h1, h2⟩ := K.found w hM he
  have hg := hw.map_get hb
  have hj : es.toArray[j]? = some e0 := by simpa using h2
  have hsame : es.modify j (fun e => { e with key := e0.key }) = es := by
    rw [ChangeMaps.modify_eq_set _ _ _ _ h2]
    exact WideElems.set_self _ _ _ h2
  refine ⟨(), w, ?_, hw⟩
  have hs := setIf_same hg
  simp [execOp, ha.ev hx, ha.ev hy, Instr.mapEntry, run_underlying (und_map h), MapKept.run_getObj_map hg, K.check w _ (hM.key e0 he), h1, hj, h2, K.stays w (hM.key e0 he), MapKept.run_setObj_map _ hg, goInt]
  rw [hsame] ; exact hs
/-- a new entry -/
theorem E_entryF {F : Asn → List Asn} (K : KeyT P k) (h : tlook tb.l t = some ⟨.map k e, s1, b1, z1⟩) (hx : ev ov x = some (.map (some b))) (hy : ev ov y = some key) (hu : Sel H (mapL b es clock) F) (hM : MOk P k es clock) (hkey : isKey P k key) (hn : ∀ e ∈ es, e.key ≠ key) (hz : ∀ w, (zeroValue e).run P w = .ok v w) (hd : dOk d n = true) :
    OpE (ι := Unit) P n D w0 ov H ⟨d, .mapEntry t x y, T, pos, af, g⟩ (fun _ => .tuple #[v, .int .i64 clock]) (fun _ => F (mapL b (es ++ [⟨key, v, clock⟩]) (clock + 1))) := by
  unfold OpE
  refine ⟨hd, fun a w ha hw => ?_⟩
  have h1 := K.missed w hM hkey hn
  have hg := hw.map_get hu.mem
  refine ⟨(), _, ?_, hw.map_put (es ++ [⟨key, v, clock⟩]) (clock + 1) hu⟩
  simp [execOp, ha.ev hx, ha.ev hy, Instr.mapEntry, run_underlying (und_map h), MapKept.run_getObj_map hg, K.check w _ hkey, h1, hz, MapKept.run_setObj_map _ hg, goInt]
/-- the value of an entry is set -/
theorem K_entryStore {F : Asn → List Asn} {A B : List MapEntry} {e0 : MapEntry} (hx : ev ov x = some (.map (some b))) (hy : ev ov y = some (.int .i64 e0.born)) (hv : ev ov y2 = some v) (hu : Sel H (mapL b (A ++ e0 :: B) clock) F) (hM : MOk P k (A ++ e0 :: B) clock) (hd : dOk d n = true) :
    OpK P n D w0 ov H ⟨d, .entryStore t x y y2, T, pos, af, g⟩ (F (mapL b (A ++ { e0 with val := v } :: B) clock)) := by
  unfold OpK
  refine ⟨hd, fun a w ha hw => ?_⟩
  have hg := hw.map_get hu.mem
  refine ⟨_, ?_, hw.map_put (A ++ { e0 with val := v } :: B) clock hu⟩
  have hj : (A ++ e0 :: B)[A.length]? = some e0 := by simp
  have hidx : (A ++ e0 :: B).toArray.findIdx? (fun e => ((e.born : Nat) : Int) == ((e0.born : Nat) : Int)) = some A.length := by
    rw [WideElems.findIdx_arr]
    exact WideElems.findIdx_born hM.born hj
  have hmod : (A ++ e0 :: B).toArray.modify A.length (fun e => { e with val := v }) = (A ++ { e0 with val := v } :: B).toArray := by
    apply Array.ext'
    rw [Array.toList_modify, ChangeMaps.modify_eq_set _ _ _ _ hj]
    simp
  simp [execOp, ha.ev hx, ha.ev hy, ha.ev hv, Instr.entryStore, MapKept.run_getObj_map hg, asInt, asIntOf, hidx, hmod, MapKept.run_setObj_map _ hg]
/-- a slice's cells as an array behind a pointer -/
theorem V_arrayAt {a : Option Addr} {m c q e : Nat} (hx : ev ov x = some (.slice a m c)) (h : tlook tb.l t = some ⟨.arr q e, s1, b1, z1⟩) (hq : q ≤ m) (hd : dOk d n = true) :
    OpV P n D w0 ov H ⟨d, .sliceToArrayPointer t x, T, pos, af, g⟩ (.pointer a) := by
  unfold OpV
  refine ⟨hd, fun A w ha hw => ?_⟩
  simp [execOp, ha.ev hx, Instr.arrayAt, run_underlying (und_arr h), Nat.not_lt.2 hq]
end
/-! many assertions as one -/
@[irreducible] def bigA (l : List Asn) : Asn where
  holds w fp := All l w fp ∧ fp.Nodup
  frame w w' fp h hk := ⟨h.1.frame hk, h.2⟩
  live w fp h := h.1.live
theorem bigA_holds {l w fp} : (bigA l).holds w fp ↔ All l w fp ∧ fp.Nodup := by unfold bigA; exact Iff.rfl
theorem St.unbig {w0 : World} {l H : List Asn} {w : World} (h : St w0 (bigA l :: H) w) : St w0 (l ++ H) w := by
  refine h.step («as» := [bigA l]) (bs := l) rfl rfl rfl (Nat.le_refl _) fun f1 hf hn _ => ?_
  obtain ⟨g1, g2, rfl, hg, hnil⟩ := hf
  simp [All] at hnil
  subst hnil
  rw [List.append_nil] at hn ⊢
  exact ⟨fun _ _ _ => rfl, g1, hn, fun _ hb => .inl hb, (bigA_holds.1 hg).1⟩
theorem St.big {w0 : World} {l H : List Asn} {w : World} (h : St w0 (l ++ H) w) : St w0 (bigA l :: H) w := by
  refine h.step («as» := l) (bs := [bigA l]) rfl rfl rfl (Nat.le_refl _) fun f1 hf hn _ => ?_
  exact ⟨fun _ _ _ => rfl, f1, hn, fun _ hb => .inl hb, f1, [], by simp, bigA_holds.2 ⟨hf, hn⟩, rfl⟩
/-- one of many is taken out, and put back -/
theorem St.big_out {w0 : World} {A B H : List Asn} {a : Asn} {w : World} (h : St w0 (bigA (A ++ a :: B) :: H) w) : St w0 (a :: bigA (A ++ B) :: H) w := by
  have h1 := h.unbig
  have h2 : St w0 ((A ++ B) ++ (a :: H)) w := h1.perm (by
    simp only [List.append_assoc, List.cons_append]
    exact List.Perm.append_left A (List.perm_middle.symm))
  exact h2.big.perm (List.Perm.swap _ _ _)
theorem St.big_in {w0 : World} {A B H : List Asn} {a : Asn} {w : World} (h : St w0 (a :: bigA (A ++ B) :: H) w) : St w0 (bigA (A ++ a :: B) :: H) w := by
  have h1 : St w0 (bigA (A ++ B) :: a :: H) w := h.perm (List.Perm.swap _ _ _)
  have h2 := h1.unbig
  refine St.big (h2.perm ?_)
  simp only [List.append_assoc, List.cons_append]
  exact List.Perm.append_left A (List.perm_middle)
theorem St.big_nil {w0 : World} {H : List Asn} {w : World} (h : St w0 H w) : St w0 (bigA [] :: H) w := St.big (l := []) h
end Sx
namespace Sx
open Go
section
variable {P : Program} {n : Nat} {D : List Deferred} {w0 : World} {ov : Ov} {H : List Asn}
  {d : Option Nat} {T : Nat} {pos : String} {af : Array Edge} {g : Option (Nat × Bool)} {x y : Operand} {tb : Tb P} {op : Op} {v : Value}
theorem OpE_ofV (h : OpV P n D w0 ov H ⟨d, op, T, pos, af, g⟩ v) : OpE (ι := Unit) P n D w0 ov H ⟨d, op, T, pos, af, g⟩ (fun _ => v) (fun _ => H) :=
  by
  unfold OpV at h
  unfold OpE
  exact ⟨h.1, fun a w ha hw => ⟨(), w, h.2 a w ha hw, hw⟩⟩
/-- an array that lies within a slice -/
theorem V_loadSub {t m c lo q sz sz1 by' : Nat} {ty : Ty} {z : Option (List Value)} {p : Option Addr} {cs vs : List Value} (hx : ev ov x = some (.pointer (subB p lo c sz1))) (hr : Rd w0 H (.slice p m c) m cs) (h : tlook tb.l t = some ⟨ty, sz, by', z⟩) (ha : aggT ty = true)
    (hq : lo + q ≤ m) (hsz : q * sz1 = sz) (hp : 0 < sz) (hl : vs.length = sz) (hv : (cs.drop (lo * sz1)).take sz = vs) (hd : dOk d n = true) : OpV P n D w0 ov H ⟨d, .load t x, T, pos, af, g⟩ (.agg vs.toArray) :=
  by
    unfold OpV
    refine ⟨hd, fun A w haa hw => ?_⟩
    have hs := Rd_sub (lo := lo) (hi := lo + q) (sz := sz1) hr (by omega) hq
    rw [Nat.add_sub_cancel_left, hsz, hv] at hs
    have hq0 : 0 < q := by
      rcases Nat.eq_zero_or_pos q with h | h
      · rw [h, Nat.zero_mul] at hsz; omega
      · exact h
    have hx' : ev ov x = some (cellPtr (.slice (subB p lo c sz1) q (c - lo)) 0) := by
      rw [hx]
      have hc := (hr.lcap hw).1
      cases p with
      | none => have := Rd.nil hr hw rfl; omega
      | some a =>
        rw [cellPtr_sub (by omega), subB, if_neg (by omega), Option.map_some, Nat.add_zero]
    have hv := V_loadCA (tb := tb) (T := T) (pos := pos) (af := af) (g := g) (n := n) (D := D) hx' hs h ha hl hp (by rw [List.drop_zero, ← hl, List.take_length]) hd
    unfold OpV at hv
    exact hv.2 A w haa hw
end
end Sx
namespace Sx
open Go
/-- a walk stops in front of a region -/
def Hold (p : Prop) : Prop := p
theorem Hold.go {p : Prop} (h : p) : Hold p := h
theorem hIx {P : Program} {f n : Nat} {R : Ending → World → Prop} {D : List Deferred} {w0 : World} {k : List Item} {ov : Ov} {H : List Asn} (i : Nat) {l : Array Oper} {b : Bool} {y : Code} (h : Hold (JS P f n R D w0 (.code (.seq (.region i l b) y) :: k) ov H)) : JS P f n R D w0 (.code (.seq (.region i l b) y) :: k) ov H := h
theorem hIx' {P : Program} {f n : Nat} {R : Ending → World → Prop} {D : List Deferred} {w0 : World} {k : List Item} {ov : Ov} {H : List Asn} (i : Nat) {l : Array Oper} {b : Bool} (h : Hold (JS P f n R D w0 (.code (.region i l b) :: k) ov H)) : JS P f n R D w0 (.code (.region i l b) :: k) ov H := h
attribute [irreducible] Hold
end Sx

namespace Go.Proofs.YtbiocgenbgbfpaaGreat
open Sx Go
set_option linter.unusedVariables false
set_option linter.unusedSimpArgs false
/-- bytes -/
def OKB (B : List Int) : Prop := ∀ j, 0 ≤ B.getD j 0 ∧ B.getD j 0 < 256
theorem Big_c {w0 : World} {H : List Asn} (b : Int) (hb : 0 ≤ b ∧ b < 256) (w : World) (hw : St w0 H w) :
    Calls Tryz.prog 53 #[.int .u8 b] w fun e w' => e = .returned (.bool (decide (15 < b))) ∧ St w0 H w' := by
  refine enter (vs := [.int .u8 b]) Tryz.func53 rfl rfl rfl hw ?_
  repeat (first | (refine sy ?_; try intro _))
  refine JS_ret Tryz.func53 rfl rfl ?_
  intro w hw
  exact ⟨rfl, hw⟩
set_option maxHeartbeats 1000000 in
theorem Index_c {w0 : World} {H : List Asn} (p : Option Addr) (c m : Nat) (B : List Int) (hr : Rd w0 H (.slice p m c) m (ints .u8 B)) (hm : B.length = m) (hB : OKB B) (hm1 : m ≤ 4611686018427387904) (w : World) (hw : St w0 H w) :
    Calls Tryz.prog 96 #[.slice p m c, .func (.func 53) #[] #[]] w fun e w' => ∃ r, e = .returned (.int .i64 r) ∧ St w0 H w' ∧ ((r = -1 ∧ ∀ j, B.getD j 0 ≤ 15) ∨ (0 ≤ r ∧ ∃ j, 15 < B.getD j 0)) := by
  refine enter (vs := [.slice p m c, .func (.func 53) #[] #[]]) Tryz.func96 rfl rfl rfl hw ?_
  repeat (first | (apply gJR; first | (refine sx ?_; try intro _)) | (apply gJO; first | (refine sx ?_; try intro _)) | apply JS_seq | apply JS_region)
  refine JS_block ?_
  refine JS_loop1 (fun (i : Nat) => [(0, .slice p m c), (1, .func (.func 53) #[] #[]), (7, .int .i64 m), (8, .int .i64 i)]) (fun _ => H) (fun i => i ≤ m ∧ ∀ j, j < i → B.getD j 0 ≤ 15) (fun i => m - i) 0 ⟨by omega, fun j h => by omega⟩ (by repeat (first | exact trivial | refine ⟨rfl, ?_⟩ | refine ⟨lookI rfl (by omega), ?_⟩)) (fun _ h => h) ?_
  intro i ⟨hi, hall⟩ again
  by_cases him : i < m
  · have hb := hB i
    repeat (first | (refine sx ?_; try intro _))
    refine JO_callv (us := []) (cs := []) rfl Tryz.call53 rfl rfl fun w hw => (Big_c (B.getD i 0) hb w hw).mono ?_
    rintro e w' ⟨rfl, hw'⟩
    refine ⟨_, rfl, _, hw', ?_⟩
    clear hw' hw w w'
    by_cases h15 : 15 < B.getD i 0
    · rw [decide_eq_true h15]
      repeat (first | (refine sx ?_; try intro _))
      refine JS_ret Tryz.func96 rfl rfl ?_
      intro w hw
      exact ⟨_, rfl, hw, .inr ⟨by omega, i, h15⟩⟩
    · rw [decide_eq_false h15]
      repeat (first | (refine sx ?_; try intro _))
      exact JS_again1 again (i + 1) ⟨by omega, fun j hj => by
        rcases Nat.lt_or_ge j i with h | h
        · exact hall j h
        · obtain rfl : j = i := by omega
          omega⟩ (by omega) (by repeat (first | exact trivial | refine ⟨rfl, ?_⟩ | refine ⟨lookI rfl (by omega), ?_⟩)) (fun _ h => h)
  · repeat (first | (refine sx ?_; try intro _))
    refine JS_ret Tryz.func96 rfl rfl ?_
    intro w hw
    refine ⟨_, rfl, hw, .inl ⟨rfl, fun j => ?_⟩⟩
    rcases Nat.lt_or_ge j i with h | h
    · exact hall j h
    · rw [List.getD_eq_getElem?_getD, List.getElem?_eq_none (by omega)]; decide
set_option maxHeartbeats 1000000 in
theorem Contains_c {w0 : World} {H : List Asn} (p : Option Addr) (c m : Nat) (B : List Int) (hr : Rd w0 H (.slice p m c) m (ints .u8 B)) (hm : B.length = m) (hB : OKB B) (hm1 : m ≤ 4611686018427387904) (w : World) (hw : St w0 H w) :
    Calls Tryz.prog 52 #[.slice p m c, .func (.func 53) #[] #[]] w fun e w' => ∃ o, e = .returned (.bool o) ∧ St w0 H w' ∧ ((o = false ∧ ∀ j, B.getD j 0 ≤ 15) ∨ (o = true ∧ ∃ j, 15 < B.getD j 0)) := by
  refine enter (vs := [.slice p m c, .func (.func 53) #[] #[]]) Tryz.func52 rfl rfl rfl hw ?_
  repeat (first | (refine sx ?_; try intro _))
  refine JO_call Tryz.call96 rfl rfl fun w hw => (Index_c p c m B hr hm hB hm1 w hw).mono ?_
  rintro e w' ⟨r, rfl, hw', h⟩
  refine ⟨_, rfl, _, hw', ?_⟩
  clear hw' hw w w'
  rcases h with ⟨rfl, h⟩ | ⟨h0, h⟩
  · repeat (first | (refine sx ?_; try intro _))
    refine JS_ret Tryz.func52 rfl rfl ?_
    intro w hw
    exact ⟨_, rfl, hw, .inl ⟨rfl, h⟩⟩
  · repeat (first | (refine sx ?_; try intro _))
    refine JS_ret Tryz.func52 rfl rfl ?_
    intro w hw
    exact ⟨_, rfl, hw, .inr ⟨rfl, h⟩⟩
end Go.Proofs.YtbiocgenbgbfpaaGreat

set_option linter.unusedVariables false
set_option linter.unusedSimpArgs false
namespace Go.Proofs.YtbiocgenbgbfpaaGreat
open Sx Go
/-! ## the sum Adler-32 -/
def adS (B : List Int) : Nat → Int × Int
  | 0 => (1, 0)
  | i + 1 => (((adS B i).1 + B.getD i 0) % 65521, ((adS B i).2 + ((adS B i).1 + B.getD i 0) % 65521) % 65521)
def adl (B : List Int) : Int := 65536 * (adS B B.length).2 + (adS B B.length).1
theorem adS_bd (B : List Int) (hB : OKB B) : ∀ i, 0 ≤ (adS B i).1 ∧ (adS B i).1 < 65521 ∧ 0 ≤ (adS B i).2 ∧ (adS B i).2 < 65521
  | 0 => by simp [adS]
  | i + 1 => by
    have h := adS_bd B hB i
    have hb := hB i
    simp only [adS]
    omega
theorem adl_bd {B : List Int} (hB : OKB B) : 0 ≤ adl B ∧ adl B < 4294967296 := by
  have h := adS_bd B hB B.length
  unfold adl; omega
theorem or16_u64 {a b : Int} (ha : 0 ≤ a ∧ a < 65536) (hb : 0 ≤ b ∧ b < 65536) : IntKind.u64.wrap ((BitVec.ofInt IntKind.u64.bits (b * 65536) ||| BitVec.ofInt IntKind.u64.bits a).toNat) = 65536 * b + a := by
  have hbits : (2 : Int) ^ IntKind.u64.bits = 18446744073709551616 := by decide
  rw [or_nat .u64 ⟨by omega, by rw [hbits]; omega⟩ ⟨by omega, by rw [hbits]; omega⟩]
  have h := Nat.two_pow_add_eq_or_of_lt (i := 16) (b := a.toNat) (by omega) b.toNat
  have e : (b * 65536).toNat = 2 ^ 16 * b.toNat := by omega
  rw [e, ← h]
  exact (wu64 (by omega)).trans (by omega)
section
variable {w0 : World} {H : List Asn}
set_option maxRecDepth 10000 in
theorem AOf_c (w : World) (hw : St w0 H w) : Calls Tryz.prog 110 #[.int .u32 1] w fun e w' => e = .returned (.agg #[.int .u64 1, .int .u64 0]) ∧ St w0 H w' := by
  refine enter (vs := [.int .u32 1]) Tryz.func110 rfl rfl rfl hw ?_
  clear hw w
  repeat (first | (apply gJO; refine JO_v (V_and rfl rfl (c := 1) (by decide) rfl) ?_) | (first | (refine sx ?_; try intro _)))
  refine JS_retC (tb := tb) (vs := [.agg #[.int .u64 1, .int .u64 0]]) Tryz.func110 rfl (by first | exact ResV.agg (tb := tb) rfl (by repeat (first | apply List.Mem.head | apply List.Mem.tail)) rfl rfl rfl ResV.nil | exact ResV.agg (tb := tb) rfl (by repeat (first | apply List.Mem.head | apply List.Mem.tail)) rfl rfl rfl (ResV.tmp rfl ResV.nil) | exact ResV.agg (tb := tb) rfl (by repeat (first | apply List.Mem.head | apply List.Mem.tail)) rfl rfl rfl (ResV.tmp rfl (ResV.tmp rfl ResV.nil)) | exact ResV.one (tb := tb) rfl (by repeat (first | apply List.Mem.head | apply List.Mem.tail)) rfl rfl rfl ResV.nil | exact ResV.one (tb := tb) rfl (by repeat (first | apply List.Mem.head | apply List.Mem.tail)) rfl rfl rfl (ResV.tmp rfl ResV.nil) | exact ResV.one (tb := tb) rfl (by repeat (first | apply List.Mem.head | apply List.Mem.tail)) rfl rfl rfl (ResV.one (tb := tb) rfl (by repeat (first | apply List.Mem.head | apply List.Mem.tail)) rfl rfl rfl ResV.nil) | exact ResV.tmp rfl (ResV.agg (tb := tb) rfl (by repeat (first | apply List.Mem.head | apply List.Mem.tail)) rfl rfl rfl ResV.nil) | exact ResV.tmp rfl (ResV.one (tb := tb) rfl (by repeat (first | apply List.Mem.head | apply List.Mem.tail)) rfl rfl rfl ResV.nil)) ?_
  intro w hw
  exact ⟨rfl, hw.drop⟩
set_option maxRecDepth 10000 in
theorem AAdd_c (b : Nat) (p q x : Int) (hp : 0 ≤ p ∧ p < 65521) (hq : 0 ≤ q ∧ q < 65521) (hx : 0 ≤ x ∧ x < 256) (w : World) (hw : St w0 (blk b [.int .u64 p, .int .u64 q] :: H) w) :
    Calls Tryz.prog 111 #[.pointer (some ⟨b, 0, none⟩), .int .u8 x] w fun e w' => e = .returned (.tuple #[]) ∧ St w0 (blk b [.int .u64 ((p + x) % 65521), .int .u64 ((q + (p + x) % 65521) % 65521)] :: H) w' := by
  refine enter (vs := [.pointer (some ⟨b, 0, none⟩), .int .u8 x]) Tryz.func111 rfl rfl rfl hw ?_
  clear hw w
  repeat (first | (refine sx ?_; try intro _))
  refine JS_fin Tryz.func111 rfl rfl (vs := []) fun w hw => ⟨rfl, hw⟩
set_option maxRecDepth 10000 in
theorem ASumP_c (p q : Int) (hp : 0 ≤ p ∧ p < 65521) (hq : 0 ≤ q ∧ q < 65521) (w : World) (hw : St w0 H w) :
    Calls Tryz.prog 112 #[.agg #[.int .u64 p, .int .u64 q]] w fun e w' => e = .returned (.int .u32 (65536 * q + p)) ∧ St w0 H w' := by
  refine enter (vs := [.agg #[.int .u64 p, .int .u64 q]]) Tryz.func112 rfl rfl rfl hw ?_
  clear hw w
  have hsh : IntKind.u64.wrap (q * 2 ^ 16) = q * 65536 := wu64 (by omega)
  repeat (first | (apply gJO; refine JO_v (V_shl (m := 16) rfl rfl (by decide) rfl hsh rfl) ?_) | (apply gJO; refine JO_v (V_or rfl rfl (or16_u64 ⟨hp.1, by omega⟩ ⟨hq.1, by omega⟩) rfl) ?_) | (first | (refine sx ?_; try intro _)))
  refine JS_ret Tryz.func112 rfl rfl fun w hw => ⟨rfl, hw.drop⟩
set_option maxRecDepth 10000 in
set_option maxHeartbeats 2000000 in
theorem AMore_c (p : Option Addr) (c m : Nat) (B : List Int) (hr : Rd w0 H (.slice p m c) m (ints .u8 B)) (hm : B.length = m) (hB : OKB B) (hmx : m ≤ 140737488355328) (w : World) (hw : St w0 H w) :
    Calls Tryz.prog 84 #[.int .u32 1, .slice p m c] w fun e w' => e = .returned (.int .u32 (adl B)) ∧ St w0 H w' := by
  refine enter (vs := [.int .u32 1, .slice p m c]) Tryz.func84 rfl rfl rfl hw ?_
  clear hw w
  repeat (first | (refine sx ?_; try intro _))
  refine JO_call Tryz.call110 rfl rfl fun w hw => (AOf_c w hw).mono ?_
  rintro e w' ⟨rfl, hw'⟩
  refine ⟨_, rfl, _, hw', ?_⟩
  clear hw' hw w w'
  repeat (first | (refine sx ?_; try intro _))
  rename_i b
  refine JS_loop1 (fun (i : Nat) => [(1, .slice p m c), (5, .pointer (some ⟨b, 0, none⟩)), (6, .func (.func 111) #[.pointer (some ⟨b, 0, none⟩)] #[]), (12, .slice p m c), (13, .int .i64 m), (14, .int .i64 i)]) (fun i => blk b [.int .u64 (adS B i).1, .int .u64 (adS B i).2] :: H) (fun i => i ≤ m) (fun i => m - i) 0 (Nat.zero_le _) (by repeat (first | exact trivial | refine ⟨rfl, ?_⟩ | refine ⟨lookI rfl (by omega), ?_⟩)) (fun w h => h) ?_
  intro i hi again
  have hbd := adS_bd B hB i
  by_cases him : i < m
  · have gB : (ints .u8 B)[i]? = some (.int .u8 (B.getD i 0)) := ints_get (by omega)
    have hb := hB i
    have hs : adS B (i + 1) = (((adS B i).1 + B.getD i 0) % 65521, ((adS B i).2 + ((adS B i).1 + B.getD i 0) % 65521) % 65521) := rfl
    repeat (first | (apply gJO; refine JO_v (oL (V_loadC (tb := tb) rfl (Rd_weak hr fun w hw => St.sub (by repeat (first | exact List.Sublist.refl _ | apply List.Sublist.cons_cons | apply List.Sublist.cons)) hw) rfl rfl gB rfl)) ?_) | (first | (refine sx ?_; try intro _)))
    refine JO_callv (us := [.pointer (some ⟨b, 0, none⟩)]) (cs := []) rfl Tryz.call111 rfl rfl fun w hw => (AAdd_c b (adS B i).1 (adS B i).2 (B.getD i 0) ⟨hbd.1, hbd.2.1⟩ ⟨hbd.2.2.1, hbd.2.2.2⟩ hb w hw).mono ?_
    rintro e w' ⟨rfl, hw'⟩
    refine ⟨_, rfl, _, hw', ?_⟩
    clear hw' hw w w'
    repeat (first | (refine sx ?_; try intro _))
    exact JS_again1 again (i + 1) (by omega) (by omega) (by repeat (first | exact trivial | refine ⟨rfl, ?_⟩ | refine ⟨lookI rfl (by omega), ?_⟩)) (fun w hw => by rw [hs]; exact hw)
  · obtain rfl : i = m := by omega
    clear again
    repeat (first | (refine sx ?_; try intro _))
    refine JO_call Tryz.call112 rfl rfl fun w hw => (ASumP_c (adS B i).1 (adS B i).2 ⟨hbd.1, hbd.2.1⟩ ⟨hbd.2.2.1, hbd.2.2.2⟩ w hw).mono ?_
    rintro e w' ⟨rfl, hw'⟩
    refine ⟨_, rfl, _, hw', ?_⟩
    clear hw' hw w w'
    repeat (first | (refine sx ?_; try intro _))
    refine JS_ret Tryz.func84 rfl rfl fun w hw => ⟨by unfold adl; rw [hm]; rfl, hw.drop⟩
theorem ASum_c (p : Option Addr) (c m : Nat) (B : List Int) (hr : Rd w0 H (.slice p m c) m (ints .u8 B)) (hm : B.length = m) (hB : OKB B) (hmx : m ≤ 140737488355328) (w : World) (hw : St w0 H w) :
    Calls Tryz.prog 40 #[.slice p m c] w fun e w' => e = .returned (.int .u32 (adl B)) ∧ St w0 H w' := by
  refine enter (vs := [.slice p m c]) Tryz.func40 rfl rfl rfl hw ?_
  clear hw w
  repeat (first | (refine sx ?_; try intro _))
  refine JO_call Tryz.call84 rfl rfl fun w hw => (AMore_c p c m B hr hm hB hmx w hw).mono ?_
  rintro e w' ⟨rfl, hw'⟩
  refine ⟨_, rfl, _, hw', ?_⟩
  clear hw' hw w w'
  repeat (first | (refine sx ?_; try intro _))
  refine JS_ret Tryz.func40 rfl rfl fun w hw => ⟨rfl, hw⟩
set_option maxRecDepth 10000 in
set_option maxHeartbeats 2000000 in
theorem RMore3_c (p : Option Addr) (c m : Nat) (B : List Int) (hr : Rd w0 H (.slice p m c) m (ints .u8 B)) (hm : B.length = m) (hB : OKB B) (hmx : m ≤ 140737488355328) (w : World) (hw : St w0 H w) :
    Calls Tryz.prog 44 #[.int .u32 1, .slice p m c] w fun e w' => e = .returned (.int .u32 (adl B)) ∧ St w0 H w' := by
  refine enter (vs := [.int .u32 1, .slice p m c]) Tryz.func44 rfl rfl rfl hw ?_
  clear hw w
  repeat (first | (refine sx ?_; try intro _))
  refine JS_loop1 (fun (i : Nat) => [(1, .slice p m c), (5, .int .u32 (adS B i).1), (6, .int .u32 (adS B i).2), (7, .int .i64 i)]) (fun i => H) (fun i => i ≤ m) (fun i => m - i) 0 (Nat.zero_le _) (by repeat (first | exact trivial | refine ⟨rfl, ?_⟩ | refine ⟨lookI rfl (by omega), ?_⟩)) (fun w h => h) ?_
  intro i hi again
  have hbd := adS_bd B hB i
  by_cases him : i < m
  · have gB : (ints .u8 B)[i]? = some (.int .u8 (B.getD i 0)) := ints_get (by omega)
    have hb := hB i
    have hs : adS B (i + 1) = (((adS B i).1 + B.getD i 0) % 65521, ((adS B i).2 + ((adS B i).1 + B.getD i 0) % 65521) % 65521) := rfl
    have hs2 : (((adS B i).1 + B.getD i 0) % 65521 + (adS B i).2) % 65521 = (adS B (i + 1)).2 := by rw [hs, Int.add_comm]
    repeat (first | (apply gJO; refine JO_v (oL (V_loadC (tb := tb) rfl (Rd_weak hr fun w hw => St.sub (by repeat (first | exact List.Sublist.refl _ | apply List.Sublist.cons_cons | apply List.Sublist.cons)) hw) rfl rfl gB rfl)) ?_) | (first | (refine sx ?_; try intro _)))
    rw [hs2, show ((adS B i).1 + B.getD i 0) % 65521 = (adS B (i + 1)).1 by rw [hs]]
    exact JS_again1 again (i + 1) (by omega) (by omega) (by repeat (first | exact trivial | refine ⟨rfl, ?_⟩ | refine ⟨lookI rfl (by omega), ?_⟩)) (fun w hw => hw)
  · obtain rfl : i = m := by omega
    clear again
    have hfin : 65536 * (adS B i).2 + (adS B i).1 = adl B := by unfold adl; rw [hm]
    repeat (first | (refine sx ?_; try intro _))
    refine JS_ret Tryz.func44 rfl rfl fun w hw => ⟨by rw [← hfin]; rfl, hw⟩
theorem RSum3_c (p : Option Addr) (c m : Nat) (B : List Int) (hr : Rd w0 H (.slice p m c) m (ints .u8 B)) (hm : B.length = m) (hB : OKB B) (hmx : m ≤ 140737488355328) (w : World) (hw : St w0 H w) :
    Calls Tryz.prog 12 #[.slice p m c] w fun e w' => e = .returned (.int .u32 (adl B)) ∧ St w0 H w' := by
  refine enter (vs := [.slice p m c]) Tryz.func12 rfl rfl rfl hw ?_
  clear hw w
  repeat (first | (refine sx ?_; try intro _))
  refine JO_call Tryz.call44 rfl rfl fun w hw => (RMore3_c p c m B hr hm hB hmx w hw).mono ?_
  rintro e w' ⟨rfl, hw'⟩
  refine ⟨_, rfl, _, hw', ?_⟩
  clear hw' hw w w'
  repeat (first | (refine sx ?_; try intro _))
  refine JS_ret Tryz.func12 rfl rfl fun w hw => ⟨rfl, hw⟩
end
end Go.Proofs.YtbiocgenbgbfpaaGreat

set_option linter.unusedVariables false
set_option linter.unusedSimpArgs false
namespace Sx
open Go
/-! a slice's cells that a string shares: they are read, never written -/
def RoIn (e size : Nat) (v : Value) (n : Nat) (cs : List Value) (w : World) (fp : List Nat) : Prop :=
  cs.length = n * size ∧ ∃ g cap cur fr, v = .slice (some ⟨g, 0, none⟩) n cap ∧ fp = [g] ∧ w.heap[g]? = some (.cells cur e fr) ∧ n ≤ cap ∧ cur.size = cap * size ∧ cur.toList.take (n * size) = cs
@[irreducible] def roV (e size : Nat) (v : Value) (n : Nat) (cs : List Value) : Asn where
  holds := RoIn e size v n cs
  frame w w' fp h hk := by
    obtain ⟨h1, g, cap, cur, fr, h3, rfl, h4, h5⟩ := h
    exact ⟨h1, g, cap, cur, fr, h3, rfl, by rw [hk g (by simp)]; exact h4, h5⟩
  live w fp h b hb := by
    obtain ⟨h1, g, cap, cur, fr, h3, rfl, h4, h5⟩ := h
    simp at hb; subst hb; exact (Array.getElem?_eq_some_iff.1 h4).1
end Sx

set_option linter.unusedVariables false
namespace Sx
open Go
/-! a slice, and what it became by an append: both still stand -/
@[irreducible] def vecB (e size : Nat) (v : Value) (n : Nat) (cs : List Value) (v' : Value) (n' : Nat) (cs' : List Value) : Asn where
  holds w fp := ∃ f1 f2, VecIn e size v n cs w f1 ∧ VecIn e size v' n' cs' w f2 ∧ (∀ b, b ∈ fp ↔ b ∈ f1 ∨ b ∈ f2)
  frame w w' fp h hk := by
    obtain ⟨f1, f2, h1, h2, h3⟩ := h
    have e1 := (vec_holds (e := e) (size := size) (v := v) (n := n) (cs := cs) (w := w') (fp := f1)).1 ((vec e size v n cs).frame w w' f1 (vec_holds.2 h1) fun b hb => hk b ((h3 b).2 (.inl hb)))
    have e2 := (vec_holds (e := e) (size := size) (v := v') (n := n') (cs := cs') (w := w') (fp := f2)).1 ((vec e size v' n' cs').frame w w' f2 (vec_holds.2 h2) fun b hb => hk b ((h3 b).2 (.inr hb)))
    exact ⟨f1, f2, e1, e2, h3⟩
  live w fp h b hb := by
    obtain ⟨f1, f2, h1, h2, h3⟩ := h
    rcases (h3 b).1 hb with h | h
    · exact (vec e size v n cs).live w f1 (vec_holds.2 h1) b h
    · exact (vec e size v' n' cs').live w f2 (vec_holds.2 h2) b h
theorem vecB_holds {e size v n cs v' n' cs' w fp} : (vecB e size v n cs v' n' cs').holds w fp ↔ ∃ f1 f2, VecIn e size v n cs w f1 ∧ VecIn e size v' n' cs' w f2 ∧ (∀ b, b ∈ fp ↔ b ∈ f1 ∨ b ∈ f2) := by
  unfold vecB; exact Iff.rfl
theorem VecIn.nodup {e size v n cs w fp} (h : VecIn e size v n cs w fp) : fp.Nodup := by
  rcases h.2 with ⟨_, _, _, rfl⟩ | ⟨_, _, _, _, rfl, _⟩ <;> simp
section
variable {P : Program} {n : Nat} {D : List Deferred} {w0 : World} {ov : Ov} {H : List Asn} {d : Option Nat} {T : Nat} {pos : String} {af : Array Edge} {g : Option (Nat × Bool)} {x y : Operand} {tb : Tb P} {w : World}
theorem Sel.back {H : List Asn} {a : Asn} {F : Asn → List Asn} (h : Sel H a F) (a' : Asn) : Upd (F a') a' a H := by
  induction h with
  | here a r => exact Upd.here _ _ _
  | there y a r F _ ih => exact Upd.there _ _ _ _ _ ih
theorem vecB_back {e size v m cs v' m' cs'} {F : Asn → List Asn} (hs : Sel H (vec e size v m cs) F) (h : St w0 (F (vecB e size v m cs v' m' cs')) w) : St w0 H w :=
  h.upd (hs.back _) rfl rfl rfl (Nat.le_refl _) fun f1 h1 => by
    obtain ⟨g1, g2, ha, hb, hc⟩ := vecB_holds.1 h1
    exact ⟨fun _ _ _ => rfl, g1, ha.nodup, fun b hb' => .inl ((hc b).2 (.inl hb')), vec_holds.2 ha⟩
theorem vecB_fwd {e size v m cs v' m' cs'} {F : Asn → List Asn} (hs : Sel H (vecB e size v m cs v' m' cs') F) (h : St w0 H w) : St w0 (F (vec e size v' m' cs')) w :=
  h.upd (hs.upd _) rfl rfl rfl (Nat.le_refl _) fun f1 h1 => by
    obtain ⟨g1, g2, ha, hb, hc⟩ := vecB_holds.1 h1
    exact ⟨fun _ _ _ => rfl, g2, hb.nodup, fun b hb' => .inl ((hc b).2 (.inr hb')), vec_holds.2 hb⟩
theorem run_appendB {t ty e size bytes : Nat} {i : TypeInfo} {z : Value} {u ux : Value} {m q : Nat} {cs news : List Value} {F : Asn → List Asn} (hw : St w0 H w)
    (ht : P.underlying t = some (.slice e)) (hi : P.info? e = some i) (hz : i.zero = some z) (hsize : i.size = size) (hby : i.bytes = bytes) (hzs : z.cells.size = size) (hsz : 0 < size)
    (hu : Sel H (vec e size u m cs) F) (hr : Rd w0 H ux q news) (hl : news.length = q * size) (h1 : All1 news) (hq0 : 0 < q) (hb : (m + q) * bytes ≤ 140737488355328) (hq : m + q ≤ 140737488355328) :
    ∃ p c w', (Builtin.append_ #[t, t] ty #[u, ux]).run P w = .ok (.slice p (m + q) c) w' ∧ St w0 (F (vecB e size u m cs (.slice p (m + q) c) (m + q) (cs ++ news))) w' := by
  obtain ⟨fp, hfp⟩ := hw.mem hu.mem
  rw [vec_holds] at hfp
  unfold Rd at hr
  obtain ⟨⟨bx, cx, rfl, hbx, _⟩, hrd⟩ := hr w hw
  subst hsize; subst hby
  have h63 : ((m + q : Nat) : Int) ≤ 9223372036854775807 := by omega
  cases bx with
  | none => exact absurd (hbx rfl) (by omega)
  | some a =>
    have hnews := reads_some hrd
    have hgrow : ∀ (old cap2 : Nat), cap2 = grownCap w (m + q) old e → (cs.length = m * i.size) →
        ∀ f1, (vec e i.size u m cs).holds w f1 → (∀ b, b < w.heap.size → b ∉ f1 → (w.drew.alloc (.cells (cs.toArray ++ news.toArray ++ Builtin.zeroCells z.cells (cap2 - (m + q))) e)).heap[b]? = w.heap[b]?) ∧
        ∃ f1' : List Nat, f1'.Nodup ∧ (∀ b ∈ f1', b ∈ f1 ∨ w.heap.size ≤ b) ∧ (vecB e i.size u m cs (.slice (some ⟨w.heap.size, 0, none⟩) (m + q) cap2) (m + q) (cs ++ news)).holds (w.drew.alloc (.cells (cs.toArray ++ news.toArray ++ Builtin.zeroCells z.cells (cap2 - (m + q))) e)) f1' := by
      intro old cap2 hcap hcl f1 hf1
      have hge := grownCap_ge w (m + q) old e
      have hle := grownCap_le_maxLen w (m + q) old e (by unfold maxLen; omega)
      have hlive := (vec e i.size u m cs).live w f1 hf1
      have hkeep : ∀ b, b < w.heap.size → (w.drew.alloc (.cells (cs.toArray ++ news.toArray ++ Builtin.zeroCells z.cells (cap2 - (m + q))) e)).heap[b]? = w.heap[b]? := fun b hb => heap_alloc_old w.drew _ hb
      have hold := (vec e i.size u m cs).frame w _ f1 hf1 fun b hb => hkeep b (hlive b hb)
      refine ⟨fun b hb _ => hkeep b hb, f1 ++ [w.heap.size], ?_, ?_, ?_⟩
      · refine List.nodup_append.2 ⟨(vec_holds.1 hf1).nodup, by simp, ?_⟩
        intro b hb c hc
        have := hlive b hb
        simp only [List.mem_singleton] at hc
        omega
      · intro b hb
        rcases List.mem_append.1 hb with h | h
        · exact .inl h
        · right; simp at h; omega
      · rw [vecB_holds]
        have hlen : (cs ++ news).length = (m + q) * i.size := by rw [List.length_append, hcl, hl, Nat.add_mul]
        refine ⟨f1, [w.heap.size], vec_holds.1 hold, ⟨hlen, .inr ⟨w.heap.size, cap2, _, rfl, rfl, heap_alloc_new w.drew _, by omega, by omega, ?_, ?_⟩⟩, by simp⟩
        · simp only [Array.size_append, List.size_toArray, size_zeroCells, hzs, hcl, hl, ← Nat.add_mul]
          congr 1; omega
        · simp only [Array.toList_append, List.append_assoc]
          rw [← List.append_assoc, ← hlen]
          exact List.take_left
    rcases hfp.2 with ⟨base, rfl, rfl, rfl⟩ | ⟨gb, cap, cur, rfl, _, hg, hn, hcm, hsz2, htk⟩
    · have hcs : cs = [] := List.eq_nil_of_length_eq_zero (by have := hfp.1; simpa using this)
      subst hcs
      cases base with
      | none =>
        have hrr := run_append_nil (P := P) w t ty e i z ht hi hz a q cx news hl hnews (by omega) (by omega) (by simp only [Nat.zero_add] at hb; omega)
        have hg := hgrow 0 _ rfl (by simp)
        simp only [Nat.zero_add, Array.empty_append] at hg ⊢
        exact ⟨_, _, _, hrr, hw.upd (hu.upd _) rfl rfl rfl (by simp) hg⟩
      | some b0 =>
        have hrr := run_append_grow (P := P) w t ty e i z ht hi hz b0 0 0 [] (by simp) (by simp) a q cx news hl hnews (by omega) (by omega) (growslice_fits (by omega) hb)
        exact ⟨_, _, _, hrr, hw.upd (hu.upd _) rfl rfl rfl (by simp) (hgrow 0 _ rfl (by simp))⟩
    · by_cases hroom : m + q ≤ cap
      · have hcl := hfp.1
        have hfit : m * i.size + news.length ≤ cur.size := by rw [hl, hsz2, ← Nat.add_mul]; exact Nat.mul_le_mul_right _ hroom
        have hrr := run_append_room (P := P) w t ty e i ht hi gb m cap cur hg a q cx news hl hnews h1.mem hroom hfit
        refine ⟨_, _, _, hrr, hw.upd (hu.upd _) rfl rfl rfl (by simp [World.setRow]) fun f1 h => ?_⟩
        have hf1 : f1 = [gb] ∨ (f1 = [] ∧ m = 0 ∧ cap = 0) := by
          rw [vec_holds] at h
          rcases h.2 with ⟨base, hb', h0, hf⟩ | ⟨g', cap', cur', hv', hf, _⟩
          · simp at hb'; exact .inr ⟨hf, h0, hb'.2.2⟩
          · simp at hv'; left; rw [hf, hv'.1]
        have hf1' : f1 = [gb] := by
          rcases hf1 with h | h
          · exact h
          · omega
        subst hf1'
        refine ⟨fun c hc hne => setRow_other w gb c _ (by simpa using hne), [gb], by simp, fun c hc => .inl hc, ?_⟩
        rw [vecB_holds]
        have hlen : (cs ++ news).length = (m + q) * i.size := by rw [List.length_append, hcl, hl, Nat.add_mul]
        have hsz3 : (cur.toList.take (m * i.size) ++ news ++ cur.toList.drop (m * i.size + news.length)).length = cap * i.size := by
          simp only [List.length_append, List.length_take, List.length_drop, Array.length_toList]
          omega
        refine ⟨[gb], [gb], ⟨hcl, .inr ⟨gb, cap, _, rfl, rfl, setRow_heap w gb cur _ e _ hg, hn, hcm, by simpa using hsz3, ?_⟩⟩, ⟨hlen, .inr ⟨gb, cap, _, rfl, rfl, setRow_heap w gb cur _ e _ hg, hroom, hcm, by simpa using hsz3, ?_⟩⟩, by simp⟩
        · simp only []
          rw [htk, ← hcl, List.append_assoc]
          exact List.take_left
        · simp only []
          rw [htk, ← hlen]
          exact List.take_left
      · have hcl := hfp.1
        have holds : ∀ j u', cs[j]? = some u' → w.cell? ((⟨gb, 0, none⟩ : Addr).add j) = some u' := reads_some hfp.reads
        have hrr := run_append_grow (P := P) w t ty e i z ht hi hz ⟨gb, 0, none⟩ m cap cs hcl holds a q cx news hl hnews (by omega) (by omega) (growslice_fits (by omega) hb)
        exact ⟨_, _, _, hrr, hw.upd (hu.upd _) rfl rfl rfl (by simp) (hgrow cap _ rfl hcl)⟩
theorem E_appendB {t e sz by' m q sz1 by1 : Nat} {ty2 : Ty} {z1 : Option (List Value)} {z : List Value} {u ux : Value} {cs news : List Value} {F : Asn → List Asn}
    (hx : ev ov x = some u) (hy : ev ov y = some ux) (h : tlook tb.l t = some ⟨.slice e, sz1, by1, z1⟩) (h2 : tlook tb.l e = some ⟨ty2, sz, by', some z⟩) (hzl : Nat.beq z.length sz = true) (hsz : Nat.blt 0 sz = true)
    (hu : Sel H (vec e sz u m cs) F) (hr : Rd w0 H ux q news) (hl : news.length = q * sz) (h1 : All1 news) (hq0 : 0 < q) (hb : (m + q) * by' ≤ 140737488355328 ∧ m + q ≤ 140737488355328) (hd : dOk d n = true) :
    OpE (ι := Option Addr × Nat) P n D w0 ov H ⟨d, .call ⟨.builtin .append, #[x, y], #[t, t]⟩, T, pos, af, g⟩ (fun pc => .slice pc.1 (m + q) pc.2) (fun pc => F (vecB e sz u m cs (.slice pc.1 (m + q) pc.2) (m + q) (cs ++ news))) :=
  ⟨hd, fun A w ha hw => by
    obtain ⟨i, zv, hi, e1, e2, e3, e4⟩ := Tb.inf' h2
    obtain ⟨p, c, w', hr', hw'⟩ := run_appendB (ty := T) hw (und_slice h) hi e3 e1 e2 (by have := Nat.eq_of_beq_eq_true hzl; rw [cellsL_eq, e4]; simpa using this) (by simpa [Nat.blt_eq] using hsz) hu hr hl h1 hq0 hb.1 hb.2
    exact ⟨(p, c), w', by simp [execOp, resolve, invoke, builtin, ha.ev hx, ha.ev hy, hr'], hw'⟩⟩
/-- a new slice of given values -/
theorem E_buildSlice {t e sz by' s1 b1 m : Nat} {ty2 : Ty} {z1 : Option (List Value)} {z : List Value} {xs : List (Nat × Operand)} {vs : List (Nat × Value)} {cs : List Value} (h : tlook tb.l t = some ⟨.slice e, s1, b1, z1⟩) (h2 : tlook tb.l e = some ⟨ty2, sz, by', some z⟩) (hzl : Nat.beq z.length sz = true) (hsz : Nat.blt 0 sz = true)
    (hm : Nat.ble (m * sz) 16777216 = true) (hx : pevs ov xs = some vs) (hc : fillL (fun i => some (i * sz, sz)) (rep m z) vs = some cs) (hcl : Nat.beq cs.length (m * sz) = true) (hd : dOk d n = true) :
    OpE (ι := Addr) P n D w0 ov H ⟨d, .buildSlice t m xs.toArray, T, pos, af, g⟩ (fun p => .slice (some p) m m) (fun p => vec e sz (.slice (some p) m m) m cs :: H) :=
  ⟨hd, fun a w ha hw => by
    have e1 := run_underlying (und_slice h) w
    obtain ⟨zv, hz, e3⟩ := Tb.run_zero w h2
    have hsz' : 0 < sz := by rw [Nat.blt_eq] at hsz; exact hsz
    have hzl' := Nat.eq_of_beq_eq_true hzl
    have hm' : m * sz ≤ 16777216 := Nat.le_of_ble_eq_true hm
    have hfill := fill_eq _ hc
    have hx' := ha.pevs hx
    have hmr := made_rep z (by omega) m
    rw [hzl'] at hmr
    have hma : madeCells z.toArray (m * sz) = (rep m z).toArray := by rw [← hmr]
    refine ⟨⟨w.heap.size, 0, none⟩, w.alloc (.cells cs.toArray e), ?_, hw.new cs e _ fun w' h' => ?_⟩
    · simp only [execOp, Instr.buildSlice, Sem.run_bind, e1, Result.andThen_ok, Tb.run_size w h2]
      rw [if_neg (by omega)]
      simp only [Sem.run_pure, pure_bind, Sem.run_ite, List.map_toArray, hx']
      by_cases h0 : m * sz = 0
      · have hm0 : m = 0 := by
          rcases Nat.mul_eq_zero.1 h0 with h | h <;> omega
        subst hm0
        simp only [h0, ↓reduceIte]
        rw [show (Array.range 0).map (fun i => (#[] : Array Value)[i % (#[] : Array Value).size]!) = ([] : List Value).toArray from by simp]
        rw [show fillL (fun i => some (i * sz, sz)) (rep 0 z) vs = fillL (fun i => some (i * sz, sz)) [] vs from rfl] at hc
        have hfill := fill_eq _ hc
        simp [hfill, newRow]
      · simp only [h0, ↓reduceIte, Sem.run_bind, e3, Result.andThen_ok, cellsL_eq, hz]
        rw [show (Array.range (m * sz)).map (fun i => z.toArray[i % z.toArray.size]!) = madeCells z.toArray (m * sz) from rfl, hma]
        simp [hfill, newRow]
    · rw [vec_holds]
      have hcl' := Nat.eq_of_beq_eq_true hcl
      refine ⟨hcl', .inr ⟨_, m, _, rfl, rfl, h', Nat.le_refl _, ?_, by simp [hcl'], by simp [← hcl']⟩⟩
      have : m ≤ m * sz := Nat.le_mul_of_pos_right m hsz'
      unfold maxLen; omega⟩
end
end Sx

set_option linter.unusedVariables false
namespace Sx
open Go
/-! arrays: built, sliced, read -/
section
variable {P : Program} {f n : Nat} {R : Ending → World → Prop} {D : List Deferred} {w0 : World} {k : List Item} {ov : Ov} {H H' : List Asn}
  {ops : Array Oper} {l : List Oper} {d : Option Nat} {T : Nat} {pos : String} {af : Array Edge} {g : Option (Nat × Bool)} {x y : Operand} {v : Value} {tb : Tb P}
section
variable {t e s1 b1 s2 b2 m : Nat} {z1 z2 : Option (List Value)} {ty2 : Ty}
theorem V_buildA {xs : List (Nat × Operand)} {vs : List (Nat × Value)} {z cs : List Value} (h : tlook tb.l t = some ⟨.arr m e, s1, b1, some z⟩) (h2 : tlook tb.l e = some ⟨ty2, s2, b2, z2⟩)
    (hx : pevs ov xs = some vs) (hc : fillL (fun i => some (i * s2, s2)) z vs = some cs) (hd : dOk d n = true) : OpV P n D w0 ov H ⟨d, .build t xs.toArray, T, pos, af, g⟩ (.agg cs.toArray) := by
  unfold OpV
  exact ⟨hd, (fun a w ha _ => by
    have e1 := run_underlying (und_arr h) w
    obtain ⟨zv, hz, e3⟩ := Tb.run_zero w h
    have hfill := fill_eq _ hc
    have hx' := ha.pevs hx
    simp only [execOp, Instr.build, Sem.run_bind, e3, Result.andThen_ok, e1, cellsL_eq, hz, Tb.run_size w h2, List.map_toArray, hx']
    simp [hfill])⟩
/-- an array behind a pointer, sliced -/
theorem V_sliceP {b c lo hi : Nat} {il ih : Int} {ol oh : Option Operand} (hx : ev ov x = some (.pointer (some ⟨b, 0, none⟩))) (h : tlook tb.l t = some ⟨.arr c e, s1, b1, z1⟩) (h2 : tlook tb.l e = some ⟨ty2, s2, b2, z2⟩)
    (hlo : evb ov ol 0 = some il) (hhi : evb ov oh c = some ih) (el : il = (lo : Int)) (eh : ih = (hi : Int)) (hb : lo ≤ hi ∧ hi ≤ c) (hd : dOk d n = true) :
    OpV P n D w0 ov H ⟨d, .slice t x ol oh none, T, pos, af, g⟩ (.slice (subB (some ⟨b, 0, none⟩) lo c s2) (hi - lo) (c - lo)) := by
  unfold OpV
  exact ⟨hd, (fun A w ha hw => by
    obtain ⟨hb1, hb2⟩ := hb
    have e1 := run_underlying (und_arr h) w
    have hL : (match ol.map A.eval with | some v => Instr.sliceBound v hi .sliceB | none => pure 0 : Sem Nat).run P w = .ok lo w := by
      cases ol with
      | none => simp only [evb, Option.some.injEq] at hlo; simp; omega
      | some y =>
        simp only [evb] at hlo
        split at hlo
        · rename_i K i hy
          cases hlo
          simp only [Option.map_some, ha.ev hy]
          rw [run_sliceBound w (by omega)]; congr 1; omega
        · cases hlo
    have hH : (match oh.map A.eval with | some v => Instr.sliceBound v c .sliceAlen | none => pure c : Sem Nat).run P w = .ok hi w := by
      cases oh with
      | none => simp only [evb, Option.some.injEq] at hhi; simp; omega
      | some y =>
        simp only [evb] at hhi
        split at hhi
        · rename_i K i hy
          cases hhi
          simp only [Option.map_some, ha.ev hy]
          rw [run_sliceBound w (by omega)]; congr 1; omega
        · cases hhi
    have hS : (Instr.sliceBounds false c c (ol.map A.eval) (oh.map A.eval) none).run P w = .ok (lo, hi, c) w := by
      cases ol <;> cases oh <;> simp_all [Instr.sliceBounds]
    have e4 : (if c = lo then (⟨b, 0, none⟩ : Addr) else (⟨b, 0, none⟩ : Addr).add (lo * s2)) = (if c = lo then (⟨b, 0, none⟩ : Addr) else (⟨b, 0, none⟩ : Addr).add (lo * s2)) := rfl
    by_cases hcl : c = lo
    · subst hcl; simp [execOp, ha.ev hx, Instr.sliceAt, Instr.sureAddr, e1, hS, Tb.run_size w h2, subB]
    · simp [execOp, ha.ev hx, Instr.sliceAt, Instr.sureAddr, e1, hS, Tb.run_size w h2, subB, hcl])⟩
end
theorem subB_0 {a : Option Addr} {c sz : Nat} : subB a 0 c sz = a := by
  unfold subB
  split
  · rfl
  · cases a with
    | none => rfl
    | some a => simp only [Option.map_some, Nat.zero_mul]; unfold Addr.add; simp
/-- a block, read as a slice -/
theorem blk_rd {b m c : Nat} {cs : List Value} (h : blk b cs ∈ H) (hm : m ≤ c) : Rd w0 H (.slice (some ⟨b, 0, none⟩) m c) m cs := by
  unfold Rd
  intro w hw
  obtain ⟨E, hE⟩ := blk_heap h hw
  refine ⟨⟨_, c, rfl, (fun h => nomatch h), hm⟩, fun j v hv => ⟨⟨b, 0 + j, none⟩, by rw [cellPtr_eq, add_blk], ?_⟩⟩
  rw [cell_row hE]
  simpa using hv
theorem setSeg_set : ∀ {cs : List Value} {i : Nat} {v : Value}, i < cs.length → setSeg cs i [v] = some (cs.set i v)
  | [], i, v, h => by simp at h
  | c :: cs, 0, v, h => by simp [setSeg, over]
  | c :: cs, i + 1, v, h => by
    simp only [setSeg]
    rw [setSeg_set (by simpa using h)]
    simp
theorem setSeg_ints {K : IntKind} {l : List Int} {i : Nat} {a : Int} (h : i < l.length) : setSeg (ints K l) i [.int K a] = some (ints K (l.set i a)) := by
  rw [setSeg_set (by rw [ints_len]; exact h), ints_set]
end
end Sx

set_option linter.unusedVariables false
set_option linter.unusedSimpArgs false
namespace Go.Proofs.YtbiocgenbgbfpaaGreat
open Sx Go
/-! ## heads and sums' bytes -/
def sb4 (s : Int) : List Int := [s / 16777216, s / 65536 % 256, s / 256 % 256, s % 256]
/-- a right head -/
def hdOK (B : List Int) : Prop := 2 ≤ B.length ∧ B.getD 0 0 % 16 = 8 ∧ B.getD 0 0 / 16 ≤ 7 ∧ B.getD 1 0 / 32 % 2 = 0 ∧ (256 * B.getD 0 0 + B.getD 1 0) % 31 = 0
instance (B : List Int) : Decidable (hdOK B) := by unfold hdOK; infer_instance
theorem and15_u8 {x : Int} (hx : 0 ≤ x ∧ x < 256) : IntKind.u8.wrap ((BitVec.ofInt IntKind.u8.bits x &&& BitVec.ofInt IntKind.u8.bits 15).toNat) = x % 16 := by
  obtain ⟨n, rfl⟩ : ∃ n : Nat, x = n := ⟨x.toNat, by omega⟩
  have h : ∀ k : Fin 256, IntKind.u8.wrap ((BitVec.ofInt IntKind.u8.bits (k.val : Int) &&& BitVec.ofInt IntKind.u8.bits 15).toNat) = (k.val : Int) % 16 := by decide +kernel
  exact h ⟨n, by omega⟩
theorem and32_u8 {x : Int} (hx : 0 ≤ x ∧ x < 256) : IntKind.u8.wrap ((BitVec.ofInt IntKind.u8.bits x &&& BitVec.ofInt IntKind.u8.bits 32).toNat) = x / 32 % 2 * 32 := by
  obtain ⟨n, rfl⟩ : ∃ n : Nat, x = n := ⟨x.toNat, by omega⟩
  have h : ∀ k : Fin 256, IntKind.u8.wrap ((BitVec.ofInt IntKind.u8.bits (k.val : Int) &&& BitVec.ofInt IntKind.u8.bits 32).toNat) = (k.val : Int) / 32 % 2 * 32 := by decide +kernel
  exact h ⟨n, by omega⟩
theorem or8_i64 {a b : Int} (ha : 0 ≤ a ∧ a < 256) (hb : 0 ≤ b ∧ b < 256) : IntKind.i64.wrap ((BitVec.ofInt IntKind.i64.bits (b * 256) ||| BitVec.ofInt IntKind.i64.bits a).toNat) = 256 * b + a := by
  have hbits : (2 : Int) ^ IntKind.i64.bits = 18446744073709551616 := by decide
  rw [or_nat .i64 ⟨by omega, by rw [hbits]; omega⟩ ⟨by omega, by rw [hbits]; omega⟩]
  have h := Nat.two_pow_add_eq_or_of_lt (i := 8) (b := a.toNat) (by omega) b.toNat
  have e : (b * 256).toNat = 2 ^ 8 * b.toNat := by omega
  rw [e, ← h]
  exact (wi64 (by omega)).trans (by omega)
section
variable {w0 : World} {H : List Asn}
set_option maxRecDepth 10000 in
set_option maxHeartbeats 2000000 in
theorem ZHead_c (p : Option Addr) (c m : Nat) (B : List Int) (hr : Rd w0 H (.slice p m c) m (ints .u8 B)) (hm : B.length = m) (hB : OKB B) (w : World) (hw : St w0 H w) :
    Calls Tryz.prog 87 #[.slice p m c] w fun e w' => e = .returned (.bool (decide (hdOK B))) ∧ St w0 H w' := by
  refine enter (vs := [.slice p m c]) Tryz.func87 rfl rfl rfl hw ?_
  clear hw w
  by_cases h2 : m < 2
  · have hd : decide (hdOK B) = false := by rw [decide_eq_false_iff_not]; unfold hdOK; omega
    rw [hd]
    repeat (first | (refine sx ?_; try intro _))
    refine JS_ret Tryz.func87 rfl rfl fun w hw => ⟨rfl, hw⟩
  have b0 := hB 0
  have b1 := hB 1
  have g0 : (ints .u8 B)[0]? = some (.int .u8 (B.getD 0 0)) := ints_get (by omega)
  have g1 : (ints .u8 B)[1]? = some (.int .u8 (B.getD 1 0)) := ints_get (by omega)
  have hdef : decide (hdOK B) = decide (B.getD 0 0 % 16 = 8 ∧ B.getD 0 0 / 16 ≤ 7 ∧ B.getD 1 0 / 32 % 2 = 0 ∧ (256 * B.getD 0 0 + B.getD 1 0) % 31 = 0) := decide_eq_decide.2 ⟨fun h => h.2, fun h => ⟨by omega, h⟩⟩
  rw [hdef]
  clear hdef
  obtain ⟨x, hx⟩ : ∃ x, B.getD 0 0 = x := ⟨_, rfl⟩
  obtain ⟨y, hy⟩ : ∃ y, B.getD 1 0 = y := ⟨_, rfl⟩
  rw [hx] at b0 g0
  rw [hy] at b1 g1
  rw [hx, hy]
  have a1 := and15_u8 b0
  have a2 := and32_u8 b1
  have sh : IntKind.i64.wrap (x * 2 ^ 8) = x * 256 := wi64 (by omega)
  have a3 := or8_i64 b1 b0
  by_cases h8 : x % 16 = 8
  case' neg => have hd : decide (x % 16 = 8 ∧ x / 16 ≤ 7 ∧ y / 32 % 2 = 0 ∧ (256 * x + y) % 31 = 0) = false := by rw [decide_eq_false_iff_not]; omega
  case' pos =>
    by_cases h7 : x / 16 ≤ 7
    case' neg => have hd : decide (x % 16 = 8 ∧ x / 16 ≤ 7 ∧ y / 32 % 2 = 0 ∧ (256 * x + y) % 31 = 0) = false := by rw [decide_eq_false_iff_not]; omega
    case' pos =>
      by_cases h5 : y / 32 % 2 = 0
      case' neg => have hd : decide (x % 16 = 8 ∧ x / 16 ≤ 7 ∧ y / 32 % 2 = 0 ∧ (256 * x + y) % 31 = 0) = false := by rw [decide_eq_false_iff_not]; omega
      case' pos =>
        by_cases h31 : (256 * x + y) % 31 = 0
        case' neg => have hd : decide (x % 16 = 8 ∧ x / 16 ≤ 7 ∧ y / 32 % 2 = 0 ∧ (256 * x + y) % 31 = 0) = false := by rw [decide_eq_false_iff_not]; omega
        case' pos => have hd : decide (x % 16 = 8 ∧ x / 16 ≤ 7 ∧ y / 32 % 2 = 0 ∧ (256 * x + y) % 31 = 0) = true := by rw [decide_eq_true_iff]; omega
  all_goals
    rw [hd]
    clear hd
    repeat (first | (apply gQO; refine QO_v rfl (oL (V_loadC (tb := tb) rfl (Rd_weak hr fun w hw => St.sub (by repeat (first | exact List.Sublist.refl _ | apply List.Sublist.cons_cons | apply List.Sublist.cons)) hw) rfl rfl g0 rfl)) ?_) | (apply gQO; refine QO_v rfl (oL (V_loadC (tb := tb) rfl (Rd_weak hr fun w hw => St.sub (by repeat (first | exact List.Sublist.refl _ | apply List.Sublist.cons_cons | apply List.Sublist.cons)) hw) rfl rfl g1 rfl)) ?_) | (apply gQO; refine QO_v rfl (V_and rfl rfl a1 rfl) ?_) | (apply gQO; refine QO_v rfl (V_and rfl rfl a2 rfl) ?_) | (apply gQO; refine QO_v rfl (V_shl (m := 8) rfl rfl (by decide) rfl sh rfl) ?_) | (apply gQO; refine QO_v rfl (V_or rfl rfl a3 rfl) ?_) | (apply gQO; refine QO_v rfl (V_shr (m := 4) rfl rfl (by decide) rfl rfl rfl) ?_) | (first | (refine sx ?_; try intro _)))
    refine JS_ret Tryz.func87 rfl rfl fun w hw => ⟨rfl, hw⟩
set_option maxRecDepth 10000 in
/-- the sum's bytes, as an array -/
theorem ZSum_c (p : Option Addr) (c m : Nat) (B : List Int) (hr : Rd w0 H (.slice p m c) m (ints .u8 B)) (hm : B.length = m) (hB : OKB B) (hmx : m ≤ 140737488355328) (w : World) (hw : St w0 H w) :
    Calls Tryz.prog 88 #[.slice p m c, .func (.func 40) #[] #[]] w fun e w' => e = .returned (.agg #[.int .u8 (adl B / 16777216), .int .u8 (adl B / 65536 % 256), .int .u8 (adl B / 256 % 256), .int .u8 (adl B % 256)]) ∧ St w0 H w' := by
  have hbd := adl_bd hB
  refine enter (vs := [.slice p m c, .func (.func 40) #[] #[]]) Tryz.func88 rfl rfl rfl hw ?_
  clear hw w
  repeat (first | (refine sx ?_; try intro _))
  refine JO_callv (us := []) (cs := []) rfl Tryz.call40 rfl rfl fun w hw => (ASum_c p c m B (Rd_weak hr fun w hw => St.sub (by repeat (first | exact List.Sublist.refl _ | apply List.Sublist.cons_cons | apply List.Sublist.cons)) hw) hm hB hmx w hw).mono ?_
  rintro e w' ⟨rfl, hw'⟩
  obtain ⟨s, hs⟩ : ∃ s, adl B = s := ⟨_, rfl⟩
  rw [hs] at hbd ⊢
  refine ⟨_, rfl, _, hw', ?_⟩
  clear hw' hw w w'
  have c1 : IntKind.u8.wrap (s / 2 ^ 24) = s / 16777216 := wu8 (by omega)
  have c2 : IntKind.u8.wrap (s / 2 ^ 16) = s / 65536 % 256 := (mu8 _).trans (by omega)
  have c3 : IntKind.u8.wrap (s / 2 ^ 8) = s / 256 % 256 := (mu8 _).trans (by omega)
  have c4 : IntKind.u8.wrap s = s % 256 := mu8 _
  repeat (first | (apply gJO; refine JO_v (V_shr (m := 24) rfl rfl (by decide) rfl rfl rfl) ?_) | (apply gJO; refine JO_v (V_shr (m := 16) rfl rfl (by decide) rfl rfl rfl) ?_) | (apply gJO; refine JO_v (V_shr (m := 8) rfl rfl (by decide) rfl rfl rfl) ?_) | (apply gJO; first | refine JO_v (oCv (V_conv (tb := tb) rfl rfl rfl c1 rfl)) ?_ | refine JO_v (oCv (V_conv (tb := tb) rfl rfl rfl c2 rfl)) ?_ | refine JO_v (oCv (V_conv (tb := tb) rfl rfl rfl c3 rfl)) ?_ | refine JO_v (oCv (V_conv (tb := tb) rfl rfl rfl c4 rfl)) ?_) | (apply gJO; refine JO_v (V_buildA (tb := tb) rfl rfl rfl rfl rfl) ?_) | (first | (refine sx ?_; try intro _)))
  refine JS_retC Tryz.func88 rfl (by first | exact ResV.agg (tb := tb) rfl (by repeat (first | apply List.Mem.head | apply List.Mem.tail)) rfl rfl rfl ResV.nil | exact ResV.agg (tb := tb) rfl (by repeat (first | apply List.Mem.head | apply List.Mem.tail)) rfl rfl rfl (ResV.tmp rfl ResV.nil) | exact ResV.agg (tb := tb) rfl (by repeat (first | apply List.Mem.head | apply List.Mem.tail)) rfl rfl rfl (ResV.tmp rfl (ResV.tmp rfl ResV.nil)) | exact ResV.one (tb := tb) rfl (by repeat (first | apply List.Mem.head | apply List.Mem.tail)) rfl rfl rfl ResV.nil | exact ResV.one (tb := tb) rfl (by repeat (first | apply List.Mem.head | apply List.Mem.tail)) rfl rfl rfl (ResV.tmp rfl ResV.nil) | exact ResV.one (tb := tb) rfl (by repeat (first | apply List.Mem.head | apply List.Mem.tail)) rfl rfl rfl (ResV.one (tb := tb) rfl (by repeat (first | apply List.Mem.head | apply List.Mem.tail)) rfl rfl rfl ResV.nil) | exact ResV.tmp rfl (ResV.agg (tb := tb) rfl (by repeat (first | apply List.Mem.head | apply List.Mem.tail)) rfl rfl rfl ResV.nil) | exact ResV.tmp rfl (ResV.one (tb := tb) rfl (by repeat (first | apply List.Mem.head | apply List.Mem.tail)) rfl rfl rfl ResV.nil)) ?_
  intro w hw
  exact ⟨rfl, St.sub (by repeat (first | exact List.Sublist.refl _ | apply List.Sublist.cons_cons | apply List.Sublist.cons)) hw⟩
end
end Go.Proofs.YtbiocgenbgbfpaaGreat

/- Numbers with weights: plain facts. -/
namespace Go.Proofs.YtbiocgenbgbfpaaGreat
open Sx Go
def flat : List (Int × Int) → List Value
  | [] => []
  | t :: r => .int .i64 t.1 :: .int .u64 t.2 :: flat r
def sw : List (Int × Int) → Int
  | [] => 0
  | t :: r => t.2 + sw r
def sp (low : Int) : List (Int × Int) → Int
  | [] => 0
  | t :: r => (t.1 - low) * t.2 + sp low r
theorem sw_app : ∀ A B, sw (A ++ B) = sw A + sw B
  | [], B => by simp [sw]
  | t :: r, B => by simp only [List.cons_append, sw, sw_app r B]; omega
/-- in bounds -/
def OKT (T : List (Int × Int)) : Prop := ∀ t ∈ T, (-9223372036854775808 ≤ t.1 ∧ t.1 < 9223372036854775808) ∧ (0 ≤ t.2 ∧ t.2 < 18446744073709551616)
theorem OKT.take {T : List (Int × Int)} (h : OKT T) (i : Nat) : OKT (T.take i) := fun t ht => h t (List.mem_of_mem_take ht)
theorem OKT.drop {T : List (Int × Int)} (h : OKT T) (i : Nat) : OKT (T.drop i) := fun t ht => h t (List.mem_of_mem_drop ht)
end Go.Proofs.YtbiocgenbgbfpaaGreat

namespace Go.Proofs.YtbiocgenbgbfpaaGreat
open Sx Go
set_option linter.unusedVariables false
set_option linter.unusedSimpArgs false
/-- the least length of a symbol, and how many bits follow -/
def lbase (n : Int) : Int × Int := if n < 257 ∨ 285 < n then (0, 0) else if n = 285 then (258, 0) else if n < 265 then (3 + (n - 257), 0) else (3 + (4 + (n - 257) % 4) * 2 ^ ((n - 257) / 4 - 1).toNat, (n - 257) / 4 - 1)
theorem Base_c {w0 : World} {H : List Asn} (s : Int) (hs : -9223372036854775808 ≤ s ∧ s < 9223372036854775808) (w : World) (hw : St w0 H w) :
    Calls Tryz.prog 94 #[.int .i64 s] w fun e w' => e = .returned (.tuple #[.int .i64 (lbase s).1, .int .i64 (lbase s).2]) ∧ St w0 H w' := by
  refine enter (vs := [.int .i64 s]) Tryz.func94 rfl rfl rfl hw ?_
  unfold lbase
  by_cases h1 : s < 257
  · rw [if_pos (.inl h1)]
    repeat (first | (refine sx ?_; try intro _))
    exact JS_ret Tryz.func94 rfl rfl fun w hw => ⟨rfl, hw⟩
  by_cases h2 : 285 < s
  · rw [if_pos (.inr h2)]
    repeat (first | (refine sx ?_; try intro _))
    exact JS_ret Tryz.func94 rfl rfl fun w hw => ⟨rfl, hw⟩
  rw [if_neg (by omega)]
  by_cases h3 : s = 285
  · rw [if_pos h3]
    repeat (first | (refine sx ?_; try intro _))
    exact JS_ret Tryz.func94 rfl rfl fun w hw => ⟨rfl, hw⟩
  rw [if_neg h3]
  by_cases h4 : s < 265
  · rw [if_pos h4]
    repeat (first | (refine sx ?_; try intro _))
    exact JS_ret Tryz.func94 rfl rfl fun w hw => ⟨rfl, hw⟩
  rw [if_neg h4]
  have h5 : ∃ k : Nat, (s - 257) / 4 - 1 = k ∧ (k = 1 ∨ k = 2 ∨ k = 3 ∨ k = 4 ∨ k = 5) := ⟨((s - 257) / 4 - 1).toNat, by omega, by omega⟩
  obtain ⟨k, hk, hk5⟩ := h5
  have hp : (2 : Int) ^ k ≤ 32 ∧ 1 ≤ (2 : Int) ^ k := by rcases hk5 with rfl | rfl | rfl | rfl | rfl <;> decide
  have hm : 0 ≤ (4 + (s - 257) % 4) * (2 : Int) ^ k ∧ (4 + (s - 257) % 4) * (2 : Int) ^ k ≤ 224 := by
    rcases hk5 with rfl | rfl | rfl | rfl | rfl <;> (simp only [Int.reducePow]; omega)
  have hw9 : IntKind.i64.wrap ((4 + (s - 257) % 4) * (2 : Int) ^ k) = (4 + (s - 257) % 4) * (2 : Int) ^ k := wi64 (by omega)
  have hmin : min ((s - 257) / 4 - 1).toNat IntKind.i64.bits = k := by
    rw [hk]; show min k 64 = k; omega
  have hkt : ((s - 257) / 4 - 1).toNat = k := by omega
  simp only [hkt]
  repeat (first | (apply gJO; refine JO_v (V_shl (m := k) rfl rfl (by omega) hmin hw9 rfl) ?_) | (first | (refine sx ?_; try intro _)))
  exact JS_ret Tryz.func94 rfl rfl fun w hw => ⟨rfl, hw⟩
theorem lbase_step : ∀ i : Nat, i < 27 → (lbase (257 + i)).1 + 2 ^ (lbase (257 + i)).2.toNat = (lbase (257 + (i + 1 : Nat))).1 := by
  have h : ∀ i : Fin 27, (lbase (257 + (i.val : Int))).1 + 2 ^ (lbase (257 + (i.val : Int))).2.toNat = (lbase (257 + ((i.val + 1 : Nat) : Int))).1 := by decide +kernel
  exact fun i hi => h ⟨i, hi⟩
theorem lbase_bd : ∀ i : Nat, i < 28 → 3 ≤ (lbase (257 + i)).1 ∧ (lbase (257 + i)).1 ≤ 258 ∧ 0 ≤ (lbase (257 + i)).2 ∧ (lbase (257 + i)).2 ≤ 5 ∧ (lbase (257 + i)).2 = if i < 8 then 0 else ((i : Int) - 4) / 4 := by
  have h : ∀ i : Fin 28, 3 ≤ (lbase (257 + (i.val : Int))).1 ∧ (lbase (257 + (i.val : Int))).1 ≤ 258 ∧ 0 ≤ (lbase (257 + (i.val : Int))).2 ∧ (lbase (257 + (i.val : Int))).2 ≤ 5 ∧ (lbase (257 + (i.val : Int))).2 = if i.val < 8 then 0 else ((i.val : Int) - 4) / 4 := by decide +kernel
  exact fun i hi => h ⟨i, hi⟩
set_option maxHeartbeats 1000000 in
theorem RBase_c {w0 : World} {H : List Asn} (s : Int) (hs : -9223372036854775808 ≤ s ∧ s < 9223372036854775808) (w : World) (hw : St w0 H w) :
    Calls Tryz.prog 78 #[.int .i64 s] w fun e w' => e = .returned (.tuple #[.int .i64 (lbase s).1, .int .i64 (lbase s).2]) ∧ St w0 H w' := by
  refine enter (vs := [.int .i64 s]) Tryz.func78 rfl rfl rfl hw ?_
  by_cases h1 : s < 257
  · rw [show lbase s = (0, 0) from if_pos (.inl h1)]
    repeat (first | (refine sx ?_; try intro _))
    exact JS_ret Tryz.func78 rfl rfl fun w hw => ⟨rfl, hw⟩
  by_cases h2 : 285 < s
  · rw [show lbase s = (0, 0) from if_pos (.inr h2)]
    repeat (first | (refine sx ?_; try intro _))
    exact JS_ret Tryz.func78 rfl rfl fun w hw => ⟨rfl, hw⟩
  by_cases h3 : s = 285
  · subst h3
    repeat (first | (refine sx ?_; try intro _))
    exact JS_ret Tryz.func78 rfl rfl fun w hw => ⟨rfl, hw⟩
  repeat (first | (apply gJR; first | (refine sx ?_; try intro _)) | (apply gJO; first | (refine sx ?_; try intro _)) | apply JS_seq | apply JS_region | refine JS_condF rfl ?_ | refine JS_cond_F rfl (by omega) ?_ | apply JS_skip)
  refine JS_block ?_
  refine JS_loop1 (fun (i : Nat) => [(0, .int .i64 s), (4, .int .i64 (lbase (257 + i)).1), (5, .int .i64 (257 + i))]) (fun _ => H) (fun i => (i : Int) ≤ s - 257) (fun i => 100 - i) 0 (by omega) (by repeat (first | exact trivial | refine ⟨rfl, ?_⟩ | refine ⟨lookI rfl (by omega), ?_⟩)) (fun _ h => h) ?_
  intro i hi again
  obtain ⟨b1, b2, b3, b4, b5⟩ := lbase_bd i (by omega)
  by_cases he : (i : Int) = s - 257
  · obtain rfl : s = 257 + i := by omega
    clear again
    by_cases h8 : i < 8
    · rw [if_pos h8] at b5
      repeat (first | (refine sx ?_; try intro _))
      refine JS_ret Tryz.func78 rfl rfl fun w hw => ⟨?_, hw⟩
      rw [b5]; rfl
    · rw [if_neg h8] at b5
      repeat (first | (refine sx ?_; try intro _))
      refine JS_ret Tryz.func78 rfl rfl fun w hw => ⟨?_, hw⟩
      rw [b5, show (257 + (i : Int) - 261) = i - 4 by omega]; rfl
  · have hst := lbase_step i (by omega)
    obtain ⟨c1, c2, _⟩ := lbase_bd (i + 1) (by omega)
    have hcast : (257 + (i : Int)) + 1 = 257 + ((i + 1 : Nat) : Int) := by omega
    by_cases h8 : i < 8
    · rw [if_pos h8] at b5
      rw [b5] at hst
      have hst' : (lbase (257 + i)).1 + 1 = (lbase (257 + (i + 1 : Nat))).1 := hst
      repeat (first | (apply gJO; refine JO_v (V_shl (m := 0) (c := 1) rfl rfl (by omega) (by decide) (by decide) rfl) ?_) | (first | (refine sx ?_; try intro _)))
      exact JS_again1 again (i + 1) (by omega) (by omega) (by exact ⟨rfl, lookI rfl (by omega), lookI rfl (by omega), trivial⟩) (fun w hw => hw)
    · rw [if_neg h8] at b5
      have hk : ∃ k : Nat, ((i : Int) - 4) / 4 = k ∧ k ≤ 5 := ⟨(((i : Int) - 4) / 4).toNat, by omega, by omega⟩
      obtain ⟨k, hk, hk5⟩ := hk
      rw [b5, hk] at hst
      have hpw : (2 : Int) ^ k ≤ 32 ∧ 1 ≤ (2 : Int) ^ k := by
        rcases (show k = 0 ∨ k = 1 ∨ k = 2 ∨ k = 3 ∨ k = 4 ∨ k = 5 by omega) with rfl | rfl | rfl | rfl | rfl | rfl <;> decide
      have hst' : (lbase (257 + i)).1 + 2 ^ k = (lbase (257 + (i + 1 : Nat))).1 := hst
      have e1 : (257 + (i : Int) - 261) / 4 = k := by rw [show (257 + (i : Int) - 261) = i - 4 by omega]; exact hk
      have hw9 : IntKind.i64.wrap (1 * (2 : Int) ^ k) = (2 : Int) ^ k := (congrArg _ (Int.one_mul _)).trans (wi64 (by omega))
      have hmin : min ((257 + (i : Int) - 261) / 4).toNat IntKind.i64.bits = k := by
        rw [e1]; show min k 64 = k; omega
      repeat (first | (apply gJO; refine JO_v (V_shl (m := k) rfl rfl (by omega) hmin hw9 rfl) ?_) | (first | (refine sx ?_; try intro _)))
      exact JS_again1 again (i + 1) (by omega) (by omega) (by exact ⟨rfl, lookI rfl (by omega), lookI rfl (by omega), trivial⟩) (fun w hw => hw)
end Go.Proofs.YtbiocgenbgbfpaaGreat

namespace Go.Proofs.YtbiocgenbgbfpaaGreat
open Sx Go
set_option linter.unusedVariables false
set_option linter.unusedSimpArgs false
/-- the least distance of a symbol, and how many bits follow -/
def lfar (n : Int) : Int × Int := if n < 0 ∨ 29 < n then (0, 0) else if n < 4 then (1 + n, 0) else (1 + (2 + n % 2) * 2 ^ (n / 2 - 1).toNat, n / 2 - 1)
theorem Far_c {w0 : World} {H : List Asn} (s : Int) (hs : -9223372036854775808 ≤ s ∧ s < 9223372036854775808) (w : World) (hw : St w0 H w) :
    Calls Tryz.prog 95 #[.int .i64 s] w fun e w' => e = .returned (.tuple #[.int .i64 (lfar s).1, .int .i64 (lfar s).2]) ∧ St w0 H w' := by
  refine enter (vs := [.int .i64 s]) Tryz.func95 rfl rfl rfl hw ?_
  unfold lfar
  by_cases h1 : s < 0
  · rw [if_pos (.inl h1)]
    repeat (first | (refine sx ?_; try intro _))
    exact JS_ret Tryz.func95 rfl rfl fun w hw => ⟨rfl, hw⟩
  by_cases h2 : 29 < s
  · rw [if_pos (.inr h2)]
    repeat (first | (refine sx ?_; try intro _))
    exact JS_ret Tryz.func95 rfl rfl fun w hw => ⟨rfl, hw⟩
  rw [if_neg (by omega)]
  by_cases h4 : s < 4
  · rw [if_pos h4]
    repeat (first | (refine sx ?_; try intro _))
    exact JS_ret Tryz.func95 rfl rfl fun w hw => ⟨rfl, hw⟩
  rw [if_neg h4]
  have h5 : ∃ k : Nat, s / 2 - 1 = k ∧ k ≤ 13 := ⟨(s / 2 - 1).toNat, by omega, by omega⟩
  obtain ⟨k, hk, hk5⟩ := h5
  have hp : (2 : Int) ^ k ≤ 8192 ∧ 1 ≤ (2 : Int) ^ k := by
    have h : ∀ j : Fin 14, (2 : Int) ^ j.val ≤ 8192 ∧ 1 ≤ (2 : Int) ^ j.val := by decide +kernel
    exact h ⟨k, by omega⟩
  have hm : 0 ≤ (2 + s % 2) * (2 : Int) ^ k ∧ (2 + s % 2) * (2 : Int) ^ k ≤ 24576 := by
    rcases (show s % 2 = 0 ∨ s % 2 = 1 by omega) with h | h <;> (rw [h]; omega)
  have hw9 : IntKind.i64.wrap ((2 + s % 2) * (2 : Int) ^ k) = (2 + s % 2) * (2 : Int) ^ k := wi64 (by omega)
  have hmin : min (s / 2 - 1).toNat IntKind.i64.bits = k := by
    rw [hk]; show min k 64 = k; omega
  have hkt : (s / 2 - 1).toNat = k := by omega
  simp only [hkt]
  repeat (first | (apply gJO; refine JO_v (V_shl (m := k) rfl rfl (by omega) hmin hw9 rfl) ?_) | (first | (refine sx ?_; try intro _)))
  exact JS_ret Tryz.func95 rfl rfl fun w hw => ⟨rfl, hw⟩
theorem lfar_step : ∀ i : Nat, i < 29 → (lfar i).1 + 2 ^ (lfar i).2.toNat = (lfar (i + 1 : Nat)).1 := by
  have h : ∀ i : Fin 29, (lfar (i.val : Int)).1 + 2 ^ (lfar (i.val : Int)).2.toNat = (lfar ((i.val + 1 : Nat) : Int)).1 := by decide +kernel
  exact fun i hi => h ⟨i, hi⟩
theorem lfar_bd : ∀ i : Nat, i < 30 → 1 ≤ (lfar i).1 ∧ (lfar i).1 ≤ 24577 ∧ 0 ≤ (lfar i).2 ∧ (lfar i).2 ≤ 13 ∧ (lfar i).2 = if i < 4 then 0 else ((i : Int) - 2) / 2 := by
  have h : ∀ i : Fin 30, 1 ≤ (lfar (i.val : Int)).1 ∧ (lfar (i.val : Int)).1 ≤ 24577 ∧ 0 ≤ (lfar (i.val : Int)).2 ∧ (lfar (i.val : Int)).2 ≤ 13 ∧ (lfar (i.val : Int)).2 = if i.val < 4 then 0 else ((i.val : Int) - 2) / 2 := by decide +kernel
  exact fun i hi => h ⟨i, hi⟩
set_option maxHeartbeats 1000000 in
theorem RFar_c {w0 : World} {H : List Asn} (s : Int) (hs : -9223372036854775808 ≤ s ∧ s < 9223372036854775808) (w : World) (hw : St w0 H w) :
    Calls Tryz.prog 79 #[.int .i64 s] w fun e w' => e = .returned (.tuple #[.int .i64 (lfar s).1, .int .i64 (lfar s).2]) ∧ St w0 H w' := by
  refine enter (vs := [.int .i64 s]) Tryz.func79 rfl rfl rfl hw ?_
  by_cases h1 : s < 0
  · rw [show lfar s = (0, 0) from if_pos (.inl h1)]
    repeat (first | (refine sx ?_; try intro _))
    exact JS_ret Tryz.func79 rfl rfl fun w hw => ⟨rfl, hw⟩
  by_cases h2 : 29 < s
  · rw [show lfar s = (0, 0) from if_pos (.inr h2)]
    repeat (first | (refine sx ?_; try intro _))
    exact JS_ret Tryz.func79 rfl rfl fun w hw => ⟨rfl, hw⟩
  repeat (first | (apply gJR; first | (refine sx ?_; try intro _)) | (apply gJO; first | (refine sx ?_; try intro _)) | apply JS_seq | apply JS_region | refine JS_condF rfl ?_ | refine JS_cond_F rfl (by omega) ?_ | apply JS_skip)
  refine JS_block ?_
  refine JS_loop1 (fun (i : Nat) => [(0, .int .i64 s), (4, .int .i64 (lfar i).1), (5, .int .i64 i)]) (fun _ => H) (fun i => (i : Int) ≤ s) (fun i => 100 - i) 0 (by omega) (by exact ⟨rfl, rfl, rfl, trivial⟩) (fun _ h => h) ?_
  intro i hi again
  obtain ⟨b1, b2, b3, b4, b5⟩ := lfar_bd i (by omega)
  by_cases he : (i : Int) = s
  · obtain rfl : s = i := by omega
    clear again
    by_cases h8 : i < 4
    · rw [if_pos h8] at b5
      repeat (first | (refine sx ?_; try intro _))
      refine JS_ret Tryz.func79 rfl rfl fun w hw => ⟨?_, hw⟩
      rw [b5]; rfl
    · rw [if_neg h8] at b5
      repeat (first | (refine sx ?_; try intro _))
      refine JS_ret Tryz.func79 rfl rfl fun w hw => ⟨?_, hw⟩
      rw [b5]; rfl
  · have hst := lfar_step i (by omega)
    obtain ⟨c1, c2, _⟩ := lfar_bd (i + 1) (by omega)
    by_cases h8 : i < 4
    · rw [if_pos h8] at b5
      rw [b5] at hst
      have hst' : (lfar i).1 + 1 = (lfar (i + 1 : Nat)).1 := hst
      repeat (first | (apply gJO; refine JO_v (V_shl (m := 0) (c := 1) rfl rfl (by omega) (by decide) (by decide) rfl) ?_) | (first | (refine sx ?_; try intro _)))
      exact JS_again1 again (i + 1) (by omega) (by omega) (by exact ⟨rfl, lookI rfl (by omega), lookI rfl (by omega), trivial⟩) (fun w hw => hw)
    · rw [if_neg h8] at b5
      have hk : ∃ k : Nat, ((i : Int) - 2) / 2 = k ∧ k ≤ 13 := ⟨(((i : Int) - 2) / 2).toNat, by omega, by omega⟩
      obtain ⟨k, hk, hk5⟩ := hk
      rw [b5, hk] at hst
      have hpw : (2 : Int) ^ k ≤ 8192 ∧ 1 ≤ (2 : Int) ^ k := by
        have h : ∀ j : Fin 14, (2 : Int) ^ j.val ≤ 8192 ∧ 1 ≤ (2 : Int) ^ j.val := by decide +kernel
        exact h ⟨k, by omega⟩
      have hst' : (lfar i).1 + 2 ^ k = (lfar (i + 1 : Nat)).1 := hst
      have hw9 : IntKind.i64.wrap (1 * (2 : Int) ^ k) = (2 : Int) ^ k := (congrArg _ (Int.one_mul _)).trans (wi64 (by omega))
      have hmin : min (((i : Int) - 2) / 2).toNat IntKind.i64.bits = k := by
        rw [hk]; show min k 64 = k; omega
      repeat (first | (apply gJO; refine JO_v (V_shl (m := k) rfl rfl (by omega) hmin hw9 rfl) ?_) | (first | (refine sx ?_; try intro _)))
      exact JS_again1 again (i + 1) (by omega) (by omega) (by exact ⟨rfl, lookI rfl (by omega), lookI rfl (by omega), trivial⟩) (fun w hw => hw)
end Go.Proofs.YtbiocgenbgbfpaaGreat

namespace Go.Proofs.YtbiocgenbgbfpaaGreat
open Sx Go
set_option linter.unusedVariables false
set_option maxRecDepth 10000
set_option linter.unusedSimpArgs false
/-! ## layer 08: lengths' and distances' symbols -/
/-- the greatest symbol from a on, of k ones, whose least number isn't above n -/
def grt (f : Int → Int × Int) (a n : Int) : Nat → Int × Int × Int
  | 0 => (0, 0, 0)
  | k + 1 => if (f (a + k)).1 ≤ n then (a + k, (f (a + k)).2, n - (f (a + k)).1) else grt f a n k
def pk (f : Int → Int × Int) (a n : Int) : Nat → Int
  | 0 => a
  | k + 1 => if (f (a + k)).1 ≤ n then a + k else pk f a n k
theorem pk_bd (f : Int → Int × Int) (a n : Int) : ∀ k : Nat, a ≤ pk f a n k ∧ (pk f a n k = a ∨ pk f a n k < a + k)
  | 0 => ⟨Int.le_refl _, .inl rfl⟩
  | k + 1 => by
    obtain ⟨h1, h2⟩ := pk_bd f a n k
    unfold pk
    split
    · exact ⟨by omega, .inr (by omega)⟩
    · exact ⟨h1, h2.imp id fun h => by omega⟩
theorem pk_le (f : Int → Int × Int) (a n : Int) (h : (f a).1 ≤ n) : ∀ k : Nat, (f (pk f a n k)).1 ≤ n
  | 0 => h
  | k + 1 => by
    unfold pk
    split
    · assumption
    · exact pk_le f a n h k
theorem grt_pk (f : Int → Int × Int) (a n : Int) (h : (f a).1 ≤ n) : ∀ k : Nat, grt f a n (k + 1) = (pk f a n (k + 1), (f (pk f a n (k + 1))).2, n - (f (pk f a n (k + 1))).1)
  | 0 => by
    have e : a + ((0 : Nat) : Int) = a := by omega
    have e1 : grt f a n (0 + 1) = (a, (f a).2, n - (f a).1) := by rw [grt, e, if_pos h]
    have e2 : pk f a n (0 + 1) = a := by rw [pk, e, if_pos h]
    rw [e1, e2]
  | k + 1 => by
    rw [grt, pk]
    split
    · rfl
    · exact grt_pk f a n h k
def lenS (n : Int) : Int × Int × Int := if n < 3 ∨ 258 < n then (0, 0, 0) else grt lbase 257 n 29
def spanS (n : Int) : Int × Int × Int := if n < 1 ∨ 32768 < n then (-1, 0, 0) else grt lfar 0 n 30
section
variable {w0 : World} {H : List Asn}
theorem Greatest_c (q : Nat) (f : Int → Int × Int) (hc : ∀ args w, (callFunc q args).run Tryz.prog w = .ok (.enter q args) w)
    (hq : ∀ s, 0 ≤ s ∧ s ≤ 1000 → ∀ w, St w0 H w → Calls Tryz.prog q #[.int .i64 s] w fun e w' => e = .returned (.tuple #[.int .i64 (f s).1, .int .i64 (f s).2]) ∧ St w0 H w')
    (a : Int) (K : Nat) (ha : 0 ≤ a ∧ a ≤ 300) (hK : K ≤ 300) (hf : ∀ i : Nat, i < K → 0 ≤ (f (a + i)).1) (n : Int) (hn : 0 ≤ n ∧ n ≤ 1000000) (w : World) (hw : St w0 H w) :
    Calls Tryz.prog 93 #[.int .i64 a, .int .i64 (a + K - 1), .int .i64 n, .func (.func q) #[] #[]] w fun e w' => e = .returned (.tuple #[.int .i64 (grt f a n K).1, .int .i64 (grt f a n K).2.1, .int .i64 (grt f a n K).2.2]) ∧ St w0 H w' := by
  refine enter (vs := [.int .i64 a, .int .i64 (a + K - 1), .int .i64 n, .func (.func q) #[] #[]]) Tryz.func93 rfl rfl rfl hw ?_
  repeat (first | (refine sx ?_; try intro _))
  refine JS_loop1 (fun (k : Nat) => [(0, .int .i64 a), (2, .int .i64 n), (3, .func (.func q) #[] #[]), (11, .int .i64 (a + k - 1))]) (fun _ => H) (fun k => k ≤ K ∧ grt f a n K = grt f a n k) (fun k => k) K ⟨Nat.le_refl _, rfl⟩ (by repeat (first | exact trivial | refine ⟨rfl, ?_⟩ | refine ⟨lookI rfl (by omega), ?_⟩)) (fun _ h => h) ?_
  intro k ⟨hk, he⟩ again
  cases k with
  | zero =>
    clear again
    simp only [Int.natCast_zero]
    repeat (first | (refine sx ?_; try intro _))
    exact JS_ret Tryz.func93 rfl rfl fun w hw => ⟨by rw [he]; rfl, hw⟩
  | succ k =>
    have hfk := hf k (by omega)
    have e1 : a + ((k + 1 : Nat) : Int) - 1 = a + k := by omega
    rw [e1]
    repeat (first | (refine sx ?_; try intro _))
    refine JO_callv (us := []) (cs := []) rfl hc rfl rfl fun w hw => (hq (a + k) (by omega) w hw).mono ?_
    rintro e w' ⟨rfl, hw'⟩
    refine ⟨_, rfl, _, hw', ?_⟩
    clear hw' hw w w'
    by_cases hle : (f (a + k)).1 ≤ n
    · repeat (first | (refine sx ?_; try intro _))
      refine JS_ret Tryz.func93 rfl rfl fun w hw => ⟨?_, hw⟩
      rw [he, grt, if_pos hle]
      rfl
    · repeat (first | (refine sx ?_; try intro _))
      exact JS_again1 again k ⟨by omega, by rw [he, grt, if_neg hle]⟩ (by omega) (by repeat (first | exact trivial | refine ⟨rfl, ?_⟩ | refine ⟨lookI rfl (by omega), ?_⟩)) (fun w hw => hw)
theorem lbase_nn (i : Nat) (h : i < 29) : 0 ≤ (lbase (257 + i)).1 := by
  have : ∀ i : Fin 29, 0 ≤ (lbase (257 + (i.val : Int))).1 := by decide +kernel
  exact this ⟨i, h⟩
theorem lfar_nn (i : Nat) (h : i < 30) : 0 ≤ (lfar (0 + i)).1 := by
  have : ∀ i : Fin 30, 0 ≤ (lfar (0 + (i.val : Int))).1 := by decide +kernel
  exact this ⟨i, h⟩
theorem TLength_c (n : Int) (w : World) (hw : St w0 H w) :
    Calls Tryz.prog 50 #[.int .i64 n] w fun e w' => e = .returned (.tuple #[.int .i64 (lenS n).1, .int .i64 (lenS n).2.1, .int .i64 (lenS n).2.2]) ∧ St w0 H w' := by
  refine enter (vs := [.int .i64 n]) Tryz.func50 rfl rfl rfl hw ?_
  unfold lenS
  by_cases h1 : n < 3
  · rw [if_pos (.inl h1)]
    repeat (first | (refine sx ?_; try intro _))
    exact JS_ret Tryz.func50 rfl rfl fun w hw => ⟨rfl, hw⟩
  by_cases h2 : 258 < n
  · rw [if_pos (.inr h2)]
    repeat (first | (refine sx ?_; try intro _))
    exact JS_ret Tryz.func50 rfl rfl fun w hw => ⟨rfl, hw⟩
  rw [if_neg (by omega)]
  repeat (first | (refine sx ?_; try intro _))
  refine JO_call Tryz.call93 rfl rfl fun w hw => (Greatest_c 94 lbase Tryz.call94 (fun s hs w hw => Base_c s (by omega) w hw) 257 29 (by omega) (by omega) lbase_nn n (by omega) w hw).mono ?_
  rintro e w' ⟨rfl, hw'⟩
  refine ⟨_, rfl, _, hw', ?_⟩
  clear hw' hw w w'
  repeat (first | (refine sx ?_; try intro _))
  exact JS_ret Tryz.func50 rfl rfl fun w hw => ⟨rfl, hw⟩
theorem Span_c (n : Int) (w : World) (hw : St w0 H w) :
    Calls Tryz.prog 51 #[.int .i64 n] w fun e w' => e = .returned (.tuple #[.int .i64 (spanS n).1, .int .i64 (spanS n).2.1, .int .i64 (spanS n).2.2]) ∧ St w0 H w' := by
  refine enter (vs := [.int .i64 n]) Tryz.func51 rfl rfl rfl hw ?_
  unfold spanS
  by_cases h1 : n < 1
  · rw [if_pos (.inl h1)]
    repeat (first | (refine sx ?_; try intro _))
    exact JS_ret Tryz.func51 rfl rfl fun w hw => ⟨rfl, hw⟩
  by_cases h2 : 32768 < n
  · rw [if_pos (.inr h2)]
    repeat (first | (refine sx ?_; try intro _))
    exact JS_ret Tryz.func51 rfl rfl fun w hw => ⟨rfl, hw⟩
  rw [if_neg (by omega)]
  repeat (first | (refine sx ?_; try intro _))
  refine JO_call Tryz.call93 rfl rfl fun w hw => (Greatest_c 95 lfar Tryz.call95 (fun s hs w hw => Far_c s (by omega) w hw) 0 30 (by omega) (by omega) lfar_nn n (by omega) w hw).mono ?_
  rintro e w' ⟨rfl, hw'⟩
  refine ⟨_, rfl, _, hw', ?_⟩
  clear hw' hw w w'
  repeat (first | (refine sx ?_; try intro _))
  exact JS_ret Tryz.func51 rfl rfl fun w hw => ⟨rfl, hw⟩
end
end Go.Proofs.YtbiocgenbgbfpaaGreat

namespace Go.Proofs.YtbiocgenbgbfpaaGreat
open Sx Go
set_option linter.unusedVariables false
set_option linter.unusedSimpArgs false
set_option maxHeartbeats 1000000 in
/-- a slice, cloned: not the same memory -/
theorem Clone_c {w0 : World} {H : List Asn} (p : Option Addr) (c m : Nat) (B : List Int) (hr : Rd w0 H (.slice p m c) m (ints .u8 B)) (hm : B.length = m) (hB : OKB B) (hm1 : m ≤ 140737488355328) (hpm : p = none → m = 0) (w : World) (hw : St w0 H w) :
    Calls Tryz.prog 54 #[.slice p m c] w fun e w' => ∃ q d, e = .returned (.slice q m d) ∧ St w0 (vec 5 1 (.slice q m d) m (ints .u8 B) :: H) w' := by
  refine enter (vs := [.slice p m c]) Tryz.func54 rfl rfl rfl hw ?_
  repeat (first | (apply gJO; refine JO_v (V_eqNil (tb := tb) rfl rfl rfl rfl) ?_) | (apply gJR; first | (refine sx ?_; try intro _)) | (apply gJO; first | (refine sx ?_; try intro _)) | apply JS_seq | apply JS_region)
  cases p with
  | none =>
    obtain rfl : m = 0 := hpm rfl
    obtain rfl : B = [] := List.eq_nil_of_length_eq_zero hm
    repeat (first | (refine sx ?_; try intro _))
    refine JS_ret Tryz.func54 rfl rfl ?_
    intro w hw
    exact ⟨none, 0, rfl, St.nilvec hw⟩
  | some a =>
    repeat (first | (refine sx ?_; try intro _))
    refine JO_app (tb := tb) rfl rfl rfl rfl rfl rfl (by repeat (first | exact Sel.here _ _ | apply Sel.there)) (Rd_weak hr fun w hw => St.sub (by repeat (first | exact List.Sublist.refl _ | apply List.Sublist.cons_cons | apply List.Sublist.cons)) hw) (by rw [ints_len]; omega) (by first | exact ints_one | (repeat (first | exact trivial | refine ⟨rfl, ?_⟩))) (by omega) rfl ?_
    intro q d
    repeat (first | (refine sx ?_; try intro _))
    refine JS_ret Tryz.func54 rfl rfl ?_
    intro w hw
    rw [Nat.zero_add] at hw
    exact ⟨q, d, by rw [Nat.zero_add]; rfl, hw⟩
end Go.Proofs.YtbiocgenbgbfpaaGreat

namespace Go.Proofs.YtbiocgenbgbfpaaGreat
open Sx Go
set_option linter.unusedVariables false
set_option linter.unusedSimpArgs false
/-- the cells of a set: its lengths, how many codes have each length, its symbols, whether it is full -/
def setCells (pl : Value) (f : Nat → Int) (ps : Value) (full : Bool) : List Value :=
  [pl, .int .i64 (f 0), .int .i64 (f 1), .int .i64 (f 2), .int .i64 (f 3), .int .i64 (f 4), .int .i64 (f 5), .int .i64 (f 6), .int .i64 (f 7), .int .i64 (f 8), .int .i64 (f 9), .int .i64 (f 10), .int .i64 (f 11), .int .i64 (f 12), .int .i64 (f 13), .int .i64 (f 14), .int .i64 (f 15), ps, .bool full]
theorem set_nth {pl : Value} {f : Nat → Int} {ps : Value} {full : Bool} {i : Nat} (h : i < 16) : nth (setCells pl f ps full) (1 + i) = some (.int .i64 (f i)) := by
  match i, h with
  | 0, _ | 1, _ | 2, _ | 3, _ | 4, _ | 5, _ | 6, _ | 7, _ | 8, _ | 9, _ | 10, _ | 11, _ | 12, _ | 13, _ | 14, _ | 15, _ => rfl
  | i + 16, h => exact absurd h (by omega)
theorem Full_c {w0 : World} {H : List Asn} (b : Nat) (pl : Value) (f : Nat → Int) (ps : Value) (full : Bool) (hb : blk b (setCells pl f ps full) ∈ H) (w : World) (hw : St w0 H w) :
    Calls Tryz.prog 71 #[.pointer (some ⟨b, 0, none⟩)] w fun e w' => e = .returned (.bool full) ∧ St w0 H w' := by
  refine enter (vs := [.pointer (some ⟨b, 0, none⟩)]) Tryz.func71 rfl rfl rfl hw ?_
  repeat (first | (apply gJO; refine JO_v (V_load (tb := tb) rfl hb rfl rfl rfl rfl) ?_) | (first | (refine sy ?_; try intro _)))
  refine JS_ret Tryz.func71 rfl rfl ?_
  intro w hw
  exact ⟨rfl, hw⟩
set_option maxHeartbeats 1000000 in
theorem Length_c {w0 : World} {H : List Asn} (b : Nat) (p : Option Addr) (c m : Nat) (B : List Int) (f : Nat → Int) (ps : Value) (full : Bool) (hb : blk b (setCells (.slice p m c) f ps full) ∈ H) (hr : Rd w0 H (.slice p m c) m (ints .u8 B)) (hm : B.length = m) (hB : OKB B) (k : Int) (hk : -9223372036854775808 ≤ k ∧ k < 9223372036854775808) (w : World) (hw : St w0 H w) :
    Calls Tryz.prog 59 #[.pointer (some ⟨b, 0, none⟩), .int .i64 k] w fun e w' => ∃ r, e = .returned (.int .i64 r) ∧ St w0 H w' ∧ (((k < 0 ∨ m ≤ k) ∧ r = 0) ∨ (0 ≤ k ∧ k < m ∧ r = B.getD k.toNat 0)) := by
  refine enter (vs := [.pointer (some ⟨b, 0, none⟩), .int .i64 k]) Tryz.func59 rfl rfl rfl hw ?_
  by_cases h0 : k < 0
  · repeat (first | (apply gJO; refine JO_v (V_load (tb := tb) rfl hb rfl rfl rfl rfl) ?_) | (first | (refine sx ?_; try intro _)))
    refine JS_ret Tryz.func59 rfl rfl ?_
    intro w hw
    exact ⟨_, rfl, hw, .inl ⟨.inl h0, rfl⟩⟩
  by_cases h1 : m ≤ k
  · repeat (first | (apply gJO; refine JO_v (V_load (tb := tb) rfl hb rfl rfl rfl rfl) ?_) | (first | (refine sx ?_; try intro _)))
    refine JS_ret Tryz.func59 rfl rfl ?_
    intro w hw
    exact ⟨_, rfl, hw, .inl ⟨.inr h1, rfl⟩⟩
  · obtain ⟨i, rfl⟩ := Int.eq_ofNat_of_zero_le (show 0 ≤ k by omega)
    have hb2 := hB i
    repeat (first | (apply gJO; refine JO_v (V_load (tb := tb) rfl hb rfl rfl rfl rfl) ?_) | (first | (refine sx ?_; try intro _)))
    refine JS_ret Tryz.func59 rfl rfl ?_
    intro w hw
    exact ⟨_, rfl, hw, .inr ⟨by omega, by omega, by simp⟩⟩
/-- a reader -/
theorem New_c {w0 : World} {H : List Asn} (p : Option Addr) (c m : Nat) (B : List Int) (hr : Rd w0 H (.slice p m c) m (ints .u8 B)) (hm : B.length = m) (hB : OKB B) (hm1 : m ≤ 140737488355328) (hpm : p = none → m = 0) (w : World) (hw : St w0 H w) :
    Calls Tryz.prog 27 #[.slice p m c] w fun e w' => ∃ b q d, e = .returned (.pointer (some ⟨b, 0, none⟩)) ∧ St w0 (blk b [.slice q m d, .int .i64 0] :: vec 5 1 (.slice q m d) m (ints .u8 B) :: H) w' := by
  refine enter (vs := [.slice p m c]) Tryz.func27 rfl rfl rfl hw ?_
  repeat (first | (refine sy ?_; try intro _))
  refine JO_call Tryz.call54 rfl rfl fun w hw => (Clone_c p c m B hr hm hB hm1 hpm w hw).mono ?_
  rintro e w' ⟨q, d, rfl, hw'⟩
  refine ⟨_, rfl, _, hw', ?_⟩
  clear hw' hw w w'
  repeat (first | (refine sy ?_; try intro _))
  rename_i b
  refine JS_ret Tryz.func27 rfl rfl ?_
  intro w hw
  exact ⟨b, q, d, rfl, hw⟩
theorem ReaderAt_c {w0 : World} {H : List Asn} (b : Nat) (u : Value) (n : Int) (hb : blk b [u, .int .i64 n] ∈ H) (w : World) (hw : St w0 H w) :
    Calls Tryz.prog 33 #[.pointer (some ⟨b, 0, none⟩)] w fun e w' => e = .returned (.int .i64 n) ∧ St w0 H w' := by
  refine enter (vs := [.pointer (some ⟨b, 0, none⟩)]) Tryz.func33 rfl rfl rfl hw ?_
  repeat (first | (apply gJO; refine JO_v (V_load (tb := tb) rfl hb rfl rfl rfl rfl) ?_) | (first | (refine sy ?_; try intro _)))
  refine JS_ret Tryz.func33 rfl rfl ?_
  intro w hw
  exact ⟨rfl, hw⟩
end Go.Proofs.YtbiocgenbgbfpaaGreat

namespace Go.Proofs.YtbiocgenbgbfpaaGreat
open Sx Go
set_option linter.unusedVariables false
set_option linter.unusedSimpArgs false
theorem set_nth' {pl : Value} {f : Nat → Int} {ps : Value} {full : Bool} {i : Nat} (h : i < 16) : nth (setCells pl f ps full) (0 + 1 + (i : Int).toNat * 1) = some (.int .i64 (f i)) := by
  rw [show 0 + 1 + (i : Int).toNat * 1 = 1 + i by omega]; exact set_nth h
theorem set_upd {pl : Value} {f : Nat → Int} {ps : Value} {full : Bool} {i : Nat} {v : Int} (h : i < 16) : setSeg (setCells pl f ps full) (0 + 1 + (i : Int).toNat * 1) [.int .i64 v] = some (setCells pl (fun j => if j = i then v else f j) ps full) := by
  match i, h with
  | 0, _ | 1, _ | 2, _ | 3, _ | 4, _ | 5, _ | 6, _ | 7, _ | 8, _ | 9, _ | 10, _ | 11, _ | 12, _ | 13, _ | 14, _ | 15, _ => rfl
  | i + 16, h => exact absurd h (by omega)
/-- how many lengths are k -/
def cn (l : List Int) (k : Nat) : Int := if k = 0 then 0 else (l.countP (fun x => x == (k : Int)) : Nat)
/-- what codes take, of 32768 -/
def tk : List Int → Int
  | [] => 0
  | x :: r => (if 0 < x then 2 ^ (15 - x.toNat) else 0) + tk r
theorem tk_app (A B : List Int) : tk (A ++ B) = tk A + tk B := by
  induction A with
  | nil => simp [tk]
  | cons x r ih => simp only [List.cons_append, tk, ih]; omega
theorem btake (B : List Int) (i : Nat) (h : i < B.length) : B.take (i + 1) = B.take i ++ [B.getD i 0] := by
  rw [List.take_succ_eq_append_getElem h]; simp [h]
theorem cn_step (B : List Int) (i : Nat) (h : i < B.length) (n : Nat) (hn : B.getD i 0 = (n : Int)) (h0 : 0 < n) : cn (B.take (i + 1)) = fun j => if j = n then cn (B.take i) n + 1 else cn (B.take i) j := by
  funext j
  unfold cn
  rw [btake B i h, List.countP_append, hn]
  by_cases hj : j = n
  · subst hj
    have : ¬ j = 0 := by omega
    simp [this]
  · rw [if_neg hj]
    have : ¬ ((n : Int) == (j : Int)) = true := by simp; omega
    simp [this]
theorem cn_zero (B : List Int) (i : Nat) (h : i < B.length) (hn : B.getD i 0 = 0) : cn (B.take (i + 1)) = cn (B.take i) := by
  funext j
  unfold cn
  rw [btake B i h, List.countP_append, hn]
  by_cases hj : j = 0
  · simp [hj]
  · have : ¬ ((0 : Int) == (j : Int)) = true := by simp; omega
    simp [hj, this]
theorem p2_bd (n : Nat) (h : n ≤ 15) : (1 : Int) ≤ 2 ^ (15 - n) ∧ (2 : Int) ^ (15 - n) ≤ 32768 := by
  have : ∀ k : Fin 16, (1 : Int) ≤ 2 ^ k.val ∧ (2 : Int) ^ k.val ≤ 32768 := by decide +kernel
  exact this ⟨15 - n, by omega⟩
theorem tk_step (B : List Int) (i : Nat) (h : i < B.length) (n : Nat) (hn : B.getD i 0 = (n : Int)) : tk (B.take (i + 1)) = tk (B.take i) + (if 0 < n then 2 ^ (15 - n) else 0) := by
  rw [btake B i h, tk_app, hn]
  simp only [tk, Int.add_zero, Int.toNat_natCast]
  by_cases h0 : 0 < n
  · simp [h0]
  · have : n = 0 := by omega
    subst this; simp
end Go.Proofs.YtbiocgenbgbfpaaGreat

namespace Go.Proofs.YtbiocgenbgbfpaaGreat
open Sx Go
set_option linter.unusedVariables false
set_option linter.unusedSimpArgs false
theorem ints_app1 {K : IntKind} {l : List Int} {x : Int} : ints K l ++ [.int K x] = ints K (l ++ [x]) := by simp [ints]
/-- a table by its places -/
def tab (n : Nat) (f : Nat → Int) : List Int := (List.range n).map f
theorem tab_len (n : Nat) (f : Nat → Int) : (tab n f).length = n := by simp [tab]
theorem tab_set (n : Nat) (f : Nat → Int) (i : Nat) (v : Int) : (tab n f).set i v = tab n fun j => if j = i then v else f j := by
  apply List.ext_getElem?
  intro j
  unfold tab
  rw [List.getElem?_set]
  by_cases hj : j < n
  · by_cases hij : i = j
    · subst hij; simp [hj]
    · rw [if_neg hij]; simp [hj, Ne.symm hij, show ¬ j = i from fun h => hij h.symm]
  · rw [List.getElem?_eq_none (l := (List.range n).map _) (by simp; omega)]
    by_cases hij : i = j
    · subst hij; simp [hj]
    · simp [hij, hj]
theorem tab_congr {n : Nat} {f g : Nat → Int} (h : ∀ j, j < n → f j = g j) : tab n f = tab n g := by
  unfold tab
  apply List.map_congr_left
  intro j hj
  exact h j (by simpa using hj)
theorem tab_succ (n : Nat) (f : Nat → Int) : tab (n + 1) f = tab n f ++ [f n] := by simp [tab, List.range_succ]
theorem tab_const (n : Nat) (x : Int) : List.replicate n x = tab n fun _ => x := by
  unfold tab
  rw [show (fun _ : Nat => x) = Function.const _ x from rfl, List.map_const, List.length_range]
theorem tab_get {n : Nat} {f : Nat → Int} {j : Nat} (h : j < n) : (tab n f).getD j 0 = f j := by simp [tab, List.getD_eq_getElem?_getD, h]
theorem tab_out {n : Nat} {f : Nat → Int} {j : Nat} (h : n ≤ j) : (tab n f).getD j 0 = 0 := by
  rw [List.getD_eq_getElem?_getD, List.getElem?_eq_none (by rw [tab_len]; exact h)]; rfl
end Go.Proofs.YtbiocgenbgbfpaaGreat

namespace Go.Proofs.YtbiocgenbgbfpaaGreat
open Sx Go
set_option linter.unusedVariables false
set_option linter.unusedSimpArgs false
/-- the first j symbols' places that have the length n -/
def sy1 (B : List Int) (n j : Nat) : List Int := ((List.range j).filter (fun i => B.getD i 0 == (n : Int))).map (fun i : Nat => (i : Int))
theorem sy1_yes {B : List Int} {n j : Nat} (h : B.getD j 0 = (n : Int)) : sy1 B n (j + 1) = sy1 B n j ++ [(j : Int)] := by
  unfold sy1
  have : (B.getD j 0 == (n : Int)) = true := by simpa using h
  rw [List.range_succ, List.filter_append, List.map_append]
  simp only [List.filter_cons, this, if_true, List.filter_nil, List.map_cons, List.map_nil]
theorem sy1_no {B : List Int} {n j : Nat} (h : ¬ B.getD j 0 = (n : Int)) : sy1 B n (j + 1) = sy1 B n j := by
  unfold sy1
  have : (B.getD j 0 == (n : Int)) = false := by simpa using h
  rw [List.range_succ, List.filter_append, List.map_append]
  simp only [List.filter_cons, this, List.filter_nil, Bool.false_eq_true, if_false, List.map_nil, List.append_nil]
theorem sy1_len (B : List Int) (n j : Nat) : (sy1 B n j).length ≤ j := by
  unfold sy1
  rw [List.length_map]
  exact Nat.le_trans (List.length_filter_le _ _) (by simp)
/-- the symbols of the lengths 1 to n -/
def syA (B : List Int) : Nat → List Int
  | 0 => []
  | n + 1 => syA B n ++ sy1 B (n + 1) B.length
theorem syA_len (B : List Int) : ∀ n, (syA B n).length ≤ n * B.length
  | 0 => by simp [syA]
  | n + 1 => by
    have := syA_len B n
    have := sy1_len B (n + 1) B.length
    simp only [syA, List.length_append, Nat.add_mul, Nat.one_mul]; omega
set_option maxHeartbeats 4000000 in
theorem Make_c {w0 : World} {H : List Asn} (p : Option Addr) (c m : Nat) (B : List Int) (hr : Rd w0 H (.slice p m c) m (ints .u8 B)) (hm : B.length = m) (hB : OKB B) (hm1 : m ≤ 140737488355328) (hpm : p = none → m = 0) (w : World) (hw : St w0 H w) :
    Calls Tryz.prog 19 #[.slice p m c] w fun e w' => ∃ u r, e = .returned (.tuple #[u, .int .i64 r]) ∧
      (((320 < m ∨ ∃ j, 15 < B.getD j 0) ∧ u = .pointer none ∧ r = 1 ∧ St w0 H w') ∨
       (m ≤ 320 ∧ (∀ j, B.getD j 0 ≤ 15) ∧ ¬ (tk B = 32768 ∨ (syA B 15).length = 0 ∨ ((syA B 15).length = 1 ∧ cn B 1 = 1)) ∧ u = .pointer none ∧ r = 62 ∧ St w0 H w') ∨
       (m ≤ 320 ∧ (∀ j, B.getD j 0 ≤ 15) ∧ (tk B = 32768 ∨ (syA B 15).length = 0 ∨ ((syA B 15).length = 1 ∧ cn B 1 = 1)) ∧ r = 0 ∧ ∃ b q d s k, u = .pointer (some ⟨b, 0, none⟩) ∧
        St w0 (vec 3 1 (.slice s (syA B 15).length k) (syA B 15).length (ints .i64 (syA B 15)) :: blk b (setCells (.slice q m d) (cn B) (.slice s (syA B 15).length k) (decide (tk B = 32768))) :: vec 5 1 (.slice q m d) m (ints .u8 B) :: H) w')) := by
  refine enter (vs := [.slice p m c]) Tryz.func19 rfl rfl rfl hw ?_
  by_cases hbig : 320 < m
  · repeat (first | (refine sx ?_; try intro _))
    refine JS_ret Tryz.func19 rfl rfl ?_
    intro w hw
    exact ⟨_, _, rfl, .inl ⟨.inl hbig, rfl, rfl, hw⟩⟩
  repeat (first | (refine sx ?_; try intro _))
  refine JO_call Tryz.call52 rfl rfl fun w hw => (Contains_c p c m B hr hm hB (by omega) w hw).mono ?_
  rintro e w' ⟨o, rfl, hw', h1⟩
  refine ⟨_, rfl, _, hw', ?_⟩
  clear hw' hw w w'
  rcases h1 with ⟨rfl, h15⟩ | ⟨rfl, h15⟩
  case' inr =>
    repeat (first | (refine sx ?_; try intro _))
    refine JS_ret Tryz.func19 rfl rfl ?_
    intro w hw
    exact ⟨_, _, rfl, .inl ⟨.inr h15, rfl, rfl, hw⟩⟩
  repeat (first | (refine sx ?_; try intro _))
  refine JO_call Tryz.call54 rfl rfl fun w hw => (Clone_c p c m B hr hm hB hm1 hpm w hw).mono ?_
  rintro e w' ⟨q, d, rfl, hw'⟩
  refine ⟨_, rfl, _, hw', ?_⟩
  clear hw' hw w w'
  repeat (first | (apply gJR; first | (refine sx ?_; try intro _)) | (apply gJO; first | (refine sx ?_; try intro _)) | apply JS_seq | apply JS_region)
  rename_i b
  refine JS_block ?_
  refine JS_loop1 (fun (i : Nat) => [(0, .slice p m c), (4, .pointer (some ⟨b, 0, none⟩)), (5, .int .i64 (tk (B.take i))), (23, .slice p m c), (24, .int .i64 m), (25, .int .i64 i)]) (fun i => blk b (setCells (.slice q m d) (cn (B.take i)) (.slice none 0 0) false) :: vec 5 1 (.slice q m d) m (ints .u8 B) :: H)
    (fun i => i ≤ m ∧ 0 ≤ tk (B.take i) ∧ tk (B.take i) ≤ 32768 * i) (fun i => m - i) 0 ⟨by omega, by simp [tk], by simp [tk]⟩ (by repeat (first | exact trivial | refine ⟨rfl, ?_⟩ | refine ⟨lookI rfl (by omega), ?_⟩)) (fun _ h => h) ?_
  intro i ⟨hi, ht0, ht1⟩ again
  have hr' : Rd w0 (blk b (setCells (.slice q m d) (cn (B.take i)) (.slice none 0 0) false) :: vec 5 1 (.slice q m d) m (ints .u8 B) :: H) (.slice p m c) m (ints .u8 B) := Rd_weak hr fun w hw => St.sub (by repeat (first | exact List.Sublist.refl _ | apply List.Sublist.cons_cons | apply List.Sublist.cons)) hw
  by_cases him : i < m
  · have hb := hB i
    have hb15 := h15 i
    obtain ⟨n, hn⟩ := Int.eq_ofNat_of_zero_le hb.1
    have gi : (ints .u8 B)[i]? = some (.int .u8 (n : Int)) := by rw [← hn]; exact ints_get (by omega)
    have hn15 : n ≤ 15 := by omega
    have hts := tk_step B i (by omega) n hn
    have hp2 := p2_bd n hn15
    have hm2 : min ((15 : Int) - (n : Int)).toNat IntKind.i64.bits = 15 - n := by show min _ 64 = _; omega
    have hq2 : (1 : Int) * 2 ^ (15 - n) = 2 ^ (15 - n) := Int.one_mul _
    by_cases h0 : 0 < n
    · rw [if_pos h0] at hts
      have hcs := cn_step B i (by omega) n hn h0
      obtain ⟨P, hP⟩ : ∃ P, (2 : Int) ^ (15 - n) = P := ⟨_, rfl⟩
      rw [hP] at hts hp2
      have hcn0 : 0 ≤ cn (B.take i) n ∧ cn (B.take i) n ≤ 320 := by
        unfold cn
        split
        · omega
        · have := List.countP_le_length (p := fun x => x == (n : Int)) (l := B.take i)
          have : (B.take i).length ≤ i := by simp; omega
          omega
      clear hb hn hb15
      repeat (first | (apply gJO; refine JO_v (V_loadC (tb := tb) rfl (by first | exact vec_rd (by repeat (first | apply List.Mem.head | apply List.Mem.tail)) | assumption | exact ArgRd.rd (by assumption) _ | (apply Rd_weak; assumption; intro _ hx; exact St.sub (by repeat (first | exact List.Sublist.refl _ | apply List.Sublist.cons_cons | apply List.Sublist.cons)) hx)) rfl rfl gi rfl) ?_) | (apply gJO; refine JO_v (V_shl (m := 15 - n) (c := P) rfl rfl (by omega) hm2 (by rw [hq2, hP]; exact wi64 (by omega)) rfl) ?_) | (apply gQO; refine QO_v rfl (V_load (tb := tb) rfl (List.Mem.head _) rfl rfl (set_nth' (by omega)) rfl) ?_) | (apply gQO; refine QO_k rfl (K_store (tb := tb) rfl rfl (Upd.here _ _ _) rfl rfl rfl (by repeat (first | exact trivial | refine ⟨rfl, ?_⟩)) (set_upd (by omega)) rfl) rfl ?_) | (first | (refine sx ?_; try intro _)))
      exact JS_again1 again (i + 1) ⟨by omega, by omega, by omega⟩ (by omega) (by repeat (first | exact trivial | refine ⟨rfl, ?_⟩ | refine ⟨lookI rfl (by omega), ?_⟩)) (fun w hw => by rw [hcs]; exact hw)
    · obtain rfl : n = 0 := by omega
      rw [if_neg h0] at hts
      have hcs := cn_zero B i (by omega) hn
      clear hb hn hb15
      repeat (first | (apply gJO; refine JO_v (V_loadC (tb := tb) rfl (by first | exact vec_rd (by repeat (first | apply List.Mem.head | apply List.Mem.tail)) | assumption | exact ArgRd.rd (by assumption) _ | (apply Rd_weak; assumption; intro _ hx; exact St.sub (by repeat (first | exact List.Sublist.refl _ | apply List.Sublist.cons_cons | apply List.Sublist.cons)) hx)) rfl rfl gi rfl) ?_) | (first | (refine sx ?_; try intro _)))
      exact JS_again1 again (i + 1) ⟨by omega, by omega, by omega⟩ (by omega) (by repeat (first | exact trivial | refine ⟨rfl, ?_⟩ | refine ⟨lookI rfl (by omega), ?_⟩)) (fun w hw => by rw [hcs]; exact hw)
  obtain rfl : i = m := by omega
  have e1 : B.take i = B := List.take_of_length_le (by omega)
  rw [e1] at ht0 ht1
  rw [e1]
  clear again hr'
  have hsl : ∀ n j, n ≤ 15 → j ≤ i → (syA B n ++ sy1 B (n + 1) j).length ≤ 5120 := fun n j hn hj => by
    have h1 := syA_len B n
    have h2 := sy1_len B (n + 1) j
    have h3 : n * B.length ≤ 15 * 320 := Nat.mul_le_mul hn (by omega)
    rw [List.length_append]; omega
  repeat (first | (apply gJR; first | (refine sx ?_; try intro _)) | (apply gJO; first | (refine sx ?_; try intro _)) | apply JS_seq | apply JS_region | refine JS_condF rfl ?_ | refine JS_exit rfl ?_ | apply JS_skip | (apply gJS; refine JS_inBlock ?_))
  refine JS_block ?_
  refine JS_loop3 (fun (n : Nat) (s : Option Addr) (k : Nat) => [(0, .slice p i c), (4, .pointer (some ⟨b, 0, none⟩)), (5, .int .i64 (tk B)), (8, .int .u8 (n + 1))])
    (fun n s k => vec 3 1 (.slice s (syA B n).length k) (syA B n).length (ints .i64 (syA B n)) :: blk b (setCells (.slice q i d) (cn B) (.slice s (syA B n).length k) false) :: vec 5 1 (.slice q i d) i (ints .u8 B) :: H)
    (fun n _ _ => n ≤ 15) (fun n _ _ => 15 - n) 0 none 0 (by omega) (by repeat (first | exact trivial | refine ⟨rfl, ?_⟩ | refine ⟨lookI rfl (by omega), ?_⟩)) (fun _ h => St.nilvec h) ?_
  intro n s k hn again
  by_cases hn15 : n < 15
  · repeat (first | (apply gJR; first | (refine sx ?_; try intro _)) | (apply gJO; first | (refine sx ?_; try intro _)) | apply JS_seq | apply JS_region | refine JS_condT rfl ?_ | refine JS_cond_T rfl (by omega) ?_ | apply JS_skip | (apply gJS; refine JS_inBlock ?_) | (refine JS_block ?_; apply JS_seq; apply JS_region) )
    refine JS_block ?_
    refine JS_loop3 (fun (j : Nat) (s : Option Addr) (k : Nat) => [(0, .slice p i c), (4, .pointer (some ⟨b, 0, none⟩)), (5, .int .i64 (tk B)), (8, .int .u8 (n + 1)), (51, .slice p i c), (52, .int .i64 i), (53, .int .i64 j)])
      (fun j s k => vec 3 1 (.slice s (syA B n ++ sy1 B (n + 1) j).length k) (syA B n ++ sy1 B (n + 1) j).length (ints .i64 (syA B n ++ sy1 B (n + 1) j)) :: blk b (setCells (.slice q i d) (cn B) (.slice s (syA B n ++ sy1 B (n + 1) j).length k) false) :: vec 5 1 (.slice q i d) i (ints .u8 B) :: H)
      (fun j _ _ => j ≤ i) (fun j _ _ => i - j) 0 s k (by omega) (by repeat (first | exact trivial | refine ⟨rfl, ?_⟩ | refine ⟨lookI rfl (by omega), ?_⟩)) (fun w hw => by rw [show sy1 B (n + 1) 0 = [] from rfl, List.append_nil]; exact hw) ?_
    intro j s k hj again2
    have hlen := hsl n j (by omega) hj
    have hr' : Rd w0 (vec 3 1 (.slice s (syA B n ++ sy1 B (n + 1) j).length k) (syA B n ++ sy1 B (n + 1) j).length (ints .i64 (syA B n ++ sy1 B (n + 1) j)) :: blk b (setCells (.slice q i d) (cn B) (.slice s (syA B n ++ sy1 B (n + 1) j).length k) false) :: vec 5 1 (.slice q i d) i (ints .u8 B) :: H) (.slice p i c) i (ints .u8 B) := Rd_weak hr fun w hw => St.sub (by repeat (first | exact List.Sublist.refl _ | apply List.Sublist.cons_cons | apply List.Sublist.cons)) hw
    by_cases hji : j < i
    · have gj : (ints .u8 B)[j]? = some (.int .u8 (B.getD j 0)) := ints_get (by omega)
      by_cases heq : B.getD j 0 = ((n + 1 : Nat) : Int)
      · have hs1 := sy1_yes heq
        have heq' : B.getD j 0 = (n : Int) + 1 := by omega
        clear heq
        generalize hS : syA B n ++ sy1 B (n + 1) j = S at *
        have hS2 : syA B n ++ sy1 B (n + 1) (j + 1) = S ++ [(j : Int)] := by rw [hs1, ← hS, List.append_assoc]
        repeat (first | (apply gJO; refine JO_v (V_loadC (tb := tb) rfl (by first | exact vec_rd (by repeat (first | apply List.Mem.head | apply List.Mem.tail)) | assumption | exact ArgRd.rd (by assumption) _ | (apply Rd_weak; assumption; intro _ hx; exact St.sub (by repeat (first | exact List.Sublist.refl _ | apply List.Sublist.cons_cons | apply List.Sublist.cons)) hx)) rfl rfl gj rfl) ?_) | (first | (refine sx ?_; try intro _)))
        (refine JO_app (tb := tb) rfl rfl rfl rfl rfl rfl (by repeat (first | exact Sel.here _ _ | apply Sel.there)) (by first | exact vec_rd (by repeat (first | apply List.Mem.head | apply List.Mem.tail)) | assumption | exact ArgRd.rd (by assumption) _ | (apply Rd_weak; assumption; intro _ hx; exact St.sub (by repeat (first | exact List.Sublist.refl _ | apply List.Sublist.cons_cons | apply List.Sublist.cons)) hx)) (by simp only [ints_len, List.length_cons, List.length_nil]; first | omega | rfl) (by first | exact ints_one | (repeat (first | exact trivial | refine ⟨rfl, ?_⟩))) (by omega) rfl ?_; intro _ _)
        rename_i s' k'
        repeat (first | (refine sx ?_; try intro _))
        exact JS_again3 again2 (j + 1) s' k' (by omega) (by omega) (by repeat (first | exact trivial | refine ⟨rfl, ?_⟩ | refine ⟨lookI rfl (by omega), ?_⟩)) (fun w hw => by
          rw [hS2, show (S ++ [(j : Int)]).length = S.length + 1 from by simp, ← ints_app1]; exact St.sub (by repeat (first | exact List.Sublist.refl _ | apply List.Sublist.cons_cons | apply List.Sublist.cons)) hw)
      · have hs1 := sy1_no heq
        have heq' : ¬ B.getD j 0 = (n : Int) + 1 := by omega
        clear heq
        repeat (first | (apply gJO; refine JO_v (V_loadC (tb := tb) rfl (by first | exact vec_rd (by repeat (first | apply List.Mem.head | apply List.Mem.tail)) | assumption | exact ArgRd.rd (by assumption) _ | (apply Rd_weak; assumption; intro _ hx; exact St.sub (by repeat (first | exact List.Sublist.refl _ | apply List.Sublist.cons_cons | apply List.Sublist.cons)) hx)) rfl rfl gj rfl) ?_) | (first | (refine sx ?_; try intro _)))
        exact JS_again3 again2 (j + 1) s k (by omega) (by omega) (by repeat (first | exact trivial | refine ⟨rfl, ?_⟩ | refine ⟨lookI rfl (by omega), ?_⟩)) (fun w hw => by rw [hs1]; exact St.sub (by repeat (first | exact List.Sublist.refl _ | apply List.Sublist.cons_cons | apply List.Sublist.cons)) hw)
    · obtain rfl : j = i := by omega
      clear again2
      have hS2 : syA B (n + 1) = syA B n ++ sy1 B (n + 1) j := by rw [← hm]; rfl
      rw [← hS2]
      repeat (first | (refine sx ?_; try intro _))
      exact JS_again3 again (n + 1) s k (by omega) (by omega) (by repeat (first | exact trivial | refine ⟨rfl, ?_⟩ | refine ⟨lookI rfl (by omega), ?_⟩)) (fun w hw => St.sub (by repeat (first | exact List.Sublist.refl _ | apply List.Sublist.cons_cons | apply List.Sublist.cons)) hw)
  obtain rfl : n = 15 := by omega
  have hlen := hsl 15 0 (by omega) (by omega)
  rw [show sy1 B (15 + 1) 0 = [] from rfl, List.append_nil] at hlen
  obtain ⟨S, hS⟩ : ∃ S, S = syA B 15 := ⟨_, rfl⟩
  rw [← hS] at hlen
  rw [← hS]
  clear again hsl
  by_cases hf : tk B = 32768
  · by_cases hl1 : S.length = 1
    · by_cases hc1 : cn B 1 = 1
      · repeat (first | (refine sx ?_; try intro _))
        refine JS_ret Tryz.func19 rfl rfl ?_
        intro w hw
        exact ⟨_, _, rfl, .inr (.inr ⟨by omega, h15, by omega, rfl, b, q, d, s, k, rfl, by rw [decide_eq_true hf]; exact hw⟩)⟩
      · repeat (first | (refine sx ?_; try intro _))
        refine JS_ret Tryz.func19 rfl rfl ?_
        intro w hw
        exact ⟨_, _, rfl, .inr (.inr ⟨by omega, h15, by omega, rfl, b, q, d, s, k, rfl, by rw [decide_eq_true hf]; exact hw⟩)⟩
    · by_cases hl0 : S.length = 0
      · repeat (first | (refine sx ?_; try intro _))
        refine JS_ret Tryz.func19 rfl rfl ?_
        intro w hw
        exact ⟨_, _, rfl, .inr (.inr ⟨by omega, h15, by omega, rfl, b, q, d, s, k, rfl, by rw [decide_eq_true hf]; exact hw⟩)⟩
      · repeat (first | (refine sx ?_; try intro _))
        refine JS_ret Tryz.func19 rfl rfl ?_
        intro w hw
        exact ⟨_, _, rfl, .inr (.inr ⟨by omega, h15, by omega, rfl, b, q, d, s, k, rfl, by rw [decide_eq_true hf]; exact hw⟩)⟩
  · by_cases hl1 : S.length = 1
    · by_cases hc1 : cn B 1 = 1
      · repeat (first | (refine sx ?_; try intro _))
        refine JS_ret Tryz.func19 rfl rfl ?_
        intro w hw
        exact ⟨_, _, rfl, .inr (.inr ⟨by omega, h15, by omega, rfl, b, q, d, s, k, rfl, by rw [decide_eq_false hf]; exact hw⟩)⟩
      · repeat (first | (refine sx ?_; try intro _))
        refine JS_ret Tryz.func19 rfl rfl ?_
        intro w hw
        exact ⟨_, _, rfl, .inr (.inl ⟨by omega, h15, by omega, rfl, rfl, St.sub (by repeat (first | exact List.Sublist.refl _ | apply List.Sublist.cons_cons | apply List.Sublist.cons)) hw⟩)⟩
    · by_cases hl0 : S.length = 0
      · repeat (first | (refine sx ?_; try intro _))
        refine JS_ret Tryz.func19 rfl rfl ?_
        intro w hw
        exact ⟨_, _, rfl, .inr (.inr ⟨by omega, h15, by omega, rfl, b, q, d, s, k, rfl, by rw [decide_eq_false hf]; exact hw⟩)⟩
      · repeat (first | (refine sx ?_; try intro _))
        refine JS_ret Tryz.func19 rfl rfl ?_
        intro w hw
        exact ⟨_, _, rfl, .inr (.inl ⟨by omega, h15, by omega, rfl, rfl, St.sub (by repeat (first | exact List.Sublist.refl _ | apply List.Sublist.cons_cons | apply List.Sublist.cons)) hw⟩)⟩
end Go.Proofs.YtbiocgenbgbfpaaGreat

namespace Go.Proofs.YtbiocgenbgbfpaaGreat
open Sx Go
set_option linter.unusedVariables false
set_option linter.unusedSimpArgs false
theorem mask1_u8 {a : Int} (ha : 0 ≤ a ∧ a < 256) : IntKind.u8.wrap ((BitVec.ofInt IntKind.u8.bits a &&& BitVec.ofInt IntKind.u8.bits 1).toNat) = a % 2 := by
  obtain ⟨n, rfl⟩ := Int.eq_ofNat_of_zero_le ha.1
  have : ∀ k : Fin 256, IntKind.u8.wrap ((BitVec.ofInt IntKind.u8.bits (k.val : Int) &&& BitVec.ofInt IntKind.u8.bits 1).toNat) = (k.val : Int) % 2 := by decide +kernel
  exact this ⟨n, by omega⟩
theorem or0_u32 {x : Int} (hx : x = 0 ∨ x = 1) : IntKind.u32.wrap ((BitVec.ofInt IntKind.u32.bits 0 ||| BitVec.ofInt IntKind.u32.bits x).toNat) = x := by
  rcases hx with rfl | rfl <;> decide +kernel
theorem Left_c {w0 : World} {H : List Asn} (b : Nat) (q : Option Addr) (d m : Nat) (n : Int) (hb : blk b [.slice q m d, .int .i64 n] ∈ H) (hm1 : m ≤ 140737488355328) (hn : 0 ≤ n ∧ n ≤ 8 * m) (w : World) (hw : St w0 H w) :
    Calls Tryz.prog 105 #[.pointer (some ⟨b, 0, none⟩)] w fun e w' => e = .returned (.int .i64 (8 * m - n)) ∧ St w0 H w' := by
  refine enter (vs := [.pointer (some ⟨b, 0, none⟩)]) Tryz.func105 rfl rfl rfl hw ?_
  repeat (first | (apply gQO; refine QO_v rfl (V_load (tb := tb) rfl hb rfl rfl rfl rfl) ?_) | (first | (refine sy ?_; try intro _)))
  refine JS_ret Tryz.func105 rfl rfl ?_
  intro w hw
  exact ⟨rfl, hw⟩
set_option maxHeartbeats 2000000 in
/-- one bit -/
theorem Bit1_c {w0 : World} {H : List Asn} (b : Nat) (q : Option Addr) (d m : Nat) (B : List Int) (hr : Rd w0 H (.slice q m d) m (ints .u8 B)) (hm : B.length = m) (hB : OKB B) (hm1 : m ≤ 140737488355328) (n : Nat) (hn : n ≤ 8 * m) (w : World) (hw : St w0 (blk b [.slice q m d, .int .i64 n] :: H) w) :
    Calls Tryz.prog 73 #[.pointer (some ⟨b, 0, none⟩), .int .i64 1] w fun e w' => ∃ x r, e = .returned (.tuple #[.int .u32 x, .int .i64 r]) ∧
      ((n = 8 * m ∧ x = 0 ∧ r = 20 ∧ St w0 (blk b [.slice q m d, .int .i64 n] :: H) w') ∨ (n < 8 * m ∧ r = 0 ∧ x = B.getD (n / 8) 0 / 2 ^ (n % 8) % 2 ∧ St w0 (blk b [.slice q m d, .int .i64 (n + 1 : Nat)] :: H) w')) := by
  have hr' : Rd w0 (blk b [.slice q m d, .int .i64 n] :: H) (.slice q m d) m (ints .u8 B) := Rd_weak hr fun w hw => St.sub (by repeat (first | exact List.Sublist.refl _ | apply List.Sublist.cons_cons | apply List.Sublist.cons)) hw
  refine enter (vs := [.pointer (some ⟨b, 0, none⟩), .int .i64 1]) Tryz.func73 rfl rfl rfl hw ?_
  repeat (first | (refine sx ?_; try intro _))
  refine JO_call Tryz.call105 rfl rfl fun w hw => (Left_c b q d m n (List.Mem.head _) hm1 (by omega) w hw).mono ?_
  rintro e w' ⟨rfl, hw'⟩
  refine ⟨_, rfl, _, hw', ?_⟩
  clear hw' hw w w'
  by_cases hend : n = 8 * m
  · repeat (first | (refine sx ?_; try intro _))
    refine JS_ret Tryz.func73 rfl rfl ?_
    intro w hw
    exact ⟨_, _, rfl, .inl ⟨hend, rfl, rfl, hw⟩⟩
  · have hb := hB (n / 8)
    have gi : (ints .u8 B)[n / 8]? = some (.int .u8 (B.getD (n / 8) 0)) := ints_get (by omega)
    have hs : min ((n : Int) % 8).toNat IntKind.u8.bits = n % 8 := by show min _ 8 = _; omega
    obtain ⟨y, hy⟩ : ∃ y, B.getD (n / 8) 0 / 2 ^ (n % 8) = y := ⟨_, rfl⟩
    have hpos : (0 : Int) < 2 ^ (n % 8) := Int.pow_pos (by decide)
    have hy0 : 0 ≤ y := by rw [← hy]; exact Int.ediv_nonneg hb.1 (Int.le_of_lt hpos)
    have hy1 : y < 256 := by
      rw [← hy]
      exact Int.lt_of_le_of_lt (Int.ediv_le_self _ hb.1) hb.2
    have hz : y % 2 = 0 ∨ y % 2 = 1 := by omega
    rw [hy]
    repeat (first | (apply gQO; refine QO_v rfl (V_loadC (tb := tb) rfl hr' rfl rfl gi rfl) ?_) | (apply gQO; refine QO_v rfl (V_shr (m := n % 8) rfl rfl (by omega) hs hy rfl) ?_) | (apply gQO; refine QO_v rfl (V_and rfl rfl (mask1_u8 ⟨hy0, hy1⟩) rfl) ?_) | (apply gQO; refine QO_v rfl (V_shl (m := 0) (c := y % 2) rfl rfl (by omega) rfl (by rw [show y % 2 * 2 ^ 0 = y % 2 from by omega]; exact wu32 (by omega)) rfl) ?_) | (apply gQO; refine QO_v rfl (V_or rfl rfl (or0_u32 hz) rfl) ?_) | refine JS_loop' ?_ | refine JS_inLoop ?_ | (first | (refine sx ?_; try intro _)))
    refine JS_ret Tryz.func73 rfl rfl ?_
    intro w hw
    exact ⟨_, _, rfl, .inr ⟨by omega, rfl, rfl, hw⟩⟩
theorem Bit_c {w0 : World} {H : List Asn} (b : Nat) (q : Option Addr) (d m : Nat) (B : List Int) (hr : Rd w0 H (.slice q m d) m (ints .u8 B)) (hm : B.length = m) (hB : OKB B) (hm1 : m ≤ 140737488355328) (n : Nat) (hn : n ≤ 8 * m) (w : World) (hw : St w0 (blk b [.slice q m d, .int .i64 n] :: H) w) :
    Calls Tryz.prog 124 #[.pointer (some ⟨b, 0, none⟩)] w fun e w' => ∃ x r, e = .returned (.tuple #[.int .u32 x, .int .i64 r]) ∧
      ((n = 8 * m ∧ x = 0 ∧ r = 20 ∧ St w0 (blk b [.slice q m d, .int .i64 n] :: H) w') ∨ (n < 8 * m ∧ r = 0 ∧ x = B.getD (n / 8) 0 / 2 ^ (n % 8) % 2 ∧ St w0 (blk b [.slice q m d, .int .i64 (n + 1 : Nat)] :: H) w')) := by
  refine enter (vs := [.pointer (some ⟨b, 0, none⟩)]) Tryz.func124 rfl rfl rfl hw ?_
  repeat (first | (refine sx ?_; try intro _))
  refine JO_call Tryz.call73 rfl rfl fun w hw => (Bit1_c b q d m B hr hm hB hm1 n hn w hw).mono ?_
  rintro e w' ⟨x, r, rfl, h⟩
  rcases h with ⟨h1, rfl, rfl, hw'⟩ | ⟨h1, rfl, hx, hw'⟩
  · refine ⟨_, rfl, _, hw', ?_⟩
    repeat (first | (refine sx ?_; try intro _))
    refine JS_ret Tryz.func124 rfl rfl ?_
    intro w hw
    exact ⟨_, _, rfl, .inl ⟨h1, rfl, rfl, hw⟩⟩
  · refine ⟨_, rfl, _, hw', ?_⟩
    repeat (first | (refine sx ?_; try intro _))
    refine JS_ret Tryz.func124 rfl rfl ?_
    intro w hw
    exact ⟨_, _, rfl, .inr ⟨h1, rfl, hx, hw⟩⟩
end Go.Proofs.YtbiocgenbgbfpaaGreat

namespace Go.Proofs.YtbiocgenbgbfpaaGreat
open Sx Go
set_option linter.unusedVariables false
set_option linter.unusedSimpArgs false
/-- how many symbols have a code -/
def sm (l : List Int) : Nat := l.countP (fun x => decide (0 < x))
theorem sm_step (B : List Int) (i : Nat) (h : i < B.length) : sm (B.take (i + 1)) = sm (B.take i) + (if 0 < B.getD i 0 then 1 else 0) := by
  unfold sm
  rw [btake B i h, List.countP_append]
  by_cases h0 : 0 < B.getD i 0
  · rw [if_pos h0]; simp only [List.countP_singleton, h0, decide_true, if_true]
  · rw [if_neg h0]; simp only [List.countP_singleton, h0, decide_false, Bool.false_eq_true, if_false]
theorem half15 (k : Nat) (h : k < 15) : (2 : Int) ^ (15 - k) / 2 = 2 ^ (15 - (k + 1)) := by
  have : ∀ k : Fin 15, (2 : Int) ^ (15 - k.val) / 2 = 2 ^ (15 - (k.val + 1)) := by decide +kernel
  exact this ⟨k, h⟩
/-- may these lengths be? -/
def FINE (B : List Int) : Prop := tk B = 32768 ∨ sm B = 0 ∨ (sm B = 1 ∧ cn B 1 = 1)
set_option maxHeartbeats 4000000 in
theorem RCheck5_c {w0 : World} {H : List Asn} (p : Option Addr) (c m : Nat) (B : List Int) (hr : Rd w0 H (.slice p m c) m (ints .u8 B)) (hm : B.length = m) (hB : OKB B) (hm1 : m ≤ 140737488355328) (w : World) (hw : St w0 H w) :
    Calls Tryz.prog 81 #[.slice p m c] w fun e w' => ∃ r o, e = .returned (.tuple #[.int .i64 r, .bool o]) ∧ St w0 H w' ∧
      (((320 < m ∨ ∃ j, 15 < B.getD j 0) ∧ r = 1 ∧ o = false) ∨ (m ≤ 320 ∧ (∀ j, B.getD j 0 ≤ 15) ∧ ¬ FINE B ∧ r = 62 ∧ o = false) ∨ (m ≤ 320 ∧ (∀ j, B.getD j 0 ≤ 15) ∧ FINE B ∧ r = 0 ∧ o = decide (tk B = 32768))) := by
  refine enter (vs := [.slice p m c]) Tryz.func81 rfl rfl rfl hw ?_
  repeat (first | (apply gJR; first | (refine sx ?_; try intro _)) | (apply gJO; first | (refine sx ?_; try intro _)) | apply JS_seq | apply JS_region)
  refine JS_block ?_
  refine JS_loop2 (fun (i : Nat) (la : Int) => [(0, .slice p m c), (4, .int .i64 (tk (B.take i))), (5, .int .i64 (sm (B.take i))), (6, .int .u8 la), (7, .int .i64 i)]) (fun _ _ => H)
    (fun i la => i ≤ m ∧ i ≤ 321 ∧ (0 ≤ la ∧ la ≤ 15) ∧ (∀ j, j < i → B.getD j 0 ≤ 15) ∧ (0 ≤ tk (B.take i) ∧ tk (B.take i) ≤ 32768 * i) ∧ sm (B.take i) ≤ i ∧ (sm (B.take i) = 0 → cn (B.take i) 1 = 0) ∧ (sm (B.take i) = 1 → (la = 1 ↔ cn (B.take i) 1 = 1))) (fun i _ => 321 - i) 0 0
    ⟨by omega, by omega, by omega, fun j h => by omega, by simp [tk], by simp [sm], fun _ => by simp [cn], fun h => by simp [sm] at h⟩ (by repeat (first | exact trivial | refine ⟨rfl, ?_⟩ | refine ⟨lookI rfl (by omega), ?_⟩)) (fun _ h => h) ?_
  intro i la ⟨hi, hi2, hla, h15, ht, hs, hc0, hc1⟩ again
  by_cases him : i < m ∧ i < 321
  · obtain ⟨him, hi3⟩ := him
    have hb := hB i
    obtain ⟨n, hn⟩ := Int.eq_ofNat_of_zero_le hb.1
    have gi : (ints .u8 B)[i]? = some (.int .u8 (n : Int)) := by rw [← hn]; exact ints_get (by omega)
    by_cases hbig : 15 < n
    · clear again hc0 hc1
      repeat (first | (apply gJO; refine JO_v (V_loadC (tb := tb) rfl hr rfl rfl gi rfl) ?_) | (first | (refine sx ?_; try intro _)))
      refine JS_ret Tryz.func81 rfl rfl ?_
      intro w hw
      exact ⟨_, _, rfl, hw, .inl ⟨.inr ⟨i, by omega⟩, rfl, rfl⟩⟩
    have hts := tk_step B i (by omega) n hn
    have hss := sm_step B i (by omega)
    rw [hn] at hss
    have h15' : ∀ j, j < i + 1 → B.getD j 0 ≤ 15 := fun j hj => by
      rcases Nat.lt_or_ge j i with h | h
      · exact h15 j h
      · obtain rfl : j = i := by omega
        omega
    by_cases h0 : 0 < n
    · rw [if_pos h0] at hts
      rw [if_pos (by omega)] at hss
      have hp2 := p2_bd n (by omega)
      have hcs := congrFun (cn_step B i (by omega) n hn h0) 1
      have hcn1 : cn (B.take (i + 1)) 1 = cn (B.take i) 1 + (if n = 1 then 1 else 0) := by
        rw [hcs]
        by_cases h1 : n = 1
        · subst h1; simp
        · rw [if_neg (by omega), if_neg h1]; omega
      clear hb hn hcs
      repeat (first | (apply gJO; refine JO_v (V_loadC (tb := tb) rfl hr rfl rfl gi rfl) ?_) | (apply gJR; first | (refine sx ?_; try intro _)) | (apply gJO; first | (refine sx ?_; try intro _)) | apply JS_seq | apply JS_region | refine JS_condT rfl ?_ | refine JS_condF rfl ?_ | apply JS_skip | (refine JS_block ?_; apply JS_seq))
      refine JS_block ?_
      refine JS_loop1 (fun (k : Nat) => [(0, .slice p m c), (4, .int .i64 (tk (B.take i))), (5, .int .i64 (sm (B.take i) + 1)), (6, .int .u8 n), (7, .int .i64 i), (8, .int .i64 (2 ^ (15 - k))), (9, .int .u8 k)]) (fun _ => H) (fun k => k ≤ n) (fun k => n - k) 0 (by omega) (by repeat (first | exact trivial | refine ⟨rfl, ?_⟩ | refine ⟨lookI rfl (by omega), ?_⟩)) (fun _ h => h) ?_
      intro k hk again2
      by_cases hkn : k < n
      · have hh := half15 k (by omega)
        have hp3 := p2_bd k (by omega)
        obtain ⟨P, hP⟩ : ∃ P, (2 : Int) ^ (15 - k) = P := ⟨_, rfl⟩
        rw [hP] at hh hp3
        rw [hP]
        repeat (first | (apply gJO; refine JO_v (V_loadC (tb := tb) rfl hr rfl rfl gi rfl) ?_) | (first | (refine sx ?_; try intro _)))
        exact JS_again1 again2 (k + 1) (by omega) (by omega) (by exact ⟨rfl, rfl, rfl, rfl, rfl, lookI rfl hh, lookI rfl (by omega), trivial⟩) (fun _ h => h)
      · obtain rfl : k = n := by omega
        clear again2
        obtain ⟨P, hP⟩ : ∃ P, (2 : Int) ^ (15 - k) = P := ⟨_, rfl⟩
        rw [hP] at hts hp2
        rw [hP]
        repeat (first | (apply gJO; refine JO_v (V_loadC (tb := tb) rfl hr rfl rfl gi rfl) ?_) | (first | (refine sx ?_; try intro _)))
        refine JS_again2 again (i + 1) (k : Int) ⟨by omega, by omega, by omega, h15', by omega, by omega, fun h => by omega, fun h => ?_⟩ (by omega) (by repeat (first | exact trivial | refine ⟨rfl, ?_⟩ | refine ⟨lookI rfl (by omega), ?_⟩)) (fun _ h => h)
        have hz := hc0 (by omega)
        rw [hcn1, hz]
        by_cases h1 : k = 1
        · simp [h1]
        · rw [if_neg h1]; omega
    · obtain rfl : n = 0 := by omega
      rw [if_neg h0] at hts
      rw [if_neg (by omega)] at hss
      have hcs := congrFun (cn_zero B i (by omega) hn) 1
      clear hb hn
      repeat (first | (apply gJO; refine JO_v (V_loadC (tb := tb) rfl hr rfl rfl gi rfl) ?_) | (first | (refine sx ?_; try intro _)))
      exact JS_again2 again (i + 1) la ⟨by omega, by omega, hla, h15', by omega, by omega, by rw [hcs]; intro h; exact hc0 (by omega), by rw [hcs]; intro h; exact hc1 (by omega)⟩ (by omega) (by repeat (first | exact trivial | refine ⟨rfl, ?_⟩ | refine ⟨lookI rfl (by omega), ?_⟩)) (fun _ h => h)
  clear again
  by_cases hlen : 320 < m
  · by_cases hz : i < m
    · have : ¬ i < 321 := fun h => him ⟨hz, h⟩
      repeat (first | (refine sx ?_; try intro _))
      refine JS_ret Tryz.func81 rfl rfl ?_
      intro w hw
      exact ⟨_, _, rfl, hw, .inl ⟨.inl hlen, rfl, rfl⟩⟩
    · repeat (first | (refine sx ?_; try intro _))
      refine JS_ret Tryz.func81 rfl rfl ?_
      intro w hw
      exact ⟨_, _, rfl, hw, .inl ⟨.inl hlen, rfl, rfl⟩⟩
  obtain rfl : i = m := by omega
  have e1 : B.take i = B := List.take_of_length_le (by omega)
  rw [e1] at ht hs hc0 hc1
  rw [e1]
  have hall : ∀ j, B.getD j 0 ≤ 15 := fun j => by
    rcases Nat.lt_or_ge j i with h | h
    · exact h15 j h
    · rw [List.getD_eq_getElem?_getD, List.getElem?_eq_none (by omega)]; decide
  clear h15 him
  by_cases hf : tk B = 32768
  · repeat (first | (refine sx ?_; try intro _))
    refine JS_ret Tryz.func81 rfl rfl ?_
    intro w hw
    exact ⟨_, _, rfl, hw, .inr (.inr ⟨by omega, hall, .inl hf, rfl, (decide_eq_true hf).symm⟩)⟩
  by_cases h0 : sm B = 0
  · repeat (first | (refine sx ?_; try intro _))
    refine JS_ret Tryz.func81 rfl rfl ?_
    intro w hw
    exact ⟨_, _, rfl, hw, .inr (.inr ⟨by omega, hall, .inr (.inl h0), rfl, (decide_eq_false hf).symm⟩)⟩
  by_cases h1 : sm B = 1
  · have hc := hc1 h1
    clear hc0 hc1
    by_cases hl : la = 1
    · have hc2 := hc.1 hl
      clear hc
      repeat (first | (refine sx ?_; try intro _))
      refine JS_ret Tryz.func81 rfl rfl ?_
      intro w hw
      exact ⟨_, _, rfl, hw, .inr (.inr ⟨by omega, hall, .inr (.inr ⟨h1, hc2⟩), rfl, (decide_eq_false hf).symm⟩)⟩
    · have hc2 : ¬ cn B 1 = 1 := fun h => hl (hc.2 h)
      clear hc
      repeat (first | (refine sx ?_; try intro _))
      refine JS_ret Tryz.func81 rfl rfl ?_
      intro w hw
      exact ⟨_, _, rfl, hw, .inr (.inl ⟨by omega, hall, by unfold FINE; omega, rfl, rfl⟩)⟩
  · clear hc0 hc1
    repeat (first | (refine sx ?_; try intro _))
    refine JS_ret Tryz.func81 rfl rfl ?_
    intro w hw
    exact ⟨_, _, rfl, hw, .inr (.inl ⟨by omega, hall, by unfold FINE; omega, rfl, rfl⟩)⟩
end Go.Proofs.YtbiocgenbgbfpaaGreat

namespace Go.Proofs.YtbiocgenbgbfpaaGreat
open Sx Go
set_option linter.unusedVariables false
set_option linter.unusedSimpArgs false
/-- the first code of a length -/
def fc (B : List Int) : Nat → Int
  | 0 => 0
  | n + 1 => 2 * (fc B n + cn B n)
/-- a symbol's code -/
def cd (B : List Int) (i : Nat) : Int := (fc B (B.getD i 0).toNat + cn (B.take i) (B.getD i 0).toNat) % 4294967296
theorem cd_bd (B : List Int) (i : Nat) : 0 ≤ cd B i ∧ cd B i < 4294967296 := by unfold cd; omega
/-- the codes that are told when the length n has come as far as j -/
def told (B : List Int) (n j i : Nat) : Bool := decide (0 < B.getD i 0 ∧ (B.getD i 0 < n ∨ (B.getD i 0 = n ∧ i < j)))
def cds (B : List Int) (n j : Nat) : List Int := (List.range B.length).map fun i => if told B n j i then cd B i else 0
theorem cds_len (B : List Int) (n j : Nat) : (cds B n j).length = B.length := by simp [cds]
theorem cds_set {B : List Int} {n j : Nat} (hn : 0 < n) (hj : B.getD j 0 = (n : Int)) : (cds B n j).set j (cd B j) = cds B n (j + 1) := by
  apply List.ext_getElem?
  intro i
  rw [List.getElem?_set]
  by_cases hij : j = i
  · subst hij
    by_cases hl : j < B.length
    · have : told B n (j + 1) j = true := by unfold told; rw [hj]; simp; omega
      simp [cds, hl, this]
    · simp [cds, hl]
  · rw [if_neg hij]
    have : told B n (j + 1) i = told B n j i := by
      unfold told
      have : (i < j + 1) ↔ (i < j) := by omega
      simp [this]
    simp only [cds, List.getElem?_map]
    cases h : (List.range B.length)[i]? with
    | none => rfl
    | some x =>
      have hx : x = i := by
        have := List.getElem?_eq_some_iff.1 h
        obtain ⟨h1, h2⟩ := this
        simp at h2; exact h2.symm
      subst hx
      simp [this]
theorem cds_no {B : List Int} {n j : Nat} (hj : ¬ B.getD j 0 = (n : Int)) : cds B n j = cds B n (j + 1) := by
  unfold cds
  apply List.map_congr_left
  intro i _
  have : told B n (j + 1) i = told B n j i := by
    unfold told
    refine decide_eq_decide.2 ?_
    by_cases hij : i = j
    · subst hij; omega
    · omega
  rw [this]
theorem cds_next (B : List Int) (n : Nat) : cds B n B.length = cds B (n + 1) 0 := by
  unfold cds
  apply List.map_congr_left
  intro i hi
  have hi' : i < B.length := by simpa using hi
  have : told B (n + 1) 0 i = told B n B.length i := by
    unfold told
    congr 1
    simp only [eq_iff_iff]
    omega
  rw [this]
theorem cds_zero (B : List Int) (hB : OKB B) : cds B 1 0 = List.replicate B.length 0 := by
  unfold cds
  rw [List.eq_replicate_iff]
  refine ⟨by simp, fun b hb => ?_⟩
  simp only [List.mem_map, List.mem_range] at hb
  obtain ⟨i, _, rfl⟩ := hb
  have : told B 1 0 i = false := by
    unfold told
    have := hB i
    simp; omega
  simp [this]
theorem cn_yes (B : List Int) (j n : Nat) (h : j < B.length) (hn : B.getD j 0 = (n : Int)) (h0 : 0 < n) : cn (B.take (j + 1)) n = cn (B.take j) n + 1 := by
  rw [congrFun (cn_step B j h n hn h0) n]; simp
theorem cn_no (B : List Int) (hB : OKB B) (j n : Nat) (h : j < B.length) (hn : ¬ B.getD j 0 = (n : Int)) : cn (B.take (j + 1)) n = cn (B.take j) n := by
  obtain ⟨x, hx⟩ := Int.eq_ofNat_of_zero_le (hB j).1
  by_cases h0 : 0 < x
  · rw [congrFun (cn_step B j h x hx h0) n, if_neg (by omega)]
  · have : x = 0 := by omega
    subst this
    rw [cn_zero B j h hx]
set_option maxHeartbeats 4000000 in
/-- the reference's codes -/
theorem RCodes_c {w0 : World} {H : List Asn} (p : Option Addr) (c m : Nat) (B : List Int) (hr : Rd w0 H (.slice p m c) m (ints .u8 B)) (hm : B.length = m) (hB : OKB B) (hm1 : m ≤ 1000) (w : World) (hw : St w0 H w) :
    Calls Tryz.prog 118 #[.slice p m c] w fun e w' => ∃ q d, e = .returned (.slice q m d) ∧ St w0 (vec 34 1 (.slice q m d) m (ints .u32 (cds B 16 0)) :: H) w' := by
  refine enter (vs := [.slice p m c]) Tryz.func118 rfl rfl rfl hw ?_
  repeat (first | (apply gJR; first | (refine sx ?_; try intro _)) | (apply gJO; first | (refine sx ?_; try intro _)) | apply JS_seq | apply JS_region)
  rename_i po
  rw [show (rep (Int.toNat m) [Value.int IntKind.u32 0]) = ints .u32 (List.replicate m 0) from ints_rep]
  rw [show (m : Int).toNat = m from rfl]
  refine JS_block ?_
  refine JS_loop1 (fun (n : Nat) => [(0, .slice p m c), (3, .slice (some po) m m), (4, .int .u32 ((fc B n + cn B n) % 4294967296)), (5, .int .u8 (n + 1))]) (fun n => vec 34 1 (.slice (some po) m m) m (ints .u32 (cds B (n + 1) 0)) :: H) (fun n => n ≤ 15) (fun n => 15 - n) 0 (by omega) (by repeat (first | exact trivial | refine ⟨rfl, ?_⟩ | refine ⟨lookI rfl (by omega), ?_⟩)) (fun w hw => by rw [cds_zero B hB, hm]; exact hw) ?_
  intro n hn again
  by_cases hn15 : n < 15
  · repeat (first | (apply gJR; first | (refine sx ?_; try intro _)) | (apply gJO; first | (refine sx ?_; try intro _)) | apply JS_seq | apply JS_region | refine JS_condT rfl ?_ | apply JS_skip | (refine JS_block ?_; apply JS_seq))
    have hcode : 2 * ((fc B n + cn B n) % 4294967296) % 4294967296 = (fc B (n + 1) + cn (B.take 0) (n + 1)) % 4294967296 := by
      have : cn (B.take 0) (n + 1) = 0 := by simp [cn]
      rw [this]; simp only [fc]; omega
    rw [hcode]
    refine JS_block ?_
    refine JS_loop1 (fun (j : Nat) => [(0, .slice p m c), (3, .slice (some po) m m), (4, .int .u32 ((fc B (n + 1) + cn (B.take j) (n + 1)) % 4294967296)), (5, .int .u8 (n + 1)), (6, .int .i64 j)]) (fun j => vec 34 1 (.slice (some po) m m) m (ints .u32 (cds B (n + 1) j)) :: H) (fun j => j ≤ m) (fun j => m - j) 0 (by omega) (by repeat (first | exact trivial | refine ⟨rfl, ?_⟩ | refine ⟨lookI rfl (by omega), ?_⟩)) (fun w hw => hw) ?_
    intro j hj again2
    have hr' : Rd w0 (vec 34 1 (.slice (some po) m m) m (ints .u32 (cds B (n + 1) j)) :: H) (.slice p m c) m (ints .u8 B) := Rd_weak hr fun w hw => St.sub (by repeat (first | exact List.Sublist.refl _ | apply List.Sublist.cons_cons | apply List.Sublist.cons)) hw
    have hcl := cds_len B (n + 1) j
    by_cases hjm : j < m
    · have gj : (ints .u8 B)[j]? = some (.int .u8 (B.getD j 0)) := ints_get (by omega)
      by_cases heq : B.getD j 0 = ((n + 1 : Nat) : Int)
      · have hset := cds_set (B := B) (n := n + 1) (j := j) (by omega) heq
        have hcy := cn_yes B j (n + 1) (by omega) heq (by omega)
        have hcd : cd B j = (fc B (n + 1) + cn (B.take j) (n + 1)) % 4294967296 := by unfold cd; rw [heq]; rfl
        have heq' : B.getD j 0 = (n : Int) + 1 := by omega
        rw [hcd] at hset
        clear heq hcd
        generalize hC : (fc B (n + 1) + cn (B.take j) (n + 1)) % 4294967296 = C at *
        repeat (first | (apply gJO; refine JO_v (V_loadC (tb := tb) rfl hr' rfl rfl gj rfl) ?_) | (first | (refine sx ?_; try intro _)))
        exact JS_again1 again2 (j + 1) (by omega) (by omega) (by exact ⟨rfl, rfl, lookI rfl (by rw [hcy]; omega), rfl, lookI rfl (by omega), trivial⟩) (fun w hw => by rw [← hset]; exact hw)
      · have hset := cds_no (B := B) (n := n + 1) (j := j) heq
        have hcy := cn_no B hB j (n + 1) (by omega) heq
        have heq' : ¬ B.getD j 0 = (n : Int) + 1 := by omega
        clear heq
        repeat (first | (apply gJO; refine JO_v (V_loadC (tb := tb) rfl hr' rfl rfl gj rfl) ?_) | (first | (refine sx ?_; try intro _)))
        exact JS_again1 again2 (j + 1) (by omega) (by omega) (by exact ⟨rfl, rfl, lookI rfl (by rw [hcy]), rfl, lookI rfl (by omega), trivial⟩) (fun w hw => by rw [← hset]; exact hw)
    · obtain rfl : j = m := by omega
      have e1 : B.take j = B := List.take_of_length_le (by omega)
      have hnx := cds_next B (n + 1)
      rw [hm] at hnx
      rw [e1, hnx]
      clear again2
      repeat (first | (refine sx ?_; try intro _))
      exact JS_again1 again (n + 1) (by omega) (by omega) (by repeat (first | exact trivial | refine ⟨rfl, ?_⟩ | refine ⟨lookI rfl (by omega), ?_⟩)) (fun w hw => hw)
  · obtain rfl : n = 15 := by omega
    clear again
    repeat (first | (refine sx ?_; try intro _))
    refine JS_ret Tryz.func118 rfl rfl ?_
    intro w hw
    exact ⟨_, _, rfl, hw⟩
end Go.Proofs.YtbiocgenbgbfpaaGreat

namespace Go.Proofs.YtbiocgenbgbfpaaGreat
set_option linter.unusedVariables false
set_option linter.unusedSimpArgs false
theorem cn_sy1 (B : List Int) (hB : OKB B) (n : Nat) (h0 : 0 < n) : ∀ j, j ≤ B.length → ((sy1 B n j).length : Int) = cn (B.take j) n := by
  intro j
  induction j with
  | zero => intro _; simp [sy1, cn]
  | succ j ih =>
    intro hj
    have ih := ih (by omega)
    by_cases h : B.getD j 0 = (n : Int)
    · rw [sy1_yes h, cn_yes B j n (by omega) h h0]; simp; omega
    · rw [sy1_no h, cn_no B hB j n (by omega) h]; exact ih
def sumc (f : Nat → Int) : Nat → Int
  | 0 => 0
  | n + 1 => sumc f n + f (n + 1)
theorem sumc_upd (f : Nat → Int) (k : Nat) (h0 : 0 < k) : ∀ n, sumc (fun j => if j = k then f k + 1 else f j) n = sumc f n + (if k ≤ n then 1 else 0)
  | 0 => by simp [sumc]; omega
  | n + 1 => by
    simp only [sumc, sumc_upd f k h0 n]
    by_cases h : n + 1 = k
    · subst h
      rw [if_pos rfl, if_neg (by omega), if_pos (by omega)]; omega
    · rw [if_neg h]
      by_cases h1 : k ≤ n
      · rw [if_pos h1, if_pos (by omega)]; omega
      · rw [if_neg h1, if_neg (by omega)]; omega
theorem sumc_zero (n : Nat) : sumc (cn []) n = 0 := by
  induction n with
  | zero => rfl
  | succ n ih => simp [sumc, ih, cn]
theorem sm_sumc (B : List Int) (hB : OKB B) (h15 : ∀ j, B.getD j 0 ≤ 15) : ∀ i, i ≤ B.length → (sm (B.take i) : Int) = sumc (cn (B.take i)) 15 := by
  intro i
  induction i with
  | zero => intro _; rw [List.take_zero, sumc_zero]; rfl
  | succ i ih =>
    intro hi
    have ih := ih (by omega)
    obtain ⟨x, hx⟩ := Int.eq_ofNat_of_zero_le (hB i).1
    have h := h15 i
    rw [sm_step B i (by omega), hx]
    by_cases h0 : 0 < x
    · rw [if_pos (by omega), cn_step B i (by omega) x hx h0, sumc_upd _ x h0, if_pos (by omega)]; omega
    · have : x = 0 := by omega
      subst this
      rw [if_neg (by omega), cn_zero B i (by omega) hx]; omega
theorem syA_sumc (B : List Int) (hB : OKB B) : ∀ n, ((syA B n).length : Int) = sumc (cn B) n
  | 0 => rfl
  | n + 1 => by
    have h1 := syA_sumc B hB n
    have h2 := cn_sy1 B hB (n + 1) (by omega) B.length (by omega)
    rw [List.take_of_length_le (by omega)] at h2
    simp only [syA, List.length_append, sumc]; omega
/-- the symbols are as many as have a code -/
theorem sm_syA (B : List Int) (hB : OKB B) (h15 : ∀ j, B.getD j 0 ≤ 15) : (syA B 15).length = sm B := by
  have h1 := sm_sumc B hB h15 B.length (by omega)
  rw [List.take_of_length_le (by omega)] at h1
  have h2 := syA_sumc B hB 15
  omega
theorem fine_iff (B : List Int) (hB : OKB B) (h15 : ∀ j, B.getD j 0 ≤ 15) : (tk B = 32768 ∨ (syA B 15).length = 0 ∨ ((syA B 15).length = 1 ∧ cn B 1 = 1)) ↔ FINE B := by
  rw [sm_syA B hB h15]; exact Iff.rfl
end Go.Proofs.YtbiocgenbgbfpaaGreat

namespace Go.Proofs.YtbiocgenbgbfpaaGreat
set_option linter.unusedVariables false
set_option linter.unusedSimpArgs false
/-- how many symbols have a length below n -/
def psum (B : List Int) : Nat → Int
  | 0 => 0
  | n + 1 => psum B n + cn B n
theorem cn_nonneg (B : List Int) (n : Nat) : 0 ≤ cn B n := by
  unfold cn; split
  · exact Int.le_refl _
  · omega
theorem psum_mono (B : List Int) (n : Nat) : ∀ d, psum B n ≤ psum B (n + d)
  | 0 => Int.le_refl _
  | d + 1 => by
    have := psum_mono B n d
    have := cn_nonneg B (n + d)
    show psum B n ≤ psum B (n + d) + cn B (n + d)
    omega
theorem psum_syA (B : List Int) (hB : OKB B) : ∀ n, psum B (n + 1) = ((syA B n).length : Int)
  | 0 => by simp [psum, syA, cn]
  | n + 1 => by
    have h1 := psum_syA B hB n
    have h2 := syA_sumc B hB (n + 1)
    have h3 := syA_sumc B hB n
    simp only [sumc] at h2
    show psum B (n + 1) + cn B (n + 1) = _
    omega
/-- from one code to the next one, over lengths that have none -/
theorem shift_code (B : List Int) (n : Nat) (c : Int) (hc : c ≤ cn B n) : ∀ d, 0 < d → psum B (n + d) ≤ psum B n + c → psum B n + c = psum B (n + d) ∧ fc B (n + d) = (fc B n + c) * 2 ^ d
  | 0, h, _ => absurd h (by omega)
  | 1, _, h => by
    have h' : psum B n + cn B n ≤ psum B n + c := h
    have : c = cn B n := by omega
    subst this
    exact ⟨rfl, by show 2 * (fc B n + cn B n) = _; omega⟩
  | d + 2, _, h => by
    have h' : psum B (n + (d + 1)) + cn B (n + (d + 1)) ≤ psum B n + c := h
    have h0 := cn_nonneg B (n + (d + 1))
    obtain ⟨h1, h2⟩ := shift_code B n c hc (d + 1) (by omega) (by omega)
    have hz : cn B (n + (d + 1)) = 0 := by omega
    refine ⟨?_, ?_⟩
    · show psum B n + c = psum B (n + (d + 1)) + cn B (n + (d + 1)); omega
    · show 2 * (fc B (n + (d + 1)) + cn B (n + (d + 1))) = _
      rw [hz, h2, Int.pow_succ 2 (d + 1)]
      generalize (2 : Int) ^ (d + 1) = P
      grind
theorem sy1_get (B : List Int) (n : Nat) : ∀ j r, r < (sy1 B n j).length → ∃ i, i < j ∧ (sy1 B n j).getD r 0 = (i : Int) ∧ B.getD i 0 = (n : Int) ∧ (sy1 B n i).length = r
  | 0, r, h => by simp [sy1] at h
  | j + 1, r, h => by
    by_cases he : B.getD j 0 = (n : Int)
    · rw [sy1_yes he] at h ⊢
      rcases Nat.lt_or_ge r (sy1 B n j).length with h1 | h1
      · obtain ⟨i, hi, h2, h3⟩ := sy1_get B n j r h1
        refine ⟨i, by omega, ?_, h3⟩
        rw [List.getD_eq_getElem?_getD, List.getElem?_append_left h1, ← List.getD_eq_getElem?_getD]; exact h2
      · have hr : r = (sy1 B n j).length := by simp at h; omega
        subst hr
        exact ⟨j, by omega, by simp, he, rfl⟩
    · rw [sy1_no he] at h ⊢
      obtain ⟨i, hi, h2⟩ := sy1_get B n j r h
      exact ⟨i, by omega, h2⟩
/-- the symbol at a place: its length, and which one of that length it is -/
theorem syA_get (B : List Int) : ∀ N t, t < (syA B N).length → ∃ n r i, n < N ∧ t = (syA B n).length + r ∧ r < (sy1 B (n + 1) B.length).length ∧ i < B.length ∧ (syA B N).getD t 0 = (i : Int) ∧ B.getD i 0 = ((n + 1 : Nat) : Int) ∧ (sy1 B (n + 1) i).length = r
  | 0, t, h => by simp [syA] at h
  | N + 1, t, h => by
    simp only [syA] at h ⊢
    rcases Nat.lt_or_ge t (syA B N).length with h1 | h1
    · obtain ⟨n, r, i, h2, h3, h4, h5, h6, h7⟩ := syA_get B N t h1
      refine ⟨n, r, i, by omega, h3, h4, h5, ?_, h7⟩
      rw [List.getD_eq_getElem?_getD, List.getElem?_append_left h1, ← List.getD_eq_getElem?_getD]; exact h6
    · have hr : t - (syA B N).length < (sy1 B (N + 1) B.length).length := by rw [List.length_append] at h; omega
      obtain ⟨i, h2, h3, h4, h5⟩ := sy1_get B (N + 1) B.length (t - (syA B N).length) hr
      refine ⟨N, t - (syA B N).length, i, by omega, by omega, hr, h2, ?_, h4, h5⟩
      rw [List.getD_eq_getElem?_getD, List.getElem?_append_right h1, ← List.getD_eq_getElem?_getD]; exact h3
end Go.Proofs.YtbiocgenbgbfpaaGreat

namespace Go.Proofs.YtbiocgenbgbfpaaGreat
open Sx Go
set_option linter.unusedVariables false
set_option linter.unusedSimpArgs false
theorem mem_sy1 (B : List Int) (n j i : Nat) : (i : Int) ∈ sy1 B n j ↔ i < j ∧ B.getD i 0 = (n : Int) := by
  unfold sy1
  simp only [List.mem_map, List.mem_filter, List.mem_range, beq_iff_eq]
  constructor
  · rintro ⟨a, ⟨h1, h2⟩, h3⟩
    obtain rfl : a = i := by omega
    exact ⟨h1, h2⟩
  · rintro ⟨h1, h2⟩
    exact ⟨i, ⟨h1, h2⟩, rfl⟩
theorem mem_syA (B : List Int) (i : Nat) : ∀ N, (i : Int) ∈ syA B N ↔ i < B.length ∧ 0 < B.getD i 0 ∧ B.getD i 0 ≤ (N : Int)
  | 0 => by simp only [syA, List.not_mem_nil, false_iff]; omega
  | N + 1 => by
    simp only [syA, List.mem_append, mem_syA B i N, mem_sy1]
    omega
attribute [local irreducible] syA
def outC (B : List Int) (t : Nat) : List Int := (List.range B.length).map fun (i : Nat) => if decide ((i : Int) ∈ (syA B 15).take t) then cd B i else 0
theorem outC_len (B : List Int) (t : Nat) : (outC B t).length = B.length := by simp [outC]
theorem outC_zero (B : List Int) : outC B 0 = List.replicate B.length 0 := by
  unfold outC
  rw [List.eq_replicate_iff]
  refine ⟨by simp, fun b hb => ?_⟩
  simp at hb
  exact hb.2.symm
theorem outC_set {B : List Int} {t i : Nat} (ht : t < (syA B 15).length) (hi : (syA B 15).getD t 0 = (i : Int)) : (outC B t).set i (cd B i) = outC B (t + 1) := by
  have hts : (syA B 15).take (t + 1) = (syA B 15).take t ++ [(i : Int)] := by rw [btake _ _ ht, hi]
  apply List.ext_getElem?
  intro j
  rw [List.getElem?_set]
  by_cases hij : i = j
  · subst hij
    by_cases hl : i < B.length
    · simp [outC, hl, hts]
    · simp [outC, hl]
  · rw [if_neg hij]
    simp only [outC, List.getElem?_map]
    cases h : (List.range B.length)[j]? with
    | none => rfl
    | some x =>
      have hx : x = j := by
        obtain ⟨h1, h2⟩ := List.getElem?_eq_some_iff.1 h
        simp at h2; exact h2.symm
      subst hx
      have : ((x : Int) ∈ (syA B 15).take (t + 1)) ↔ ((x : Int) ∈ (syA B 15).take t) := by
        rw [hts, List.mem_append]
        simp; omega
      simp [this]
theorem outC_end {B : List Int} (h15 : ∀ j, B.getD j 0 ≤ 15) : outC B (syA B 15).length = cds B 16 0 := by
  unfold outC cds
  apply List.map_congr_left
  intro i hi
  have hi' : i < B.length := by simpa using hi
  rw [List.take_of_length_le (by omega)]
  have : decide ((i : Int) ∈ syA B 15) = told B 16 0 i := by
    unfold told
    refine decide_eq_decide.2 ?_
    rw [mem_syA]
    have := h15 i
    omega
  rw [this]
end Go.Proofs.YtbiocgenbgbfpaaGreat

namespace Go.Proofs.YtbiocgenbgbfpaaGreat
open Sx Go
set_option linter.unusedVariables false
set_option linter.unusedSimpArgs false
attribute [local irreducible] syA
/-! what is read by a set's codes -/
theorem cn_app (l : List Int) (x : Int) (n : Nat) : cn (l ++ [x]) n = cn l n + (if 0 < n ∧ x = (n : Int) then 1 else 0) := by
  unfold cn
  rw [List.countP_append]
  by_cases h0 : n = 0
  · simp [h0]
  · rw [if_neg h0, if_neg h0]
    by_cases hx : x = (n : Int)
    · rw [if_pos ⟨by omega, hx⟩]; simp [hx]
    · rw [if_neg (fun h => hx h.2)]
      have : ¬ (x == (n : Int)) = true := by simpa using hx
      simp [this]
theorem fc_app (l : List Int) (k : Nat) : ∀ n, fc (l ++ [(k : Int)]) n = fc l n + (if 0 < k ∧ k < n then 2 ^ (n - k) else 0)
  | 0 => by simp [fc]
  | n + 1 => by
    simp only [fc, fc_app l k n, cn_app]
    by_cases h0 : 0 < k
    · rcases Nat.lt_trichotomy k n with h | h | h
      · rw [if_pos ⟨h0, h⟩, if_neg (by omega), if_pos ⟨h0, by omega⟩, show n + 1 - k = (n - k) + 1 by omega, Int.pow_succ]; omega
      · subst h
        rw [if_neg (by omega), if_pos ⟨h0, rfl⟩, if_pos ⟨h0, by omega⟩, show k + 1 - k = 1 by omega]; omega
      · rw [if_neg (by omega), if_neg (by omega), if_neg (by omega)]; omega
    · rw [if_neg (by omega), if_neg (by omega), if_neg (by omega)]; omega
theorem fc_tk (B : List Int) (hB : OKB B) (h15 : ∀ j, B.getD j 0 ≤ 15) : ∀ i, i ≤ B.length → fc (B.take i) 15 + cn (B.take i) 15 = tk (B.take i)
  | 0, _ => by rw [List.take_zero]; decide
  | i + 1, h => by
    obtain ⟨n, hn⟩ := Int.eq_ofNat_of_zero_le (hB i).1
    have h1 := h15 i
    rw [tk_step B i (by omega) n hn, btake B i (by omega), hn, fc_app, cn_app, ← fc_tk B hB h15 i (by omega)]
    by_cases h0 : 0 < n
    · rw [if_pos h0]
      by_cases h2 : n = 15
      · subst h2; simp; omega
      · rw [if_pos ⟨h0, by omega⟩, if_neg (by omega)]; omega
    · rw [if_neg h0, if_neg (by omega), if_neg (by omega)]; omega
theorem fc_nn (B : List Int) : ∀ n, 0 ≤ fc B n
  | 0 => Int.le_refl _
  | n + 1 => by
    have := fc_nn B n
    have := cn_nonneg B n
    show 0 ≤ 2 * (fc B n + cn B n); omega
theorem FINE_tk (B : List Int) (hB : OKB B) (h15 : ∀ j, B.getD j 0 ≤ 15) (hF : FINE B) : tk B ≤ 32768 := by
  rcases hF with h | h | h
  · omega
  · have : ∀ i, i ≤ B.length → sm (B.take i) = 0 → tk (B.take i) = 0 := by
      intro i
      induction i with
      | zero => intro _ _; rfl
      | succ i ih =>
        intro hi hs
        rw [sm_step B i (by omega)] at hs
        obtain ⟨n, hn⟩ := Int.eq_ofNat_of_zero_le (hB i).1
        rw [tk_step B i (by omega) n hn]
        by_cases h0 : 0 < n
        · rw [if_pos (by omega)] at hs; omega
        · rw [if_neg h0, ih (by omega) (by omega)]; rfl
    have := this B.length (Nat.le_refl _) (by rw [List.take_length]; exact h)
    rw [List.take_length] at this; omega
  · have : ∀ i, i ≤ B.length → tk (B.take i) ≤ 32768 * sm (B.take i) := by
      intro i
      induction i with
      | zero => intro _; simp [tk, sm]
      | succ i ih =>
        intro hi
        rw [sm_step B i (by omega)]
        obtain ⟨n, hn⟩ := Int.eq_ofNat_of_zero_le (hB i).1
        rw [tk_step B i (by omega) n hn]
        have := ih (by omega)
        have h2 := h15 i
        have := p2_bd n (by omega)
        by_cases h0 : 0 < n
        · rw [if_pos h0, if_pos (by omega)]; omega
        · rw [if_neg h0, if_neg (by omega)]; omega
    have := this B.length (Nat.le_refl _)
    rw [List.take_length] at this; omega
theorem fc_le (B : List Int) (hB : OKB B) (h15 : ∀ j, B.getD j 0 ≤ 15) (hF : FINE B) : ∀ d, d ≤ 15 → fc B (15 - d) + cn B (15 - d) ≤ 2 ^ (15 - d)
  | 0, _ => by
    have h := fc_tk B hB h15 B.length (Nat.le_refl _)
    rw [List.take_length] at h
    have := FINE_tk B hB h15 hF
    show fc B 15 + cn B 15 ≤ 32768; omega
  | d + 1, hd => by
    have h := fc_le B hB h15 hF d (by omega)
    have e : 15 - d = (15 - (d + 1)) + 1 := by omega
    rw [e, Int.pow_succ] at h
    have h2 : fc B (15 - (d + 1) + 1) = 2 * (fc B (15 - (d + 1)) + cn B (15 - (d + 1))) := rfl
    have := cn_nonneg B (15 - (d + 1) + 1)
    omega
theorem fc_bd (B : List Int) (hB : OKB B) (h15 : ∀ j, B.getD j 0 ≤ 15) (hF : FINE B) (n : Nat) (hn : n ≤ 15) : fc B n + cn B n ≤ 2 ^ n := by
  have := fc_le B hB h15 hF (15 - n) (by omega)
  rwa [show 15 - (15 - n) = n by omega] at this
theorem p15 (n : Nat) (h : n ≤ 15) : (1 : Int) ≤ 2 ^ n ∧ (2 : Int) ^ n ≤ 32768 := by
  have := p2_bd (15 - n) (by omega)
  rwa [show 15 - (15 - n) = n by omega] at this
/-- a number of bits, the first one the highest -/
def bval (b : Nat → Int) : Nat → Int
  | 0 => 0
  | n + 1 => 2 * bval b n + b n
/-- the symbol i is what the bits begin with -/
def DEC (B : List Int) (b : Nat → Int) (left : Nat) (i : Nat) : Prop :=
  ∃ n : Nat, i < B.length ∧ 0 < n ∧ B.getD i 0 = (n : Int) ∧ n ≤ left ∧ bval b n = cd B i
theorem cd_eq (B : List Int) (hB : OKB B) (h15 : ∀ j, B.getD j 0 ≤ 15) (hF : FINE B) (i n : Nat) (hi : i < B.length) (h0 : 0 < n) (hn : B.getD i 0 = (n : Int)) : cd B i = fc B n + cn (B.take i) n ∧ cn (B.take i) n < cn B n := by
  have h1 := cn_yes B i n hi hn h0
  have h2 : ∀ d, i + 1 + d ≤ B.length → cn (B.take (i + 1)) n ≤ cn (B.take (i + 1 + d)) n := by
    intro d
    induction d with
    | zero => intro _; exact Int.le_refl _
    | succ d ih =>
      intro hd
      have := ih (by omega)
      rw [show i + 1 + (d + 1) = (i + 1 + d) + 1 from rfl, btake B (i + 1 + d) (by omega), cn_app]
      split <;> omega
  have h3 := h2 (B.length - (i + 1)) (by omega)
  rw [show i + 1 + (B.length - (i + 1)) = B.length by omega, List.take_length] at h3
  have h4 := fc_nn B n
  have h5 := cn_nonneg (B.take i) n
  have h15i := h15 i
  have h6 := fc_bd B hB h15 hF n (by omega)
  have h7 := p15 n (by omega)
  refine ⟨?_, by omega⟩
  unfold cd
  rw [hn, Int.toNat_natCast]; omega
theorem cn_mono (B : List Int) (n i j : Nat) (hij : i ≤ j) (hj : j ≤ B.length) : cn (B.take i) n ≤ cn (B.take j) n := by
  obtain ⟨d, rfl⟩ : ∃ d, j = i + d := ⟨j - i, by omega⟩
  clear hij
  induction d with
  | zero => exact Int.le_refl _
  | succ d ih =>
    have := ih (by omega)
    rw [show i + (d + 1) = (i + d) + 1 from rfl, btake B (i + d) (by omega), cn_app]
    split <;> omega
/-- once read, always behind -/
theorem val_behind (B : List Int) (b : Nat → Int) (hb : ∀ j, b j = 0 ∨ b j = 1) (n : Nat) (h : bval b n < fc B n + cn B n) : ∀ d, 0 < d → bval b (n + d) < fc B (n + d)
  | 0, h0 => absurd h0 (by omega)
  | 1, _ => by
    have := hb n
    show 2 * bval b n + b n < 2 * (fc B n + cn B n); omega
  | d + 2, _ => by
    have h1 := val_behind B b hb n h (d + 1) (by omega)
    have := hb (n + (d + 1))
    have := cn_nonneg B (n + (d + 1))
    show 2 * bval b (n + (d + 1)) + b (n + (d + 1)) < 2 * (fc B (n + (d + 1)) + cn B (n + (d + 1))); omega
/-- no code begins with another one -/
theorem DEC_one (B : List Int) (hB : OKB B) (h15 : ∀ j, B.getD j 0 ≤ 15) (hF : FINE B) (b : Nat → Int) (hb : ∀ j, b j = 0 ∨ b j = 1) (left i j : Nat) (h1 : DEC B b left i) (h2 : DEC B b left j) : i = j := by
  obtain ⟨n, hi, hn0, hn, hnl, hv⟩ := h1
  obtain ⟨k, hj, hk0, hk, hkl, hu⟩ := h2
  obtain ⟨c1, c2⟩ := cd_eq B hB h15 hF i n hi hn0 hn
  obtain ⟨c3, c4⟩ := cd_eq B hB h15 hF j k hj hk0 hk
  have z1 := cn_nonneg (B.take i) n
  have z2 := cn_nonneg (B.take j) k
  rcases Nat.lt_trichotomy n k with h | h | h
  · have := val_behind B b hb n (by omega) (k - n) (by omega)
    rw [show n + (k - n) = k by omega] at this; omega
  · subst h
    rcases Nat.lt_trichotomy i j with h | h | h
    · have a1 := cn_yes B i n hi hn hn0
      have a2 := cn_mono B n (i + 1) j (by omega) (by omega)
      omega
    · exact h
    · have a1 := cn_yes B j n hj hk hk0
      have a2 := cn_mono B n (j + 1) i (by omega) (by omega)
      omega
  · have := val_behind B b hb k (by omega) (n - k) (by omega)
    rw [show k + (n - k) = n by omega] at this; omega
/-- the symbol at a place of the codes of one length -/
theorem sym_at (B : List Int) (hB : OKB B) (h15 : ∀ j, B.getD j 0 ≤ 15) (hF : FINE B) (n : Nat) (h0 : 0 < n) (hn : n ≤ 15) (k : Nat) (hk : (k : Int) < cn B n) :
    ∃ i : Nat, psum B n + k < ((syA B 15).length : Int) ∧ (syA B 15).getD (psum B n + k).toNat 0 = (i : Int) ∧ i < B.length ∧ B.getD i 0 = (n : Int) ∧ cd B i = fc B n + k := by
  have hp : 0 ≤ psum B n := by
    have := psum_mono B 0 n
    rw [Nat.zero_add] at this
    exact this
  have hl : psum B n + k < ((syA B 15).length : Int) := by
    have h1 := psum_syA B hB 15
    have h2 := psum_mono B (n + 1) (15 - n)
    rw [show n + 1 + (15 - n) = 16 by omega] at h2
    have : psum B (n + 1) = psum B n + cn B n := rfl
    have : psum B (15 + 1) = psum B 16 := rfl
    omega
  obtain ⟨n', r, i, g1, g2, g3, g4, g5, g6, g7⟩ := syA_get B 15 (psum B n + k).toNat (by omega)
  have e1 := psum_syA B hB n'
  have e2 := cn_sy1 B hB (n' + 1) (by omega) i (by omega)
  have e3 := cn_sy1 B hB (n' + 1) (by omega) B.length (Nat.le_refl _)
  rw [List.take_length] at e3
  have e4 : psum B (n' + 1 + 1) = psum B (n' + 1) + cn B (n' + 1) := rfl
  have e5 : psum B (n + 1) = psum B n + cn B n := rfl
  have hnn : n' + 1 = n := by
    rcases Nat.lt_trichotomy (n' + 1) n with h | h | h
    · have := psum_mono B (n' + 1 + 1) (n - (n' + 2))
      rw [show n' + 1 + 1 + (n - (n' + 2)) = n by omega] at this; omega
    · exact h
    · have := psum_mono B (n + 1) (n' + 1 - (n + 1))
      rw [show n + 1 + (n' + 1 - (n + 1)) = n' + 1 by omega] at this; omega
  subst hnn
  refine ⟨i, hl, g5, g4, g6, ?_⟩
  rw [(cd_eq B hB h15 hF i (n' + 1) g4 (by omega) g6).1]; omega
end Go.Proofs.YtbiocgenbgbfpaaGreat

namespace Go.Proofs.YtbiocgenbgbfpaaGreat
open Sx Go
set_option linter.unusedVariables false
set_option linter.unusedSimpArgs false
theorem fc_succ (B : List Int) (n : Nat) : fc B (n + 1) = 2 * (fc B n + cn B n) := rfl
theorem fc_zero (B : List Int) : fc B 0 = 0 := rfl
attribute [local irreducible] syA fc tk
/-- the bits of bytes, from the n-th on -/
def bitB (B : List Int) (n j : Nat) : Int := B.getD ((n + j) / 8) 0 / 2 ^ ((n + j) % 8) % 2
theorem bitB_01 (B : List Int) (n j : Nat) : bitB B n j = 0 ∨ bitB B n j = 1 := by
  unfold bitB; omega
/-- what is read, off so many bits -/
def RD (B : List Int) (bits : Nat → Int) (left : Nat) (i : Int) (used : Nat) (r : Int) : Prop :=
  (∃ j : Nat, i = (j : Int) ∧ r = 0 ∧ DEC B bits left j ∧ B.getD j 0 = (used : Int)) ∨
  ((∀ j, ¬ DEC B bits left j) ∧ i = 0 ∧ ((sm B = 0 ∧ used = 0 ∧ r = 62) ∨ (sm B ≠ 0 ∧ tk B = 32768 ∧ used = left ∧ r = 20) ∨ (sm B ≠ 0 ∧ ¬ tk B = 32768 ∧ ((left = 0 ∧ used = 0 ∧ r = 20) ∨ (0 < left ∧ used = 1 ∧ r = 62)))))
theorem or_even {a x : Int} (ha : 0 ≤ a ∧ a < 65536) (he : a % 2 = 0) (hx : x = 0 ∨ x = 1) : IntKind.i64.wrap ((BitVec.ofInt IntKind.i64.bits a ||| BitVec.ofInt IntKind.i64.bits x).toNat) = a + x := by
  rw [or_nat .i64 ⟨ha.1, Int.lt_trans ha.2 (by decide)⟩ ⟨by omega, by rcases hx with rfl | rfl <;> decide⟩]
  have h := Nat.two_pow_add_eq_or_of_lt (i := 1) (b := x.toNat) (by omega) (a.toNat / 2)
  rw [show 2 ^ 1 * (a.toNat / 2) = a.toNat by omega] at h
  rw [← h]
  exact (wi64 (by omega)).trans (by omega)
theorem bval_lt (b : Nat → Int) (hb : ∀ j, b j = 0 ∨ b j = 1) : ∀ n, 0 ≤ bval b n ∧ bval b n < 2 ^ n
  | 0 => ⟨Int.le_refl _, by show (0 : Int) < 1; decide⟩
  | n + 1 => by
    have h := bval_lt b hb n
    have := hb n
    rw [Int.pow_succ]
    show 0 ≤ 2 * bval b n + b n ∧ 2 * bval b n + b n < _
    omega
/-- nothing with as few bits -/
theorem no_dec (B : List Int) (hB : OKB B) (h15 : ∀ j, B.getD j 0 ≤ 15) (hF : FINE B) (bits : Nat → Int) (hb : ∀ j, bits j = 0 ∨ bits j = 1) (k : Nat) (h : fc B k + cn B k ≤ bval bits k) (j : Nat) : ¬ DEC B bits k j := by
  rintro ⟨n, hi, hn0, hn, hnl, hv⟩
  obtain ⟨c1, c2⟩ := cd_eq B hB h15 hF j n hi hn0 hn
  rcases Nat.eq_or_lt_of_le hnl with h1 | h1
  · subst h1; omega
  · have := val_behind B bits hb n (by omega) (k - n) (by omega)
    rw [show n + (k - n) = k by omega] at this
    have := cn_nonneg B k
    omega
theorem sm0_dec (B : List Int) (h : sm B = 0) (bits : Nat → Int) (left j : Nat) : ¬ DEC B bits left j := by
  rintro ⟨n, hi, hn0, hn, hnl, hv⟩
  unfold sm at h
  rw [List.countP_eq_zero] at h
  have := h (B.getD j 0) (by rw [List.getD_eq_getElem?_getD, List.getElem?_eq_getElem hi]; exact List.getElem_mem hi)
  exact this (decide_eq_true (by omega))
theorem FINE_lone (B : List Int) (hB : OKB B) (h15 : ∀ j, B.getD j 0 ≤ 15) (hF : FINE B) (h1 : ¬ tk B = 32768) (h0 : sm B ≠ 0) : ∀ n, 2 ≤ n → n ≤ 15 → cn B n = 0 := by
  have hs : sm B = 1 ∧ cn B 1 = 1 := by rcases hF with h | h | h <;> first | exact absurd h (by omega) | exact h
  have e := sm_sumc B hB h15 B.length (Nat.le_refl _)
  rw [List.take_length, hs.1] at e
  intro n hn hn15
  have hz := cn_nonneg B
  simp only [sumc, hs.2] at e
  have z2 := hz 2; have z3 := hz 3; have z4 := hz 4; have z5 := hz 5; have z6 := hz 6; have z7 := hz 7; have z8 := hz 8; have z9 := hz 9; have z10 := hz 10; have z11 := hz 11; have z12 := hz 12; have z13 := hz 13; have z14 := hz 14; have z15 := hz 15
  simp only [Nat.zero_add, Nat.reduceAdd, hs.2] at e
  match n, hn, hn15 with
  | 2, _, _ | 3, _, _ | 4, _, _ | 5, _, _ | 6, _, _ | 7, _, _ | 8, _, _ | 9, _, _ | 10, _, _ | 11, _, _ | 12, _, _ | 13, _, _ | 14, _, _ | 15, _, _ => omega
theorem val_b (B2 : List Int) (n k : Nat) : bitB B2 n k = B2.getD ((n + k) / 8) 0 / 2 ^ ((n + k) % 8) % 2 := rfl
set_option maxHeartbeats 4000000 in
/-- a set reads a symbol -/
theorem Read_c {w0 : World} {H : List Asn} (b b2 : Nat) (u : Value) (s q : Option Addr) (d e m2 : Nat) (B B2 : List Int) (hs : blk b (setCells u (cn B) (.slice s (syA B 15).length e) (decide (tk B = 32768))) ∈ H) (hrs : Rd w0 H (.slice s (syA B 15).length e) (syA B 15).length (ints .i64 (syA B 15)))
    (hm : B.length ≤ 320) (hB : OKB B) (h15 : ∀ j, B.getD j 0 ≤ 15) (hF : FINE B) (hr : Rd w0 H (.slice q m2 d) m2 (ints .u8 B2)) (hm2 : B2.length = m2) (hB2 : OKB B2) (hmx : m2 ≤ 140737488355328) (n : Nat) (hn : n ≤ 8 * m2)
    (w : World) (hw : St w0 (blk b2 [.slice q m2 d, .int .i64 n] :: H) w) :
    Calls Tryz.prog 116 #[.pointer (some ⟨b, 0, none⟩), .pointer (some ⟨b2, 0, none⟩)] w fun en w' => ∃ (i : Int) (used : Nat) (r : Int), en = .returned (.tuple #[.int .i64 i, .int .i64 r]) ∧ St w0 (blk b2 [.slice q m2 d, .int .i64 (n + used : Nat)] :: H) w' ∧ n + used ≤ 8 * m2 ∧ RD B (bitB B2 n) (8 * m2 - n) i used r := by
  refine enter (vs := [.pointer (some ⟨b, 0, none⟩), .pointer (some ⟨b2, 0, none⟩)]) Tryz.func116 rfl rfl rfl hw ?_
  have hs' : blk b (setCells u (cn B) (.slice s (syA B 15).length e) (decide (tk B = 32768))) ∈ blk b2 [.slice q m2 d, .int .i64 n] :: H := List.Mem.tail _ hs
  have hsl := sm_syA B hB h15
  by_cases h0 : sm B = 0
  · have h0' : (syA B 15).length = 0 := by omega
    repeat (first | (apply gJO; refine JO_v (V_load (tb := tb) rfl hs' rfl rfl rfl rfl) ?_) | (first | (refine sx ?_; try intro _)))
    refine JS_ret Tryz.func116 rfl rfl ?_
    intro w hw
    exact ⟨0, 0, 62, rfl, hw, by omega, .inr ⟨sm0_dec B h0 _ _, rfl, .inl ⟨h0, rfl, rfl⟩⟩⟩
  have h0' : ¬ (syA B 15).length = 0 := by omega
  repeat (first | (apply gJO; refine JO_v (V_load (tb := tb) rfl hs' rfl rfl rfl rfl) ?_) | (apply gJR; first | (refine sx ?_; try intro _)) | (apply gJO; first | (refine sx ?_; try intro _)) | apply JS_seq | apply JS_region | refine JS_condF rfl ?_ | refine JS_cond_F rfl (by omega) ?_ | apply JS_skip)
  refine JS_block ?_
  refine JS_loop1 (fun (k : Nat) => [(0, .pointer (some ⟨b, 0, none⟩)), (1, .pointer (some ⟨b2, 0, none⟩)), (6, .func (.func 124) #[.pointer (some ⟨b2, 0, none⟩)] #[]), (7, .int .i64 (2 * bval (bitB B2 n) k)), (8, .int .i64 (fc B (k + 1))), (9, .int .i64 (psum B (k + 1))), (10, .int .i64 (k + 1))])
    (fun k => blk b2 [.slice q m2 d, .int .i64 (n + k : Nat)] :: H)
    (fun k => k ≤ 15 ∧ n + k ≤ 8 * m2 ∧ fc B k + cn B k ≤ bval (bitB B2 n) k ∧ (k = 0 ∨ tk B = 32768)) (fun k => 15 - k) 0 ⟨by omega, by omega, by rw [fc_zero]; simp [cn, bval], .inl rfl⟩ (by exact ⟨rfl, rfl, rfl, rfl, lookI rfl (by rw [fc_succ, fc_zero]; simp [cn]), lookI rfl (by simp [psum, cn]), rfl, trivial⟩) (fun _ h => h) ?_
  intro k ⟨hk, hnk, hfv, hful⟩ again
  have hbits := bitB_01 B2 n
  have hv := bval_lt (bitB B2 n) hbits k
  have hp2 := p15 k hk
  have hfull15 : tk B = 32768 → k < 15 := by
    intro h
    rcases Nat.lt_or_ge k 15 with h1 | h1
    · exact h1
    · obtain rfl : k = 15 := by omega
      have := fc_tk B hB h15 B.length (Nat.le_refl _)
      rw [List.take_length] at this; omega
  have hk15 : k < 15 := by
    rcases hful with h | h
    · omega
    · exact hfull15 h
  have hr' : Rd w0 H (.slice q m2 d) m2 (ints .u8 B2) := hr
  repeat (first | (refine sx ?_; try intro _))
  refine JO_callv (us := [.pointer (some ⟨b2, 0, none⟩)]) (cs := []) rfl Tryz.call124 rfl rfl fun w hw => (Bit_c b2 q d m2 B2 hr hm2 hB2 hmx (n + k) hnk w hw).mono ?_
  rintro e1 w' ⟨x, r, rfl, hcase⟩
  rcases hcase with ⟨h1, rfl, rfl, hw'⟩ | ⟨h1, rfl, hx, hw'⟩
  · refine ⟨_, rfl, _, hw', ?_⟩
    clear hw' hw w w'
    repeat (first | (refine sx ?_; try intro _))
    refine JS_ret Tryz.func116 rfl rfl ?_
    intro w hw
    refine ⟨0, k, 20, rfl, hw, hnk, .inr ⟨?_, rfl, ?_⟩⟩
    · rw [show 8 * m2 - n = k by omega]
      exact no_dec B hB h15 hF _ hbits k hfv
    · rcases hful with h | h
      · subst h
        by_cases ht : tk B = 32768
        · exact .inr (.inl ⟨h0, ht, by omega, rfl⟩)
        · exact .inr (.inr ⟨h0, ht, .inl ⟨by omega, rfl, rfl⟩⟩)
      · exact .inr (.inl ⟨h0, h, by omega, rfl⟩)
  · refine ⟨_, rfl, _, hw', ?_⟩
    clear hw' hw w w'
    rw [← val_b] at hx
    subst hx
    have hvk : bval (bitB B2 n) (k + 1) = 2 * bval (bitB B2 n) k + bitB B2 n k := rfl
    have hb1 := hbits k
    have hor := or_even (a := 2 * bval (bitB B2 n) k) (x := bitB B2 n k) (by omega) (by omega) hb1
    rw [← hvk] at hor
    have hcn0 := cn_nonneg B (k + 1)
    have hfcb := fc_bd B hB h15 hF (k + 1) (by omega)
    have hfc0 := fc_nn B (k + 1)
    have hp3 := p15 (k + 1) (by omega)
    have hfk := fc_succ B k
    have hge : fc B (k + 1) ≤ bval (bitB B2 n) (k + 1) := by omega
    have hv2 := bval_lt (bitB B2 n) hbits (k + 1)
    have hs2 : blk b (setCells u (cn B) (.slice s (syA B 15).length e) (decide (tk B = 32768))) ∈ blk b2 [.slice q m2 d, .int .i64 (n + k + 1 : Nat)] :: H := List.Mem.tail _ hs
    have hidx : ∀ {v : Value}, nth (setCells u (cn B) (.slice s (syA B 15).length e) (decide (tk B = 32768))) (1 + ((k : Int) + 1).toNat * 1) = some v ↔ v = .int .i64 (cn B (k + 1)) := by
      intro v
      rw [show 1 + ((k : Int) + 1).toNat * 1 = 1 + (k + 1) by omega, set_nth (by omega)]
      exact ⟨fun h => (Option.some.inj h).symm, fun h => by rw [h]⟩
    have hnth := hidx.2 rfl
    have hps0 : 0 ≤ psum B (k + 1) := by
      have := psum_mono B 0 (k + 1)
      rw [Nat.zero_add] at this
      exact this
    have hps1 : psum B (k + 1) + cn B (k + 1) ≤ (syA B 15).length := by
      have h1 := psum_syA B hB 15
      have h2 := psum_mono B (k + 2) (16 - (k + 2))
      rw [show k + 2 + (16 - (k + 2)) = 16 by omega] at h2
      have : psum B (k + 2) = psum B (k + 1) + cn B (k + 1) := rfl
      have : psum B (15 + 1) = psum B 16 := rfl
      omega
    have hsL := syA_len B 15
    by_cases hlt : bval (bitB B2 n) (k + 1) - fc B (k + 1) < cn B (k + 1)
    · obtain ⟨kk, hkk⟩ := Int.eq_ofNat_of_zero_le (show 0 ≤ bval (bitB B2 n) (k + 1) - fc B (k + 1) by omega)
      rw [hkk] at hlt
      obtain ⟨i, g1, g2, g3, g4, g5⟩ := sym_at B hB h15 hF (k + 1) (by omega) (by omega) kk hlt
      have hi64 : IntKind.i64.wrap (bval (bitB B2 n) (k + 1) - fc B (k + 1)) = (kk : Int) := by rw [hkk]; exact wi64 (by omega)
      have gs : (ints .i64 (syA B 15))[(psum B (k + 1) + (kk : Int)).toNat]? = some (.int .i64 (i : Int)) := by rw [← g2]; exact ints_get (by omega)
      have hrs' : Rd w0 (blk b2 [.slice q m2 d, .int .i64 (n + k + 1 : Nat)] :: H) (.slice s (syA B 15).length e) (syA B 15).length (ints .i64 (syA B 15)) := Rd_weak hrs fun w hw => St.sub (by repeat (first | exact List.Sublist.refl _ | apply List.Sublist.cons_cons | apply List.Sublist.cons)) hw
      clear hidx
      repeat (first | (apply gJO; first | refine JO_v (V_or rfl rfl hor rfl) ?_ | refine JO_v (V_sub rfl rfl hi64 rfl) ?_ | refine JO_v (V_load (tb := tb) rfl hs2 rfl rfl hnth rfl) ?_ | refine JO_v (V_load (tb := tb) rfl hs2 rfl rfl rfl rfl) ?_ | refine JO_v (V_index (tb := tb) rfl rfl rfl rfl (Rd.sl hrs') (by omega) (Nat.mul_one _) rfl) ?_ | refine JO_v (V_loadC (tb := tb) rfl hrs' rfl rfl gs rfl) ?_) | (first | (refine sx ?_; try intro _)))
      refine JS_ret Tryz.func116 rfl rfl ?_
      intro w hw
      exact ⟨i, k + 1, 0, rfl, hw, by omega, .inl ⟨i, rfl, rfl, ⟨k + 1, g3, by omega, g4, by omega, by omega⟩, g4⟩⟩
    · by_cases hfl : tk B = 32768
      · have hk14 : k < 14 := by
          rcases Nat.lt_or_ge k 14 with h1 | h1
          · exact h1
          · obtain rfl : k = 14 := by omega
            have := fc_tk B hB h15 B.length (Nat.le_refl _)
            rw [List.take_length] at this
            have : (2 : Int) ^ (14 + 1) = 32768 := by decide
            simp only [Nat.reduceAdd] at hfcb hlt hge hv2 this
            omega
        have hfl' : decide (tk B = 32768) = true := decide_eq_true hfl
        have hf2 := fc_succ B (k + 1)
        have hp4 : psum B (k + 1 + 1) = psum B (k + 1) + cn B (k + 1) := rfl
        rw [hfl'] at hs2
        clear hidx
        rw [hfl'] at hnth
        repeat (first | (apply gJO; first | refine JO_v (V_or rfl rfl hor rfl) ?_ | refine JO_v (V_load (tb := tb) rfl hs2 rfl rfl hnth rfl) ?_ | refine JO_v (V_load (tb := tb) rfl hs2 rfl rfl rfl rfl) ?_) | (first | (refine sx ?_; try intro _)))
        refine JS_again1 again (k + 1) ⟨by omega, by omega, by omega, .inr hfl⟩ (by omega) (by repeat (first | exact trivial | refine ⟨rfl, ?_⟩ | refine ⟨lookI rfl (by omega), ?_⟩)) (fun w hw => hw)
      · obtain rfl : k = 0 := by rcases hful with h | h <;> first | exact h | exact absurd h hfl
        have hfl' : decide (tk B = 32768) = false := decide_eq_false hfl
        rw [hfl'] at hs2
        clear hidx
        rw [hfl'] at hnth
        repeat (first | (apply gJO; first | refine JO_v (V_or rfl rfl hor rfl) ?_ | refine JO_v (V_load (tb := tb) rfl hs2 rfl rfl hnth rfl) ?_ | refine JO_v (V_load (tb := tb) rfl hs2 rfl rfl rfl rfl) ?_) | (first | (refine sx ?_; try intro _)))
        refine JS_ret Tryz.func116 rfl rfl ?_
        intro w hw
        refine ⟨0, 1, 62, rfl, hw, by omega, .inr ⟨?_, rfl, .inr (.inr ⟨h0, hfl, .inr ⟨by omega, rfl, rfl⟩⟩)⟩⟩
        intro j
        rintro ⟨n', hi, hn0, hn', hnl, hv'⟩
        have h15j := h15 j
        obtain ⟨c1, c2⟩ := cd_eq B hB h15 hF j n' hi hn0 hn'
        have hz := cn_nonneg (B.take j) n'
        by_cases h2 : 2 ≤ n'
        · have := FINE_lone B hB h15 hF hfl h0 n' h2 (by omega); omega
        · obtain rfl : n' = 1 := by omega
          have : bval (bitB B2 n) (0 + 1) = bval (bitB B2 n) 1 := rfl
          have : fc B (0 + 1) = fc B 1 := rfl
          have : cn B (0 + 1) = cn B 1 := rfl
          omega
end Go.Proofs.YtbiocgenbgbfpaaGreat

namespace Go.Proofs.YtbiocgenbgbfpaaGreat
open Sx Go
set_option linter.unusedVariables false
set_option linter.unusedSimpArgs false
/-- a number's bits, the lowest first -/
def grp (n : Int) (c : Nat) : List Int := (List.range c).map fun j => n / 2 ^ j % 2
theorem grp_len (n : Int) (c : Nat) : (grp n c).length = c := by simp [grp]
theorem grp_succ (n : Int) (c : Nat) : grp n (c + 1) = grp n c ++ [n / 2 ^ c % 2] := by simp [grp, List.range_succ]
/-- the bits of the first bytes -/
def bitsL (B : List Int) (i : Nat) : List Int := (List.range (8 * i)).map fun j => B.getD (j / 8) 0 / 2 ^ (j % 8) % 2
theorem bitsL_len (B : List Int) (i : Nat) : (bitsL B i).length = 8 * i := by simp [bitsL]
theorem bitsL_succ (B : List Int) (i : Nat) : bitsL B (i + 1) = bitsL B i ++ grp (B.getD i 0) 8 := by
  have h : List.range (8 * (i + 1)) = List.range (8 * i) ++ (List.range 8).map (fun j => 8 * i + j) := by rw [Nat.mul_add, Nat.mul_one, List.range_add]
  unfold bitsL grp
  rw [h, List.map_append, List.map_map]
  congr 1
  apply List.map_congr_left
  intro j hj
  simp only [List.mem_range] at hj
  simp only [Function.comp_apply]
  rw [show (8 * i + j) / 8 = i by omega, show (8 * i + j) % 8 = j by omega]
theorem bitsL_get (B : List Int) (i j : Nat) (h : j < 8 * i) : (bitsL B i).getD j 0 = bitB B 0 j := by
  simp [bitsL, bitB, List.getD_eq_getElem?_getD, h]
/-- a code's bits, the highest first -/
def bms (c : Int) (n : Nat) : List Int := (List.range n).map fun j => c / 2 ^ (n - 1 - j) % 2
theorem bms_len (c : Int) (n : Nat) : (bms c n).length = n := by simp [bms]
theorem bms_succ (c : Int) (n : Nat) : bms c (n + 1) = [c / 2 ^ n % 2] ++ bms c n := by
  unfold bms
  rw [List.range_succ_eq_map, List.map_cons, List.map_map]
  simp only [List.singleton_append]
  congr 1
  apply List.map_congr_left
  intro j hj
  simp only [Function.comp_apply]
  rw [show n + 1 - 1 - j.succ = n - 1 - j by omega]
theorem div_step (a : Int) (k : Nat) : a / 2 ^ (k + 1) = a / 2 ^ k / 2 := by
  rw [Int.pow_succ, ← Int.ediv_ediv_of_nonneg (Int.le_of_lt (Int.pow_pos (by decide)))]
theorem val_bms (b : Nat → Int) (hb : ∀ j, b j = 0 ∨ b j = 1) (c : Int) (n : Nat) (hc : 0 ≤ c ∧ c < 2 ^ n) : (List.range n).map b = bms c n ↔ bval b n = c := by
  constructor
  · intro h
    have hj : ∀ j, j < n → b j = c / 2 ^ (n - 1 - j) % 2 := by
      intro j hj
      have := congrArg (fun l => l.getD j 0) h
      simpa [bms, List.getD_eq_getElem?_getD, hj] using this
    have key : ∀ k, k ≤ n → bval b k = c / 2 ^ (n - k) := by
      intro k
      induction k with
      | zero => intro _; rw [Nat.sub_zero]; exact (Int.ediv_eq_zero_of_lt hc.1 hc.2).symm
      | succ k ih =>
        intro hk
        have h1 := ih (by omega)
        have h2 := hj k (by omega)
        rw [show n - k = (n - (k + 1)) + 1 by omega, div_step] at h1
        rw [show n - 1 - k = n - (k + 1) by omega] at h2
        show 2 * bval b k + b k = _
        omega
    have := key n (Nat.le_refl _)
    rwa [Nat.sub_self, Int.pow_zero, Int.ediv_one] at this
  · intro h
    have key : ∀ d, d ≤ n → bval b (n - d) = c / 2 ^ d := by
      intro d
      induction d with
      | zero => intro _; rw [Nat.sub_zero, Int.pow_zero, Int.ediv_one]; exact h
      | succ d ih =>
        intro hd
        have h1 := ih (by omega)
        have h2 : bval b (n - d) = 2 * bval b (n - (d + 1)) + b (n - (d + 1)) := by rw [show n - d = n - (d + 1) + 1 by omega]; rfl
        have := hb (n - (d + 1))
        rw [div_step]
        omega
    unfold bms
    apply List.map_congr_left
    intro j hj
    simp only [List.mem_range] at hj
    have h1 := key (n - 1 - j) (by omega)
    have h2 : bval b (n - (n - 1 - j)) = 2 * bval b j + b j := by rw [show n - (n - 1 - j) = j + 1 by omega]; rfl
    have := hb j
    omega
set_option maxHeartbeats 1000000 in
theorem Group4_c {w0 : World} {H : List Asn} (n : Int) (k : Nat) (hn : 0 ≤ n ∧ n < 4294967296) (hk : k ≤ 4611686018427387904) (hk2 : k ≤ 140737488355320) (w : World) (hw : St w0 H w) :
    Calls Tryz.prog 74 #[.int .u32 n, .int .i64 k] w fun e w' => ∃ p c, e = .returned (.slice p k c) ∧ St w0 (vec 5 1 (.slice p k c) k (ints .u8 (grp n k)) :: H) w' := by
  refine enter (vs := [.int .u32 n, .int .i64 k]) Tryz.func74 rfl rfl rfl hw ?_
  repeat (first | (apply gJR; first | (refine sx ?_; try intro _)) | (apply gJO; first | (refine sx ?_; try intro _)) | apply JS_seq | apply JS_region)
  refine JS_block ?_
  refine JS_loop3 (fun (i : Nat) (p : Option Addr) (c : Nat) => [(0, .int .u32 (n / 2 ^ i)), (1, .int .i64 k), (5, .slice p i c), (6, .int .i64 i)]) (fun i p c => vec 5 1 (.slice p i c) i (ints .u8 (grp n i)) :: H) (fun i _ _ => i ≤ k ∧ 0 ≤ n / 2 ^ i ∧ n / 2 ^ i < 4294967296) (fun i _ _ => k - i) 0 none 0 ⟨by omega, by rw [Int.pow_zero, Int.ediv_one]; exact hn⟩
    (by exact ⟨lookI rfl (by rw [Int.pow_zero, Int.ediv_one]), rfl, rfl, rfl, trivial⟩) (fun w hw => St.nilvec hw) ?_
  intro i p c ⟨hi, hq0, hq1⟩ again
  have hds := div_step n i
  by_cases hik : i < k
  · have hgs := grp_succ n i
    generalize n / 2 ^ i = Q at *
    repeat (first | (refine sx ?_; try intro _))
    (refine JO_app (tb := tb) rfl rfl rfl rfl rfl rfl (by repeat (first | exact Sel.here _ _ | apply Sel.there)) (by first | exact vec_rd (by repeat (first | apply List.Mem.head | apply List.Mem.tail)) | assumption | exact ArgRd.rd (by assumption) _ | (apply Rd_weak; assumption; intro _ hx; exact St.sub (by repeat (first | exact List.Sublist.refl _ | apply List.Sublist.cons_cons | apply List.Sublist.cons)) hx)) (by simp only [ints_len, List.length_cons, List.length_nil]; first | omega | rfl) (by first | exact ints_one | (repeat (first | exact trivial | refine ⟨rfl, ?_⟩))) (by omega) rfl ?_; intro _ _)
    rename_i p2 c2
    repeat (first | (refine sx ?_; try intro _))
    exact JS_again3 again (i + 1) p2 c2 ⟨by omega, by omega, by omega⟩ (by omega) (by exact ⟨lookI rfl (by omega), rfl, rfl, rfl, trivial⟩) (fun w hw => by rw [hgs, ← ints_app1]; exact St.sub (by repeat (first | exact List.Sublist.refl _ | apply List.Sublist.cons_cons | apply List.Sublist.cons)) hw)
  · obtain rfl : i = k := by omega
    clear again
    repeat (first | (refine sx ?_; try intro _))
    refine JS_ret Tryz.func74 rfl rfl ?_
    intro w hw
    exact ⟨_, _, rfl, hw⟩
set_option maxHeartbeats 1000000 in
theorem Bits4_c {w0 : World} {H : List Asn} (p : Option Addr) (c m : Nat) (B : List Int) (hr : Rd w0 H (.slice p m c) m (ints .u8 B)) (hm : B.length = m) (hB : OKB B) (hm1 : m ≤ 17592186044410) (w : World) (hw : St w0 H w) :
    Calls Tryz.prog 34 #[.slice p m c] w fun e w' => ∃ q d, e = .returned (.slice q (8 * m) d) ∧ St w0 (vec 5 1 (.slice q (8 * m) d) (8 * m) (ints .u8 (bitsL B m)) :: H) w' := by
  refine enter (vs := [.slice p m c]) Tryz.func34 rfl rfl rfl hw ?_
  repeat (first | (apply gJR; first | (refine sx ?_; try intro _)) | (apply gJO; first | (refine sx ?_; try intro _)) | apply JS_seq | apply JS_region)
  refine JS_block ?_
  refine JS_loop3 (fun (i : Nat) (q : Option Addr) (d : Nat) => [(0, .slice p m c), (3, .slice q (8 * i) d), (4, .int .i64 i)]) (fun i q d => vec 5 1 (.slice q (8 * i) d) (8 * i) (ints .u8 (bitsL B i)) :: H) (fun i _ _ => i ≤ m) (fun i _ _ => m - i) 0 none 0 (by omega) (by repeat (first | exact trivial | refine ⟨rfl, ?_⟩ | refine ⟨lookI rfl (by omega), ?_⟩)) (fun w hw => St.nilvec hw) ?_
  intro i q d hi again
  by_cases hik : i < m
  · have hgs := bitsL_succ B i
    have hb := hB i
    have hr' : Rd w0 (vec 5 1 (.slice q (8 * i) d) (8 * i) (ints .u8 (bitsL B i)) :: H) (.slice p m c) m (ints .u8 B) := Rd_weak hr fun w hw => St.sub (by repeat (first | exact List.Sublist.refl _ | apply List.Sublist.cons_cons | apply List.Sublist.cons)) hw
    have g0 : (ints .u8 B)[i]? = some (.int .u8 (B.getD i 0)) := ints_get (by omega)
    generalize B.getD i 0 = X at *
    repeat (first | (apply gJO; refine JO_v (V_loadC (tb := tb) rfl hr' rfl rfl g0 rfl) ?_) | (first | (refine sx ?_; try intro _)))
    refine JO_call Tryz.call74 rfl rfl fun w hw => (Group4_c X 8 (by omega) (by omega) (by omega) w hw).mono ?_
    rintro e w' ⟨p1, c1, rfl, hw'⟩
    refine ⟨_, rfl, _, hw', ?_⟩
    clear hw' hw w w'
    have hgl := grp_len X 8
    repeat (first | (refine sx ?_; try intro _))
    (refine JO_app (tb := tb) rfl rfl rfl rfl rfl rfl (by repeat (first | exact Sel.here _ _ | apply Sel.there)) (by first | exact vec_rd (by repeat (first | apply List.Mem.head | apply List.Mem.tail)) | assumption | exact ArgRd.rd (by assumption) _ | (apply Rd_weak; assumption; intro _ hx; exact St.sub (by repeat (first | exact List.Sublist.refl _ | apply List.Sublist.cons_cons | apply List.Sublist.cons)) hx)) (by simp only [ints_len, List.length_cons, List.length_nil]; first | omega | rfl) (by first | exact ints_one | (repeat (first | exact trivial | refine ⟨rfl, ?_⟩))) (by omega) rfl ?_; intro _ _)
    rename_i p2 c2
    repeat (first | (refine sx ?_; try intro _))
    exact JS_again3 again (i + 1) p2 c2 (by omega) (by omega) (by repeat (first | exact trivial | refine ⟨rfl, ?_⟩ | refine ⟨lookI rfl (by omega), ?_⟩)) (fun w hw => by rw [hgs, ← ints_app]; exact St.sub (by repeat (first | exact List.Sublist.refl _ | apply List.Sublist.cons_cons | apply List.Sublist.cons)) hw)
  · obtain rfl : i = m := by omega
    clear again
    repeat (first | (refine sx ?_; try intro _))
    refine JS_ret Tryz.func34 rfl rfl ?_
    intro w hw
    exact ⟨_, _, rfl, hw⟩
set_option maxHeartbeats 1000000 in
theorem Bits5_c {w0 : World} {H : List Asn} (n : Int) (k : Nat) (hn : 0 ≤ n ∧ n < 4294967296) (hk : k ≤ 255) (w : World) (hw : St w0 H w) :
    Calls Tryz.prog 120 #[.int .u32 n, .int .u8 k] w fun e w' => ∃ p c, e = .returned (.slice p k c) ∧ St w0 (vec 5 1 (.slice p k c) k (ints .u8 (bms n k)) :: H) w' := by
  refine enter (vs := [.int .u32 n, .int .u8 k]) Tryz.func120 rfl rfl rfl hw ?_
  repeat (first | (apply gJR; first | (refine sx ?_; try intro _)) | (apply gJO; first | (refine sx ?_; try intro _)) | apply JS_seq | apply JS_region)
  refine JS_block ?_
  refine JS_loop3 (fun (i : Nat) (p : Option Addr) (c : Nat) => [(0, .int .u32 (n / 2 ^ i)), (1, .int .u8 k), (5, .slice p i c), (6, .int .u8 i)]) (fun i p c => vec 5 1 (.slice p i c) i (ints .u8 (bms n i)) :: H) (fun i _ _ => i ≤ k ∧ 0 ≤ n / 2 ^ i ∧ n / 2 ^ i < 4294967296) (fun i _ _ => k - i) 0 none 0 ⟨by omega, by rw [Int.pow_zero, Int.ediv_one]; exact hn⟩
    (by exact ⟨lookI rfl (by rw [Int.pow_zero, Int.ediv_one]), rfl, rfl, rfl, trivial⟩) (fun w hw => St.nilvec hw) ?_
  intro i p c ⟨hi, hq0, hq1⟩ again
  have hds := div_step n i
  by_cases hik : i < k
  · have hgs := bms_succ n i
    have hbl := bms_len n i
    generalize n / 2 ^ i = Q at *
    repeat (first | (refine sx ?_; try intro _))
    (refine JO_app (tb := tb) rfl rfl rfl rfl rfl rfl (by repeat (first | exact Sel.here _ _ | apply Sel.there)) (by first | exact vec_rd (by repeat (first | apply List.Mem.head | apply List.Mem.tail)) | assumption | exact ArgRd.rd (by assumption) _ | (apply Rd_weak; assumption; intro _ hx; exact St.sub (by repeat (first | exact List.Sublist.refl _ | apply List.Sublist.cons_cons | apply List.Sublist.cons)) hx)) (by simp only [ints_len, List.length_cons, List.length_nil]; first | omega | rfl) (by first | exact ints_one | (repeat (first | exact trivial | refine ⟨rfl, ?_⟩))) (by omega) rfl ?_; intro _ _)
    rename_i p2 c2
    repeat (first | (refine sx ?_; try intro _))
    exact JS_again3 again (i + 1) p2 c2 ⟨by omega, by omega, by omega⟩ (by omega) (by exact ⟨lookI rfl (by omega), rfl, by rw [Nat.add_comm i 1]; rfl, lookI rfl (by omega), trivial⟩) (fun w hw => by rw [hgs, ← ints_app, Nat.add_comm i 1]; exact St.sub (by repeat (first | exact List.Sublist.refl _ | apply List.Sublist.cons_cons | apply List.Sublist.cons)) hw)
  · obtain rfl : i = k := by omega
    clear again
    repeat (first | (refine sx ?_; try intro _))
    refine JS_ret Tryz.func120 rfl rfl ?_
    intro w hw
    exact ⟨_, _, rfl, hw⟩
end Go.Proofs.YtbiocgenbgbfpaaGreat

namespace Go.Proofs.YtbiocgenbgbfpaaGreat
open Sx Go
set_option linter.unusedVariables false
set_option linter.unusedSimpArgs false
/-! bits turned about -/
def bsw (s : Nat) (m v : BitVec 32) : BitVec 32 := ((v >>> s) &&& m) ||| ((v &&& m) <<< s)
def ix (s j : Nat) : Nat := if (j / s) % 2 = 0 then j + s else j - s
theorem sw_bit (s : Nat) (hs : s = 1 ∨ s = 2 ∨ s = 4 ∨ s = 8 ∨ s = 16) (m v : BitVec 32) (hm : ∀ j, j < 32 → m.getLsbD j = decide ((j / s) % 2 = 0)) (j : Nat) (hj : j < 32) : (bsw s m v).getLsbD j = v.getLsbD (ix s j) := by
  unfold bsw ix
  simp only [BitVec.getLsbD_or, BitVec.getLsbD_and, BitVec.getLsbD_ushiftRight, BitVec.getLsbD_shiftLeft, hm j hj]
  by_cases h : (j / s) % 2 = 0
  · rw [if_pos h, decide_eq_true h, Bool.and_true, Nat.add_comm s j]
    by_cases hjs : j < s
    · simp [hjs]
    · have : m.getLsbD (j - s) = false := by
        rw [hm (j - s) (by omega)]
        refine decide_eq_false ?_
        rcases hs with rfl | rfl | rfl | rfl | rfl <;> omega
      simp [this]
  · rw [if_neg h, decide_eq_false h, Bool.and_false, Bool.false_or]
    have h1 : s ≤ j := by rcases hs with rfl | rfl | rfl | rfl | rfl <;> omega
    have : m.getLsbD (j - s) = true := by
      rw [hm (j - s) (by omega)]
      refine decide_eq_true ?_
      rcases hs with rfl | rfl | rfl | rfl | rfl <;> omega
    simp [this, hj, Nat.not_lt.2 h1]
theorem ix_lt (s : Nat) (hs : s = 1 ∨ s = 2 ∨ s = 4 ∨ s = 8 ∨ s = 16) (j : Nat) (hj : j < 32) : ix s j < 32 := by
  unfold ix
  split <;> rcases hs with rfl | rfl | rfl | rfl | rfl <;> omega
theorem mask_bit (s : Nat) (m : BitVec 32) (h : (List.range 32).all (fun j => m.getLsbD j == decide ((j / s) % 2 = 0)) = true) : ∀ j, j < 32 → m.getLsbD j = decide ((j / s) % 2 = 0) := by
  intro j hj
  have := List.all_eq_true.1 h j (by simpa using hj)
  simpa using this
def rev32 (v : BitVec 32) : BitVec 32 :=
  let a := bsw 1 1431655765#32 v
  let b := bsw 2 858993459#32 a
  let c := bsw 4 252645135#32 b
  let d := bsw 8 16711935#32 c
  (d >>> 16) ||| (d <<< 16)
theorem rev32_bit (v : BitVec 32) (j : Nat) (hj : j < 32) : (rev32 v).getLsbD j = v.getLsbD (31 - j) := by
  have e16 : ∀ d : BitVec 32, (d >>> 16) ||| (d <<< 16) = bsw 16 65535#32 d := by
    intro d
    unfold bsw
    apply BitVec.eq_of_getLsbD_eq
    intro i hi
    have hm := mask_bit 16 65535#32 (by decide +kernel)
    simp only [BitVec.getLsbD_or, BitVec.getLsbD_and, BitVec.getLsbD_ushiftRight, BitVec.getLsbD_shiftLeft, hm i hi]
    by_cases h : i < 16
    · rw [decide_eq_true (show (i / 16) % 2 = 0 by omega)]; simp [h]
    · have h1 : d.getLsbD (16 + i) = false := BitVec.getLsbD_of_ge _ _ (by omega)
      rw [hm (i - 16) (by omega), decide_eq_true (show ((i - 16) / 16) % 2 = 0 by omega), decide_eq_false (show ¬ (i / 16) % 2 = 0 by omega), h1]; simp
  unfold rev32
  simp only []
  have i16 := ix_lt 16 (by omega) j hj
  have i8 := ix_lt 8 (by omega) _ i16
  have i4 := ix_lt 4 (by omega) _ i8
  have i2 := ix_lt 2 (by omega) _ i4
  rw [e16, sw_bit 16 (by omega) _ _ (mask_bit 16 _ (by decide +kernel)) j hj, sw_bit 8 (by omega) _ _ (mask_bit 8 _ (by decide +kernel)) _ i16, sw_bit 4 (by omega) _ _ (mask_bit 4 _ (by decide +kernel)) _ i8,
    sw_bit 2 (by omega) _ _ (mask_bit 2 _ (by decide +kernel)) _ i4, sw_bit 1 (by omega) _ _ (mask_bit 1 _ (by decide +kernel)) _ i2]
  have : ∀ k : Fin 32, ix 1 (ix 2 (ix 4 (ix 8 (ix 16 k.val)))) = 31 - k.val := by decide +kernel
  rw [this ⟨j, hj⟩]
/-! a number as a vector of bits -/
def bv (v : BitVec 32) : Value := .int .u32 (v.toNat : Int)
section
variable {n : Nat} {D : List Deferred} {w0 : World} {ov : Ov} {H : List Asn} {d : Option Nat} {T T1 T2 : Nat} {pos : String} {af : Array Edge} {g : Option (Nat × Bool)} {x y : Operand}
theorem ofInt_bv (v : BitVec 32) : BitVec.ofInt IntKind.u32.bits (v.toNat : Int) = v := by
  show BitVec.ofInt 32 (v.toNat : Int) = v
  rw [BitVec.ofInt_natCast, BitVec.ofNat_toNat]; simp
theorem wrap_bv (v : BitVec 32) : IntKind.u32.wrap (v.toNat : Int) = (v.toNat : Int) := wu32 (by have := v.isLt; omega)
theorem VB_shr {v : BitVec 32} {s : Nat} {K : IntKind} (hx : ev ov x = some (bv v)) (hy : ev ov y = some (.int K s)) (hs : s ≤ 32) (hd : dOk d n = true) : OpV Tryz.prog n D w0 ov H ⟨d, .binOp .shr T1 x y T2, T, pos, af, g⟩ (bv (v >>> s)) := by
  refine V_shr (m := s) hx hy (by omega) (by show min ((s : Int)).toNat 32 = s; omega) ?_ hd
  rw [BitVec.toNat_ushiftRight, Nat.shiftRight_eq_div_pow]; simp
theorem VB_shl {v : BitVec 32} {s : Nat} {K : IntKind} (hx : ev ov x = some (bv v)) (hy : ev ov y = some (.int K s)) (hs : s ≤ 32) (hd : dOk d n = true) : OpV Tryz.prog n D w0 ov H ⟨d, .binOp .shl T1 x y T2, T, pos, af, g⟩ (bv (v <<< s)) := by
  refine V_shl (m := s) hx hy (by omega) (by show min ((s : Int)).toNat 32 = s; omega) ?_ hd
  rw [BitVec.toNat_shiftLeft, Nat.shiftLeft_eq, mu32]; simp
theorem VB_and {v : BitVec 32} {c : Nat} (hc : c < 4294967296) (hx : ev ov x = some (bv v)) (hy : ev ov y = some (.int .u32 c)) (hd : dOk d n = true) : OpV Tryz.prog n D w0 ov H ⟨d, .binOp .and T1 x y T2, T, pos, af, g⟩ (bv (v &&& BitVec.ofNat 32 c)) := by
  refine V_and hx hy ?_ hd
  rw [ofInt_bv, show BitVec.ofInt IntKind.u32.bits (c : Int) = BitVec.ofNat 32 c from BitVec.ofInt_natCast ..]
  exact wrap_bv _
theorem VB_or {v u : BitVec 32} (hx : ev ov x = some (bv v)) (hy : ev ov y = some (bv u)) (hd : dOk d n = true) : OpV Tryz.prog n D w0 ov H ⟨d, .binOp .or T1 x y T2, T, pos, af, g⟩ (bv (v ||| u)) := by
  refine V_or hx hy ?_ hd
  rw [ofInt_bv, ofInt_bv]
  exact wrap_bv _
end
set_option maxHeartbeats 1000000 in
theorem RevB_c {w0 : World} {H : List Asn} (v : BitVec 32) (w : World) (hw : St w0 H w) :
    Calls Tryz.prog 123 #[bv v] w fun e w' => e = .returned (bv ((bsw 8 16711935#32 v >>> 16) ||| (bsw 8 16711935#32 v <<< 16))) ∧ St w0 H w' := by
  refine enter (vs := [bv v]) Tryz.func123 rfl rfl rfl hw ?_
  repeat (first | (apply gJO; first | refine JO_v (VB_shr (s := 8) rfl rfl (by omega) rfl) ?_ | refine JO_v (VB_shr (s := 16) rfl rfl (by omega) rfl) ?_ | refine JO_v (VB_shl (s := 8) rfl rfl (by omega) rfl) ?_ | refine JO_v (VB_shl (s := 16) rfl rfl (by omega) rfl) ?_ | refine JO_v (VB_and (c := 16711935) (by omega) rfl rfl rfl) ?_ | refine JO_v (VB_or rfl rfl rfl) ?_) | (first | (refine sx ?_; try intro _)))
  refine JS_ret Tryz.func123 rfl rfl ?_
  intro w hw
  exact ⟨rfl, hw⟩
set_option maxHeartbeats 1000000 in
theorem Rev_c {w0 : World} {H : List Asn} (v : BitVec 32) (w : World) (hw : St w0 H w) :
    Calls Tryz.prog 114 #[bv v] w fun e w' => e = .returned (bv (rev32 v)) ∧ St w0 H w' := by
  refine enter (vs := [bv v]) Tryz.func114 rfl rfl rfl hw ?_
  repeat (first | (apply gJO; first | refine JO_v (VB_shr (s := 1) rfl rfl (by omega) rfl) ?_ | refine JO_v (VB_shr (s := 2) rfl rfl (by omega) rfl) ?_ | refine JO_v (VB_shr (s := 4) rfl rfl (by omega) rfl) ?_ | refine JO_v (VB_shl (s := 1) rfl rfl (by omega) rfl) ?_ | refine JO_v (VB_shl (s := 2) rfl rfl (by omega) rfl) ?_ | refine JO_v (VB_shl (s := 4) rfl rfl (by omega) rfl) ?_ | refine JO_v (VB_and (c := 1431655765) (by omega) rfl rfl rfl) ?_ | refine JO_v (VB_and (c := 858993459) (by omega) rfl rfl rfl) ?_ | refine JO_v (VB_and (c := 252645135) (by omega) rfl rfl rfl) ?_ | refine JO_v (VB_or rfl rfl rfl) ?_) | (first | (refine sx ?_; try intro _)))
  refine JO_call Tryz.call123 rfl rfl fun w hw => (RevB_c _ w hw).mono ?_
  rintro e w' ⟨rfl, hw'⟩
  refine ⟨_, rfl, _, hw', ?_⟩
  clear hw' hw w w'
  repeat (first | (refine sx ?_; try intro _))
  refine JS_ret Tryz.func114 rfl rfl ?_
  intro w hw
  exact ⟨rfl, hw⟩
end Go.Proofs.YtbiocgenbgbfpaaGreat

namespace Go.Proofs.YtbiocgenbgbfpaaGreat
open Sx Go
set_option linter.unusedVariables false
set_option linter.unusedSimpArgs false
theorem Mul64_c {w0 : World} {H : List Asn} (a b : Int) (ha : 0 ≤ a ∧ a < 18446744073709551616) (hb : 0 ≤ b ∧ b < 18446744073709551616) (w : World) (hw : St w0 H w) :
    Calls Tryz.prog 126 #[.int .u64 a, .int .u64 b] w fun e w' => e = .returned (.tuple #[.int .u64 (a * b / 18446744073709551616), .int .u64 (a * b % 18446744073709551616)]) ∧ St w0 H w' := by
  refine enter (vs := [.int .u64 a, .int .u64 b]) Tryz.func126 rfl rfl rfl hw ?_
  repeat (first | (refine su ?_; try intro _))
  refine JS_ret Tryz.func126 rfl rfl ?_
  intro w hw
  have := mul64_arith a b ha.1 ha.2 hb.1 hb.2
  refine ⟨?_, hw⟩
  rw [← this]
  rfl
end Go.Proofs.YtbiocgenbgbfpaaGreat

namespace Go.Proofs.YtbiocgenbgbfpaaGreat
open Sx Go
set_option linter.unusedVariables false
set_option linter.unusedSimpArgs false
theorem BMul_c {w0 : World} {H : List Asn} (a b : Int) (ha : 0 ≤ a ∧ a < 18446744073709551616) (hb : 0 ≤ b ∧ b < 18446744073709551616) (w : World) (hw : St w0 H w) :
    Calls Tryz.prog 117 #[.int .u64 a, .int .u64 b] w fun e w' => e = .returned (.tuple #[.int .u64 (a * b / 18446744073709551616), .int .u64 (a * b % 18446744073709551616)]) ∧ St w0 H w' := by
  refine enter (vs := [.int .u64 a, .int .u64 b]) Tryz.func117 rfl rfl rfl hw ?_
  repeat (first | (refine sx ?_; try intro _))
  refine JO_call Tryz.call126 rfl rfl fun w hw => (Mul64_c a b ha hb w hw).mono ?_
  rintro e w' ⟨rfl, hw'⟩
  refine ⟨_, rfl, _, hw', ?_⟩
  clear hw' hw w w'
  repeat (first | (refine sx ?_; try intro _))
  refine JS_ret Tryz.func117 rfl rfl ?_
  intro w hw
  exact ⟨rfl, hw⟩
/-- so many of one, and zeros -/
def reps (x : Int) (k n : Nat) : List Int := List.replicate k x ++ List.replicate (n - k) 0
theorem reps_len (x : Int) (k n : Nat) (h : k ≤ n) : (reps x k n).length = n := by simp [reps]; omega
theorem reps_zero (x : Int) (n : Nat) : reps x 0 n = List.replicate n 0 := by simp [reps]
theorem reps_full (x : Int) (n : Nat) : reps x n n = List.replicate n x := by simp [reps]
theorem reps_copy (x : Int) (k n c : Nat) (hc : c ≤ n - k) (hck : c ≤ k) (hk : k ≤ n) : (reps x k n).take k ++ ((reps x k n).take k).take c ++ (reps x k n).drop (k + c) = reps x (k + c) n := by
  have e1 : (reps x k n).take k = List.replicate k x := by unfold reps; rw [List.take_append_of_le_length (by simp)]; simp
  have e2 : (reps x k n).drop (k + c) = List.replicate (n - (k + c)) 0 := by
    unfold reps
    rw [List.drop_append, List.drop_of_length_le (by simp), List.nil_append, List.length_replicate, List.drop_replicate]
    congr 1; omega
  rw [e1, e2, List.take_replicate, Nat.min_eq_left hck, List.replicate_append_replicate]
  rfl
set_option maxHeartbeats 2000000 in
/-- one byte, so many times -/
theorem Repeat1_c {w0 : World} {H : List Asn} (u : Value) (x : Int) (n : Nat) (hr : Rd w0 H u 1 (ints .u8 [x])) (hu : ∃ p c, u = .slice p 1 c) (hn : 1 ≤ n ∧ n ≤ 1048576) (w : World) (hw : St w0 H w) :
    Calls Tryz.prog 108 #[u, .int .i64 n] w fun e w' => ∃ p c, e = .returned (.slice p n c) ∧ St w0 (vec 5 1 (.slice p n c) n (ints .u8 (List.replicate n x)) :: H) w' := by
  obtain ⟨p0, c0, rfl⟩ := hu
  refine enter (vs := [.slice p0 1 c0, .int .i64 n]) Tryz.func108 rfl rfl rfl hw ?_
  repeat (first | (refine sx ?_; try intro _))
  refine JO_call Tryz.call117 rfl rfl fun w hw => (BMul_c 1 n (by omega) (by omega) w hw).mono ?_
  rintro e w' ⟨rfl, hw'⟩
  rw [show (1 : Int) * n / 18446744073709551616 = 0 by omega, show (1 : Int) * n % 18446744073709551616 = n by omega]
  refine ⟨_, rfl, _, hw', ?_⟩
  clear hw' hw w w'
  repeat (first | (refine sx ?_; try intro _))
  rename_i po
  rw [show (rep (Int.toNat n) [Value.int IntKind.u8 0]) = ints .u8 (reps x 0 n) from by rw [reps_zero]; exact ints_rep, show Int.toNat (n : Int) = n from rfl]
  have hl0 := reps_len x 0 n (by omega)
  refine JO_e (E_copy (tb := tb) (lo := 0) (q := 1) (news := ints .u8 [x]) rfl rfl rfl rfl rfl (Sel.here _ _) (fun _ => by rw [Nat.zero_mul, Option.map_some, add_zero']) (by omega) (Rd_weak hr fun w hw => St.sub (by repeat (first | exact List.Sublist.refl _ | apply List.Sublist.cons_cons | apply List.Sublist.cons)) hw) rfl ints_one rfl) ?_
  intro _
  rw [show min 1 n = 1 by omega, show (ints .u8 (reps x 0 n)).take (0 * 1) ++ (ints .u8 [x]).take (1 * 1) ++ (ints .u8 (reps x 0 n)).drop (0 * 1 + 1 * 1) = ints .u8 (reps x 1 n) from by
    simp only [Nat.zero_mul, Nat.one_mul, List.take_zero, List.nil_append, Nat.zero_add, reps, ints, List.map_append, List.map_replicate]
    simp [List.replicate_one, List.drop_replicate]]
  repeat (first | (apply gJR; first | (refine sx ?_; try intro _)) | (apply gJO; first | (refine sx ?_; try intro _)) | apply JS_seq | apply JS_region)
  refine JS_block ?_
  refine JS_loop1 (fun (k : Nat) => [(7, .slice (some po) n n), (8, .int .i64 k)]) (fun k => vec 5 1 (.slice (some po) n n) n (ints .u8 (reps x k n)) :: H) (fun k => 1 ≤ k ∧ k ≤ n) (fun k => n - k) 1 ⟨by omega, by omega⟩ (by repeat (first | exact trivial | refine ⟨rfl, ?_⟩ | refine ⟨lookI rfl (by omega), ?_⟩)) (fun _ h => h) ?_
  intro k ⟨hk1, hk⟩ again
  have hlk := reps_len x k n hk
  by_cases hkn : k < n
  · have hcp := reps_copy x k n (min k (n - k)) (by omega) (by omega) hk
    have hrv : Rd w0 (vec 5 1 (.slice (some po) n n) n (ints .u8 (reps x k n)) :: H) (.slice (some po) n n) n (ints .u8 (reps x k n)) := vec_rd (by repeat (first | apply List.Mem.head | apply List.Mem.tail))
    have hrs := Rd_sub (lo := 0) (hi := k) (sz := 1) hrv (by omega) hk
    rw [Nat.zero_mul, List.drop_zero, Nat.mul_one, Nat.sub_zero, show (ints .u8 (reps x k n)).take k = ints .u8 ((reps x k n).take k) from by simp [ints, List.map_take]] at hrs
    repeat (first | (apply gJS; first | apply JS_seq | refine JS_draw [2] (by kernel_rfl) (by kernel_rfl) (by decide +kernel) ?_) | (apply gQO; first | refine QO_v rfl (V_slice (tb := tb) (lo := 0) (hi := k) rfl rfl rfl rfl rfl (by rfl) (by rfl) (fun _ _ => ⟨by omega, by omega⟩) rfl) ?_ | refine QO_v rfl (V_slice (tb := tb) (lo := k) (hi := n) rfl rfl rfl rfl rfl (by rfl) (by rfl) (fun _ _ => ⟨by omega, by omega⟩) rfl) ?_) | (first | (refine sx ?_; try intro _)))
    refine QO_e (E_copy (tb := tb) (lo := k) (q := k) (news := ints .u8 ((reps x k n).take k)) (m := n) (a := some po) (c := n) (cs := ints .u8 (reps x k n)) rfl rfl rfl rfl rfl (Sel.here _ _) (fun h => by unfold subB; rw [if_neg (by omega)]) (by omega) hrs (by rw [ints_len, List.length_take]; omega) ints_one rfl) rfl (.inl rfl) ?_
    intro _
    rw [show (ints .u8 (reps x k n)).take (k * 1) ++ (ints .u8 ((reps x k n).take k)).take (min k (n - k) * 1) ++ (ints .u8 (reps x k n)).drop (k * 1 + min k (n - k) * 1) = ints .u8 (reps x (k + min k (n - k)) n) from by
      rw [← hcp]; simp only [ints, Nat.mul_one, List.map_append, List.map_take, List.map_drop]]
    repeat (first | (refine sx ?_; try intro _))
    exact JS_again1 again (k + min k (n - k)) ⟨by omega, by omega⟩ (by omega) (by repeat (first | exact trivial | refine ⟨rfl, ?_⟩ | refine ⟨lookI rfl (by omega), ?_⟩)) (fun _ h => h)
  · obtain rfl : k = n := by omega
    clear again
    rw [reps_full]
    repeat (first | (refine sx ?_; try intro _))
    refine JS_ret Tryz.func108 rfl rfl ?_
    intro w hw
    exact ⟨_, _, rfl, hw⟩
def fixF (j : Nat) : Int := if j < 144 then 8 else if j < 256 then 9 else if j < 280 then 7 else 8
set_option maxHeartbeats 1000000 in
theorem Fixed_c {w0 : World} {H : List Asn} (w : World) (hw : St w0 H w) :
    Calls Tryz.prog 69 #[] w fun e w' => ∃ p c, e = .returned (.slice p 288 c) ∧ St w0 (vec 5 1 (.slice p 288 c) 288 (ints .u8 (tab 288 fixF)) :: H) w' := by
  refine enter (vs := []) Tryz.func69 rfl rfl rfl hw ?_
  repeat (first | (refine sx ?_; try intro _))
  rename_i p0
  refine JO_call Tryz.call108 rfl rfl fun w hw => (Repeat1_c (.slice (some p0) 1 1) 8 288 (vec_rd (by repeat (first | apply List.Mem.head | apply List.Mem.tail))) ⟨_, _, rfl⟩ (by omega) w hw).mono ?_
  rintro e w' ⟨p, c, rfl, hw'⟩
  rw [tab_const] at hw'
  refine ⟨_, rfl, _, St.sub (H' := vec 5 1 (.slice p 288 c) 288 (ints .u8 (tab 288 fun _ => 8)) :: H) (by repeat (first | exact List.Sublist.refl _ | apply List.Sublist.cons_cons | apply List.Sublist.cons)) hw', ?_⟩
  clear hw' hw w w'
  repeat (first | (apply gJR; first | (refine sx ?_; try intro _)) | (apply gJO; first | (refine sx ?_; try intro _)) | apply JS_seq | apply JS_region)
  refine JS_block ?_
  refine JS_loop1 (fun (i : Nat) => [(1, .slice p 288 c), (2, .int .i64 i)]) (fun i => vec 5 1 (.slice p 288 c) 288 (ints .u8 (tab 288 fun j => if 144 ≤ j ∧ j < i then 9 else 8)) :: H) (fun i => 144 ≤ i ∧ i ≤ 256) (fun i => 256 - i) 144 ⟨by omega, by omega⟩ (by repeat (first | exact trivial | refine ⟨rfl, ?_⟩ | refine ⟨lookI rfl (by omega), ?_⟩)) (fun w hw => by rw [tab_congr (g := fun _ => 8) (fun j _ => if_neg (by omega))]; exact hw) ?_
  intro i ⟨hi0, hi⟩ again
  by_cases hlt : i < 256
  · have hl := tab_len 288 (fun j => if 144 ≤ j ∧ j < i then 9 else 8)
    have hs : (tab 288 fun j => if 144 ≤ j ∧ j < i then 9 else 8).set i 9 = tab 288 fun j => if 144 ≤ j ∧ j < i + 1 then 9 else 8 := by
      rw [tab_set]
      apply tab_congr
      intro j _
      by_cases h : j = i
      · rw [if_pos h, if_pos (by omega)]
      · rw [if_neg h]
        by_cases h2 : 144 ≤ j ∧ j < i
        · rw [if_pos h2, if_pos (by omega)]
        · rw [if_neg h2, if_neg (by omega)]
    repeat (first | (refine sx ?_; try intro _))
    exact JS_again1 again (i + 1) ⟨by omega, by omega⟩ (by omega) (by repeat (first | exact trivial | refine ⟨rfl, ?_⟩ | refine ⟨lookI rfl (by omega), ?_⟩)) (fun w hw => by rw [← hs]; exact hw)
  obtain rfl : i = 256 := by omega
  clear again
  repeat (first | (apply gJR; first | (refine sx ?_; try intro _)) | (apply gJO; first | (refine sx ?_; try intro _)) | apply JS_seq | apply JS_region | refine JS_condF rfl ?_ | refine JS_cond_F rfl (by omega) ?_ | refine JS_exit rfl ?_)
  refine JS_block ?_
  refine JS_loop1 (fun (i : Nat) => [(1, .slice p 288 c), (3, .int .i64 i)]) (fun i => vec 5 1 (.slice p 288 c) 288 (ints .u8 (tab 288 fun j => if j < 144 then 8 else if j < 256 then 9 else if j < i then 7 else 8)) :: H) (fun i => 256 ≤ i ∧ i ≤ 280) (fun i => 280 - i) 256 ⟨by omega, by omega⟩ (by repeat (first | exact trivial | refine ⟨rfl, ?_⟩ | refine ⟨lookI rfl (by omega), ?_⟩)) (fun w hw => by
      rw [tab_congr (g := fun j => if 144 ≤ j ∧ j < 256 then 9 else 8) (fun j _ => by
        by_cases h1 : j < 144
        · rw [if_pos h1, if_neg (by omega)]
        · rw [if_neg h1]
          by_cases h2 : j < 256
          · rw [if_pos h2, if_pos (by omega)]
          · rw [if_neg h2, if_neg h2, if_neg (by omega)])]
      exact hw) ?_
  intro i ⟨hi0, hi⟩ again
  by_cases hlt : i < 280
  · have hl := tab_len 288 (fun j => if j < 144 then 8 else if j < 256 then 9 else if j < i then 7 else 8)
    have hs : (tab 288 fun j => if j < 144 then 8 else if j < 256 then 9 else if j < i then 7 else 8).set i 7 = tab 288 fun j => if j < 144 then 8 else if j < 256 then 9 else if j < i + 1 then 7 else 8 := by
      rw [tab_set]
      apply tab_congr
      intro j _
      by_cases h : j = i
      · rw [if_pos h, if_neg (by omega), if_neg (by omega), if_pos (by omega)]
      · rw [if_neg h]
        by_cases h1 : j < 144
        · rw [if_pos h1, if_pos h1]
        · rw [if_neg h1, if_neg h1]
          by_cases h2 : j < 256
          · rw [if_pos h2, if_pos h2]
          · rw [if_neg h2, if_neg h2]
            by_cases h3 : j < i
            · rw [if_pos h3, if_pos (by omega)]
            · rw [if_neg h3, if_neg (by omega)]
    repeat (first | (refine sx ?_; try intro _))
    exact JS_again1 again (i + 1) ⟨by omega, by omega⟩ (by omega) (by repeat (first | exact trivial | refine ⟨rfl, ?_⟩ | refine ⟨lookI rfl (by omega), ?_⟩)) (fun w hw => by rw [← hs]; exact hw)
  obtain rfl : i = 280 := by omega
  clear again
  repeat (first | (refine sx ?_; try intro _))
  refine JS_ret Tryz.func69 rfl rfl ?_
  intro w hw
  exact ⟨_, _, rfl, hw⟩
theorem Spans_c {w0 : World} {H : List Asn} (w : World) (hw : St w0 H w) :
    Calls Tryz.prog 70 #[] w fun e w' => ∃ p c, e = .returned (.slice p 32 c) ∧ St w0 (vec 5 1 (.slice p 32 c) 32 (ints .u8 (List.replicate 32 5)) :: H) w' := by
  refine enter (vs := []) Tryz.func70 rfl rfl rfl hw ?_
  repeat (first | (refine sx ?_; try intro _))
  rename_i p0
  refine JO_call Tryz.call108 rfl rfl fun w hw => (Repeat1_c (.slice (some p0) 1 1) 5 32 (vec_rd (by repeat (first | apply List.Mem.head | apply List.Mem.tail))) ⟨_, _, rfl⟩ (by omega) w hw).mono ?_
  rintro e w' ⟨p, c, rfl, hw'⟩
  refine ⟨_, rfl, _, hw', ?_⟩
  clear hw' hw w w'
  repeat (first | (refine sx ?_; try intro _))
  refine JS_ret Tryz.func70 rfl rfl ?_
  intro w hw
  exact ⟨_, _, rfl, St.sub (by repeat (first | exact List.Sublist.refl _ | apply List.Sublist.cons_cons | apply List.Sublist.cons)) hw⟩
set_option maxHeartbeats 1000000 in
theorem RFixed_c {w0 : World} {H : List Asn} (w : World) (hw : St w0 H w) :
    Calls Tryz.prog 38 #[] w fun e w' => ∃ p c, e = .returned (.slice p 288 c) ∧ St w0 (vec 5 1 (.slice p 288 c) 288 (ints .u8 (tab 288 fixF)) :: H) w' := by
  refine enter (vs := []) Tryz.func38 rfl rfl rfl hw ?_
  repeat (first | (apply gJR; first | (refine sx ?_; try intro _)) | (apply gJO; first | (refine sx ?_; try intro _)) | apply JS_seq | apply JS_region)
  refine JS_block ?_
  refine JS_loop3 (fun (i : Nat) (p : Option Addr) (c : Nat) => [(1, .slice p i c), (2, .int .i64 i)]) (fun i p c => vec 5 1 (.slice p i c) i (ints .u8 (tab i fixF)) :: H) (fun i _ _ => i ≤ 288) (fun i _ _ => 288 - i) 0 none 0 (by omega) (by repeat (first | exact trivial | refine ⟨rfl, ?_⟩ | refine ⟨lookI rfl (by omega), ?_⟩)) (fun w hw => St.nilvec hw) ?_
  intro i p c hi again
  by_cases hlt : i < 288
  · have hs := tab_succ i fixF
    have hl := tab_len i fixF
    have hc : (i < 144 ∧ fixF i = 8) ∨ (144 ≤ i ∧ i < 256 ∧ fixF i = 9) ∨ (256 ≤ i ∧ i < 280 ∧ fixF i = 7) ∨ (280 ≤ i ∧ fixF i = 8) := by
      unfold fixF
      by_cases h1 : i < 144
      · rw [if_pos h1]; exact .inl ⟨h1, rfl⟩
      · rw [if_neg h1]
        by_cases h2 : i < 256
        · rw [if_pos h2]; exact .inr (.inl ⟨by omega, h2, rfl⟩)
        · rw [if_neg h2]
          by_cases h3 : i < 280
          · rw [if_pos h3]; exact .inr (.inr (.inl ⟨by omega, h3, rfl⟩))
          · rw [if_neg h3]; exact .inr (.inr (.inr ⟨by omega, rfl⟩))
    rcases hc with ⟨h1, hf⟩ | ⟨h1, h2, hf⟩ | ⟨h1, h2, hf⟩ | ⟨h1, hf⟩
    all_goals rw [hf] at hs
    all_goals repeat (first | (refine sx ?_; try intro _))
    all_goals (refine JO_app (tb := tb) rfl rfl rfl rfl rfl rfl (by repeat (first | exact Sel.here _ _ | apply Sel.there)) (by first | exact vec_rd (by repeat (first | apply List.Mem.head | apply List.Mem.tail)) | assumption | exact ArgRd.rd (by assumption) _ | (apply Rd_weak; assumption; intro _ hx; exact St.sub (by repeat (first | exact List.Sublist.refl _ | apply List.Sublist.cons_cons | apply List.Sublist.cons)) hx)) (by simp only [ints_len, List.length_cons, List.length_nil]; first | omega | rfl) (by first | exact ints_one | (repeat (first | exact trivial | refine ⟨rfl, ?_⟩))) (by omega) rfl ?_; intro _ _)
    all_goals rename_i p2 c2
    all_goals repeat (first | (refine sx ?_; try intro _))
    all_goals exact JS_again3 again (i + 1) p2 c2 (by omega) (by omega) (by repeat (first | exact trivial | refine ⟨rfl, ?_⟩ | refine ⟨lookI rfl (by omega), ?_⟩)) (fun w hw => by rw [hs, ← ints_app1]; exact St.sub (by repeat (first | exact List.Sublist.refl _ | apply List.Sublist.cons_cons | apply List.Sublist.cons)) hw)
  obtain rfl : i = 288 := by omega
  clear again
  repeat (first | (refine sx ?_; try intro _))
  refine JS_ret Tryz.func38 rfl rfl ?_
  intro w hw
  exact ⟨_, _, rfl, hw⟩
end Go.Proofs.YtbiocgenbgbfpaaGreat

namespace Go.Proofs.YtbiocgenbgbfpaaGreat
open Sx Go
set_option linter.unusedVariables false
set_option linter.unusedSimpArgs false
theorem mod_mul (X P : Int) : X % 4294967296 * P % 4294967296 = X * P % 4294967296 := by
  rw [Int.mul_emod, Int.emod_emod, ← Int.mul_emod]
attribute [local irreducible] syA fc
set_option maxHeartbeats 4000000 in
/-- a set's codes -/
theorem Codes_c {w0 : World} {H : List Asn} (b : Nat) (q s : Option Addr) (d e m : Nat) (B : List Int) (f : Nat → Int) (full : Bool) (hb : blk b (setCells (.slice q m d) f (.slice s (syA B 15).length e) full) ∈ H) (hrl : Rd w0 H (.slice q m d) m (ints .u8 B)) (hrs : Rd w0 H (.slice s (syA B 15).length e) (syA B 15).length (ints .i64 (syA B 15)))
    (hm : B.length = m) (hB : OKB B) (h15 : ∀ j, B.getD j 0 ≤ 15) (hm1 : m ≤ 1000) (w : World) (hw : St w0 H w) :
    Calls Tryz.prog 61 #[.pointer (some ⟨b, 0, none⟩)] w fun e w' => ∃ p c, e = .returned (.slice p m c) ∧ St w0 (vec 34 1 (.slice p m c) m (ints .u32 (cds B 16 0)) :: H) w' := by
  refine enter (vs := [.pointer (some ⟨b, 0, none⟩)]) Tryz.func61 rfl rfl rfl hw ?_
  repeat (first | (apply gJO; first | refine JO_v (V_load (tb := tb) rfl hb rfl rfl rfl rfl) ?_ | refine JO_v (V_load (tb := tb) rfl (List.Mem.tail _ hb) rfl rfl rfl rfl) ?_) | (apply gJR; first | (refine sx ?_; try intro _)) | (apply gJO; first | (refine sx ?_; try intro _)) | apply JS_seq | apply JS_region)
  rename_i po
  rw [show (rep (Int.toNat m) [Value.int IntKind.u32 0]) = ints .u32 (List.replicate m 0) from ints_rep]
  rw [show (m : Int).toNat = m from rfl]
  refine JS_block ?_
  refine JS_loop3 (fun (t l : Nat) (c : Int) => [(0, .pointer (some ⟨b, 0, none⟩)), (3, .slice (some po) m m), (4, .int .u32 ((fc B l + c) % 4294967296)), (5, .int .u8 l), (18, .slice s (syA B 15).length e), (19, .int .i64 ((syA B 15).length : Nat)), (20, .int .i64 t)]) (fun t _ _ => vec 34 1 (.slice (some po) m m) m (ints .u32 (outC B t)) :: H)
    (fun t l c => t ≤ (syA B 15).length ∧ l ≤ 15 ∧ psum B l + c = t ∧ 0 ≤ c ∧ c ≤ cn B l) (fun t _ _ => (syA B 15).length - t) 0 0 0 ⟨by omega, by omega, rfl, by omega, by simp [cn]⟩ (by exact ⟨rfl, rfl, lookI rfl (by unfold fc; rfl), rfl, rfl, rfl, rfl, trivial⟩) (fun w hw => by rw [outC_zero, hm]; exact hw) ?_
  intro t l c ⟨ht, hl, hp, hc0, hc⟩ again
  have hrl' : Rd w0 (vec 34 1 (.slice (some po) m m) m (ints .u32 (outC B t)) :: H) (.slice q m d) m (ints .u8 B) := Rd_weak hrl fun w hw => St.sub (by repeat (first | exact List.Sublist.refl _ | apply List.Sublist.cons_cons | apply List.Sublist.cons)) hw
  have hrs' : Rd w0 (vec 34 1 (.slice (some po) m m) m (ints .u32 (outC B t)) :: H) (.slice s (syA B 15).length e) (syA B 15).length (ints .i64 (syA B 15)) := Rd_weak hrs fun w hw => St.sub (by repeat (first | exact List.Sublist.refl _ | apply List.Sublist.cons_cons | apply List.Sublist.cons)) hw
  by_cases htk : t < (syA B 15).length
  · obtain ⟨n, r, i, hn, h1, h2, hi, h3, h4, h5⟩ := syA_get B 15 t htk
    have hps := psum_syA B hB n
    have hcr := cn_sy1 B hB (n + 1) (by omega) i (by omega)
    have hcm := cn_sy1 B hB (n + 1) (by omega) B.length (by omega)
    rw [List.take_of_length_le (by omega)] at hcm
    have hset := outC_set htk h3
    have hcd : cd B i = (fc B (n + 1) + r) % 4294967296 := by unfold cd; rw [h4, Int.toNat_natCast, ← hcr, h5]
    have hle : l ≤ n + 1 := by
      rcases Nat.lt_or_ge (n + 1) l with h | h
      · exfalso
        have hmo := psum_mono B (n + 1 + 1) (l - (n + 2))
        rw [show n + 1 + 1 + (l - (n + 2)) = l by omega] at hmo
        have : psum B (n + 1 + 1) = psum B (n + 1) + cn B (n + 1) := rfl
        omega
      · exact h
    have hsh : fc B (n + 1) + r = (fc B l + c) * 2 ^ (n + 1 - l) := by
      rcases Nat.eq_or_lt_of_le hle with h | h
      · subst h
        rw [Nat.sub_self, Int.pow_zero, Int.mul_one]; omega
      · obtain ⟨g1, g2⟩ := shift_code B l c hc (n + 1 - l) (by omega) (by rw [show l + (n + 1 - l) = n + 1 by omega]; omega)
        rw [show l + (n + 1 - l) = n + 1 by omega] at g1 g2
        rw [← g2]; omega
    have hcl := outC_len B t
    have gs : (ints .i64 (syA B 15))[t]? = some (.int .i64 (i : Int)) := by rw [← h3]; exact ints_get htk
    have gl : (ints .u8 B)[i]? = some (.int .u8 ((n + 1 : Nat) : Int)) := by rw [← h4]; exact ints_get hi
    have hms : min (((n + 1 : Nat) : Int) - (l : Int)).toNat IntKind.u32.bits = n + 1 - l := by show min _ 32 = _; omega
    have hwr : IntKind.u32.wrap ((fc B l + c) % 4294967296 * 2 ^ (n + 1 - l)) = cd B i := by
      rw [hcd, hsh, ← mod_mul]; exact mu32 _
    have hcdb := cd_bd B i
    have hsl := syA_len B 15
    have htb : t ≤ 15000 := by omega
    have hrc : (r : Int) + 1 ≤ cn B (n + 1) := by omega
    clear hsh hcm hcr hsl
    repeat (first | (apply gJO; first | refine JO_v (V_load (tb := tb) rfl (List.Mem.tail _ hb) rfl rfl rfl rfl) ?_ | refine JO_v (V_loadC (tb := tb) rfl hrs' rfl rfl gs rfl) ?_ | refine JO_v (V_loadC (tb := tb) rfl hrl' rfl rfl gl rfl) ?_ | refine JO_v (V_shl (m := n + 1 - l) (c := cd B i) rfl rfl (by omega) hms hwr rfl) ?_) | (first | (refine sx ?_; try intro _)))
    exact JS_again3 again (t + 1) (n + 1) ((r : Int) + 1) ⟨by omega, by omega, by omega, by omega, by omega⟩ (by omega) (by exact ⟨rfl, rfl, lookI rfl (by rw [hcd]; omega), lookI rfl (by omega), rfl, rfl, lookI rfl (by omega), trivial⟩) (fun w hw => by rw [← hset]; exact hw)
  · obtain rfl : t = (syA B 15).length := by omega
    rw [outC_end h15]
    clear again
    repeat (first | (refine sx ?_; try intro _))
    refine JS_ret Tryz.func61 rfl rfl ?_
    intro w hw
    exact ⟨_, _, rfl, hw⟩
end Go.Proofs.YtbiocgenbgbfpaaGreat

namespace Go.Proofs.YtbiocgenbgbfpaaGreat
open Sx Go
set_option linter.unusedVariables false
set_option linter.unusedSimpArgs false
attribute [local irreducible] syA fc tk
/-- lengths that are a set's -/
def OKL (B : List Int) : Prop := B.length ≤ 320 ∧ (∀ j, B.getD j 0 ≤ 15) ∧ FINE B
/-- a set that stands in memory -/
structure IsSet (w0 : World) (H : List Asn) (b : Nat) (B : List Int) : Prop where
  ok : ∃ q d s e, blk b (setCells (.slice q B.length d) (cn B) (.slice s (syA B 15).length e) (decide (tk B = 32768))) ∈ H ∧ Rd w0 H (.slice q B.length d) B.length (ints .u8 B) ∧ Rd w0 H (.slice s (syA B 15).length e) (syA B 15).length (ints .i64 (syA B 15))
  hB : OKB B
  hl : OKL B
theorem IsSet.sub {w0 H H' b B} (h : IsSet w0 H b B) (hs : H.Sublist H') : IsSet w0 H' b B := by
  obtain ⟨⟨q, d, s, e, h1, h2, h3⟩, hB, hl⟩ := h
  exact ⟨⟨q, d, s, e, hs.subset h1, Rd_weak h2 fun w hw => St.sub hs hw, Rd_weak h3 fun w hw => St.sub hs hw⟩, hB, hl⟩
theorem OKB_of {B : List Int} (h : B.all (fun x => decide (0 ≤ x ∧ x < 256)) = true) : OKB B := by
  intro j
  rw [List.getD_eq_getElem?_getD]
  rcases Nat.lt_or_ge j B.length with hj | hj
  · rw [List.getElem?_eq_getElem hj]
    exact of_decide_eq_true (List.all_eq_true.1 h _ (List.getElem_mem hj))
  · rw [List.getElem?_eq_none hj]; decide
theorem le15_of {B : List Int} (h : B.all (fun x => decide (x ≤ 15)) = true) : ∀ j, B.getD j 0 ≤ 15 := by
  intro j
  rw [List.getD_eq_getElem?_getD]
  rcases Nat.lt_or_ge j B.length with hj | hj
  · rw [List.getElem?_eq_getElem hj]
    exact of_decide_eq_true (List.all_eq_true.1 h _ (List.getElem_mem hj))
  · rw [List.getElem?_eq_none hj]; decide
/-- the error of lengths -/
def BADL (B : List Int) (r : Int) : Prop := ((320 < B.length ∨ ∃ j, 15 < B.getD j 0) ∧ r = 1) ∨ (B.length ≤ 320 ∧ (∀ j, B.getD j 0 ≤ 15) ∧ ¬ FINE B ∧ r = 62)
theorem BADL.not {B r} (h : BADL B r) : ¬ OKL B := by
  rintro ⟨h1, h2, h3⟩
  rcases h with ⟨h4 | ⟨j, h4⟩, _⟩ | ⟨_, _, h4, _⟩
  · omega
  · have := h2 j; omega
  · exact h4 h3
theorem BADL.one {B r r'} (h : BADL B r) (h' : BADL B r') : r = r' := by
  rcases h with ⟨h1, h2⟩ | ⟨h1, h3, h4, h2⟩ <;> rcases h' with ⟨h5, h6⟩ | ⟨h5, h7, h8, h6⟩
  · omega
  · exfalso
    rcases h1 with h1 | ⟨j, h1⟩
    · omega
    · have := h7 j; omega
  · exfalso
    rcases h5 with h5 | ⟨j, h5⟩
    · omega
    · have := h3 j; omega
  · omega
theorem BADL.pos {B r} (h : BADL B r) : r = 1 ∨ r = 62 := by
  rcases h with ⟨_, h⟩ | ⟨_, _, _, h⟩ <;> omega
theorem Codes2_c {w0 : World} {H : List Asn} (b m : Nat) (B : List Int) (hm : B.length = m) (hs : IsSet w0 H b B) (w : World) (hw : St w0 H w) :
    Calls Tryz.prog 61 #[.pointer (some ⟨b, 0, none⟩)] w fun e w' => ∃ p c, e = .returned (.slice p m c) ∧ St w0 (vec 34 1 (.slice p m c) m (ints .u32 (cds B 16 0)) :: H) w' := by
  subst hm
  obtain ⟨⟨q, d, s, e, h1, h2, h3⟩, hB, hl⟩ := hs
  exact Codes_c b q s d e _ B _ _ h1 h2 h3 rfl hB hl.2.1 (by have := hl.1; omega) w hw
theorem Full2_c {w0 : World} {H : List Asn} (b : Nat) (B : List Int) (hs : IsSet w0 H b B) (w : World) (hw : St w0 H w) :
    Calls Tryz.prog 71 #[.pointer (some ⟨b, 0, none⟩)] w fun e w' => e = .returned (.bool (decide (tk B = 32768))) ∧ St w0 H w' := by
  obtain ⟨⟨q, d, s, e, h1, h2, h3⟩, hB, hl⟩ := hs
  exact Full_c b _ _ _ _ h1 w hw
theorem Length2_c {w0 : World} {H : List Asn} (b : Nat) (B : List Int) (hs : IsSet w0 H b B) (k : Int) (hk : -9223372036854775808 ≤ k ∧ k < 9223372036854775808) (w : World) (hw : St w0 H w) :
    Calls Tryz.prog 59 #[.pointer (some ⟨b, 0, none⟩), .int .i64 k] w fun e w' => ∃ r, e = .returned (.int .i64 r) ∧ St w0 H w' ∧ (((k < 0 ∨ B.length ≤ k) ∧ r = 0) ∨ (0 ≤ k ∧ k < B.length ∧ r = B.getD k.toNat 0)) := by
  obtain ⟨⟨q, d, s, e, h1, h2, h3⟩, hB, hl⟩ := hs
  exact Length_c b q d _ B _ _ _ h1 h2 rfl hB k hk w hw
theorem Read2_c {w0 : World} {H : List Asn} (b b2 : Nat) (B B2 : List Int) (hs : IsSet w0 H b B) (q : Option Addr) (d m2 : Nat) (hr : Rd w0 H (.slice q m2 d) m2 (ints .u8 B2)) (hm2 : B2.length = m2) (hB2 : OKB B2) (hmx : m2 ≤ 140737488355328) (n : Nat) (hn : n ≤ 8 * m2)
    (w : World) (hw : St w0 (blk b2 [.slice q m2 d, .int .i64 n] :: H) w) :
    Calls Tryz.prog 116 #[.pointer (some ⟨b, 0, none⟩), .pointer (some ⟨b2, 0, none⟩)] w fun en w' => ∃ (i : Int) (used : Nat) (r : Int), en = .returned (.tuple #[.int .i64 i, .int .i64 r]) ∧ St w0 (blk b2 [.slice q m2 d, .int .i64 (n + used : Nat)] :: H) w' ∧ n + used ≤ 8 * m2 ∧ RD B (bitB B2 n) (8 * m2 - n) i used r := by
  obtain ⟨⟨q', d', s, e, h1, h2, h3⟩, hB, hl⟩ := hs
  exact Read_c b b2 _ s q d e m2 B B2 h1 h3 hl.1 hB hl.2.1 hl.2.2 hr hm2 hB2 hmx n hn w hw
end Go.Proofs.YtbiocgenbgbfpaaGreat
