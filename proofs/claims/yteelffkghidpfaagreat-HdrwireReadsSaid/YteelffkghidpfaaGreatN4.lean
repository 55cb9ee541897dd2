import Derived.DeepKeys4
import Derived.Test.YteelffkghidpfaaGreatN3
namespace Go.Proofs.YteelffkghidpfaaGreat
open Sx Go
set_option linter.unusedVariables false
set_option linter.unusedSimpArgs false
set_option maxRecDepth 100000
/-! bits turned about -/
def bsw (s : Nat) (m v : BitVec 32) : BitVec 32 := ((v >>> s) &&& m) ||| ((v &&& m) <<< s)
def ix (s j : Nat) : Nat := if (j / s) % 2 = 0 then j + s else j - s
theorem sw_bit (s : Nat) (hs : s = 1 ∨ s = 2 ∨ s = 4 ∨ s = 8 ∨ s = 16) (m v : BitVec 32) (hm : ∀ j, j < 32 → m.getLsbD j = decide ((j / s) % 2 = 0)) (j : Nat) (hj : j < 32) : (bsw s m v).getLsbD j = v.getLsbD (ix s j) := by
  unfold bsw ix
  simp only [BitVec.getLsbD_or, BitVec.getLsbD_and, BitVec.getLsbD_ushiftRight, BitVec.getLsbD_shiftLeft, hm j hj]
  by_cases h : (j / s) % 2 = 0
  · rw [if_pos h, decide_eq_true h, Bool.and_true, Nat.add_comm s j]
    by_cases hjs : j < s
    · simp [hjs]
    · have : m.getLsbD (j - s) = false := by
        rw [hm (j - s) (by omega)]
        refine decide_eq_false ?_
        rcases hs with rfl | rfl | rfl | rfl | rfl <;> omega
      simp [this]
  · rw [if_neg h, decide_eq_false h, Bool.and_false, Bool.false_or]
    have h1 : s ≤ j := by rcases hs with rfl | rfl | rfl | rfl | rfl <;> omega
    have : m.getLsbD (j - s) = true := by
      rw [hm (j - s) (by omega)]
      refine decide_eq_true ?_
      rcases hs with rfl | rfl | rfl | rfl | rfl <;> omega
    simp [this, hj, Nat.not_lt.2 h1]
theorem ix_lt (s : Nat) (hs : s = 1 ∨ s = 2 ∨ s = 4 ∨ s = 8 ∨ s = 16) (j : Nat) (hj : j < 32) : ix s j < 32 := by
  unfold ix
  split <;> rcases hs with rfl | rfl | rfl | rfl | rfl <;> omega
theorem mask_bit (s : Nat) (m : BitVec 32) (h : (List.range 32).all (fun j => m.getLsbD j == decide ((j / s) % 2 = 0)) = true) : ∀ j, j < 32 → m.getLsbD j = decide ((j / s) % 2 = 0) := by
  intro j hj
  have := List.all_eq_true.1 h j (by simpa using hj)
  simpa using this
def rev32 (v : BitVec 32) : BitVec 32 :=
  let a := bsw 1 1431655765#32 v
  let b := bsw 2 858993459#32 a
  let c := bsw 4 252645135#32 b
  let d := bsw 8 16711935#32 c
  (d >>> 16) ||| (d <<< 16)
theorem rev32_bit (v : BitVec 32) (j : Nat) (hj : j < 32) : (rev32 v).getLsbD j = v.getLsbD (31 - j) := by
  have e16 : ∀ d : BitVec 32, (d >>> 16) ||| (d <<< 16) = bsw 16 65535#32 d := by
    intro d
    unfold bsw
    apply BitVec.eq_of_getLsbD_eq
    intro i hi
    have hm := mask_bit 16 65535#32 (by decide +kernel)
    simp only [BitVec.getLsbD_or, BitVec.getLsbD_and, BitVec.getLsbD_ushiftRight, BitVec.getLsbD_shiftLeft, hm i hi]
    by_cases h : i < 16
    · rw [decide_eq_true (show (i / 16) % 2 = 0 by omega)]; simp [h]
    · have h1 : d.getLsbD (16 + i) = false := BitVec.getLsbD_of_ge _ _ (by omega)
      rw [hm (i - 16) (by omega), decide_eq_true (show ((i - 16) / 16) % 2 = 0 by omega), decide_eq_false (show ¬ (i / 16) % 2 = 0 by omega), h1]; simp
  unfold rev32
  simp only []
  have i16 := ix_lt 16 (by omega) j hj
  have i8 := ix_lt 8 (by omega) _ i16
  have i4 := ix_lt 4 (by omega) _ i8
  have i2 := ix_lt 2 (by omega) _ i4
  rw [e16, sw_bit 16 (by omega) _ _ (mask_bit 16 _ (by decide +kernel)) j hj, sw_bit 8 (by omega) _ _ (mask_bit 8 _ (by decide +kernel)) _ i16, sw_bit 4 (by omega) _ _ (mask_bit 4 _ (by decide +kernel)) _ i8,
    sw_bit 2 (by omega) _ _ (mask_bit 2 _ (by decide +kernel)) _ i4, sw_bit 1 (by omega) _ _ (mask_bit 1 _ (by decide +kernel)) _ i2]
  have : ∀ k : Fin 32, ix 1 (ix 2 (ix 4 (ix 8 (ix 16 k.val)))) = 31 - k.val := by decide +kernel
  rw [this ⟨j, hj⟩]
/-! a number as a vector of bits -/
def bv (v : BitVec 32) : Value := .int .u32 (v.toNat : Int)
section
variable {n : Nat} {D : List Deferred} {w0 : World} {ov : Ov} {H : List Asn} {d : Option Nat} {T T1 T2 : Nat} {pos : String} {af : Array Edge} {g : Option (Nat × Bool)} {x y : Operand}
theorem ofInt_bv (v : BitVec 32) : BitVec.ofInt IntKind.u32.bits (v.toNat : Int) = v := by
  show BitVec.ofInt 32 (v.toNat : Int) = v
  rw [BitVec.ofInt_natCast, BitVec.ofNat_toNat]; simp
theorem wrap_bv (v : BitVec 32) : IntKind.u32.wrap (v.toNat : Int) = (v.toNat : Int) := wu32 (by have := v.isLt; omega)
theorem VB_shr {v : BitVec 32} {s : Nat} {K : IntKind} (hx : ev ov x = some (bv v)) (hy : ev ov y = some (.int K s)) (hs : s ≤ 32) (hd : dOk d n = true) : OpV Tryz.prog n D w0 ov H ⟨d, .binOp .shr T1 x y T2, T, pos, af, g⟩ (bv (v >>> s)) := by
  refine V_shr (m := s) hx hy (by omega) (by show min ((s : Int)).toNat 32 = s; omega) ?_ hd
  rw [BitVec.toNat_ushiftRight, Nat.shiftRight_eq_div_pow]; simp
theorem VB_shl {v : BitVec 32} {s : Nat} {K : IntKind} (hx : ev ov x = some (bv v)) (hy : ev ov y = some (.int K s)) (hs : s ≤ 32) (hd : dOk d n = true) : OpV Tryz.prog n D w0 ov H ⟨d, .binOp .shl T1 x y T2, T, pos, af, g⟩ (bv (v <<< s)) := by
  refine V_shl (m := s) hx hy (by omega) (by show min ((s : Int)).toNat 32 = s; omega) ?_ hd
  rw [BitVec.toNat_shiftLeft, Nat.shiftLeft_eq, mu32]; simp
theorem VB_and {v : BitVec 32} {c : Nat} (hc : c < 4294967296) (hx : ev ov x = some (bv v)) (hy : ev ov y = some (.int .u32 c)) (hd : dOk d n = true) : OpV Tryz.prog n D w0 ov H ⟨d, .binOp .and T1 x y T2, T, pos, af, g⟩ (bv (v &&& BitVec.ofNat 32 c)) := by
  refine V_and hx hy ?_ hd
  rw [ofInt_bv, show BitVec.ofInt IntKind.u32.bits (c : Int) = BitVec.ofNat 32 c from BitVec.ofInt_natCast ..]
  exact wrap_bv _
theorem VB_or {v u : BitVec 32} (hx : ev ov x = some (bv v)) (hy : ev ov y = some (bv u)) (hd : dOk d n = true) : OpV Tryz.prog n D w0 ov H ⟨d, .binOp .or T1 x y T2, T, pos, af, g⟩ (bv (v ||| u)) := by
  refine V_or hx hy ?_ hd
  rw [ofInt_bv, ofInt_bv]
  exact wrap_bv _
end
set_option maxHeartbeats 1000000 in
theorem RevB_c {w0 : World} {H : List Asn} (v : BitVec 32) (w : World) (hw : St w0 H w) :
    Calls Tryz.prog 254 #[bv v] w fun e w' => e = .returned (bv ((bsw 8 16711935#32 v >>> 16) ||| (bsw 8 16711935#32 v <<< 16))) ∧ St w0 H w' := by
  refine enter (vs := [bv v]) Tryz.func254 rfl rfl rfl hw ?_
  repeat (first | (apply gJO; first | refine JO_v (VB_shr (s := 8) rfl rfl (by omega) rfl) ?_ | refine JO_v (VB_shr (s := 16) rfl rfl (by omega) rfl) ?_ | refine JO_v (VB_shl (s := 8) rfl rfl (by omega) rfl) ?_ | refine JO_v (VB_shl (s := 16) rfl rfl (by omega) rfl) ?_ | refine JO_v (VB_and (c := 16711935) (by omega) rfl rfl rfl) ?_ | refine JO_v (VB_or rfl rfl rfl) ?_) | (first | (refine sx ?_; try intro _)))
  refine JS_ret Tryz.func254 rfl rfl ?_
  intro w hw
  exact ⟨rfl, hw⟩
set_option maxHeartbeats 1000000 in
theorem Rev_c {w0 : World} {H : List Asn} (v : BitVec 32) (w : World) (hw : St w0 H w) :
    Calls Tryz.prog 252 #[bv v] w fun e w' => e = .returned (bv (rev32 v)) ∧ St w0 H w' := by
  refine enter (vs := [bv v]) Tryz.func252 rfl rfl rfl hw ?_
  repeat (first | (apply gJO; first | refine JO_v (VB_shr (s := 1) rfl rfl (by omega) rfl) ?_ | refine JO_v (VB_shr (s := 2) rfl rfl (by omega) rfl) ?_ | refine JO_v (VB_shr (s := 4) rfl rfl (by omega) rfl) ?_ | refine JO_v (VB_shl (s := 1) rfl rfl (by omega) rfl) ?_ | refine JO_v (VB_shl (s := 2) rfl rfl (by omega) rfl) ?_ | refine JO_v (VB_shl (s := 4) rfl rfl (by omega) rfl) ?_ | refine JO_v (VB_and (c := 1431655765) (by omega) rfl rfl rfl) ?_ | refine JO_v (VB_and (c := 858993459) (by omega) rfl rfl rfl) ?_ | refine JO_v (VB_and (c := 252645135) (by omega) rfl rfl rfl) ?_ | refine JO_v (VB_or rfl rfl rfl) ?_) | (first | (refine sx ?_; try intro _)))
  refine JO_call Tryz.call254 rfl rfl fun w hw => (RevB_c _ w hw).mono ?_
  rintro e w' ⟨rfl, hw'⟩
  refine ⟨_, rfl, _, hw', ?_⟩
  clear hw' hw w w'
  repeat (first | (refine sx ?_; try intro _))
  refine JS_ret Tryz.func252 rfl rfl ?_
  intro w hw
  exact ⟨rfl, hw⟩
end Go.Proofs.YteelffkghidpfaaGreat

namespace Go.Proofs.YteelffkghidpfaaGreat
open Sx Go
set_option linter.unusedVariables false
set_option linter.unusedSimpArgs false
set_option maxRecDepth 100000
theorem BMul_c {w0 : World} {H : List Asn} (a b : Int) (ha : 0 ≤ a ∧ a < 18446744073709551616) (hb : 0 ≤ b ∧ b < 18446744073709551616) (w : World) (hw : St w0 H w) :
    Calls Tryz.prog 237 #[.int .u64 a, .int .u64 b] w fun e w' => e = .returned (.tuple #[.int .u64 (a * b / 18446744073709551616), .int .u64 (a * b % 18446744073709551616)]) ∧ St w0 H w' := by
  refine enter (vs := [.int .u64 a, .int .u64 b]) Tryz.func237 rfl rfl rfl hw ?_
  repeat (first | (refine sx ?_; try intro _))
  refine JO_call Tryz.call250 rfl rfl fun w hw => (Mul64_c a b ha hb w hw).mono ?_
  rintro e w' ⟨rfl, hw'⟩
  refine ⟨_, rfl, _, hw', ?_⟩
  clear hw' hw w w'
  repeat (first | (refine sx ?_; try intro _))
  refine JS_ret Tryz.func237 rfl rfl ?_
  intro w hw
  exact ⟨rfl, hw⟩
/-- so many of one, and zeros -/
def reps (x : Int) (k n : Nat) : List Int := List.replicate k x ++ List.replicate (n - k) 0
theorem reps_len (x : Int) (k n : Nat) (h : k ≤ n) : (reps x k n).length = n := by simp [reps]; omega
theorem reps_zero (x : Int) (n : Nat) : reps x 0 n = List.replicate n 0 := by simp [reps]
theorem reps_full (x : Int) (n : Nat) : reps x n n = List.replicate n x := by simp [reps]
theorem reps_copy (x : Int) (k n c : Nat) (hc : c ≤ n - k) (hck : c ≤ k) (hk : k ≤ n) : (reps x k n).take k ++ ((reps x k n).take k).take c ++ (reps x k n).drop (k + c) = reps x (k + c) n := by
  have e1 : (reps x k n).take k = List.replicate k x := by unfold reps; rw [List.take_append_of_le_length (by simp)]; simp
  have e2 : (reps x k n).drop (k + c) = List.replicate (n - (k + c)) 0 := by
    unfold reps
    rw [List.drop_append, List.drop_of_length_le (by simp), List.nil_append, List.length_replicate, List.drop_replicate]
    congr 1; omega
  rw [e1, e2, List.take_replicate, Nat.min_eq_left hck, List.replicate_append_replicate]
  rfl
set_option maxHeartbeats 2000000 in
/-- one byte, so many times -/
theorem Repeat1_c {w0 : World} {H : List Asn} (u : Value) (x : Int) (n : Nat) (hr : Rd w0 H u 1 (ints .u8 [x])) (hu : ∃ p c, u = .slice p 1 c) (hn : 1 ≤ n ∧ n ≤ 1048576) (w : World) (hw : St w0 H w) :
    Calls Tryz.prog 213 #[u, .int .i64 n] w fun e w' => ∃ p c, e = .returned (.slice p n c) ∧ St w0 (vec 5 1 (.slice p n c) n (ints .u8 (List.replicate n x)) :: H) w' := by
  obtain ⟨p0, c0, rfl⟩ := hu
  refine enter (vs := [.slice p0 1 c0, .int .i64 n]) Tryz.func213 rfl rfl rfl hw ?_
  repeat (first | (refine sx ?_; try intro _))
  refine JO_call Tryz.call237 rfl rfl fun w hw => (BMul_c 1 n (by omega) (by omega) w hw).mono ?_
  rintro e w' ⟨rfl, hw'⟩
  rw [show (1 : Int) * n / 18446744073709551616 = 0 by omega, show (1 : Int) * n % 18446744073709551616 = n by omega]
  refine ⟨_, rfl, _, hw', ?_⟩
  clear hw' hw w w'
  repeat (first | (refine sx ?_; try intro _))
  rename_i po
  rw [show (rep (Int.toNat n) [Value.int IntKind.u8 0]) = ints .u8 (reps x 0 n) from by rw [reps_zero]; exact ints_rep, show Int.toNat (n : Int) = n from rfl]
  have hl0 := reps_len x 0 n (by omega)
  refine JO_e (E_copy (tb := tb) (lo := 0) (q := 1) (news := ints .u8 [x]) rfl rfl rfl rfl rfl (Sel.here _ _) (fun _ => by rw [Nat.zero_mul, Option.map_some, add_zero']) (by omega) (Rd_weak hr fun w hw => dS hw) rfl ints_one rfl) ?_
  intro _
  rw [show min 1 n = 1 by omega, show (ints .u8 (reps x 0 n)).take (0 * 1) ++ (ints .u8 [x]).take (1 * 1) ++ (ints .u8 (reps x 0 n)).drop (0 * 1 + 1 * 1) = ints .u8 (reps x 1 n) from by
    simp only [Nat.zero_mul, Nat.one_mul, List.take_zero, List.nil_append, Nat.zero_add, reps, ints, List.map_append, List.map_replicate]
    simp [List.replicate_one, List.drop_replicate]]
  repeat (first | (apply gJR; first | (refine sx ?_; try intro _)) | (apply gJO; first | (refine sx ?_; try intro _)) | apply JS_seq | apply JS_region)
  refine JS_block ?_
  refine JS_loop1 (fun (k : Nat) => [(7, .slice (some po) n n), (8, .int .i64 k)]) (fun k => vec 5 1 (.slice (some po) n n) n (ints .u8 (reps x k n)) :: H) (fun k => 1 ≤ k ∧ k ≤ n) (fun k => n - k) 1 ⟨by omega, by omega⟩ (by repeat (first | exact trivial | refine ⟨rfl, ?_⟩ | refine ⟨lookI rfl (by omega), ?_⟩)) (fun _ h => h) ?_
  intro k ⟨hk1, hk⟩ again
  have hlk := reps_len x k n hk
  by_cases hkn : k < n
  · have hcp := reps_copy x k n (min k (n - k)) (by omega) (by omega) hk
    have hrv : Rd w0 (vec 5 1 (.slice (some po) n n) n (ints .u8 (reps x k n)) :: H) (.slice (some po) n n) n (ints .u8 (reps x k n)) := vec_rd (by repeat (first | apply List.Mem.head | apply List.Mem.tail))
    have hrs := Rd_sub (lo := 0) (hi := k) (sz := 1) hrv (by omega) hk
    rw [Nat.zero_mul, List.drop_zero, Nat.mul_one, Nat.sub_zero, show (ints .u8 (reps x k n)).take k = ints .u8 ((reps x k n).take k) from by simp [ints, List.map_take]] at hrs
    repeat (first | (apply gJS; first | apply JS_seq | refine JS_draw [2] (by kernel_rfl) (by kernel_rfl) (by decide +kernel) ?_) | (apply gQO; first | refine QO_v rfl (V_slice (tb := tb) (lo := 0) (hi := k) rfl rfl rfl rfl rfl (by rfl) (by rfl) (fun _ _ => ⟨by omega, by omega⟩) rfl) ?_ | refine QO_v rfl (V_slice (tb := tb) (lo := k) (hi := n) rfl rfl rfl rfl rfl (by rfl) (by rfl) (fun _ _ => ⟨by omega, by omega⟩) rfl) ?_) | (first | (refine sx ?_; try intro _)))
    refine QO_e (E_copy (tb := tb) (lo := k) (q := k) (news := ints .u8 ((reps x k n).take k)) (m := n) (a := some po) (c := n) (cs := ints .u8 (reps x k n)) rfl rfl rfl rfl rfl (Sel.here _ _) (fun h => by unfold subB; rw [if_neg (by omega)]) (by omega) hrs (by rw [ints_len, List.length_take]; omega) ints_one rfl) rfl (.inl rfl) ?_
    intro _
    rw [show (ints .u8 (reps x k n)).take (k * 1) ++ (ints .u8 ((reps x k n).take k)).take (min k (n - k) * 1) ++ (ints .u8 (reps x k n)).drop (k * 1 + min k (n - k) * 1) = ints .u8 (reps x (k + min k (n - k)) n) from by
      rw [← hcp]; simp only [ints, Nat.mul_one, List.map_append, List.map_take, List.map_drop]]
    repeat (first | (refine sx ?_; try intro _))
    exact JS_again1 again (k + min k (n - k)) ⟨by omega, by omega⟩ (by omega) (by repeat (first | exact trivial | refine ⟨rfl, ?_⟩ | refine ⟨lookI rfl (by omega), ?_⟩)) (fun _ h => h)
  · obtain rfl : k = n := by omega
    clear again
    rw [reps_full]
    repeat (first | (refine sx ?_; try intro _))
    refine JS_ret Tryz.func213 rfl rfl ?_
    intro w hw
    exact ⟨_, _, rfl, hw⟩
def fixF (j : Nat) : Int := if j < 144 then 8 else if j < 256 then 9 else if j < 280 then 7 else 8
set_option maxHeartbeats 1000000 in
theorem Fixed_c {w0 : World} {H : List Asn} (w : World) (hw : St w0 H w) :
    Calls Tryz.prog 159 #[] w fun e w' => ∃ p c, e = .returned (.slice p 288 c) ∧ St w0 (vec 5 1 (.slice p 288 c) 288 (ints .u8 (tab 288 fixF)) :: H) w' := by
  refine enter (vs := []) Tryz.func159 rfl rfl rfl hw ?_
  repeat (first | (refine sx ?_; try intro _))
  rename_i p0
  refine JO_call Tryz.call213 rfl rfl fun w hw => (Repeat1_c (.slice (some p0) 1 1) 8 288 (vec_rd (by repeat (first | apply List.Mem.head | apply List.Mem.tail))) ⟨_, _, rfl⟩ (by omega) w hw).mono ?_
  rintro e w' ⟨p, c, rfl, hw'⟩
  rw [tab_const] at hw'
  refine ⟨_, rfl, _, St.sub (H' := vec 5 1 (.slice p 288 c) 288 (ints .u8 (tab 288 fun _ => 8)) :: H) (by repeat (first | exact List.Sublist.refl _ | apply List.Sublist.cons_cons | apply List.Sublist.cons)) hw', ?_⟩
  clear hw' hw w w'
  repeat (first | (apply gJR; first | (refine sx ?_; try intro _)) | (apply gJO; first | (refine sx ?_; try intro _)) | apply JS_seq | apply JS_region)
  refine JS_block ?_
  refine JS_loop1 (fun (i : Nat) => [(1, .slice p 288 c), (2, .int .i64 i)]) (fun i => vec 5 1 (.slice p 288 c) 288 (ints .u8 (tab 288 fun j => if 144 ≤ j ∧ j < i then 9 else 8)) :: H) (fun i => 144 ≤ i ∧ i ≤ 256) (fun i => 256 - i) 144 ⟨by omega, by omega⟩ (by repeat (first | exact trivial | refine ⟨rfl, ?_⟩ | refine ⟨lookI rfl (by omega), ?_⟩)) (fun w hw => by rw [tab_congr (g := fun _ => 8) (fun j _ => if_neg (by omega))]; exact hw) ?_
  intro i ⟨hi0, hi⟩ again
  by_cases hlt : i < 256
  · have hl := tab_len 288 (fun j => if 144 ≤ j ∧ j < i then 9 else 8)
    have hs : (tab 288 fun j => if 144 ≤ j ∧ j < i then 9 else 8).set i 9 = tab 288 fun j => if 144 ≤ j ∧ j < i + 1 then 9 else 8 := by
      rw [tab_set]
      apply tab_congr
      intro j _
      by_cases h : j = i
      · rw [if_pos h, if_pos (by omega)]
      · rw [if_neg h]
        by_cases h2 : 144 ≤ j ∧ j < i
        · rw [if_pos h2, if_pos (by omega)]
        · rw [if_neg h2, if_neg (by omega)]
    repeat (first | (refine sx ?_; try intro _))
    exact JS_again1 again (i + 1) ⟨by omega, by omega⟩ (by omega) (by repeat (first | exact trivial | refine ⟨rfl, ?_⟩ | refine ⟨lookI rfl (by omega), ?_⟩)) (fun w hw => by rw [← hs]; exact hw)
  obtain rfl : i = 256 := by omega
  clear again
  repeat (first | (apply gJR; first | (refine sx ?_; try intro _)) | (apply gJO; first | (refine sx ?_; try intro _)) | apply JS_seq | apply JS_region | refine JS_condF rfl ?_ | refine JS_cond_F rfl (by omega) ?_ | refine JS_exit rfl ?_)
  refine JS_block ?_
  refine JS_loop1 (fun (i : Nat) => [(1, .slice p 288 c), (3, .int .i64 i)]) (fun i => vec 5 1 (.slice p 288 c) 288 (ints .u8 (tab 288 fun j => if j < 144 then 8 else if j < 256 then 9 else if j < i then 7 else 8)) :: H) (fun i => 256 ≤ i ∧ i ≤ 280) (fun i => 280 - i) 256 ⟨by omega, by omega⟩ (by repeat (first | exact trivial | refine ⟨rfl, ?_⟩ | refine ⟨lookI rfl (by omega), ?_⟩)) (fun w hw => by
      rw [tab_congr (g := fun j => if 144 ≤ j ∧ j < 256 then 9 else 8) (fun j _ => by
        by_cases h1 : j < 144
        · rw [if_pos h1, if_neg (by omega)]
        · rw [if_neg h1]
          by_cases h2 : j < 256
          · rw [if_pos h2, if_pos (by omega)]
          · rw [if_neg h2, if_neg h2, if_neg (by omega)])]
      exact hw) ?_
  intro i ⟨hi0, hi⟩ again
  by_cases hlt : i < 280
  · have hl := tab_len 288 (fun j => if j < 144 then 8 else if j < 256 then 9 else if j < i then 7 else 8)
    have hs : (tab 288 fun j => if j < 144 then 8 else if j < 256 then 9 else if j < i then 7 else 8).set i 7 = tab 288 fun j => if j < 144 then 8 else if j < 256 then 9 else if j < i + 1 then 7 else 8 := by
      rw [tab_set]
      apply tab_congr
      intro j _
      by_cases h : j = i
      · rw [if_pos h, if_neg (by omega), if_neg (by omega), if_pos (by omega)]
      · rw [if_neg h]
        by_cases h1 : j < 144
        · rw [if_pos h1, if_pos h1]
        · rw [if_neg h1, if_neg h1]
          by_cases h2 : j < 256
          · rw [if_pos h2, if_pos h2]
          · rw [if_neg h2, if_neg h2]
            by_cases h3 : j < i
            · rw [if_pos h3, if_pos (by omega)]
            · rw [if_neg h3, if_neg (by omega)]
    repeat (first | (refine sx ?_; try intro _))
    exact JS_again1 again (i + 1) ⟨by omega, by omega⟩ (by omega) (by repeat (first | exact trivial | refine ⟨rfl, ?_⟩ | refine ⟨lookI rfl (by omega), ?_⟩)) (fun w hw => by rw [← hs]; exact hw)
  obtain rfl : i = 280 := by omega
  clear again
  repeat (first | (refine sx ?_; try intro _))
  refine JS_ret Tryz.func159 rfl rfl ?_
  intro w hw
  exact ⟨_, _, rfl, hw⟩
theorem Spans_c {w0 : World} {H : List Asn} (w : World) (hw : St w0 H w) :
    Calls Tryz.prog 160 #[] w fun e w' => ∃ p c, e = .returned (.slice p 32 c) ∧ St w0 (vec 5 1 (.slice p 32 c) 32 (ints .u8 (List.replicate 32 5)) :: H) w' := by
  refine enter (vs := []) Tryz.func160 rfl rfl rfl hw ?_
  repeat (first | (refine sx ?_; try intro _))
  rename_i p0
  refine JO_call Tryz.call213 rfl rfl fun w hw => (Repeat1_c (.slice (some p0) 1 1) 5 32 (vec_rd (by repeat (first | apply List.Mem.head | apply List.Mem.tail))) ⟨_, _, rfl⟩ (by omega) w hw).mono ?_
  rintro e w' ⟨p, c, rfl, hw'⟩
  refine ⟨_, rfl, _, hw', ?_⟩
  clear hw' hw w w'
  repeat (first | (refine sx ?_; try intro _))
  refine JS_ret Tryz.func160 rfl rfl ?_
  intro w hw
  exact ⟨_, _, rfl, dS hw⟩
set_option maxHeartbeats 1000000 in
theorem RFixed_c {w0 : World} {H : List Asn} (w : World) (hw : St w0 H w) :
    Calls Tryz.prog 135 #[] w fun e w' => ∃ p c, e = .returned (.slice p 288 c) ∧ St w0 (vec 5 1 (.slice p 288 c) 288 (ints .u8 (tab 288 fixF)) :: H) w' := by
  refine enter (vs := []) Tryz.func135 rfl rfl rfl hw ?_
  repeat (first | (apply gJR; first | (refine sx ?_; try intro _)) | (apply gJO; first | (refine sx ?_; try intro _)) | apply JS_seq | apply JS_region)
  refine JS_block ?_
  refine JS_loop3 (fun (i : Nat) (p : Option Addr) (c : Nat) => [(1, .slice p i c), (2, .int .i64 i)]) (fun i p c => vec 5 1 (.slice p i c) i (ints .u8 (tab i fixF)) :: H) (fun i _ _ => i ≤ 288) (fun i _ _ => 288 - i) 0 none 0 (by omega) (by repeat (first | exact trivial | refine ⟨rfl, ?_⟩ | refine ⟨lookI rfl (by omega), ?_⟩)) (fun w hw => St.nilvec hw) ?_
  intro i p c hi again
  by_cases hlt : i < 288
  · have hs := tab_succ i fixF
    have hl := tab_len i fixF
    have hc : (i < 144 ∧ fixF i = 8) ∨ (144 ≤ i ∧ i < 256 ∧ fixF i = 9) ∨ (256 ≤ i ∧ i < 280 ∧ fixF i = 7) ∨ (280 ≤ i ∧ fixF i = 8) := by
      unfold fixF
      by_cases h1 : i < 144
      · rw [if_pos h1]; exact .inl ⟨h1, rfl⟩
      · rw [if_neg h1]
        by_cases h2 : i < 256
        · rw [if_pos h2]; exact .inr (.inl ⟨by omega, h2, rfl⟩)
        · rw [if_neg h2]
          by_cases h3 : i < 280
          · rw [if_pos h3]; exact .inr (.inr (.inl ⟨by omega, h3, rfl⟩))
          · rw [if_neg h3]; exact .inr (.inr (.inr ⟨by omega, rfl⟩))
    rcases hc with ⟨h1, hf⟩ | ⟨h1, h2, hf⟩ | ⟨h1, h2, hf⟩ | ⟨h1, hf⟩
    all_goals rw [hf] at hs
    all_goals repeat (first | (refine sx ?_; try intro _))
    all_goals (refine JO_app (tb := tb) rfl rfl rfl rfl rfl rfl (by repeat (first | exact Sel.here _ _ | apply Sel.there)) (by first | exact vec_rd (by repeat (first | apply List.Mem.head | apply List.Mem.tail)) | assumption | exact ArgRd.rd (by assumption) _ | (apply Rd_weak; assumption; intro _ hx; exact dS hx)) (by simp only [ints_len, List.length_cons, List.length_nil]; first | omega | rfl) (by first | exact ints_one | (repeat (first | exact trivial | refine ⟨rfl, ?_⟩))) (by omega) rfl ?_; intro _ _)
    all_goals rename_i p2 c2
    all_goals repeat (first | (refine sx ?_; try intro _))
    all_goals exact JS_again3 again (i + 1) p2 c2 (by omega) (by omega) (by repeat (first | exact trivial | refine ⟨rfl, ?_⟩ | refine ⟨lookI rfl (by omega), ?_⟩)) (fun w hw => by rw [hs, ← ints_app1]; exact dS hw)
  obtain rfl : i = 288 := by omega
  clear again
  repeat (first | (refine sx ?_; try intro _))
  refine JS_ret Tryz.func135 rfl rfl ?_
  intro w hw
  exact ⟨_, _, rfl, hw⟩
end Go.Proofs.YteelffkghidpfaaGreat

namespace Go.Proofs.YteelffkghidpfaaGreat
open Sx Go
set_option linter.unusedVariables false
set_option linter.unusedSimpArgs false
set_option maxRecDepth 100000
theorem mod_mul (X P : Int) : X % 4294967296 * P % 4294967296 = X * P % 4294967296 := by
  rw [Int.mul_emod, Int.emod_emod, ← Int.mul_emod]
attribute [local irreducible] syA fc
set_option maxHeartbeats 4000000 in
/-- a set's codes -/
theorem Codes_c {w0 : World} {H : List Asn} (b : Nat) (q s : Option Addr) (d e m : Nat) (B : List Int) (f : Nat → Int) (full : Bool) (hb : blk b (setCells (.slice q m d) f (.slice s (syA B 15).length e) full) ∈ H) (hrl : Rd w0 H (.slice q m d) m (ints .u8 B)) (hrs : Rd w0 H (.slice s (syA B 15).length e) (syA B 15).length (ints .i64 (syA B 15)))
    (hm : B.length = m) (hB : OKB B) (h15 : ∀ j, B.getD j 0 ≤ 15) (hm1 : m ≤ 1000) (w : World) (hw : St w0 H w) :
    Calls Tryz.prog 215 #[.pointer (some ⟨b, 0, none⟩)] w fun e w' => ∃ p c, e = .returned (.slice p m c) ∧ St w0 (vec 31 1 (.slice p m c) m (ints .u32 (cds B 16 0)) :: H) w' := by
  refine enter (vs := [.pointer (some ⟨b, 0, none⟩)]) Tryz.func215 rfl rfl rfl hw ?_
  repeat (first | (apply gJO; first | refine JO_v (V_load (tb := tb) rfl hb rfl rfl rfl rfl) ?_ | refine JO_v (V_load (tb := tb) rfl (List.Mem.tail _ hb) rfl rfl rfl rfl) ?_) | (apply gJR; first | (refine sx ?_; try intro _)) | (apply gJO; first | (refine sx ?_; try intro _)) | apply JS_seq | apply JS_region)
  rename_i po
  rw [show (rep (Int.toNat m) [Value.int IntKind.u32 0]) = ints .u32 (List.replicate m 0) from ints_rep]
  rw [show (m : Int).toNat = m from rfl]
  refine JS_block ?_
  refine JS_loop3 (fun (t l : Nat) (c : Int) => [(0, .pointer (some ⟨b, 0, none⟩)), (3, .slice (some po) m m), (4, .int .u32 ((fc B l + c) % 4294967296)), (5, .int .u8 l), (18, .slice s (syA B 15).length e), (19, .int .i64 ((syA B 15).length : Nat)), (20, .int .i64 t)]) (fun t _ _ => vec 31 1 (.slice (some po) m m) m (ints .u32 (outC B t)) :: H)
    (fun t l c => t ≤ (syA B 15).length ∧ l ≤ 15 ∧ psum B l + c = t ∧ 0 ≤ c ∧ c ≤ cn B l) (fun t _ _ => (syA B 15).length - t) 0 0 0 ⟨by omega, by omega, rfl, by omega, by simp [cn]⟩ (by exact ⟨rfl, rfl, lookI rfl (by unfold fc; rfl), rfl, rfl, rfl, rfl, trivial⟩) (fun w hw => by rw [outC_zero, hm]; exact hw) ?_
  intro t l c ⟨ht, hl, hp, hc0, hc⟩ again
  have hrl' : Rd w0 (vec 31 1 (.slice (some po) m m) m (ints .u32 (outC B t)) :: H) (.slice q m d) m (ints .u8 B) := Rd_weak hrl fun w hw => dS hw
  have hrs' : Rd w0 (vec 31 1 (.slice (some po) m m) m (ints .u32 (outC B t)) :: H) (.slice s (syA B 15).length e) (syA B 15).length (ints .i64 (syA B 15)) := Rd_weak hrs fun w hw => dS hw
  by_cases htk : t < (syA B 15).length
  · obtain ⟨n, r, i, hn, h1, h2, hi, h3, h4, h5⟩ := syA_get B 15 t htk
    have hps := psum_syA B hB n
    have hcr := cn_sy1 B hB (n + 1) (by omega) i (by omega)
    have hcm := cn_sy1 B hB (n + 1) (by omega) B.length (by omega)
    rw [List.take_of_length_le (by omega)] at hcm
    have hset := outC_set htk h3
    have hcd : cd B i = (fc B (n + 1) + r) % 4294967296 := by unfold cd; rw [h4, Int.toNat_natCast, ← hcr, h5]
    have hle : l ≤ n + 1 := by
      rcases Nat.lt_or_ge (n + 1) l with h | h
      · exfalso
        have hmo := psum_mono B (n + 1 + 1) (l - (n + 2))
        rw [show n + 1 + 1 + (l - (n + 2)) = l by omega] at hmo
        have : psum B (n + 1 + 1) = psum B (n + 1) + cn B (n + 1) := rfl
        omega
      · exact h
    have hsh : fc B (n + 1) + r = (fc B l + c) * 2 ^ (n + 1 - l) := by
      rcases Nat.eq_or_lt_of_le hle with h | h
      · subst h
        rw [Nat.sub_self, Int.pow_zero, Int.mul_one]; omega
      · obtain ⟨g1, g2⟩ := shift_code B l c hc (n + 1 - l) (by omega) (by rw [show l + (n + 1 - l) = n + 1 by omega]; omega)
        rw [show l + (n + 1 - l) = n + 1 by omega] at g1 g2
        rw [← g2]; omega
    have hcl := outC_len B t
    have gs : (ints .i64 (syA B 15))[t]? = some (.int .i64 (i : Int)) := by rw [← h3]; exact ints_get htk
    have gl : (ints .u8 B)[i]? = some (.int .u8 ((n + 1 : Nat) : Int)) := by rw [← h4]; exact ints_get hi
    have hms : min (((n + 1 : Nat) : Int) - (l : Int)).toNat IntKind.u32.bits = n + 1 - l := by show min _ 32 = _; omega
    have hwr : IntKind.u32.wrap ((fc B l + c) % 4294967296 * 2 ^ (n + 1 - l)) = cd B i := by
      rw [hcd, hsh, ← mod_mul]; exact mu32 _
    have hcdb := cd_bd B i
    have hsl := syA_len B 15
    have htb : t ≤ 15000 := by omega
    have hrc : (r : Int) + 1 ≤ cn B (n + 1) := by omega
    clear hsh hcm hcr hsl
    repeat (first | (apply gJO; first | refine JO_v (V_load (tb := tb) rfl (List.Mem.tail _ hb) rfl rfl rfl rfl) ?_ | refine JO_v (V_loadC (tb := tb) rfl hrs' rfl rfl gs rfl) ?_ | refine JO_v (V_loadC (tb := tb) rfl hrl' rfl rfl gl rfl) ?_ | refine JO_v (V_shl (m := n + 1 - l) (c := cd B i) rfl rfl (by omega) hms hwr rfl) ?_) | (first | (refine sx ?_; try intro _)))
    exact JS_again3 again (t + 1) (n + 1) ((r : Int) + 1) ⟨by omega, by omega, by omega, by omega, by omega⟩ (by omega) (by exact ⟨rfl, rfl, lookI rfl (by rw [hcd]; omega), lookI rfl (by omega), rfl, rfl, lookI rfl (by omega), trivial⟩) (fun w hw => by rw [← hset]; exact hw)
  · obtain rfl : t = (syA B 15).length := by omega
    rw [outC_end h15]
    clear again
    repeat (first | (refine sx ?_; try intro _))
    refine JS_ret Tryz.func215 rfl rfl ?_
    intro w hw
    exact ⟨_, _, rfl, hw⟩
end Go.Proofs.YteelffkghidpfaaGreat

namespace Go.Proofs.YteelffkghidpfaaGreat
open Sx Go
set_option linter.unusedVariables false
set_option linter.unusedSimpArgs false
set_option maxRecDepth 100000
attribute [local irreducible] syA fc tk
/-- lengths that are a set's -/
def OKL (B : List Int) : Prop := B.length ≤ 320 ∧ (∀ j, B.getD j 0 ≤ 15) ∧ FINE B
/-- a set that stands in memory -/
structure IsSet (w0 : World) (H : List Asn) (b : Nat) (B : List Int) : Prop where
  ok : ∃ q d s e, blk b (setCells (.slice q B.length d) (cn B) (.slice s (syA B 15).length e) (decide (tk B = 32768))) ∈ H ∧ Rd w0 H (.slice q B.length d) B.length (ints .u8 B) ∧ Rd w0 H (.slice s (syA B 15).length e) (syA B 15).length (ints .i64 (syA B 15))
  hB : OKB B
  hl : OKL B
theorem IsSet.sub {w0 H H' b B} (h : IsSet w0 H b B) (hs : H.Sublist H') : IsSet w0 H' b B := by
  obtain ⟨⟨q, d, s, e, h1, h2, h3⟩, hB, hl⟩ := h
  exact ⟨⟨q, d, s, e, hs.subset h1, Rd_weak h2 fun w hw => St.sub hs hw, Rd_weak h3 fun w hw => St.sub hs hw⟩, hB, hl⟩
theorem OKB_of {B : List Int} (h : B.all (fun x => decide (0 ≤ x ∧ x < 256)) = true) : OKB B := by
  intro j
  rw [List.getD_eq_getElem?_getD]
  rcases Nat.lt_or_ge j B.length with hj | hj
  · rw [List.getElem?_eq_getElem hj]
    exact of_decide_eq_true (List.all_eq_true.1 h _ (List.getElem_mem hj))
  · rw [List.getElem?_eq_none hj]; decide
theorem le15_of {B : List Int} (h : B.all (fun x => decide (x ≤ 15)) = true) : ∀ j, B.getD j 0 ≤ 15 := by
  intro j
  rw [List.getD_eq_getElem?_getD]
  rcases Nat.lt_or_ge j B.length with hj | hj
  · rw [List.getElem?_eq_getElem hj]
    exact of_decide_eq_true (List.all_eq_true.1 h _ (List.getElem_mem hj))
  · rw [List.getElem?_eq_none hj]; decide
/-- the error of lengths -/
def BADL (B : List Int) (r : Int) : Prop := ((320 < B.length ∨ ∃ j, 15 < B.getD j 0) ∧ r = 1) ∨ (B.length ≤ 320 ∧ (∀ j, B.getD j 0 ≤ 15) ∧ ¬ FINE B ∧ r = 62)
theorem BADL.not {B r} (h : BADL B r) : ¬ OKL B := by
  rintro ⟨h1, h2, h3⟩
  rcases h with ⟨h4 | ⟨j, h4⟩, _⟩ | ⟨_, _, h4, _⟩
  · omega
  · have := h2 j; omega
  · exact h4 h3
theorem BADL.one {B r r'} (h : BADL B r) (h' : BADL B r') : r = r' := by
  rcases h with ⟨h1, h2⟩ | ⟨h1, h3, h4, h2⟩ <;> rcases h' with ⟨h5, h6⟩ | ⟨h5, h7, h8, h6⟩
  · omega
  · exfalso
    rcases h1 with h1 | ⟨j, h1⟩
    · omega
    · have := h7 j; omega
  · exfalso
    rcases h5 with h5 | ⟨j, h5⟩
    · omega
    · have := h3 j; omega
  · omega
theorem BADL.pos {B r} (h : BADL B r) : r = 1 ∨ r = 62 := by
  rcases h with ⟨_, h⟩ | ⟨_, _, _, h⟩ <;> omega
theorem Codes2_c {w0 : World} {H : List Asn} (b m : Nat) (B : List Int) (hm : B.length = m) (hs : IsSet w0 H b B) (w : World) (hw : St w0 H w) :
    Calls Tryz.prog 215 #[.pointer (some ⟨b, 0, none⟩)] w fun e w' => ∃ p c, e = .returned (.slice p m c) ∧ St w0 (vec 31 1 (.slice p m c) m (ints .u32 (cds B 16 0)) :: H) w' := by
  subst hm
  obtain ⟨⟨q, d, s, e, h1, h2, h3⟩, hB, hl⟩ := hs
  exact Codes_c b q s d e _ B _ _ h1 h2 h3 rfl hB hl.2.1 (by have := hl.1; omega) w hw
theorem Full2_c {w0 : World} {H : List Asn} (b : Nat) (B : List Int) (hs : IsSet w0 H b B) (w : World) (hw : St w0 H w) :
    Calls Tryz.prog 234 #[.pointer (some ⟨b, 0, none⟩)] w fun e w' => e = .returned (.bool (decide (tk B = 32768))) ∧ St w0 H w' := by
  obtain ⟨⟨q, d, s, e, h1, h2, h3⟩, hB, hl⟩ := hs
  exact Full_c b _ _ _ _ h1 w hw
theorem Read2_c {w0 : World} {H : List Asn} (b b2 : Nat) (B B2 : List Int) (hs : IsSet w0 H b B) (q : Option Addr) (d m2 : Nat) (hr : Rd w0 H (.slice q m2 d) m2 (ints .u8 B2)) (hm2 : B2.length = m2) (hB2 : OKB B2) (hmx : m2 ≤ 140737488355328) (n : Nat) (hn : n ≤ 8 * m2)
    (w : World) (hw : St w0 (blk b2 [.slice q m2 d, .int .i64 n] :: H) w) :
    Calls Tryz.prog 253 #[.pointer (some ⟨b, 0, none⟩), .pointer (some ⟨b2, 0, none⟩)] w fun en w' => ∃ (i : Int) (used : Nat) (r : Int), en = .returned (.tuple #[.int .i64 i, .int .i64 r]) ∧ St w0 (blk b2 [.slice q m2 d, .int .i64 (n + used : Nat)] :: H) w' ∧ n + used ≤ 8 * m2 ∧ RD B (bitB B2 n) (8 * m2 - n) i used r := by
  obtain ⟨⟨q', d', s, e, h1, h2, h3⟩, hB, hl⟩ := hs
  exact Read_c b b2 _ s q d e m2 B B2 h1 h3 hl.1 hB hl.2.1 hl.2.2 hr hm2 hB2 hmx n hn w hw
end Go.Proofs.YteelffkghidpfaaGreat

namespace Go.Proofs.YteelffkghidpfaaGreat
open Sx Go
set_option linter.unusedVariables false
set_option linter.unusedSimpArgs false
set_option maxRecDepth 100000
end Go.Proofs.YteelffkghidpfaaGreat

namespace Go.Proofs.YteelffkghidpfaaGreat
open Sx Go
set_option linter.unusedVariables false
set_option linter.unusedSimpArgs false
set_option maxRecDepth 100000
theorem cds_get (B : List Int) (h15 : ∀ j, B.getD j 0 ≤ 15) (i : Nat) (hi : i < B.length) : (cds B 16 0).getD i 0 = if 0 < B.getD i 0 then cd B i else 0 := by
  have h := h15 i
  have ht : told B 16 0 i = decide (0 < B.getD i 0) := by
    unfold told
    by_cases h0 : 0 < B.getD i 0
    · rw [decide_eq_true h0]; exact decide_eq_true ⟨h0, .inl (by omega)⟩
    · rw [decide_eq_false h0]; exact decide_eq_false (fun h => h0 h.1)
  unfold cds
  rw [List.getD_eq_getElem?_getD, List.getElem?_map, List.getElem?_range hi]
  simp only [Option.map_some, Option.getD_some, ht, decide_eq_true_eq]
attribute [local irreducible] syA fc tk cds
end Go.Proofs.YteelffkghidpfaaGreat

namespace Go.Proofs.YteelffkghidpfaaGreat
open Sx Go
set_option linter.unusedVariables false
set_option linter.unusedSimpArgs false
set_option maxRecDepth 100000
attribute [local irreducible] syA fc tk cds
theorem Byt_take {B : List Int} (h : Byt B) (n : Nat) : Byt (B.take n) := by
  intro j
  rcases Nat.lt_or_ge j n with hj | hj
  · have := h j
    rwa [List.getD_eq_getElem?_getD, List.getElem?_take, if_pos hj, ← List.getD_eq_getElem?_getD]
  · rw [List.getD_eq_getElem?_getD, List.getElem?_eq_none (by rw [List.length_take]; omega)]; decide
theorem Byt_drop {B : List Int} (h : Byt B) (n : Nat) : Byt (B.drop n) := by
  intro j
  have := h (n + j)
  rwa [List.getD_eq_getElem?_getD, List.getElem?_drop, ← List.getD_eq_getElem?_getD]
theorem ints_take {K : IntKind} {l : List Int} {n : Nat} : (ints K l).take n = ints K (l.take n) := by simp [ints, List.map_take]
theorem ints_drop {K : IntKind} {l : List Int} {n : Nat} : (ints K l).drop n = ints K (l.drop n) := by simp [ints, List.map_drop]
theorem RD_fun {B : List Int} (hB : OKB B) (hk : OKL B) {b : Nat → Int} (hb : ∀ j, b j = 0 ∨ b j = 1) {left : Nat} {i i' : Int} {u u' : Nat} {r r' : Int} (h : RD B b left i u r) (h' : RD B b left i' u' r') : i = i' ∧ u = u' ∧ r = r' := by
  rcases h with ⟨j, rfl, rfl, h1, h2⟩ | ⟨h1, rfl, h2⟩ <;> rcases h' with ⟨j', rfl, rfl, h3, h4⟩ | ⟨h3, rfl, h4⟩
  · have := DEC_one B hB hk.2.1 hk.2.2 b hb left j j' h1 h3
    subst this
    exact ⟨rfl, by omega, rfl⟩
  · exact absurd h1 (h3 j)
  · exact absurd h3 (h1 j')
  · refine ⟨rfl, ?_⟩
    omega
theorem cd_lt (B : List Int) (hB : OKB B) (hk : OKL B) (i n : Nat) (hi : i < B.length) (h0 : 0 < n) (hn : B.getD i 0 = (n : Int)) : 0 ≤ cd B i ∧ cd B i < 2 ^ n := by
  obtain ⟨h1, h2⟩ := cd_eq B hB hk.2.1 hk.2.2 i n hi h0 hn
  have h3 := hk.2.1 i
  have h4 := fc_bd B hB hk.2.1 hk.2.2 n (by omega)
  have h5 := cd_bd B i
  omega
end Go.Proofs.YteelffkghidpfaaGreat

namespace Go.Proofs.YteelffkghidpfaaGreat
open Sx Go
set_option linter.unusedVariables false
set_option linter.unusedSimpArgs false
set_option maxRecDepth 100000
/-! bits in bytes -/
def bnum (f : Nat → Int) : Nat → Int
  | 0 => 0
  | k + 1 => bnum f k + f k * 2 ^ k
theorem num_add (f g : Nat → Int) : ∀ k, bnum (fun t => f t + g t) k = bnum f k + bnum g k
  | 0 => rfl
  | k + 1 => by simp only [bnum, num_add f g k, Int.add_mul]; omega
theorem num_congr {f g : Nat → Int} : ∀ k, (∀ t, t < k → f t = g t) → bnum f k = bnum g k
  | 0, _ => rfl
  | k + 1, h => by simp only [bnum]; rw [num_congr k (fun t ht => h t (by omega)), h k (by omega)]
theorem num_zero : ∀ k, bnum (fun _ => 0) k = 0
  | 0 => rfl
  | k + 1 => by simp only [bnum, num_zero k]; omega
theorem num_one (x : Int) (i : Nat) : ∀ k, bnum (fun t => if t = i then x else 0) k = if i < k then x * 2 ^ i else 0
  | 0 => by simp [bnum]
  | k + 1 => by
    simp only [bnum, num_one x i k]
    by_cases h : k = i
    · subst h; rw [if_neg (by omega), if_pos rfl, if_pos (by omega)]; omega
    · rw [if_neg h]
      by_cases h2 : i < k
      · rw [if_pos h2, if_pos (by omega)]; omega
      · rw [if_neg h2, if_neg (by omega)]; omega
theorem num_bd (f : Nat → Int) (hf : ∀ t, f t = 0 ∨ f t = 1) : ∀ k, 0 ≤ bnum f k ∧ bnum f k < 2 ^ k
  | 0 => ⟨Int.le_refl _, by show (0 : Int) < 1; decide⟩
  | k + 1 => by
    have h := num_bd f hf k
    simp only [bnum, Int.pow_succ]
    rcases hf k with h1 | h1 <;> rw [h1] <;> omega
/-- the byte at a place, of bits -/
def byteAt (L : List Int) (j : Nat) : Int := bnum (fun t => L.getD (8 * j + t) 0) 8
def pack (L : List Int) : List Int := tab ((L.length + 7) / 8) (byteAt L)
theorem pack_len (L : List Int) : (pack L).length = (L.length + 7) / 8 := tab_len _ _
theorem getD_app1 (L : List Int) (x : Int) (i : Nat) : (L ++ [x]).getD i 0 = L.getD i 0 + if i = L.length then x else 0 := by
  rw [List.getD_eq_getElem?_getD, List.getD_eq_getElem?_getD]
  rcases Nat.lt_trichotomy i L.length with h | h | h
  · rw [List.getElem?_append_left h, if_neg (by omega)]; omega
  · subst h; simp
  · rw [List.getElem?_append_right (by omega), if_neg (by omega), List.getElem?_eq_none (by simp; omega), List.getElem?_eq_none (by omega)]; rfl
theorem byteAt_app (L : List Int) (x : Int) (j : Nat) : byteAt (L ++ [x]) j = byteAt L j + if j = L.length / 8 then x * 2 ^ (L.length % 8) else 0 := by
  unfold byteAt
  rw [num_congr (g := fun t => L.getD (8 * j + t) 0 + if 8 * j + t = L.length then x else 0) 8 (fun t _ => getD_app1 L x _), num_add]
  congr 1
  by_cases h : j = L.length / 8
  · rw [if_pos h, num_congr (g := fun t => if t = L.length % 8 then x else 0) 8 (fun t ht => by
      by_cases h2 : t = L.length % 8
      · rw [if_pos h2, if_pos (by omega)]
      · rw [if_neg h2, if_neg (by omega)]), num_one, if_pos (by omega)]
  · rw [if_neg h, num_congr (g := fun _ => 0) 8 (fun t ht => if_neg (by omega)), num_zero]
theorem byteAt_bd (L : List Int) (hL : ∀ j, L.getD j 0 = 0 ∨ L.getD j 0 = 1) (j : Nat) : 0 ≤ byteAt L j ∧ byteAt L j < 256 := num_bd _ (fun t => hL _) 8
theorem byteAt_last (L : List Int) (hL : ∀ j, L.getD j 0 = 0 ∨ L.getD j 0 = 1) : byteAt L (L.length / 8) < 2 ^ (L.length % 8) := by
  have h : ∀ d, bnum (fun t => L.getD (8 * (L.length / 8) + t) 0) (L.length % 8 + d) = bnum (fun t => L.getD (8 * (L.length / 8) + t) 0) (L.length % 8) := by
    intro d
    induction d with
    | zero => rfl
    | succ d ih =>
      rw [← Nat.add_assoc]
      simp only [bnum]
      rw [ih, List.getD_eq_getElem?_getD, List.getElem?_eq_none (by omega)]; simp
  have h2 := h (8 - L.length % 8)
  rw [show L.length % 8 + (8 - L.length % 8) = 8 by omega] at h2
  unfold byteAt
  rw [h2]
  exact (num_bd _ (fun t => hL _) _).2
theorem pack_grow (L : List Int) (h : L.length % 8 = 0) : pack L ++ [0] = tab ((L.length + 8) / 8) (byteAt L) := by
  unfold pack
  rw [show (L.length + 8) / 8 = (L.length + 7) / 8 + 1 by omega, tab_succ]
  congr 2
  unfold byteAt
  rw [num_congr (g := fun _ => 0) 8 (fun t _ => by rw [List.getD_eq_getElem?_getD, List.getElem?_eq_none (by omega)]; rfl), num_zero]
theorem pack_same (L : List Int) (h : ¬ L.length % 8 = 0) : pack L = tab ((L.length + 8) / 8) (byteAt L) := by
  unfold pack
  rw [show (L.length + 8) / 8 = (L.length + 7) / 8 by omega]
theorem pack_put (L : List Int) (x : Int) : (tab ((L.length + 8) / 8) (byteAt L)).set (L.length / 8) (byteAt L (L.length / 8) + x * 2 ^ (L.length % 8)) = pack (L ++ [x]) := by
  rw [tab_set]
  unfold pack
  rw [show (L ++ [x]).length + 7 = L.length + 8 by simp]
  apply tab_congr
  intro j hj
  rw [byteAt_app]
  by_cases h : j = L.length / 8
  · rw [if_pos h, if_pos h, h]
  · rw [if_neg h, if_neg h]; omega
theorem mask1_u32 {a : Int} (ha : 0 ≤ a ∧ a < 4294967296) : IntKind.u32.wrap ((BitVec.ofInt IntKind.u32.bits a &&& BitVec.ofInt IntKind.u32.bits 1).toNat) = a % 2 := by
  rw [and_nat .u32 ⟨ha.1, ha.2⟩ ⟨by omega, by decide⟩, show (1 : Int).toNat = 1 from rfl, Nat.and_one_is_mod]
  exact (wu32 (by omega)).trans (by omega)
theorem or_add_u8 {a y : Int} {s : Nat} (hs : s < 8) (ha : 0 ≤ a ∧ a < 2 ^ s) (hy : y = 0 ∨ y = 1) : IntKind.u8.wrap ((BitVec.ofInt IntKind.u8.bits a ||| BitVec.ofInt IntKind.u8.bits (y * 2 ^ s)).toNat) = a + y * 2 ^ s := by
  have hp : (2 : Int) ^ s ≤ 128 := by
    have : ∀ k : Fin 8, (2 : Int) ^ k.val ≤ 128 := by decide
    exact this ⟨s, hs⟩
  have hyb : 0 ≤ y * 2 ^ s ∧ y * 2 ^ s ≤ 128 := by rcases hy with rfl | rfl <;> omega
  rw [or_nat .u8 ⟨ha.1, by show a < 256; omega⟩ ⟨hyb.1, by show y * 2 ^ s < 256; omega⟩]
  obtain ⟨m, rfl⟩ := Int.eq_ofNat_of_zero_le ha.1
  have hpn : ((2 ^ s : Nat) : Int) = 2 ^ s := by simp
  rcases hy with rfl | rfl
  · simp only [Int.zero_mul, Int.toNat_natCast, Int.toNat_zero, Nat.or_zero, Int.add_zero]
    exact wu8 (by omega)
  · have h := Nat.two_pow_add_eq_or_of_lt (i := s) (b := m) (by have := ha.2; rw [← hpn] at this; omega) 1
    rw [Nat.mul_one] at h
    rw [Int.one_mul, Int.toNat_natCast, show ((2 : Int) ^ s).toNat = 2 ^ s by rw [← hpn]; rfl, Nat.or_comm, ← h]
    refine (wu8 (by omega)).trans (by omega)
abbrev wrA (b : Nat) (L : List Int) (q : Option Addr) (d : Nat) : Asn := blk b [.slice q ((L.length + 7) / 8) d, .int .i64 L.length]
abbrev wrV (L : List Int) (q : Option Addr) (d : Nat) : Asn := vec 5 1 (.slice q ((L.length + 7) / 8) d) ((L.length + 7) / 8) (ints .u8 (pack L))
set_option maxHeartbeats 4000000 in
/-- one bit is put -/
theorem Put_c {w0 : World} {H : List Asn} (b : Nat) (L : List Int) (q : Option Addr) (d : Nat) (x : Int) (hx : 0 ≤ x ∧ x < 4294967296) (hL : ∀ j, L.getD j 0 = 0 ∨ L.getD j 0 = 1) (hl : L.length ≤ 70368744177664) (w : World) (hw : St w0 (wrA b L q d :: wrV L q d :: H) w) :
    Calls Tryz.prog 217 #[.pointer (some ⟨b, 0, none⟩), .int .u32 x] w fun e w' => e = .returned (.tuple #[]) ∧ ∃ q d, St w0 (wrA b (L ++ [x % 2]) q d :: wrV (L ++ [x % 2]) q d :: H) w' := by
  unfold wrA wrV at hw ⊢
  refine enter (vs := [.pointer (some ⟨b, 0, none⟩), .int .u32 x]) Tryz.func217 rfl rfl rfl hw ?_
  have hlast := byteAt_last L hL
  have hbd := byteAt_bd L hL (L.length / 8)
  have hput := pack_put L (x % 2)
  have hx2 : x % 2 = 0 ∨ x % 2 = 1 := by omega
  have hor := or_add_u8 (a := byteAt L (L.length / 8)) (y := x % 2) (s := L.length % 8) (by omega) ⟨hbd.1, hlast⟩ hx2
  have hms : min ((L.length : Int) % 8).toNat IntKind.u8.bits = L.length % 8 := by show min _ 8 = _; omega
  have hpw : 0 ≤ x % 2 * 2 ^ (L.length % 8) ∧ x % 2 * 2 ^ (L.length % 8) < 256 := by
    have : ∀ k : Fin 8, (1 : Int) ≤ 2 ^ k.val ∧ (2 : Int) ^ k.val ≤ 128 := by decide
    have := this ⟨L.length % 8, by omega⟩
    simp only [] at this
    rcases hx2 with h | h <;> rw [h] <;> omega
  have hl1 : (L ++ [x % 2]).length = L.length + 1 := by simp
  have hk : ((L ++ [x % 2]).length + 7) / 8 = (L.length + 8) / 8 := by rw [hl1]
  rw [hl1] at hk ⊢
  rw [hk]
  have htl := tab_len ((L.length + 8) / 8) (byteAt L)
  have g0 : (ints .u8 (tab ((L.length + 8) / 8) (byteAt L)))[L.length / 8]? = some (.int .u8 (byteAt L (L.length / 8))) := by
    rw [ints_get (by omega)]
    congr 2
    unfold tab
    rw [List.getD_eq_getElem?_getD, List.getElem?_map, List.getElem?_range (by omega)]; rfl
  clear hw
  by_cases h8 : L.length % 8 = 0
  case' pos =>
    have hg := pack_grow L h8
    have hpl := pack_len L
    have hk2 : (L.length + 7) / 8 + 1 = (L.length + 8) / 8 := by omega
    repeat (first | (refine sx ?_; try intro _))
    (refine JO_app (tb := tb) rfl rfl rfl rfl rfl rfl (by repeat (first | exact Sel.here _ _ | apply Sel.there)) (by first | exact vec_rd (by repeat (first | apply List.Mem.head | apply List.Mem.tail)) | assumption | exact ArgRd.rd (by assumption) _ | (apply Rd_weak; assumption; intro _ hx; exact dS hx)) (by simp only [ints_len, List.length_cons, List.length_nil]; first | omega | rfl) (by first | exact ints_one | (repeat (first | exact trivial | refine ⟨rfl, ?_⟩))) (by omega) rfl ?_; intro _ _)
    rename_i q2 d2
    rw [show ([] : List Value).append (rep 0 [Value.int IntKind.u8 0]) = [] from rfl, hk2, ints_app1, hg]
    repeat (first | (apply gJR; first | (refine sx ?_; try intro _)) | (apply gJO; first | (refine sx ?_; try intro _)) | (apply gJS; apply JS_seq))
  case' neg =>
    rw [pack_same L h8, show (L.length + 7) / 8 = (L.length + 8) / 8 by omega]
    repeat (first | (apply gJR; first | (refine sx ?_; try intro _)) | (apply gJO; first | (refine sx ?_; try intro _)) | apply JS_seq | apply JS_region | refine JS_cond_F rfl (by omega) ?_ | apply JS_skip)
  all_goals repeat (first | (apply gQO; first | refine QO_v rfl (V_loadC (tb := tb) rfl (vec_rd (by repeat (first | apply List.Mem.head | apply List.Mem.tail))) rfl rfl g0 rfl) ?_ | refine QO_v rfl (V_and rfl rfl (mask1_u32 hx) rfl) ?_ | refine QO_v rfl (V_shl (m := L.length % 8) rfl rfl (by omega) hms (wu8 hpw) rfl) ?_ | refine QO_v rfl (V_or rfl rfl hor rfl) ?_) | (first | (refine sx ?_; try intro _)))
  all_goals refine JS_fin Tryz.func217 rfl rfl (vs := []) ?_
  all_goals intro w hw
  all_goals rw [hput] at hw
  all_goals exact ⟨rfl, _, _, dS hw⟩
theorem Fits_c {w0 : World} {H : List Asn} (n : Int) (k : Nat) (hk : k ≤ 32) (hn : 0 ≤ n ∧ n < 2 ^ k) (hn2 : n < 4294967296) (w : World) (hw : St w0 H w) :
    Calls Tryz.prog 216 #[.int .u32 n, .int .i64 k] w fun e w' => e = .returned (.bool true) ∧ St w0 H w' := by
  refine enter (vs := [.int .u32 n, .int .i64 k]) Tryz.func216 rfl rfl rfl hw ?_
  have hm : min ((k : Int)).toNat IntKind.u64.bits = k := by show min _ 64 = _; omega
  have h0 : n / 2 ^ k = 0 := Int.ediv_eq_zero_of_lt hn.1 hn.2
  repeat (first | (apply gJO; refine JO_v (V_shr (m := k) rfl rfl (by omega) hm h0 rfl) ?_) | (first | (refine sx ?_; try intro _)))
  refine JS_ret Tryz.func216 rfl rfl ?_
  intro w hw
  exact ⟨rfl, hw⟩
theorem grp_01 (n : Int) (k j : Nat) : (grp n k).getD j 0 = 0 ∨ (grp n k).getD j 0 = 1 := by
  unfold grp
  rcases Nat.lt_or_ge j k with h | h
  · simp only [List.getD_eq_getElem?_getD, List.getElem?_map, List.getElem?_range h, Option.map_some, Option.getD_some]; omega
  · rw [List.getD_eq_getElem?_getD, List.getElem?_eq_none (by simp; omega)]; exact .inl rfl
theorem app_01 {L M : List Int} (hL : ∀ j, L.getD j 0 = 0 ∨ L.getD j 0 = 1) (hM : ∀ j, M.getD j 0 = 0 ∨ M.getD j 0 = 1) (j : Nat) : (L ++ M).getD j 0 = 0 ∨ (L ++ M).getD j 0 = 1 := by
  rw [List.getD_eq_getElem?_getD]
  rcases Nat.lt_or_ge j L.length with h | h
  · rw [List.getElem?_append_left h, ← List.getD_eq_getElem?_getD]; exact hL j
  · rw [List.getElem?_append_right h, ← List.getD_eq_getElem?_getD]; exact hM _
set_option maxHeartbeats 2000000 in
/-- a group of bits -/
theorem WGroup_c {w0 : World} {H : List Asn} (b : Nat) (L : List Int) (q : Option Addr) (d : Nat) (n : Int) (k : Nat) (hk : k ≤ 32) (hn : 0 ≤ n ∧ n < 2 ^ k) (hn2 : n < 4294967296) (hL : ∀ j, L.getD j 0 = 0 ∨ L.getD j 0 = 1) (hl : L.length ≤ 70368744177600) (w : World) (hw : St w0 (wrA b L q d :: wrV L q d :: H) w) :
    Calls Tryz.prog 162 #[.pointer (some ⟨b, 0, none⟩), .int .u32 n, .int .i64 k] w fun e w' => e = .returned (.int .i64 0) ∧ ∃ q d, St w0 (wrA b (L ++ grp n k) q d :: wrV (L ++ grp n k) q d :: H) w' := by
  refine enter (vs := [.pointer (some ⟨b, 0, none⟩), .int .u32 n, .int .i64 k]) Tryz.func162 rfl rfl rfl hw ?_
  repeat (first | (refine sx ?_; try intro _))
  refine JO_call Tryz.call216 rfl rfl fun w hw => (Fits_c n k hk hn hn2 w hw).mono ?_
  rintro e w' ⟨rfl, hw'⟩
  refine ⟨_, rfl, _, hw', ?_⟩
  clear hw' hw w w'
  repeat (first | (apply gJR; first | (refine sx ?_; try intro _)) | (apply gJO; first | (refine sx ?_; try intro _)) | apply JS_seq | apply JS_region | refine JS_condF rfl ?_ | apply JS_skip)
  refine JS_block ?_
  refine JS_loop3 (fun (i : Nat) (q : Option Addr) (d : Nat) => [(1, .int .u32 n), (7, .func (.func 217) #[.pointer (some ⟨b, 0, none⟩)] #[]), (15, .int .i64 k), (16, .int .i64 i)]) (fun i q d => wrA b (L ++ grp n i) q d :: wrV (L ++ grp n i) q d :: H) (fun i _ _ => i ≤ k) (fun i _ _ => k - i) 0 q d (by omega) (by repeat (first | exact trivial | refine ⟨rfl, ?_⟩ | refine ⟨lookI rfl (by omega), ?_⟩)) (fun w hw => by rw [show grp n 0 = [] from rfl, List.append_nil]; exact hw) ?_
  intro i q d hi again
  by_cases hik : i < k
  · have hm : min ((i : Int)).toNat IntKind.u32.bits = i := by show min _ 32 = _; omega
    have hgs := grp_succ n i
    have hgl := grp_len n i
    have hq0 : 0 ≤ n / 2 ^ i ∧ n / 2 ^ i < 4294967296 := by
      have hp : (0 : Int) < 2 ^ i := Int.pow_pos (by decide)
      exact ⟨Int.ediv_nonneg hn.1 (Int.le_of_lt hp), Int.lt_of_le_of_lt (Int.ediv_le_self _ hn.1) hn2⟩
    repeat (first | (apply gJO; refine JO_v (V_shr (m := i) rfl rfl (by omega) hm rfl rfl) ?_) | (first | (refine sx ?_; try intro _)))
    refine JO_callv (us := [.pointer (some ⟨b, 0, none⟩)]) (cs := []) rfl Tryz.call217 rfl rfl fun w hw => (Put_c b (L ++ grp n i) q d (n / 2 ^ i) hq0 (app_01 hL (grp_01 n i)) (by rw [List.length_append, hgl]; omega) w hw).mono ?_
    rintro e w' ⟨rfl, q2, d2, hw'⟩
    rw [List.append_assoc, ← hgs] at hw'
    refine ⟨_, rfl, _, hw', ?_⟩
    clear hw' hw w w'
    repeat (first | (refine sx ?_; try intro _))
    exact JS_again3 again (i + 1) q2 d2 (by omega) (by omega) (by repeat (first | exact trivial | refine ⟨rfl, ?_⟩ | refine ⟨lookI rfl (by omega), ?_⟩)) (fun w hw => hw)
  · obtain rfl : i = k := by omega
    clear again
    repeat (first | (refine sx ?_; try intro _))
    refine JS_ret Tryz.func162 rfl rfl ?_
    intro w hw
    exact ⟨rfl, q, d, hw⟩
theorem bit_bv (v : BitVec 32) (j : Nat) : (v.toNat : Int) / 2 ^ j % 2 = if v.getLsbD j then 1 else 0 := by
  have h : ((v.toNat : Int) / 2 ^ j % 2) = ((v.toNat / 2 ^ j % 2 : Nat) : Int) := by simp
  rw [h, BitVec.getLsbD, Nat.testBit_eq_decide_div_mod_eq]
  by_cases h2 : v.toNat / 2 ^ j % 2 = 1
  · simp [h2]
  · have : v.toNat / 2 ^ j % 2 = 0 := by omega
    simp [this]
theorem turn_grp (v : BitVec 32) (k : Nat) (hk : 0 < k ∧ k ≤ 32) : grp ((rev32 v >>> (32 - k)).toNat : Int) k = bms (v.toNat : Int) k ∧ (rev32 v >>> (32 - k)).toNat < 2 ^ k := by
  constructor
  · unfold grp bms
    apply List.map_congr_left
    intro j hj
    simp only [List.mem_range] at hj
    rw [bit_bv, bit_bv, BitVec.getLsbD_ushiftRight, rev32_bit v _ (by omega), show 31 - (32 - k + j) = k - 1 - j by omega]
  · rw [BitVec.toNat_ushiftRight, Nat.shiftRight_eq_div_pow]
    have := (rev32 v).isLt
    rw [Nat.div_lt_iff_lt_mul (Nat.two_pow_pos _), ← Nat.pow_add, show k + (32 - k) = 32 by omega]
    exact this
theorem Turn_c {w0 : World} {H : List Asn} (n : Int) (k : Nat) (hk : k ≤ 32) (hn : 0 ≤ n ∧ n < 2 ^ k) (hn2 : n < 4294967296) (w : World) (hw : St w0 H w) :
    Calls Tryz.prog 244 #[.int .u32 n, .int .i64 k] w fun e w' => ∃ t, e = .returned (.int .u32 t) ∧ St w0 H w' ∧ 0 ≤ t ∧ t < 2 ^ k ∧ t < 4294967296 ∧ grp t k = bms n k := by
  refine enter (vs := [.int .u32 n, .int .i64 k]) Tryz.func244 rfl rfl rfl hw ?_
  by_cases hk0 : k = 0
  · subst hk0
    repeat (first | (refine sx ?_; try intro _))
    refine JS_ret Tryz.func244 rfl rfl ?_
    intro w hw
    exact ⟨0, rfl, hw, by omega, by decide, by omega, rfl⟩
  · obtain ⟨v, rfl⟩ : ∃ v : BitVec 32, n = (v.toNat : Int) := ⟨BitVec.ofNat 32 n.toNat, by rw [BitVec.toNat_ofNat]; omega⟩
    have hsub : IntKind.i64.wrap ((32 : Int) - (k : Int)) = ((32 - k : Nat) : Int) := (wi64 (by omega)).trans (by omega)
    obtain ⟨ht1, ht2⟩ := turn_grp v k ⟨by omega, hk⟩
    repeat (first | (refine sx ?_; try intro _))
    refine JO_call (vs := [bv v]) Tryz.call252 rfl rfl fun w hw => (Rev_c v w hw).mono ?_
    rintro e w' ⟨rfl, hw'⟩
    refine ⟨_, rfl, _, hw', ?_⟩
    clear hw' hw w w'
    repeat (first | (apply gJO; first | refine JO_v (V_sub rfl rfl hsub rfl) ?_ | refine JO_v (VB_shr (s := 32 - k) rfl rfl (by omega) rfl) ?_) | (first | (refine sx ?_; try intro _)))
    refine JS_ret Tryz.func244 rfl rfl ?_
    intro w hw
    have hlt := (rev32 v >>> (32 - k)).isLt
    refine ⟨_, rfl, hw, by omega, ?_, by omega, ht1⟩
    have : ((2 ^ k : Nat) : Int) = 2 ^ k := by simp
    rw [← this]; omega
theorem WBytes_c {w0 : World} {H : List Asn} (b m : Nat) (L : List Int) (q : Option Addr) (d : Nat) (hL : ∀ j, L.getD j 0 = 0 ∨ L.getD j 0 = 1) (hl : L.length ≤ 70368744177664) (hm : (L.length + 7) / 8 = m) (w : World) (hw : St w0 (wrA b L q d :: wrV L q d :: H) w) :
    Calls Tryz.prog 166 #[.pointer (some ⟨b, 0, none⟩)] w fun e w' => ∃ p c, e = .returned (.slice p m c) ∧ St w0 (vec 5 1 (.slice p m c) m (ints .u8 (pack L)) :: wrA b L q d :: wrV L q d :: H) w' := by
  subst hm
  refine enter (vs := [.pointer (some ⟨b, 0, none⟩)]) Tryz.func166 rfl rfl rfl hw ?_
  repeat (first | (refine sx ?_; try intro _))
  have hB : OKB (pack L) := by
    intro j
    unfold pack tab
    rcases Nat.lt_or_ge j ((L.length + 7) / 8) with h | h
    · simp only [List.getD_eq_getElem?_getD, List.getElem?_map, List.getElem?_range h, Option.map_some, Option.getD_some]; exact byteAt_bd L hL j
    · rw [List.getD_eq_getElem?_getD, List.getElem?_eq_none (by simp; omega)]; decide
  refine JO_call Tryz.call128 rfl rfl fun w hw => (Clone_c q d _ (pack L) (vec_rd (List.Mem.tail _ (List.Mem.head _))) (pack_len L) hB (by omega) (Rd.nil (vec_rd (List.Mem.tail _ (List.Mem.head _))) hw) w hw).mono ?_
  rintro e w' ⟨p, c, rfl, hw'⟩
  refine ⟨_, rfl, _, hw', ?_⟩
  clear hw' hw w w'
  repeat (first | (refine sx ?_; try intro _))
  refine JS_ret Tryz.func166 rfl rfl ?_
  intro w hw
  exact ⟨_, _, rfl, hw⟩
end Go.Proofs.YteelffkghidpfaaGreat

namespace Go.Proofs.YteelffkghidpfaaGreat
open Sx Go
set_option linter.unusedVariables false
set_option linter.unusedSimpArgs false
set_option maxRecDepth 100000
attribute [local irreducible] syA fc tk cds
/-- has a symbol a code, and how long? -/
def HAS (B : List Int) (k : Int) (n : Nat) : Prop := 0 ≤ k ∧ k < B.length ∧ 0 < n ∧ B.getD k.toNat 0 = (n : Int)
theorem num_bit (f : Nat → Int) (hf : ∀ t, f t = 0 ∨ f t = 1) (t : Nat) : ∀ k, t < k → bnum f k / 2 ^ t % 2 = f t
  | 0, h => absurd h (by omega)
  | k + 1, h => by
    have hp : (0 : Int) < 2 ^ t := Int.pow_pos (by decide)
    simp only [bnum]
    rcases Nat.lt_or_ge t k with h1 | h1
    · rw [show (2 : Int) ^ k = 2 ^ t * (2 * 2 ^ (k - t - 1)) by rw [show k = t + (1 + (k - t - 1)) by omega, Int.pow_add, Int.pow_add]; simp [show t + (1 + (k - t - 1)) - t - 1 = k - t - 1 by omega],
        show f k * (2 ^ t * (2 * 2 ^ (k - t - 1))) = 2 ^ t * (2 * (f k * 2 ^ (k - t - 1))) by rw [← Int.mul_assoc, ← Int.mul_assoc, Int.mul_comm (f k) (2 ^ t), Int.mul_assoc, Int.mul_assoc, Int.mul_left_comm (f k) 2],
        Int.add_mul_ediv_left _ _ (by omega)]
      have := num_bit f hf t k h1
      omega
    · obtain rfl : t = k := by omega
      have hb := num_bd f hf t
      rw [Int.add_mul_ediv_right _ _ (by omega), Int.ediv_eq_zero_of_lt hb.1 hb.2]
      have := hf t
      omega
theorem pack_bit (L : List Int) (hL : ∀ j, L.getD j 0 = 0 ∨ L.getD j 0 = 1) (n j : Nat) : bitB (pack L) n j = L.getD (n + j) 0 := by
  unfold bitB pack
  rcases Nat.lt_or_ge ((n + j) / 8) ((L.length + 7) / 8) with h | h
  · have : (tab ((L.length + 7) / 8) (byteAt L)).getD ((n + j) / 8) 0 = byteAt L ((n + j) / 8) := by simp [tab, List.getD_eq_getElem?_getD, h]
    rw [this]
    unfold byteAt
    rw [num_bit _ (fun t => hL _) _ 8 (by omega), show 8 * ((n + j) / 8) + (n + j) % 8 = n + j by omega]
  · rw [List.getD_eq_getElem?_getD, List.getElem?_eq_none (by rw [tab_len]; exact h), List.getD_eq_getElem?_getD, List.getElem?_eq_none (by omega)]
    simp
/-- the bits of symbols -/
def enc (B : List Int) : List Int → List Int
  | [] => []
  | s :: r => bms (cd B s.toNat) (B.getD s.toNat 0).toNat ++ enc B r
theorem bms_01 (c : Int) (n j : Nat) : (bms c n).getD j 0 = 0 ∨ (bms c n).getD j 0 = 1 := by
  unfold bms
  rcases Nat.lt_or_ge j n with h | h
  · simp only [List.getD_eq_getElem?_getD, List.getElem?_map, List.getElem?_range h, Option.map_some, Option.getD_some]; omega
  · rw [List.getD_eq_getElem?_getD, List.getElem?_eq_none (by simp; omega)]; exact .inl rfl
end Go.Proofs.YteelffkghidpfaaGreat

namespace Go.Proofs.YteelffkghidpfaaGreat
open Sx Go
set_option linter.unusedVariables false
set_option linter.unusedSimpArgs false
set_option maxRecDepth 100000
/-! the writer as the first field of a greater block -/
abbrev wtA (b : Nat) (L : List Int) (q : Option Addr) (d : Nat) (tl : List Value) : Asn := blk b (.slice q ((L.length + 7) / 8) d :: .int .i64 L.length :: tl)
set_option maxHeartbeats 4000000 in
/-- one bit is put -/
theorem PutT_c {w0 : World} {H : List Asn} {z : Value} {tl : List Value} (b : Nat) (L : List Int) (q : Option Addr) (d : Nat) (x : Int) (hx : 0 ≤ x ∧ x < 4294967296) (hL : ∀ j, L.getD j 0 = 0 ∨ L.getD j 0 = 1) (hl : L.length ≤ 70368744177664) (w : World) (hw : St w0 (wtA b L q d (z :: tl) :: wrV L q d :: H) w) :
    Calls Tryz.prog 217 #[.pointer (some ⟨b, 0, none⟩), .int .u32 x] w fun e w' => e = .returned (.tuple #[]) ∧ ∃ q d, St w0 (wtA b (L ++ [x % 2]) q d (z :: tl) :: wrV (L ++ [x % 2]) q d :: H) w' := by
  unfold wtA wrV at hw ⊢
  refine enter (vs := [.pointer (some ⟨b, 0, none⟩), .int .u32 x]) Tryz.func217 rfl rfl rfl hw ?_
  have hlast := byteAt_last L hL
  have hbd := byteAt_bd L hL (L.length / 8)
  have hput := pack_put L (x % 2)
  have hx2 : x % 2 = 0 ∨ x % 2 = 1 := by omega
  have hor := or_add_u8 (a := byteAt L (L.length / 8)) (y := x % 2) (s := L.length % 8) (by omega) ⟨hbd.1, hlast⟩ hx2
  have hms : min ((L.length : Int) % 8).toNat IntKind.u8.bits = L.length % 8 := by show min _ 8 = _; omega
  have hpw : 0 ≤ x % 2 * 2 ^ (L.length % 8) ∧ x % 2 * 2 ^ (L.length % 8) < 256 := by
    have : ∀ k : Fin 8, (1 : Int) ≤ 2 ^ k.val ∧ (2 : Int) ^ k.val ≤ 128 := by decide
    have := this ⟨L.length % 8, by omega⟩
    simp only [] at this
    rcases hx2 with h | h <;> rw [h] <;> omega
  have hl1 : (L ++ [x % 2]).length = L.length + 1 := by simp
  have hk : ((L ++ [x % 2]).length + 7) / 8 = (L.length + 8) / 8 := by rw [hl1]
  rw [hl1] at hk ⊢
  rw [hk]
  have htl := tab_len ((L.length + 8) / 8) (byteAt L)
  have g0 : (ints .u8 (tab ((L.length + 8) / 8) (byteAt L)))[L.length / 8]? = some (.int .u8 (byteAt L (L.length / 8))) := by
    rw [ints_get (by omega)]
    congr 2
    unfold tab
    rw [List.getD_eq_getElem?_getD, List.getElem?_map, List.getElem?_range (by omega)]; rfl
  clear hw
  by_cases h8 : L.length % 8 = 0
  case' pos =>
    have hg := pack_grow L h8
    have hpl := pack_len L
    have hk2 : (L.length + 7) / 8 + 1 = (L.length + 8) / 8 := by omega
    repeat (first | (refine sx ?_; try intro _))
    (refine JO_app (tb := tb) rfl rfl rfl rfl rfl rfl (by repeat (first | exact Sel.here _ _ | apply Sel.there)) (by first | exact vec_rd (by repeat (first | apply List.Mem.head | apply List.Mem.tail)) | assumption | exact ArgRd.rd (by assumption) _ | (apply Rd_weak; assumption; intro _ hx; exact dS hx)) (by simp only [ints_len, List.length_cons, List.length_nil]; first | omega | rfl) (by first | exact ints_one | (repeat (first | exact trivial | refine ⟨rfl, ?_⟩))) (by omega) rfl ?_; intro _ _)
    rename_i q2 d2
    rw [show ([] : List Value).append (rep 0 [Value.int IntKind.u8 0]) = [] from rfl, hk2, ints_app1, hg]
    repeat (first | (apply gJR; first | (refine sx ?_; try intro _)) | (apply gJO; first | (refine sx ?_; try intro _)) | (apply gJS; apply JS_seq))
  case' neg =>
    rw [pack_same L h8, show (L.length + 7) / 8 = (L.length + 8) / 8 by omega]
    repeat (first | (apply gJR; first | (refine sx ?_; try intro _)) | (apply gJO; first | (refine sx ?_; try intro _)) | apply JS_seq | apply JS_region | refine JS_cond_F rfl (by omega) ?_ | apply JS_skip)
  all_goals repeat (first | (apply gQO; first | refine QO_v rfl (V_loadC (tb := tb) rfl (vec_rd (by repeat (first | apply List.Mem.head | apply List.Mem.tail))) rfl rfl g0 rfl) ?_ | refine QO_v rfl (V_and rfl rfl (mask1_u32 hx) rfl) ?_ | refine QO_v rfl (V_shl (m := L.length % 8) rfl rfl (by omega) hms (wu8 hpw) rfl) ?_ | refine QO_v rfl (V_or rfl rfl hor rfl) ?_) | (first | (refine sx ?_; try intro _)))
  all_goals refine JS_fin Tryz.func217 rfl rfl (vs := []) ?_
  all_goals intro w hw
  all_goals rw [hput] at hw
  all_goals exact ⟨rfl, _, _, dS hw⟩
set_option maxHeartbeats 2000000 in
/-- a group of bits -/
theorem WGroupT_c {w0 : World} {H : List Asn} {z : Value} {tl : List Value} (b : Nat) (L : List Int) (q : Option Addr) (d : Nat) (n : Int) (k : Nat) (hk : k ≤ 32) (hn : 0 ≤ n ∧ n < 2 ^ k) (hn2 : n < 4294967296) (hL : ∀ j, L.getD j 0 = 0 ∨ L.getD j 0 = 1) (hl : L.length ≤ 70368744177600) (w : World) (hw : St w0 (wtA b L q d (z :: tl) :: wrV L q d :: H) w) :
    Calls Tryz.prog 162 #[.pointer (some ⟨b, 0, none⟩), .int .u32 n, .int .i64 k] w fun e w' => e = .returned (.int .i64 0) ∧ ∃ q d, St w0 (wtA b (L ++ grp n k) q d (z :: tl) :: wrV (L ++ grp n k) q d :: H) w' := by
  refine enter (vs := [.pointer (some ⟨b, 0, none⟩), .int .u32 n, .int .i64 k]) Tryz.func162 rfl rfl rfl hw ?_
  repeat (first | (refine sx ?_; try intro _))
  refine JO_call Tryz.call216 rfl rfl fun w hw => (Fits_c n k hk hn hn2 w hw).mono ?_
  rintro e w' ⟨rfl, hw'⟩
  refine ⟨_, rfl, _, hw', ?_⟩
  clear hw' hw w w'
  repeat (first | (apply gJR; first | (refine sx ?_; try intro _)) | (apply gJO; first | (refine sx ?_; try intro _)) | apply JS_seq | apply JS_region | refine JS_condF rfl ?_ | apply JS_skip)
  refine JS_block ?_
  refine JS_loop3 (fun (i : Nat) (q : Option Addr) (d : Nat) => [(1, .int .u32 n), (7, .func (.func 217) #[.pointer (some ⟨b, 0, none⟩)] #[]), (15, .int .i64 k), (16, .int .i64 i)]) (fun i q d => wtA b (L ++ grp n i) q d (z :: tl) :: wrV (L ++ grp n i) q d :: H) (fun i _ _ => i ≤ k) (fun i _ _ => k - i) 0 q d (by omega) (by repeat (first | exact trivial | refine ⟨rfl, ?_⟩ | refine ⟨lookI rfl (by omega), ?_⟩)) (fun w hw => by rw [show grp n 0 = [] from rfl, List.append_nil]; exact hw) ?_
  intro i q d hi again
  by_cases hik : i < k
  · have hm : min ((i : Int)).toNat IntKind.u32.bits = i := by show min _ 32 = _; omega
    have hgs := grp_succ n i
    have hgl := grp_len n i
    have hq0 : 0 ≤ n / 2 ^ i ∧ n / 2 ^ i < 4294967296 := by
      have hp : (0 : Int) < 2 ^ i := Int.pow_pos (by decide)
      exact ⟨Int.ediv_nonneg hn.1 (Int.le_of_lt hp), Int.lt_of_le_of_lt (Int.ediv_le_self _ hn.1) hn2⟩
    repeat (first | (apply gJO; refine JO_v (V_shr (m := i) rfl rfl (by omega) hm rfl rfl) ?_) | (first | (refine sx ?_; try intro _)))
    refine JO_callv (us := [.pointer (some ⟨b, 0, none⟩)]) (cs := []) rfl Tryz.call217 rfl rfl fun w hw => (PutT_c b (L ++ grp n i) q d (n / 2 ^ i) hq0 (app_01 hL (grp_01 n i)) (by rw [List.length_append, hgl]; omega) w hw).mono ?_
    rintro e w' ⟨rfl, q2, d2, hw'⟩
    rw [List.append_assoc, ← hgs] at hw'
    refine ⟨_, rfl, _, hw', ?_⟩
    clear hw' hw w w'
    repeat (first | (refine sx ?_; try intro _))
    exact JS_again3 again (i + 1) q2 d2 (by omega) (by omega) (by repeat (first | exact trivial | refine ⟨rfl, ?_⟩ | refine ⟨lookI rfl (by omega), ?_⟩)) (fun w hw => hw)
  · obtain rfl : i = k := by omega
    clear again
    repeat (first | (refine sx ?_; try intro _))
    refine JS_ret Tryz.func162 rfl rfl ?_
    intro w hw
    exact ⟨rfl, q, d, hw⟩
/-- a code: the highest bit first -/
theorem WCodeT_c {w0 : World} {H : List Asn} {z : Value} {tl : List Value} (b : Nat) (L : List Int) (q : Option Addr) (d : Nat) (n : Int) (k : Nat) (hk : k ≤ 32) (hn : 0 ≤ n ∧ n < 2 ^ k) (hn2 : n < 4294967296) (hL : ∀ j, L.getD j 0 = 0 ∨ L.getD j 0 = 1) (hl : L.length ≤ 70368744177600) (w : World) (hw : St w0 (wtA b L q d (z :: tl) :: wrV L q d :: H) w) :
    Calls Tryz.prog 223 #[.pointer (some ⟨b, 0, none⟩), .int .u32 n, .int .i64 k] w fun e w' => e = .returned (.int .i64 0) ∧ ∃ q d, St w0 (wtA b (L ++ bms n k) q d (z :: tl) :: wrV (L ++ bms n k) q d :: H) w' := by
  refine enter (vs := [.pointer (some ⟨b, 0, none⟩), .int .u32 n, .int .i64 k]) Tryz.func223 rfl rfl rfl hw ?_
  repeat (first | (refine sx ?_; try intro _))
  refine JO_call Tryz.call216 rfl rfl fun w hw => (Fits_c n k hk hn hn2 w hw).mono ?_
  rintro e w' ⟨rfl, hw'⟩
  refine ⟨_, rfl, _, hw', ?_⟩
  clear hw' hw w w'
  repeat (first | (refine sx ?_; try intro _))
  refine JO_call Tryz.call244 rfl rfl fun w hw => (Turn_c n k hk hn hn2 w hw).mono ?_
  rintro e w' ⟨t, rfl, hw', h0, h1, h2, h3⟩
  refine ⟨_, rfl, _, hw', ?_⟩
  clear hw' hw w w'
  repeat (first | (refine sx ?_; try intro _))
  refine JO_call Tryz.call162 rfl rfl fun w hw => (WGroupT_c b L q d t k hk ⟨h0, h1⟩ h2 hL hl w hw).mono ?_
  rintro e w' ⟨rfl, q2, d2, hw'⟩
  rw [h3] at hw'
  refine ⟨_, rfl, _, hw', ?_⟩
  clear hw' hw w w'
  repeat (first | (refine sx ?_; try intro _))
  refine JS_ret Tryz.func223 rfl rfl ?_
  intro w hw
  exact ⟨rfl, q2, d2, hw⟩
theorem WBytesT_c {w0 : World} {H : List Asn} {z : Value} {tl : List Value} (b m : Nat) (L : List Int) (q : Option Addr) (d : Nat) (hL : ∀ j, L.getD j 0 = 0 ∨ L.getD j 0 = 1) (hl : L.length ≤ 70368744177664) (hm : (L.length + 7) / 8 = m) (w : World) (hw : St w0 (wtA b L q d (z :: tl) :: wrV L q d :: H) w) :
    Calls Tryz.prog 166 #[.pointer (some ⟨b, 0, none⟩)] w fun e w' => ∃ p c, e = .returned (.slice p m c) ∧ St w0 (vec 5 1 (.slice p m c) m (ints .u8 (pack L)) :: wtA b L q d (z :: tl) :: wrV L q d :: H) w' := by
  subst hm
  refine enter (vs := [.pointer (some ⟨b, 0, none⟩)]) Tryz.func166 rfl rfl rfl hw ?_
  repeat (first | (refine sx ?_; try intro _))
  have hB : OKB (pack L) := by
    intro j
    unfold pack tab
    rcases Nat.lt_or_ge j ((L.length + 7) / 8) with h | h
    · simp only [List.getD_eq_getElem?_getD, List.getElem?_map, List.getElem?_range h, Option.map_some, Option.getD_some]; exact byteAt_bd L hL j
    · rw [List.getD_eq_getElem?_getD, List.getElem?_eq_none (by simp; omega)]; decide
  refine JO_call Tryz.call128 rfl rfl fun w hw => (Clone_c q d _ (pack L) (vec_rd (List.Mem.tail _ (List.Mem.head _))) (pack_len L) hB (by omega) (Rd.nil (vec_rd (List.Mem.tail _ (List.Mem.head _))) hw) w hw).mono ?_
  rintro e w' ⟨p, c, rfl, hw'⟩
  refine ⟨_, rfl, _, hw', ?_⟩
  clear hw' hw w w'
  repeat (first | (refine sx ?_; try intro _))
  refine JS_ret Tryz.func166 rfl rfl ?_
  intro w hw
  exact ⟨_, _, rfl, hw⟩
end Go.Proofs.YteelffkghidpfaaGreat

namespace Go.Proofs.YteelffkghidpfaaGreat
open Sx Go
set_option linter.unusedVariables false
set_option linter.unusedSimpArgs false
set_option maxRecDepth 100000
theorem fix_okb : OKB (tab 288 fixF) := OKB_of (by decide +kernel)
theorem fix_okl : OKL (tab 288 fixF) := ⟨by decide +kernel, le15_of (by decide +kernel), .inl (by decide +kernel)⟩
theorem spans_okb : OKB (List.replicate 32 5) := OKB_of (by decide +kernel)
theorem spans_okl : OKL (List.replicate 32 5) := ⟨by decide +kernel, le15_of (by decide +kernel), .inl (by decide +kernel)⟩
attribute [local irreducible] syA fc tk cds tab
end Go.Proofs.YteelffkghidpfaaGreat

namespace Go.Proofs.YteelffkghidpfaaGreat
open Sx Go
set_option linter.unusedVariables false
set_option linter.unusedSimpArgs false
set_option maxRecDepth 100000
attribute [local irreducible] syA fc tk cds
/-! ## what a compressed stream tells, on bits -/
/-- so many bits as a number, the first one the lowest -/
def nbt (bt : Nat → Int) (a : Nat) : Nat → Int
  | 0 => 0
  | c + 1 => nbt bt a c + bt (a + c) * 2 ^ c
theorem nbt_bd (bt : Nat → Int) (hb : ∀ j, bt j = 0 ∨ bt j = 1) (a : Nat) : ∀ c, 0 ≤ nbt bt a c ∧ nbt bt a c < 2 ^ c
  | 0 => ⟨Int.le_refl _, by show (0 : Int) < 1; decide⟩
  | c + 1 => by
    have h := nbt_bd bt hb a c
    simp only [nbt, Int.pow_succ]
    rcases hb (a + c) with h1 | h1 <;> rw [h1] <;> omega
theorem nbt_congr {bt bt' : Nat → Int} {a a' : Nat} : ∀ {c : Nat}, (∀ j, j < c → bt (a + j) = bt' (a' + j)) → nbt bt a c = nbt bt' a' c
  | 0, _ => rfl
  | c + 1, h => by
    simp only [nbt]
    rw [nbt_congr (c := c) (fun j hj => h j (by omega)), h c (by omega)]
inductive Stp where
  | err (e : Int)
  | stop (a : Nat) (o : List Int)
  | go (a : Nat) (o : List Int)
inductive Res where
  | err (e : Int)
  | ok (a : Nat) (o : List Int)
/-- a step done over and over -/
inductive It (f : Nat → List Int → Stp) : Nat → List Int → Res → Prop where
  | err {a : Nat} {o : List Int} {e : Int} (h : f a o = .err e) : It f a o (.err e)
  | stop {a : Nat} {o : List Int} {a' : Nat} {o' : List Int} (h : f a o = .stop a' o') : It f a o (.ok a' o')
  | go {a : Nat} {o : List Int} {a' : Nat} {o' : List Int} {r : Res} (h : f a o = .go a' o') (t : It f a' o' r) : It f a o r
theorem It.one {f : Nat → List Int → Stp} {a : Nat} {o : List Int} {r r' : Res} (h : It f a o r) : It f a o r' → r = r' := by
  induction h with
  | err h => intro h'; cases h' with
    | err h2 => rw [h] at h2; cases h2; rfl
    | stop h2 => rw [h] at h2; cases h2
    | go h2 _ => rw [h] at h2; cases h2
  | stop h => intro h'; cases h' with
    | err h2 => rw [h] at h2; cases h2
    | stop h2 => rw [h] at h2; cases h2; rfl
    | go h2 _ => rw [h] at h2; cases h2
  | go h _ ih => intro h'; cases h' with
    | err h2 => rw [h] at h2; cases h2
    | stop h2 => rw [h] at h2; cases h2
    | go h2 t => rw [h] at h2; cases h2; exact ih t
open Classical in
noncomputable def itF (f : Nat → List Int → Stp) (a : Nat) (o : List Int) : Res := if h : ∃ r, It f a o r then h.choose else .err 0
theorem itF_of {f : Nat → List Int → Stp} {a : Nat} {o : List Int} {r : Res} (h : It f a o r) : itF f a o = r := by
  have hex : ∃ r, It f a o r := ⟨r, h⟩
  unfold itF
  rw [dif_pos hex]
  exact hex.choose_spec.one h
inductive Sy where
  | err (e : Int)
  | ok (i : Int) (a : Nat)
open Classical in
/-- a symbol by lengths -/
noncomputable def symS (bt : Nat → Int) (N : Nat) (L : List Int) (a : Nat) : Sy :=
  if h : ∃ x : Int × Nat × Int, RD L (fun j => bt (a + j)) (N - a) x.1 x.2.1 x.2.2 then (if h.choose.2.2 = 0 then .ok h.choose.1 (a + h.choose.2.1) else .err h.choose.2.2) else .err 0
theorem symS_of {bt : Nat → Int} {N a : Nat} {L : List Int} (hB : OKB L) (hk : OKL L) (hb : ∀ j, bt j = 0 ∨ bt j = 1) {i : Int} {u : Nat} {r : Int} (h : RD L (fun j => bt (a + j)) (N - a) i u r) :
    symS bt N L a = if r = 0 then .ok i (a + u) else .err r := by
  have hex : ∃ x : Int × Nat × Int, RD L (fun j => bt (a + j)) (N - a) x.1 x.2.1 x.2.2 := ⟨(i, u, r), h⟩
  unfold symS
  rw [dif_pos hex]
  obtain ⟨h1, h2, h3⟩ := RD_fun hB hk (fun j => hb _) hex.choose_spec h
  rw [h1, h2, h3]
/-- bytes from so far back -/
def cpy (o : List Int) (back : Nat) : Nat → List Int
  | 0 => o
  | n + 1 => cpy o back n ++ [(cpy o back n).getD ((cpy o back n).length - back) 0]
theorem cpy_len (o : List Int) (back : Nat) : ∀ n, (cpy o back n).length = o.length + n
  | 0 => rfl
  | n + 1 => by simp only [cpy, List.length_append, List.length_cons, List.length_nil, cpy_len o back n]; omega
/-- behind a length's symbol -/
noncomputable def blk2 (bt : Nat → Int) (N lim : Nat) (D : List Int) (o : List Int) (len : Int) (a : Nat) : Stp :=
  match symS bt N D a with
  | .err e => .err e
  | .ok d a2 =>
    if (lfar d).1 = 0 then .err 62
    else if N < a2 + (lfar d).2.toNat then .err 20
    else if (o.length : Int) < (lfar d).1 + nbt bt a2 (lfar d).2.toNat then .err 63
    else if (lim : Int) - o.length < len then .err 64
    else .go (a2 + (lfar d).2.toNat) (cpy o ((lfar d).1 + nbt bt a2 (lfar d).2.toNat).toNat len.toNat)
/-- a symbol of a block -/
noncomputable def blkF (bt : Nat → Int) (N lim : Nat) (L D : List Int) (a : Nat) (o : List Int) : Stp :=
  match symS bt N L a with
  | .err e => .err e
  | .ok i a1 =>
    if i = 256 then .stop a1 o
    else if i < 256 then (if (lim : Int) - o.length < 1 then .err 64 else .go a1 (o ++ [i]))
    else if (lbase i).1 = 0 then .err 62
    else if N < a1 + (lbase i).2.toNat then .err 20
    else blk2 bt N lim D o ((lbase i).1 + nbt bt a1 (lbase i).2.toNat) (a1 + (lbase i).2.toNat)
/-- some lengths more -/
def lenP (many : Nat) (l : List Int) (x : Int) (t : Int) (a : Nat) : Stp :=
  if (many : Int) < l.length + t then .err 62 else .go a (l ++ List.replicate t.toNat x)
/-- a symbol of the lengths -/
noncomputable def lenF (bt : Nat → Int) (N : Nat) (C : List Int) (many : Nat) (a : Nat) (l : List Int) : Stp :=
  if many ≤ l.length then .stop a l else
  match symS bt N C a with
  | .err e => .err e
  | .ok i a1 =>
    if i = 16 then (if l.length = 0 then .err 62 else if N < a1 + 2 then .err 20 else lenP many l (l.getD (l.length - 1) 0) (3 + nbt bt a1 2) (a1 + 2))
    else if i = 17 then (if N < a1 + 3 then .err 20 else lenP many l 0 (3 + nbt bt a1 3) (a1 + 3))
    else if i = 18 then (if N < a1 + 7 then .err 20 else lenP many l 0 (11 + nbt bt a1 7) (a1 + 7))
    else lenP many l i 1 a1
/-- bytes of bits -/
def byts (bt : Nat → Int) (a n : Nat) : List Int := (List.range n).map fun j => nbt bt (a + 8 * j) 8
theorem byts_len (bt : Nat → Int) (a n : Nat) : (byts bt a n).length = n := by simp [byts]
/-- the next place where a byte begins -/
def upto8 (a : Nat) : Nat := (a + 7) / 8 * 8
/-- a stored block -/
def stoF (bt : Nat → Int) (N lim : Nat) (a : Nat) (o : List Int) : Res :=
  if N < upto8 a + 16 then .err 20
  else if N < upto8 a + 32 then .err 20
  else if nbt bt (upto8 a) 16 + nbt bt (upto8 a + 16) 16 ≠ 65535 then .err 61
  else if (lim : Int) - o.length < nbt bt (upto8 a) 16 then .err 64
  else if (N : Int) < upto8 a + 32 + 8 * nbt bt (upto8 a) 16 then .err 20
  else .ok (upto8 a + 32 + 8 * (nbt bt (upto8 a) 16).toNat) (o ++ byts bt (upto8 a + 32) (nbt bt (upto8 a) 16).toNat)
/-- the order of the lengths' lengths -/
def ordL : List Nat := [16, 17, 18, 0, 8, 7, 9, 6, 10, 5, 11, 4, 12, 3, 13, 2, 14, 1, 15]
def ccl (bt : Nat → Int) (a : Nat) : Nat → List Int
  | 0 => List.replicate 19 0
  | i + 1 => (ccl bt a i).set (ordL.getD i 0) (nbt bt (a + 3 * i) 3)
theorem ccl_len (bt : Nat → Int) (a : Nat) : ∀ n, (ccl bt a n).length = 19
  | 0 => by simp [ccl]
  | n + 1 => by simp [ccl, ccl_len bt a n]
open Classical in
/-- behind the lengths of both sets -/
noncomputable def des2 (bt : Nat → Int) (N lim lit : Nat) (l : List Int) (a : Nat) (o : List Int) : Res :=
  if l.getD 256 0 = 0 then .err 62
  else if ¬ OKL (l.take lit) then .err 62
  else if ¬ OKL (l.drop lit) then .err 62
  else itF (blkF bt N lim (l.take lit) (l.drop lit)) a o
open Classical in
/-- behind the numbers of lengths -/
noncomputable def des1 (bt : Nat → Int) (N lim lit sp ln : Nat) (a : Nat) (o : List Int) : Res :=
  if 286 < lit ∨ 30 < sp then .err 62
  else if N < a + 3 * ln then .err 20
  else if ¬ OKL (ccl bt a ln) ∨ ¬ tk (ccl bt a ln) = 32768 then .err 62
  else match itF (lenF bt N (ccl bt a ln) (lit + sp)) (a + 3 * ln) [] with
    | .err e => .err e
    | .ok a' l => des2 bt N lim lit l a' o
/-- a described block -/
noncomputable def desF (bt : Nat → Int) (N lim : Nat) (a : Nat) (o : List Int) : Res :=
  if N < a + 5 then .err 20
  else if N < a + 10 then .err 20
  else if N < a + 14 then .err 20
  else des1 bt N lim (nbt bt a 5 + 257).toNat (nbt bt (a + 5) 5 + 1).toNat (nbt bt (a + 10) 4 + 4).toNat (a + 14) o
/-- a block of a kind -/
noncomputable def kndF (bt : Nat → Int) (N lim : Nat) (k : Int) (a : Nat) (o : List Int) : Res :=
  if k = 0 then stoF bt N lim a o
  else if k = 1 then itF (blkF bt N lim (tab 288 fixF) (List.replicate 32 5)) a o
  else if k = 2 then desF bt N lim a o
  else .err 60
/-- a block -/
noncomputable def rdF (bt : Nat → Int) (N lim : Nat) (a : Nat) (o : List Int) : Stp :=
  if N < a + 1 then .err 20
  else if N < a + 3 then .err 20
  else match kndF bt N lim (nbt bt (a + 1) 2) (a + 3) o with
    | .err e => .err e
    | .ok a' o' => if nbt bt a 1 = 0 then .go a' o' else .stop a' o'
/-- all of it: how many bits, which bytes -/
def ALLR (B : List Int) (lim : Nat) (r : Res) : Prop := It (rdF (bitB B 0) (8 * B.length) lim) 0 [] r
theorem bitB_add (B : List Int) (a j : Nat) : bitB B 0 (a + j) = bitB B a j := by
  unfold bitB; simp only [Nat.zero_add]
theorem bitB_fun (B : List Int) (a : Nat) : (fun j => bitB B 0 (a + j)) = bitB B a := funext fun j => bitB_add B a j
end Go.Proofs.YteelffkghidpfaaGreat

namespace Go.Proofs.YteelffkghidpfaaGreat
open Sx Go
set_option linter.unusedVariables false
set_option linter.unusedSimpArgs false
set_option maxRecDepth 100000
attribute [local irreducible] syA fc tk cds
theorem or_add_u32 {a y : Int} {s : Nat} (hs : s < 32) (ha : 0 ≤ a ∧ a < 2 ^ s) (hy : y = 0 ∨ y = 1) : IntKind.u32.wrap ((BitVec.ofInt IntKind.u32.bits a ||| BitVec.ofInt IntKind.u32.bits (y * 2 ^ s)).toNat) = a + y * 2 ^ s := by
  have hp : (2 : Int) ^ s ≤ 2147483648 := by
    have : ∀ k : Fin 32, (2 : Int) ^ k.val ≤ 2147483648 := by decide
    exact this ⟨s, hs⟩
  have hyb : 0 ≤ y * 2 ^ s ∧ y * 2 ^ s ≤ 2147483648 := by rcases hy with rfl | rfl <;> omega
  rw [or_nat .u32 ⟨ha.1, by show a < 4294967296; omega⟩ ⟨hyb.1, by show y * 2 ^ s < 4294967296; omega⟩]
  obtain ⟨m, rfl⟩ := Int.eq_ofNat_of_zero_le ha.1
  have hpn : ((2 ^ s : Nat) : Int) = 2 ^ s := by simp
  rcases hy with rfl | rfl
  · simp only [Int.zero_mul, Int.toNat_natCast, Int.toNat_zero, Nat.or_zero, Int.add_zero]
    exact wu32 (by omega)
  · have h := Nat.two_pow_add_eq_or_of_lt (i := s) (b := m) (by have := ha.2; rw [← hpn] at this; omega) 1
    rw [Nat.mul_one] at h
    rw [Int.one_mul, Int.toNat_natCast, show ((2 : Int) ^ s).toNat = 2 ^ s by rw [← hpn]; rfl, Nat.or_comm, ← h]
    refine (wu32 (by omega)).trans (by omega)
theorem pw32 (i : Nat) (h : i < 32) : (1 : Int) ≤ 2 ^ i ∧ (2 : Int) ^ i ≤ 2147483648 := by
  have : ∀ k : Fin 32, (1 : Int) ≤ 2 ^ k.val ∧ (2 : Int) ^ k.val ≤ 2147483648 := by decide
  exact this ⟨i, h⟩
set_option maxHeartbeats 4000000 in
/-- so many bits are read -/
theorem RGrp_c {w0 : World} {H : List Asn} (b : Nat) (q : Option Addr) (d m : Nat) (B : List Int) (hr : Rd w0 H (.slice q m d) m (ints .u8 B)) (hm : B.length = m) (hB : OKB B) (hm1 : m ≤ 140737488355328) (a c : Nat) (hc : c ≤ 32) (ha : a ≤ 8 * m) (w : World) (hw : St w0 (blk b [.slice q m d, .int .i64 a] :: H) w) :
    Calls Tryz.prog 236 #[.pointer (some ⟨b, 0, none⟩), .int .i64 c] w fun e w' =>
      (8 * m < a + c ∧ e = .returned (.tuple #[.int .u32 0, .int .i64 20]) ∧ St w0 (blk b [.slice q m d, .int .i64 a] :: H) w') ∨
      (a + c ≤ 8 * m ∧ e = .returned (.tuple #[.int .u32 (nbt (bitB B 0) a c), .int .i64 0]) ∧ St w0 (blk b [.slice q m d, .int .i64 (a + c : Nat)] :: H) w') := by
  refine enter (vs := [.pointer (some ⟨b, 0, none⟩), .int .i64 c]) Tryz.func236 rfl rfl rfl hw ?_
  repeat (first | (refine sx ?_; try intro _))
  refine JO_call Tryz.call246 rfl rfl fun w hw => (Left_c b q d m a (List.Mem.head _) hm1 (by omega) w hw).mono ?_
  rintro e w' ⟨rfl, hw'⟩
  refine ⟨_, rfl, _, hw', ?_⟩
  clear hw' hw w w'
  by_cases hend : 8 * m < a + c
  · repeat (first | (refine sx ?_; try intro _))
    refine JS_ret Tryz.func236 rfl rfl ?_
    intro w hw
    exact .inl ⟨hend, rfl, hw⟩
  repeat (first | (apply gJR; first | (refine sx ?_; try intro _)) | (apply gJO; first | (refine sx ?_; try intro _)) | apply JS_seq | apply JS_region | refine JS_condF rfl ?_ | refine JS_cond_F rfl (by omega) ?_ | apply JS_skip)
  refine JS_block ?_
  refine JS_loop1 (fun (i : Nat) => [(0, .pointer (some ⟨b, 0, none⟩)), (6, .int .u32 (nbt (bitB B 0) a i)), (18, .int .i64 c), (19, .int .i64 i)]) (fun i => blk b [.slice q m d, .int .i64 (a + i : Nat)] :: H)
    (fun i => i ≤ c) (fun i => c - i) 0 (Nat.zero_le _) (by repeat (first | exact trivial | refine ⟨rfl, ?_⟩ | refine ⟨lookI rfl (by omega), ?_⟩)) (fun _ h => h) ?_
  intro i hi again
  by_cases hic : i < c
  · have hr' : Rd w0 (blk b [.slice q m d, .int .i64 (a + i : Nat)] :: H) (.slice q m d) m (ints .u8 B) := Rd_weak hr fun w hw => dS hw
    have hb := hB ((a + i) / 8)
    have gi : (ints .u8 B)[(a + i) / 8]? = some (.int .u8 (B.getD ((a + i) / 8) 0)) := ints_get (by omega)
    have hs : min (((a + i : Nat) : Int) % 8).toNat IntKind.u8.bits = (a + i) % 8 := by show min _ 8 = _; omega
    obtain ⟨y, hy⟩ : ∃ y, B.getD ((a + i) / 8) 0 / 2 ^ ((a + i) % 8) = y := ⟨_, rfl⟩
    have hpos : (0 : Int) < 2 ^ ((a + i) % 8) := Int.pow_pos (by decide)
    have hy0 : 0 ≤ y := by rw [← hy]; exact Int.ediv_nonneg hb.1 (Int.le_of_lt hpos)
    have hy1 : y < 256 := by
      rw [← hy]
      exact Int.lt_of_le_of_lt (Int.ediv_le_self _ hb.1) hb.2
    have hz : y % 2 = 0 ∨ y % 2 = 1 := by omega
    have hbt : bitB B 0 (a + i) = y % 2 := by unfold bitB; rw [Nat.zero_add, hy]
    obtain ⟨hn0, hn1⟩ := nbt_bd (bitB B 0) (bitB_01 B 0) a i
    obtain ⟨hp0, hp1⟩ := pw32 i (by omega)
    have hs2 : min ((i : Int)).toNat IntKind.u32.bits = i := by show min _ 32 = _; omega
    have hwr : IntKind.u32.wrap (y % 2 * 2 ^ i) = y % 2 * 2 ^ i := wu32 (by rcases hz with h | h <;> rw [h] <;> omega)
    have hor := or_add_u32 (s := i) (by omega) ⟨hn0, hn1⟩ hz
    repeat (first | (apply gQO; refine QO_v rfl (V_loadC (tb := tb) rfl hr' rfl rfl gi rfl) ?_) | (apply gQO; refine QO_v rfl (V_shr (m := (a + i) % 8) rfl rfl (by omega) hs hy rfl) ?_) | (apply gQO; refine QO_v rfl (V_and rfl rfl (mask1_u8 ⟨hy0, hy1⟩) rfl) ?_) | (apply gQO; refine QO_v rfl (V_shl (m := i) (c := y % 2 * 2 ^ i) rfl rfl (by omega) hs2 hwr rfl) ?_) | (apply gQO; refine QO_v rfl (V_or rfl rfl hor rfl) ?_) | (first | (refine sx ?_; try intro _)))
    refine JS_again1 again (i + 1) (by omega) (by omega) ?_ (fun w hw => hw)
    refine ⟨rfl, ?_, rfl, rfl, trivial⟩
    simp only [nbt, hbt]; rfl
  · obtain rfl : i = c := by omega
    clear again
    repeat (first | (refine sx ?_; try intro _))
    refine JS_ret Tryz.func236 rfl rfl ?_
    intro w hw
    exact .inr ⟨by omega, rfl, hw⟩
/-- up to the next byte -/
theorem Align_c {w0 : World} {H : List Asn} (b : Nat) (u : Value) (a : Nat) (ha : a ≤ 4611686018427387904) (w : World) (hw : St w0 (blk b [u, .int .i64 a] :: H) w) :
    Calls Tryz.prog 229 #[.pointer (some ⟨b, 0, none⟩)] w fun e w' => e = .returned (.tuple #[]) ∧ St w0 (blk b [u, .int .i64 (upto8 a : Nat)] :: H) w' := by
  refine enter (vs := [.pointer (some ⟨b, 0, none⟩)]) Tryz.func229 rfl rfl rfl hw ?_
  repeat (first | (refine sx ?_; try intro _))
  refine JS_fin Tryz.func229 rfl rfl ?_
  intro w hw
  refine ⟨rfl, ?_⟩
  rwa [show ((a : Int) + 7) / 8 * 8 = (upto8 a : Nat) by unfold upto8; omega] at hw
theorem upto8_le {a m : Nat} (h : a ≤ 8 * m) : upto8 a ≤ 8 * m := by unfold upto8; omega
theorem upto8_8 (a : Nat) : upto8 a % 8 = 0 := by unfold upto8; omega
set_option maxHeartbeats 2000000 in
/-- bytes are read -/
theorem Text_c {w0 : World} {H : List Asn} (b : Nat) (q : Option Addr) (d m : Nat) (B : List Int) (hr : Rd w0 H (.slice q m d) m (ints .u8 B)) (hm : B.length = m) (hB : OKB B) (hm1 : m ≤ 140737488355328) (a n : Nat) (hn : n ≤ 140737488355328) (ha : a ≤ 8 * m) (w : World) (hw : St w0 (blk b [.slice q m d, .int .i64 a] :: H) w) :
    Calls Tryz.prog 230 #[.pointer (some ⟨b, 0, none⟩), .int .i64 n] w fun e w' =>
      (8 * m < upto8 a + 8 * n ∧ e = .returned (.tuple #[.slice none 0 0, .int .i64 20]) ∧ St w0 (blk b [.slice q m d, .int .i64 (upto8 a : Nat)] :: H) w') ∨
      (upto8 a + 8 * n ≤ 8 * m ∧ ∃ p c, e = .returned (.tuple #[.slice p n c, .int .i64 0]) ∧ St w0 (vec 5 1 (.slice p n c) n (ints .u8 ((B.drop (upto8 a / 8)).take n)) :: blk b [.slice q m d, .int .i64 (upto8 a + 8 * n : Nat)] :: H) w') := by
  have hu := upto8_le ha
  have hu8 := upto8_8 a
  refine enter (vs := [.pointer (some ⟨b, 0, none⟩), .int .i64 n]) Tryz.func230 rfl rfl rfl hw ?_
  repeat (first | (refine sx ?_; try intro _))
  refine JO_call Tryz.call229 rfl rfl fun w hw => (Align_c b _ a (by omega) w hw).mono ?_
  rintro e w' ⟨rfl, hw'⟩
  refine ⟨_, rfl, _, hw', ?_⟩
  clear hw' hw w w'
  generalize upto8 a = u at *
  repeat (first | (refine sx ?_; try intro _))
  refine JO_call Tryz.call246 rfl rfl fun w hw => (Left_c b q d m u (List.Mem.head _) hm1 (by omega) w hw).mono ?_
  rintro e w' ⟨rfl, hw'⟩
  refine ⟨_, rfl, _, hw', ?_⟩
  clear hw' hw w w'
  by_cases hend : 8 * m < u + 8 * n
  · repeat (first | (refine sx ?_; try intro _))
    refine JS_ret Tryz.func230 rfl rfl ?_
    intro w hw
    exact .inl ⟨hend, rfl, hw⟩
  have hr' : Rd w0 (blk b [.slice q m d, .int .i64 (u + 8 * n : Nat)] :: H) (.slice q m d) m (ints .u8 B) := Rd_weak hr fun w hw => dS hw
  have hrs := Rd_sub (lo := u / 8) (hi := u / 8 + n) (sz := 1) hr' (by omega) (by omega)
  have hsub : ((ints .u8 B).drop (u / 8 * 1)).take ((u / 8 + n - u / 8) * 1) = ints .u8 ((B.drop (u / 8)).take n) := by
    rw [show u / 8 + n - u / 8 = n by omega, Nat.mul_one, Nat.mul_one, ints_drop, ints_take]
  rw [hsub, show u / 8 + n - u / 8 = n by omega] at hrs
  have hcap : ∀ w, St w0 (blk b [.slice q m d, .int .i64 (u + 8 * n : Nat)] :: H) w → u / 8 + n ≤ d := fun w hw => by
    have := (hr'.lcap hw).1; omega
  have hst : ((u : Int) + 8 * n) = ((u + 8 * n : Nat) : Int) := by omega
  repeat (first | (apply gJO; refine JO_v (V_slice (tb := tb) (lo := u / 8) (hi := u / 8 + n) rfl rfl rfl rfl rfl (by omega) (by omega) (fun w hw => ⟨by omega, hcap w (by rw [← hst]; exact hw)⟩) rfl) ?_) | (first | (refine sx ?_; try intro _)))
  have e3 : u / 8 + n - u / 8 = n := by omega
  simp only [hst, e3]
  have hl : ((B.drop (u / 8)).take n).length = n := by rw [List.length_take, List.length_drop]; omega
  have hok : OKB ((B.drop (u / 8)).take n) := Byt_take (Byt_drop hB _) _
  refine JO_call Tryz.call128 rfl rfl fun w hw => (Clone_c _ _ n _ hrs hl hok (by omega) (hrs.nil hw) w hw).mono ?_
  rintro e w' ⟨p, c, rfl, hw'⟩
  refine ⟨_, rfl, _, hw', ?_⟩
  clear hw' hw w w'
  repeat (first | (refine sx ?_; try intro _))
  refine JS_ret Tryz.func230 rfl rfl ?_
  intro w hw
  exact .inr ⟨by omega, p, c, rfl, hw⟩
end Go.Proofs.YteelffkghidpfaaGreat

namespace Go.Proofs.YteelffkghidpfaaGreat
open Sx Go
set_option linter.unusedVariables false
set_option linter.unusedSimpArgs false
set_option maxRecDepth 100000
attribute [local irreducible] syA fc tk cds
/-- what is thrown when a reading is given up -/
def FLT (r : Int) : List PanicEntry := [{ v := .iface 264 (.int .i64 r), recovered := false }]
theorem Give_c {w0 : World} {H : List Asn} (r : Int) (w : World) (hw : St w0 H w) :
    Calls Tryz.prog 210 #[.int .i64 r] w fun e w' => (r = 0 ∧ e = .returned (.tuple #[]) ∧ St w0 H w') ∨ (r ≠ 0 ∧ e = .panicked (FLT r) ∧ St w0 H w') := by
  refine enter (vs := [.int .i64 r]) Tryz.func210 rfl rfl rfl hw ?_
  by_cases h : r = 0
  · repeat (first | (refine sx ?_; try intro _))
    refine JS_fin Tryz.func210 rfl rfl ?_
    intro w hw
    exact .inl ⟨h, rfl, hw⟩
  · repeat (first | (apply gJO; refine JO_v (V_mkI (tb := tb) rfl rfl (by simp) rfl) ?_) | first | (refine sx ?_; try intro _))
    refine JO_panic Tryz.func210 rfl ?_
    intro a w _ hw
    exact .inr ⟨h, rfl, hw⟩
/-- the reading's memory -/
abbrev infL (bf br : Nat) (q : Option Addr) (d m : Nat) (B : List Int) (lim : Int) (a : Nat) (po : Option Addr) (co : Nat) (o : List Int) (H : List Asn) : List Asn :=
  blk br [.slice q m d, .int .i64 a] :: blk bf [.pointer (some ⟨br, 0, none⟩), .slice po o.length co, .int .i64 lim] :: vec 5 1 (.slice po o.length co) o.length (ints .u8 o) :: vec 5 1 (.slice q m d) m (ints .u8 B) :: H
theorem infL_drop {w0 : World} {w : World} {bf br : Nat} {q : Option Addr} {d m : Nat} {B : List Int} {lim : Int} {a : Nat} {po : Option Addr} {co : Nat} {o : List Int} {H : List Asn} (h : St w0 (infL bf br q d m B lim a po co o H) w) : St w0 H w := h.drop.drop.drop.drop
theorem infL_in {w0 : World} {w : World} {bf br : Nat} {q : Option Addr} {d m : Nat} {B : List Int} {lim : Int} {a : Nat} {po : Option Addr} {co : Nat} {o : List Int} {H : List Asn} {x : Asn} (h : St w0 (x :: infL bf br q d m B lim a po co o H) w) : St w0 (infL bf br q d m B lim a po co o (x :: H)) w :=
  h.perm (List.Perm.trans (List.Perm.swap _ _ _) (List.Perm.cons _ (List.Perm.trans (List.Perm.swap _ _ _) (List.Perm.cons _ (List.Perm.trans (List.Perm.swap _ _ _) (List.Perm.cons _ (List.Perm.swap _ _ _)))))))
theorem infL_out {w0 : World} {w : World} {bf br : Nat} {q : Option Addr} {d m : Nat} {B : List Int} {lim : Int} {a : Nat} {po : Option Addr} {co : Nat} {o : List Int} {H : List Asn} {x : Asn} (h : St w0 (infL bf br q d m B lim a po co o (x :: H)) w) : St w0 (infL bf br q d m B lim a po co o H) w := dS h
/-- what stays the same all along -/
structure InfK (m : Nat) (B : List Int) (lim : Nat) : Prop where
  hm : B.length = m
  hB : OKB B
  hm1 : m ≤ 140737488355328
  hl : lim ≤ 1048576
theorem pw16 (i : Nat) (h : i ≤ 16) : (1 : Int) ≤ 2 ^ i ∧ (2 : Int) ^ i ≤ 65536 := by
  have : ∀ k : Fin 17, (1 : Int) ≤ 2 ^ k.val ∧ (2 : Int) ^ k.val ≤ 65536 := by decide
  exact this ⟨i, by omega⟩
section
variable {w0 : World} {H : List Asn} {bf br : Nat} {q : Option Addr} {d m : Nat} {B : List Int} {lim : Nat} {po : Option Addr} {co : Nat} {o : List Int}
theorem Grp_c (hK : InfK m B lim) (a c : Nat) (hc : c ≤ 16) (ha : a ≤ 8 * m) (w : World) (hw : St w0 (infL bf br q d m B lim a po co o H) w) :
    Calls Tryz.prog 209 #[.pointer (some ⟨bf, 0, none⟩), .int .i64 c] w fun e w' => (8 * m < a + c ∧ e = .panicked (FLT 20) ∧ St w0 H w') ∨
      (a + c ≤ 8 * m ∧ e = .returned (.int .i64 (nbt (bitB B 0) a c)) ∧ St w0 (infL bf br q d m B lim (a + c) po co o H) w') := by
  obtain ⟨hn0, hn1⟩ := nbt_bd (bitB B 0) (bitB_01 B 0) a c
  have hp := (pw16 c hc).2
  refine enter (vs := [.pointer (some ⟨bf, 0, none⟩), .int .i64 c]) Tryz.func209 rfl rfl rfl hw ?_
  repeat (first | (refine sx ?_; try intro _))
  refine JO_call Tryz.call236 rfl rfl fun w hw => (RGrp_c br q d m B (vec_rd (by repeat (first | apply List.Mem.head | apply List.Mem.tail))) hK.hm hK.hB hK.hm1 a c (by omega) ha w hw).mono ?_
  rintro e w' (⟨h, rfl, hw'⟩ | ⟨h, rfl, hw'⟩)
  · refine ⟨_, rfl, _, hw', ?_⟩
    clear hw' hw w w'
    repeat (first | (refine sx ?_; try intro _))
    refine JO_callE Tryz.func209 Tryz.call210 rfl rfl fun A hA w hw => (Give_c 20 w hw).mono ?_
    rintro e w' (⟨h, rfl, hw'⟩ | ⟨_, rfl, hw'⟩)
    · exact absurd h (by decide)
    · exact .inr ⟨_, rfl, .inl ⟨h, rfl, infL_drop hw'⟩⟩
  · refine ⟨_, rfl, _, hw', ?_⟩
    clear hw' hw w w'
    generalize nbt (bitB B 0) a c = x at *
    repeat (first | (refine sx ?_; try intro _))
    refine JO_callE Tryz.func209 Tryz.call210 rfl rfl fun A hA w hw => (Give_c 0 w hw).mono ?_
    rintro e w' (⟨_, rfl, hw'⟩ | ⟨h, rfl, hw'⟩)
    · refine .inl ⟨_, rfl, _, hw', ?_⟩
      clear hw' hw w w'
      repeat (first | (refine sx ?_; try intro _))
      refine JS_ret Tryz.func209 rfl rfl ?_
      intro w hw
      exact .inr ⟨h, rfl, hw⟩
    · exact absurd rfl h
/-- what a symbol's reading does -/
def symP (bt : Nat → Int) (m : Nat) (L : List Int) (a : Nat) (E : Int → Prop) (K : Int → Nat → Prop) : Prop :=
  match symS bt (8 * m) L a with
  | .err r => E r
  | .ok i a1 => 0 ≤ i ∧ i < L.length ∧ a < a1 ∧ a1 ≤ 8 * m ∧ K i a1
theorem Sym_c (hK : InfK m B lim) (a : Nat) (ha : a ≤ 8 * m) (b : Nat) (L : List Int) (hs : IsSet w0 H b L) (w : World) (hw : St w0 (infL bf br q d m B lim a po co o H) w) :
    Calls Tryz.prog 247 #[.pointer (some ⟨bf, 0, none⟩), .pointer (some ⟨b, 0, none⟩)] w fun e w' =>
      symP (bitB B 0) m L a (fun r => e = .panicked (FLT r) ∧ St w0 H w') (fun i a1 => e = .returned (.int .i64 i) ∧ St w0 (infL bf br q d m B lim a1 po co o H) w') := by
  refine enter (vs := [.pointer (some ⟨bf, 0, none⟩), .pointer (some ⟨b, 0, none⟩)]) Tryz.func247 rfl rfl rfl hw ?_
  repeat (first | (refine sx ?_; try intro _))
  refine JO_call Tryz.call253 rfl rfl fun w hw => (Read2_c b br L B (hs.sub (by repeat (first | exact List.Sublist.refl _ | apply List.Sublist.cons))) q d m (vec_rd (by repeat (first | apply List.Mem.head | apply List.Mem.tail))) hK.hm hK.hB hK.hm1 a ha w hw).mono ?_
  rintro e w' ⟨i, u, r, rfl, hw', hu, hrd⟩
  refine ⟨_, rfl, _, hw', ?_⟩
  clear hw' hw w w'
  rw [← bitB_fun] at hrd
  have hsy := symS_of hs.hB hs.hl (bitB_01 B 0) hrd
  by_cases hr : r = 0
  · subst hr
    rw [if_pos rfl] at hsy
    have hi : 0 ≤ i ∧ i < L.length ∧ 0 < u := by
      rcases hrd with ⟨j, rfl, _, ⟨n, hj, h0, hn, _⟩, hu⟩ | ⟨_, _, h | h | ⟨_, _, h | h⟩⟩
      · rw [hu] at hn; omega
      · omega
      · omega
      · omega
      · omega
    repeat (first | (refine sx ?_; try intro _))
    refine JO_callE Tryz.func247 Tryz.call210 rfl rfl fun A hA w hw => (Give_c 0 w hw).mono ?_
    rintro e w' (⟨_, rfl, hw'⟩ | ⟨h, rfl, hw'⟩)
    · refine .inl ⟨_, rfl, _, hw', ?_⟩
      clear hw' hw w w'
      repeat (first | (refine sx ?_; try intro _))
      refine JS_ret Tryz.func247 rfl rfl ?_
      intro w hw
      unfold symP
      rw [hsy]
      exact ⟨hi.1, hi.2.1, by omega, hu, rfl, hw⟩
    · exact absurd rfl h
  · rw [if_neg hr] at hsy
    repeat (first | (refine sx ?_; try intro _))
    refine JO_callE Tryz.func247 Tryz.call210 rfl rfl fun A hA w hw => (Give_c r w hw).mono ?_
    rintro e w' (⟨h, rfl, hw'⟩ | ⟨_, rfl, hw'⟩)
    · exact absurd h hr
    · refine .inr ⟨_, rfl, ?_⟩
      show symP _ _ _ _ _ _
      unfold symP
      rw [hsy]
      exact ⟨rfl, infL_drop hw'⟩
/-- bytes are told -/
theorem Tell_c (hK : InfK m B lim) (a : Nat) (u : Option Addr) (cu n : Nat) (X : List Int) (hr : Rd w0 H (.slice u n cu) n (ints .u8 X)) (hX : X.length = n) (ho : o.length ≤ lim) (hn : n ≤ 140737488355328) (w : World) (hw : St w0 (infL bf br q d m B lim a po co o H) w) :
    Calls Tryz.prog 231 #[.pointer (some ⟨bf, 0, none⟩), .slice u n cu] w fun e w' => ((lim : Int) - o.length < n ∧ e = .panicked (FLT 64) ∧ St w0 H w') ∨
      (¬ (lim : Int) - o.length < n ∧ e = .returned (.tuple #[]) ∧ ∃ po co, St w0 (infL bf br q d m B lim a po co (o ++ X) H) w') := by
  have hl := hK.hl
  refine enter (vs := [.pointer (some ⟨bf, 0, none⟩), .slice u n cu]) Tryz.func231 rfl rfl rfl hw ?_
  by_cases h : (lim : Int) - o.length < n
  · repeat (first | (refine sx ?_; try intro _))
    refine JO_callE Tryz.func231 Tryz.call210 rfl rfl fun A hA w hw => (Give_c 64 w hw).mono ?_
    rintro e w' (⟨h, rfl, hw'⟩ | ⟨_, rfl, hw'⟩)
    · exact absurd h (by decide)
    · exact .inr ⟨_, rfl, .inl ⟨h, rfl, infL_drop hw'⟩⟩
  · repeat (first | (refine sx ?_; try intro _))
    have hr' : Rd w0 (infL bf br q d m B lim a po co o H) (.slice u n cu) n (ints .u8 X) := Rd_weak hr fun w hw => infL_drop hw
    refine JO_app (tb := tb) rfl rfl rfl rfl rfl rfl (by repeat (first | exact Sel.here _ _ | apply Sel.there)) hr' (by rw [ints_len]; omega) (by first | exact ints_one | (repeat (first | exact trivial | refine ⟨rfl, ?_⟩))) (by omega) rfl ?_
    intro p c
    repeat (first | (refine sx ?_; try intro _))
    refine JS_fin Tryz.func231 rfl rfl ?_
    intro w hw
    refine .inr ⟨h, rfl, p, c, ?_⟩
    unfold infL
    rw [List.length_append, hX, ← ints_app]
    exact hw
end
end Go.Proofs.YteelffkghidpfaaGreat

namespace Go.Proofs.YteelffkghidpfaaGreat
open Sx Go
set_option linter.unusedVariables false
set_option linter.unusedSimpArgs false
set_option maxRecDepth 100000
attribute [local irreducible] syA fc tk cds
def resP (r : Res) (E : Int → Prop) (K : Nat → List Int → Prop) : Prop :=
  match r with
  | .err e => E e
  | .ok a o => K a o
theorem xor16 {n : Nat} (h : n < 65536) : n ^^^ 65535 = 65535 - n := by
  have h1 : (BitVec.ofNat 16 n ^^^ BitVec.allOnes 16).toNat = n ^^^ 65535 := by
    rw [BitVec.toNat_xor, BitVec.toNat_ofNat, Nat.mod_eq_of_lt (by omega)]; rfl
  rw [← h1, BitVec.xor_allOnes, BitVec.toNat_not, BitVec.toNat_ofNat, Nat.mod_eq_of_lt (by omega)]
theorem xor16_i64 {a : Int} (h : 0 ≤ a ∧ a < 65536) : IntKind.i64.wrap ((BitVec.ofInt IntKind.i64.bits a ^^^ BitVec.ofInt IntKind.i64.bits 65535).toNat) = 65535 - a := by
  rw [xor_nat .i64 ⟨h.1, Int.lt_trans h.2 (by decide)⟩ ⟨by omega, by decide⟩, show (65535 : Int).toNat = 65535 from rfl, xor16 (by omega)]
  exact (wi64 (by omega)).trans (by omega)
theorem nbt_byte (B : List Int) (hB : OKB B) (j : Nat) : nbt (bitB B 0) (8 * j) 8 = B.getD j 0 := by
  have h := hB j
  simp only [nbt, bitB, Nat.zero_add]
  have e : ∀ t, t < 8 → (8 * j + t) / 8 = j ∧ (8 * j + t) % 8 = t := fun t ht => by omega
  rw [(e 0 (by omega)).1, (e 0 (by omega)).2, (e 1 (by omega)).1, (e 1 (by omega)).2, (e 2 (by omega)).1, (e 2 (by omega)).2, (e 3 (by omega)).1, (e 3 (by omega)).2, (e 4 (by omega)).1, (e 4 (by omega)).2, (e 5 (by omega)).1, (e 5 (by omega)).2, (e 6 (by omega)).1, (e 6 (by omega)).2, (e 7 (by omega)).1, (e 7 (by omega)).2]
  simp only [Int.reducePow]
  omega
theorem byts_eq (B : List Int) (hB : OKB B) (j n : Nat) (h : j + n ≤ B.length) : byts (bitB B 0) (8 * j) n = (B.drop j).take n := by
  apply List.ext_getElem?
  intro k
  simp only [byts, List.getElem?_map, List.getElem?_take, List.getElem?_drop]
  by_cases hk : k < n
  · rw [List.getElem?_range hk, if_pos hk, Option.map_some, show 8 * j + 8 * k = 8 * (j + k) by omega, nbt_byte B hB]
    rw [List.getD_eq_getElem?_getD, List.getElem?_eq_getElem (by omega)]; rfl
  · rw [if_neg hk, List.getElem?_eq_none (by simp; omega)]; rfl
section
variable {w0 : World} {H : List Asn} {bf br : Nat} {q : Option Addr} {d m : Nat} {B : List Int} {lim : Nat} {po : Option Addr} {co : Nat} {o : List Int}
set_option maxHeartbeats 2000000 in
theorem Sto_c (hK : InfK m B lim) (a : Nat) (ha : a ≤ 8 * m) (ho : o.length ≤ lim) (w : World) (hw : St w0 (infL bf br q d m B lim a po co o H) w) :
    Calls Tryz.prog 206 #[.pointer (some ⟨bf, 0, none⟩)] w fun e w' => resP (stoF (bitB B 0) (8 * m) lim a o) (fun r => e = .panicked (FLT r) ∧ St w0 H w')
      (fun a' o' => a' ≤ 8 * m ∧ o'.length ≤ lim ∧ e = .returned (.tuple #[]) ∧ ∃ po co, St w0 (infL bf br q d m B lim a' po co o' H) w') := by
  have hl := hK.hl
  have hm1 := hK.hm1
  have hu := upto8_le ha
  have hu8 := upto8_8 a
  refine enter (vs := [.pointer (some ⟨bf, 0, none⟩)]) Tryz.func206 rfl rfl rfl hw ?_
  repeat (first | (refine sx ?_; try intro _))
  refine JO_call Tryz.call229 rfl rfl fun w hw => (Align_c br _ a (by omega) w hw).mono ?_
  rintro e w' ⟨rfl, hw'⟩
  refine ⟨_, rfl, _, hw', ?_⟩
  clear hw' hw w w'
  have hS : ∀ r, stoF (bitB B 0) (8 * m) lim a o = r → stoF (bitB B 0) (8 * m) lim a o = r := fun _ h => h
  unfold stoF at hS ⊢
  generalize upto8 a = u at *
  have huu : upto8 (u + 32) = u + 32 := by unfold upto8; omega
  obtain ⟨n, hn⟩ := Int.eq_ofNat_of_zero_le (nbt_bd (bitB B 0) (bitB_01 B 0) u 16).1
  have hn1 := (nbt_bd (bitB B 0) (bitB_01 B 0) u 16).2
  obtain ⟨x, hx⟩ := Int.eq_ofNat_of_zero_le (nbt_bd (bitB B 0) (bitB_01 B 0) (u + 16) 16).1
  have hx1 := (nbt_bd (bitB B 0) (bitB_01 B 0) (u + 16) 16).2
  have hp16 : (2 : Int) ^ 16 = 65536 := by decide
  rw [hn, hp16] at hn1
  rw [hx, hp16] at hx1
  rw [hn, hx]
  repeat (first | (refine sx ?_; try intro _))
  refine JO_callE Tryz.func206 Tryz.call209 rfl rfl fun A hA w hw => (Grp_c hK u 16 (by omega) (by omega) w hw).mono ?_
  rintro e w' (⟨h, rfl, hw'⟩ | ⟨h1, he, hw'⟩)
  · refine .inr ⟨_, rfl, ?_⟩
    show resP _ _ _
    rw [if_pos h]; exact ⟨rfl, hw'⟩
  rw [hn] at he; subst he
  refine .inl ⟨_, rfl, _, hw', ?_⟩
  clear hw' hw w w' hA A
  rw [if_neg (by omega)]
  repeat (first | (refine sx ?_; try intro _))
  refine JO_callE Tryz.func206 Tryz.call209 rfl rfl fun A hA w hw => (Grp_c hK (u + 16) 16 (by omega) (by omega) w hw).mono ?_
  rintro e w' (⟨h, rfl, hw'⟩ | ⟨h2, he, hw'⟩)
  · refine .inr ⟨_, rfl, ?_⟩
    show resP _ _ _
    rw [if_pos (by omega)]; exact ⟨rfl, hw'⟩
  rw [hx] at he; subst he
  refine .inl ⟨_, rfl, _, hw', ?_⟩
  clear hw' hw w w' hA A
  rw [if_neg (by omega)]
  have hxor := xor16_i64 (a := (n : Int)) ⟨by omega, hn1⟩
  by_cases h3 : (n : Int) + x ≠ 65535
  · repeat (first | (apply gJO; refine JO_v (V_xor rfl rfl hxor rfl) ?_) | first | (refine sx ?_; try intro _))
    refine JO_callE Tryz.func206 Tryz.call210 rfl rfl fun A hA w hw => (Give_c 61 w hw).mono ?_
    rintro e w' (⟨h, rfl, hw'⟩ | ⟨_, rfl, hw'⟩)
    · exact absurd h (by decide)
    · refine .inr ⟨_, rfl, ?_⟩
      show resP _ _ _
      rw [if_pos h3]; exact ⟨rfl, infL_drop hw'⟩
  rw [if_neg h3]
  have h3' : (n : Int) + x = 65535 := by omega
  by_cases h4 : (lim : Int) - o.length < n
  · repeat (first | (apply gJO; refine JO_v (V_xor rfl rfl hxor rfl) ?_) | first | (refine sx ?_; try intro _))
    refine JO_callE Tryz.func206 Tryz.call210 rfl rfl fun A hA w hw => (Give_c 64 w hw).mono ?_
    rintro e w' (⟨h, rfl, hw'⟩ | ⟨_, rfl, hw'⟩)
    · exact absurd h (by decide)
    · refine .inr ⟨_, rfl, ?_⟩
      show resP _ _ _
      rw [if_pos h4]; exact ⟨rfl, infL_drop hw'⟩
  rw [if_neg h4]
  repeat (first | (apply gJO; refine JO_v (V_xor rfl rfl hxor rfl) ?_) | first | (refine sx ?_; try intro _))
  refine JO_call Tryz.call230 rfl rfl fun w hw => (Text_c br q d m B (vec_rd (by repeat (first | apply List.Mem.head | apply List.Mem.tail))) hK.hm hK.hB hK.hm1 (u + 16 + 16) n (by omega) (by omega) w hw).mono ?_
  rw [show u + 16 + 16 = u + 32 by omega, huu]
  rintro e w' (⟨h5, rfl, hw'⟩ | ⟨h5, p, c, rfl, hw'⟩)
  · refine ⟨_, rfl, _, hw', ?_⟩
    clear hw' hw w w'
    repeat (first | (refine sx ?_; try intro _))
    refine JO_callE Tryz.func206 Tryz.call210 rfl rfl fun A hA w hw => (Give_c 20 w hw).mono ?_
    rintro e w' (⟨h, rfl, hw'⟩ | ⟨_, rfl, hw'⟩)
    · exact absurd h (by decide)
    · refine .inr ⟨_, rfl, ?_⟩
      show resP _ _ _
      rw [if_pos (by omega)]; exact ⟨rfl, infL_drop hw'⟩
  refine ⟨_, rfl, _, hw', ?_⟩
  clear hw' hw w w'
  have hby := byts_eq B hK.hB ((u + 32) / 8) n (by rw [hK.hm]; omega)
  rw [show 8 * ((u + 32) / 8) = u + 32 by omega] at hby
  rw [← hby]
  rw [if_neg (by omega), Int.toNat_natCast]
  repeat (first | (refine sx ?_; try intro _))
  refine JO_callE Tryz.func206 Tryz.call210 rfl rfl fun A hA w hw => (Give_c 0 w hw).mono ?_
  rintro e w' (⟨_, rfl, hw'⟩ | ⟨h, rfl, hw'⟩)
  rotate_left
  · exact absurd rfl h
  refine .inl ⟨_, rfl, _, hw', ?_⟩
  clear hw' hw w w' hA A
  repeat (first | (refine sx ?_; try intro _))
  refine JO_callE Tryz.func206 Tryz.call231 rfl rfl fun A hA w hw => (Tell_c hK (u + 32 + 8 * n) p c n _ (vec_rd (List.Mem.head _)) (byts_len _ _ _) ho (by omega) w (infL_in hw)).mono ?_
  rintro e w' (⟨h, rfl, hw'⟩ | ⟨_, rfl, p', c', hw'⟩)
  · exact absurd h h4
  refine .inl ⟨_, rfl, _, hw', ?_⟩
  clear hw' hw w w' hA A
  repeat (first | (refine sx ?_; try intro _))
  refine JS_fin Tryz.func206 rfl rfl ?_
  intro w hw
  refine ⟨h5, ?_, rfl, p', c', infL_out hw⟩
  rw [List.length_append, byts_len]; omega
theorem MakeS_c (p : Option Addr) (c m : Nat) (B : List Int) (hr : Rd w0 H (.slice p m c) m (ints .u8 B)) (hm : B.length = m) (hB : OKB B) (hm1 : m ≤ 140737488355328) (hpm : p = none → m = 0) (w : World) (hw : St w0 H w) :
    Calls Tryz.prog 214 #[.slice p m c] w fun e w' => ∃ u r, e = .returned (.tuple #[u, .int .i64 r]) ∧
      ((BADL B r ∧ u = .pointer none ∧ St w0 H w') ∨ (OKL B ∧ r = 0 ∧ ∃ b a1 a2 a3, u = .pointer (some ⟨b, 0, none⟩) ∧ IsSet w0 [a1, a2, a3] b B ∧ St w0 (a1 :: a2 :: a3 :: H) w')) := by
  refine (Make_c p c m B hr hm hB hm1 hpm w hw).mono ?_
  rintro e w' ⟨u, r, rfl, h⟩
  refine ⟨u, r, rfl, ?_⟩
  subst hm
  rcases h with ⟨h1, rfl, rfl, h2⟩ | ⟨h1, h15, h2, rfl, rfl, h3⟩ | ⟨h1, h15, h2, rfl, b, q, d, s, k, rfl, h3⟩
  · exact .inl ⟨.inl ⟨h1, rfl⟩, rfl, h2⟩
  · exact .inl ⟨.inr ⟨h1, h15, fun h => h2 ((fine_iff B hB h15).2 h), rfl⟩, rfl, h3⟩
  · refine .inr ⟨⟨h1, h15, (fine_iff B hB h15).1 h2⟩, rfl, b, _, _, _, rfl, ⟨⟨q, d, s, k, (by repeat (first | apply List.Mem.head | apply List.Mem.tail)), vec_rd (by repeat (first | apply List.Mem.head | apply List.Mem.tail)), vec_rd (by repeat (first | apply List.Mem.head | apply List.Mem.tail))⟩, hB, ⟨h1, h15, (fine_iff B hB h15).1 h2⟩⟩, h3⟩
/-- a set is made -/
theorem Made_c (p : Option Addr) (c n : Nat) (L : List Int) (hr : Rd w0 H (.slice p n c) n (ints .u8 L)) (hL : L.length = n) (hB : OKB L) (hn : n ≤ 140737488355328) (w : World) (hw : St w0 H w) :
    Calls Tryz.prog 233 #[.slice p n c] w fun e w' => (¬ OKL L ∧ e = .panicked (FLT 62) ∧ St w0 H w') ∨ (OKL L ∧ ∃ b a1 a2 a3, e = .returned (.pointer (some ⟨b, 0, none⟩)) ∧ IsSet w0 [a1, a2, a3] b L ∧ St w0 (a1 :: a2 :: a3 :: H) w') := by
  refine enter (vs := [.slice p n c]) Tryz.func233 rfl rfl rfl hw ?_
  repeat (first | (refine sx ?_; try intro _))
  refine JO_call Tryz.call214 rfl rfl fun w hw => (MakeS_c p c n L hr hL hB hn (hr.nil hw) w hw).mono ?_
  rintro e w' ⟨u, r, rfl, h⟩
  rcases h with ⟨hbad, rfl, hw'⟩ | ⟨hok, rfl, b, a1, a2, a3, rfl, hs, hw'⟩
  · refine ⟨_, rfl, _, hw', ?_⟩
    clear hw' hw w w'
    have hr0 := hbad.pos
    repeat (first | (refine sx ?_; try intro _))
    refine JO_callE Tryz.func233 Tryz.call210 rfl rfl fun A hA w hw => (Give_c 62 w hw).mono ?_
    rintro e w' (⟨h, rfl, hw'⟩ | ⟨_, rfl, hw'⟩)
    · exact absurd h (by decide)
    · exact .inr ⟨_, rfl, .inl ⟨hbad.not, rfl, hw'⟩⟩
  · refine ⟨_, rfl, _, hw', ?_⟩
    clear hw' hw w w'
    repeat (first | (refine sx ?_; try intro _))
    refine JS_ret Tryz.func233 rfl rfl ?_
    intro w hw
    exact .inr ⟨hok, b, a1, a2, a3, rfl, hs, hw⟩
set_option maxRecDepth 10000 in
set_option maxHeartbeats 4000000 in
/-- bytes from so far back, again -/
theorem Again_c (hK : InfK m B lim) (a len bk : Nat) (hbk : 0 < bk) (ho : o.length ≤ lim) (hlen : len ≤ 1000) (hbk2 : bk ≤ 100000) (w : World) (hw : St w0 (infL bf br q d m B lim a po co o H) w) :
    Calls Tryz.prog 248 #[.pointer (some ⟨bf, 0, none⟩), .int .i64 len, .int .i64 bk] w fun e w' => (o.length < bk ∧ e = .panicked (FLT 63) ∧ St w0 H w') ∨ (bk ≤ o.length ∧ (lim : Int) - o.length < len ∧ e = .panicked (FLT 64) ∧ St w0 H w') ∨
      (bk ≤ o.length ∧ ¬ (lim : Int) - o.length < len ∧ e = .returned (.tuple #[]) ∧ ∃ po co, St w0 (infL bf br q d m B lim a po co (cpy o bk len) H) w') := by
  have hl := hK.hl
  refine enter (vs := [.pointer (some ⟨bf, 0, none⟩), .int .i64 len, .int .i64 bk]) Tryz.func248 rfl rfl rfl hw ?_
  by_cases h1 : o.length < bk
  · repeat (first | (refine sx ?_; try intro _))
    refine JO_callE Tryz.func248 Tryz.call210 rfl rfl fun A hA w hw => (Give_c 63 w hw).mono ?_
    rintro e w' (⟨h, rfl, hw'⟩ | ⟨_, rfl, hw'⟩)
    · exact absurd h (by decide)
    · exact .inr ⟨_, rfl, .inl ⟨h1, rfl, infL_drop hw'⟩⟩
  by_cases h2 : (lim : Int) - o.length < len
  · repeat (first | (refine sx ?_; try intro _))
    refine JO_callE Tryz.func248 Tryz.call210 rfl rfl fun A hA w hw => (Give_c 64 w hw).mono ?_
    rintro e w' (⟨h, rfl, hw'⟩ | ⟨_, rfl, hw'⟩)
    · exact absurd h (by decide)
    · exact .inr ⟨_, rfl, .inr (.inl ⟨by omega, h2, rfl, infL_drop hw'⟩)⟩
  repeat (first | (apply gJR; first | (refine sx ?_; try intro _)) | (apply gJO; first | (refine sx ?_; try intro _)) | (apply gQR; first | (refine sx ?_; try intro _)) | (apply gQO; first | (refine sx ?_; try intro _)) | apply JS_seq | apply JS_region | refine JS_draw [] (by kernel_rfl) (by kernel_rfl) (by decide +kernel) ?_ | refine JS_condF rfl ?_ | refine JS_cond_F rfl (by omega) ?_ | apply JS_skip)
  refine JS_block ?_
  refine JS_loop3 (fun (i : Nat) (p : Option Addr) (c : Nat) => [(0, .pointer (some ⟨bf, 0, none⟩)), (2, .int .i64 bk), (27, .int .i64 len), (28, .int .i64 i)]) (fun i p c => infL bf br q d m B lim a p c (cpy o bk i) H)
    (fun i _ _ => i ≤ len) (fun i _ _ => len - i) 0 po co (Nat.zero_le _) (by repeat (first | exact trivial | refine ⟨rfl, ?_⟩ | refine ⟨lookI rfl (by omega), ?_⟩)) (fun _ h => h) ?_
  intro i p c hi again
  have hcl := cpy_len o bk i
  by_cases hil : i < len
  · have hcs : cpy o bk (i + 1) = cpy o bk i ++ [(cpy o bk i).getD ((cpy o bk i).length - bk) 0] := rfl
    generalize cpy o bk i = L at *
    have gi : (ints .u8 L)[L.length - bk]? = some (.int .u8 (L.getD (L.length - bk) 0)) := ints_get (by omega)
    generalize L.getD (L.length - bk) 0 = x at *
    repeat (first | (apply gQO; first | refine QO_v rfl (V_index (tb := tb) (j := L.length - bk) rfl rfl rfl rfl (Rd.sl (vec_rd (by repeat (first | apply List.Mem.head | apply List.Mem.tail)))) (by omega) (by omega) rfl) ?_ | refine QO_v rfl (V_loadC (tb := tb) rfl (vec_rd (by repeat (first | apply List.Mem.head | apply List.Mem.tail))) rfl rfl gi rfl) ?_ | (refine QO_e (E_buildSlice (tb := tb) rfl rfl rfl rfl rfl rfl rfl rfl rfl) rfl (.inr fun _ _ hw => dS hw) ?_; intro _) | (refine QO_e (E_appendB (tb := tb) rfl rfl rfl rfl rfl rfl (by repeat (first | exact Sel.here _ _ | apply Sel.there)) (by first | exact vec_rd (by repeat (first | apply List.Mem.head | apply List.Mem.tail)) | assumption | exact ArgRd.rd (by assumption) _ | (apply Rd_weak; assumption; intro _ hx; exact dS hx)) (by simp only [ints_len, List.length_cons, List.length_nil]; first | omega | rfl) (by first | exact ints_one | (repeat (first | exact trivial | refine ⟨rfl, ?_⟩))) (by omega) (by omega) rfl) rfl (.inr fun _ _ hw => vecB_back (by repeat (first | exact Sel.here _ _ | apply Sel.there)) hw) ?_; intro _)) | (first | (refine sx ?_; try intro _)))
    rename_i p1 c1
    exact JS_again3 again (i + 1) c1.1 c1.2 (by omega) (by omega) (by exact ⟨rfl, rfl, rfl, rfl, trivial⟩) (fun w hw => by rw [hcs]; unfold infL; rw [show (L ++ [x]).length = L.length + 1 by simp, ← ints_app1]; have g := vecB_fwd (by repeat (first | exact Sel.here _ _ | apply Sel.there)) hw; exact dS g)
  · obtain rfl : i = len := by omega
    clear again
    repeat (first | (refine sx ?_; try intro _))
    refine JS_fin Tryz.func248 rfl rfl ?_
    intro w hw
    exact .inr (.inr ⟨by omega, h2, rfl, p, c, hw⟩)
end
end Go.Proofs.YteelffkghidpfaaGreat

namespace Go.Proofs.YteelffkghidpfaaGreat
open Sx Go
set_option linter.unusedVariables false
set_option linter.unusedSimpArgs false
set_option maxRecDepth 100000
attribute [local irreducible] syA fc tk cds pack bms
set_option maxHeartbeats 2000000 in
/-- a literal's or length's symbol -/
theorem WLit_c {w0 : World} {H : List Asn} (b : Nat) (L : List Int) (q : Option Addr) (d : Nat) (u : Value) (u' : Value) (p1 p3 : Option Addr) (c1 c3 m1 : Nat) (B A : List Int) (hrB : Rd w0 H (.slice p1 m1 c1) m1 (ints .u8 B)) (hrA : Rd w0 H (.slice p3 m1 c3) m1 (ints .u32 A)) (hB : B.length = m1) (hA : A.length = m1)
    (k x : Nat) (hk : k < m1) (hx : B.getD k 0 = x) (hx15 : x ≤ 15) (hAk : 0 ≤ A.getD k 0 ∧ A.getD k 0 < 2 ^ x) (hL : ∀ j, L.getD j 0 = 0 ∨ L.getD j 0 = 1) (hl : L.length ≤ 70368744177600) (w : World)
    (hw : St w0 (wtA b L q d [.slice p1 m1 c1, u, .slice p3 m1 c3, u'] :: wrV L q d :: H) w) :
    Calls Tryz.prog 165 #[.pointer (some ⟨b, 0, none⟩), .int .i64 k] w fun e w' => e = .returned (.tuple #[]) ∧ ∃ q d, St w0 (wtA b (L ++ bms (A.getD k 0) x) q d [.slice p1 m1 c1, u, .slice p3 m1 c3, u'] :: wrV (L ++ bms (A.getD k 0) x) q d :: H) w' := by
  refine enter (vs := [.pointer (some ⟨b, 0, none⟩), .int .i64 k]) Tryz.func165 rfl rfl rfl hw ?_
  have gB : (ints .u8 B)[k]? = some (.int .u8 x) := by rw [← hx]; exact ints_get (by omega)
  have gA : (ints .u32 A)[k]? = some (.int .u32 (A.getD k 0)) := ints_get (by omega)
  have hrB' : Rd w0 (wtA b L q d [.slice p1 m1 c1, u, .slice p3 m1 c3, u'] :: wrV L q d :: H) (.slice p1 m1 c1) m1 (ints .u8 B) := Rd_weak hrB fun w hw => dS hw
  have hrA' : Rd w0 (wtA b L q d [.slice p1 m1 c1, u, .slice p3 m1 c3, u'] :: wrV L q d :: H) (.slice p3 m1 c3) m1 (ints .u32 A) := Rd_weak hrA fun w hw => dS hw
  have hpw : (2 : Int) ^ x ≤ 32768 := by
    have h : ∀ k : Fin 16, (2 : Int) ^ k.val ≤ 32768 := by decide
    exact h ⟨x, by omega⟩
  repeat (first | (apply gQO; refine QO_v rfl (V_loadC (tb := tb) rfl hrB' rfl rfl gB rfl) ?_) | (apply gQO; refine QO_v rfl (V_loadC (tb := tb) rfl hrA' rfl rfl gA rfl) ?_) | (first | (refine sx ?_; try intro _)))
  refine QO_call Tryz.call223 rfl rfl fun w hw => (WCodeT_c b L q d (A.getD k 0) x (by omega) hAk (by omega) hL hl w hw).mono ?_
  rintro e w' ⟨rfl, q2, d2, hw'⟩
  refine ⟨_, rfl, _, hw', .inr rfl, ?_⟩
  clear hw' hw w w'
  repeat (first | (refine sx ?_; try intro _))
  refine JS_fin Tryz.func165 rfl rfl (vs := []) ?_
  intro w hw
  exact ⟨rfl, q2, d2, hw⟩
set_option maxHeartbeats 2000000 in
/-- a span's symbol -/
theorem WSpan_c {w0 : World} {H : List Asn} (b : Nat) (L : List Int) (q : Option Addr) (d : Nat) (u : Value) (u' : Value) (p1 p3 : Option Addr) (c1 c3 m1 : Nat) (B A : List Int) (hrB : Rd w0 H (.slice p1 m1 c1) m1 (ints .u8 B)) (hrA : Rd w0 H (.slice p3 m1 c3) m1 (ints .u32 A)) (hB : B.length = m1) (hA : A.length = m1)
    (k x : Nat) (hk : k < m1) (hx : B.getD k 0 = x) (hx15 : x ≤ 15) (hAk : 0 ≤ A.getD k 0 ∧ A.getD k 0 < 2 ^ x) (hL : ∀ j, L.getD j 0 = 0 ∨ L.getD j 0 = 1) (hl : L.length ≤ 70368744177600) (w : World)
    (hw : St w0 (wtA b L q d [u, .slice p1 m1 c1, u', .slice p3 m1 c3] :: wrV L q d :: H) w) :
    Calls Tryz.prog 222 #[.pointer (some ⟨b, 0, none⟩), .int .i64 k] w fun e w' => e = .returned (.tuple #[]) ∧ ∃ q d, St w0 (wtA b (L ++ bms (A.getD k 0) x) q d [u, .slice p1 m1 c1, u', .slice p3 m1 c3] :: wrV (L ++ bms (A.getD k 0) x) q d :: H) w' := by
  refine enter (vs := [.pointer (some ⟨b, 0, none⟩), .int .i64 k]) Tryz.func222 rfl rfl rfl hw ?_
  have gB : (ints .u8 B)[k]? = some (.int .u8 x) := by rw [← hx]; exact ints_get (by omega)
  have gA : (ints .u32 A)[k]? = some (.int .u32 (A.getD k 0)) := ints_get (by omega)
  have hrB' : Rd w0 (wtA b L q d [u, .slice p1 m1 c1, u', .slice p3 m1 c3] :: wrV L q d :: H) (.slice p1 m1 c1) m1 (ints .u8 B) := Rd_weak hrB fun w hw => dS hw
  have hrA' : Rd w0 (wtA b L q d [u, .slice p1 m1 c1, u', .slice p3 m1 c3] :: wrV L q d :: H) (.slice p3 m1 c3) m1 (ints .u32 A) := Rd_weak hrA fun w hw => dS hw
  have hpw : (2 : Int) ^ x ≤ 32768 := by
    have h : ∀ k : Fin 16, (2 : Int) ^ k.val ≤ 32768 := by decide
    exact h ⟨x, by omega⟩
  repeat (first | (apply gQO; refine QO_v rfl (V_loadC (tb := tb) rfl hrB' rfl rfl gB rfl) ?_) | (apply gQO; refine QO_v rfl (V_loadC (tb := tb) rfl hrA' rfl rfl gA rfl) ?_) | (first | (refine sx ?_; try intro _)))
  refine QO_call Tryz.call223 rfl rfl fun w hw => (WCodeT_c b L q d (A.getD k 0) x (by omega) hAk (by omega) hL hl w hw).mono ?_
  rintro e w' ⟨rfl, q2, d2, hw'⟩
  refine ⟨_, rfl, _, hw', .inr rfl, ?_⟩
  clear hw' hw w w'
  repeat (first | (refine sx ?_; try intro _))
  refine JS_fin Tryz.func222 rfl rfl (vs := []) ?_
  intro w hw
  exact ⟨rfl, q2, d2, hw⟩

/-- the codes of lengths that are a set's -/
theorem FCodes_c {w0 : World} {H : List Asn} (p : Option Addr) (c m : Nat) (B : List Int) (hr : Rd w0 H (.slice p m c) m (ints .u8 B)) (hm : B.length = m) (hB : OKB B) (hok : OKL B) (hpm : p = none → m = 0) (w : World) (hw : St w0 H w) :
    Calls Tryz.prog 161 #[.slice p m c] w fun e w' => ∃ p c, e = .returned (.slice p m c) ∧ St w0 (vec 31 1 (.slice p m c) m (ints .u32 (cds B 16 0)) :: H) w' := by
  have h320 := hok.1
  refine enter (vs := [.slice p m c]) Tryz.func161 rfl rfl rfl hw ?_
  repeat (first | (refine sx ?_; try intro _))
  refine JO_call Tryz.call214 rfl rfl fun w hw => (MakeS_c p c m B hr hm hB (by omega) hpm w hw).mono ?_
  rintro e w' ⟨u, r, rfl, ⟨h, _⟩ | ⟨_, rfl, b, a1, a2, a3, rfl, hs, hw'⟩⟩
  · exact absurd hok h.not
  refine ⟨_, rfl, _, hw', ?_⟩
  clear hw' hw w w'
  repeat (first | (refine sx ?_; try intro _))
  refine JO_call Tryz.call215 rfl rfl fun w hw => (Codes2_c b m B hm (hs.sub ((((List.nil_sublist H).cons_cons a3).cons_cons a2).cons_cons a1)) w hw).mono ?_
  rintro e w' ⟨p2, c2, rfl, hw'⟩
  refine ⟨_, rfl, _, hw', ?_⟩
  clear hw' hw w w'
  repeat (first | (refine sx ?_; try intro _))
  refine JS_ret Tryz.func161 rfl rfl ?_
  intro w hw
  exact ⟨_, _, rfl, dS hw⟩
end Go.Proofs.YteelffkghidpfaaGreat

namespace Go.Proofs.YteelffkghidpfaaGreat
open Sx Go
set_option linter.unusedVariables false
set_option linter.unusedSimpArgs false
set_option maxRecDepth 100000
/-! the writer of a fixed block -/
def fxB : List Int := tab 288 fixF
def fxC : List Int := cds fxB 16 0
def spB : List Int := List.replicate 32 5
def spC : List Int := cds spB 16 0
theorem fxB_len : fxB.length = 288 := tab_len _ _
theorem fxC_len : fxC.length = 288 := (cds_len _ _ _).trans fxB_len
theorem spB_len : spB.length = 32 := List.length_replicate
theorem spC_len : spC.length = 32 := (cds_len _ _ _).trans spB_len
theorem fxB_get (k : Nat) (hk : k < 288) : fxB.getD k 0 = fixF k := by
  unfold fxB tab
  rw [List.getD_eq_getElem?_getD, List.getElem?_map, List.getElem?_range hk]; rfl
theorem fx_at (k : Nat) (hk : k < 288) : ∃ x : Nat, fxB.getD k 0 = x ∧ 7 ≤ x ∧ x ≤ 9 ∧ 0 ≤ fxC.getD k 0 ∧ fxC.getD k 0 < 2 ^ x := by
  have hg := fxB_get k hk
  obtain ⟨x, hx, h7, h9⟩ : ∃ x : Nat, fixF k = x ∧ 7 ≤ x ∧ x ≤ 9 := by
    unfold fixF
    split
    · exact ⟨8, rfl, by omega, by omega⟩
    · split
      · exact ⟨9, rfl, by omega, by omega⟩
      · split
        · exact ⟨7, rfl, by omega, by omega⟩
        · exact ⟨8, rfl, by omega, by omega⟩
  rw [hx] at hg
  have h := cd_lt fxB fix_okb fix_okl k x (by rw [fxB_len]; exact hk) (by omega) hg
  have hc : fxC.getD k 0 = cd fxB k := by
    unfold fxC
    rw [cds_get fxB fix_okl.2.1 k (by rw [fxB_len]; exact hk), if_pos (by omega)]
  exact ⟨x, hg, h7, h9, by rw [hc]; exact h.1, by rw [hc]; exact h.2⟩
theorem sp_at (k : Nat) (hk : k < 32) : spB.getD k 0 = (5 : Nat) ∧ 0 ≤ spC.getD k 0 ∧ spC.getD k 0 < 2 ^ 5 := by
  have hg : spB.getD k 0 = (5 : Nat) := by
    unfold spB
    rw [List.getD_eq_getElem?_getD, List.getElem?_replicate, if_pos hk]; rfl
  have h := cd_lt spB spans_okb spans_okl k 5 (by rw [spB_len]; exact hk) (by omega) hg
  have hc : spC.getD k 0 = cd spB k := by
    unfold spC
    rw [cds_get spB spans_okl.2.1 k (by rw [spB_len]; exact hk), if_pos (by omega)]
  exact ⟨hg, by rw [hc]; exact h.1, by rw [hc]; exact h.2⟩
attribute [irreducible] fxB fxC spB spC
/-- the bits of a literal's or length's symbol, and of a span's -/
def fxS (k : Nat) : List Int := bms (fxC.getD k 0) (fxB.getD k 0).toNat
def spS (k : Nat) : List Int := bms (spC.getD k 0) 5
theorem fxS_len (k : Nat) (hk : k < 288) : 7 ≤ (fxS k).length ∧ (fxS k).length ≤ 9 := by
  obtain ⟨x, h1, h2, h3, _⟩ := fx_at k hk
  unfold fxS bms
  rw [h1, List.length_map, List.length_range]; omega
abbrev fwL (b : Nat) (L : List Int) (q : Option Addr) (d : Nat) (pl ps pa pb : Option Addr) (cl cs ca cb : Nat) (H : List Asn) : List Asn :=
  wtA b L q d [.slice pl 288 cl, .slice ps 32 cs, .slice pa 288 ca, .slice pb 32 cb] :: wrV L q d :: vec 5 1 (.slice pl 288 cl) 288 (ints .u8 fxB) :: vec 5 1 (.slice ps 32 cs) 32 (ints .u8 spB) ::
    vec 31 1 (.slice pa 288 ca) 288 (ints .u32 fxC) :: vec 31 1 (.slice pb 32 cb) 32 (ints .u32 spC) :: H
section
variable {w0 : World} {H : List Asn} {b : Nat} {L : List Int} {q : Option Addr} {d : Nat} {pl ps pa pb : Option Addr} {cl cs ca cb : Nat}
theorem FLit_c (k : Nat) (hk : k < 288) (hL : ∀ j, L.getD j 0 = 0 ∨ L.getD j 0 = 1) (hl : L.length ≤ 70368744177600) (w : World) (hw : St w0 (fwL b L q d pl ps pa pb cl cs ca cb H) w) :
    Calls Tryz.prog 165 #[.pointer (some ⟨b, 0, none⟩), .int .i64 k] w fun e w' => e = .returned (.tuple #[]) ∧ ∃ q d, St w0 (fwL b (L ++ fxS k) q d pl ps pa pb cl cs ca cb H) w' := by
  obtain ⟨x, h1, h7, h9, hc⟩ := fx_at k hk
  unfold fxS
  rw [h1, Int.toNat_natCast]
  exact WLit_c b L q d _ _ pl pa cl ca 288 fxB fxC (vec_rd (by repeat (first | apply List.Mem.head | apply List.Mem.tail))) (vec_rd (by repeat (first | apply List.Mem.head | apply List.Mem.tail))) fxB_len fxC_len k x hk h1 (by omega) hc hL hl w hw
theorem FSpan_c (k : Nat) (hk : k < 32) (hL : ∀ j, L.getD j 0 = 0 ∨ L.getD j 0 = 1) (hl : L.length ≤ 70368744177600) (w : World) (hw : St w0 (fwL b L q d pl ps pa pb cl cs ca cb H) w) :
    Calls Tryz.prog 222 #[.pointer (some ⟨b, 0, none⟩), .int .i64 k] w fun e w' => e = .returned (.tuple #[]) ∧ ∃ q d, St w0 (fwL b (L ++ spS k) q d pl ps pa pb cl cs ca cb H) w' := by
  obtain ⟨h1, hc⟩ := sp_at k hk
  unfold spS
  exact WSpan_c b L q d _ _ ps pb cs cb 32 spB spC (vec_rd (by repeat (first | apply List.Mem.head | apply List.Mem.tail))) (vec_rd (by repeat (first | apply List.Mem.head | apply List.Mem.tail))) spB_len spC_len k 5 hk h1 (by omega) hc hL hl w hw
/-- a token that is a byte -/
theorem Tok0_c (x : Nat) (hx : x < 256) (hL : ∀ j, L.getD j 0 = 0 ∨ L.getD j 0 = 1) (hl : L.length ≤ 70368744177600) (w : World) (hw : St w0 (fwL b L q d pl ps pa pb cl cs ca cb H) w) :
    Calls Tryz.prog 164 #[.pointer (some ⟨b, 0, none⟩), .agg #[.int .u8 x, .int .i64 0, .int .i64 0]] w fun e w' => e = .returned (.tuple #[]) ∧ ∃ q d, St w0 (fwL b (L ++ fxS x) q d pl ps pa pb cl cs ca cb H) w' := by
  refine enter (vs := [.pointer (some ⟨b, 0, none⟩), .agg #[.int .u8 x, .int .i64 0, .int .i64 0]]) Tryz.func164 rfl rfl rfl hw ?_
  repeat (first | (refine sx ?_; try intro _))
  rename_i bx
  refine JO_call Tryz.call165 rfl rfl fun w hw => (FLit_c x (by omega) hL hl w hw.drop).mono ?_
  rintro e w' ⟨rfl, q2, d2, hw'⟩
  refine ⟨_, rfl, _, hw', ?_⟩
  clear hw' hw w w'
  repeat (first | (refine sx ?_; try intro _))
  refine JS_ret Tryz.func164 rfl rfl fun w hw => ⟨rfl, q2, d2, hw⟩
end
end Go.Proofs.YteelffkghidpfaaGreat

set_option linter.unusedVariables false
set_option linter.unusedSimpArgs false
set_option maxRecDepth 100000
namespace Go.Proofs.YteelffkghidpfaaGreat
open Sx Go
/-! ## what stood there already: plain laws -/
/-- how many bytes are the same from two places on, at most so many -/
def sam (B : List Int) (i k : Nat) : Nat → Nat
  | 0 => 0
  | f + 1 => if k < B.length ∧ B.getD i 0 = B.getD k 0 then 1 + sam B (i + 1) (k + 1) f else 0
theorem sam_le (B : List Int) : ∀ (f i k : Nat), sam B i k f ≤ f
  | 0, _, _ => Nat.le_refl _
  | f + 1, i, k => by
    rw [sam]
    split
    · have := sam_le B f (i + 1) (k + 1); omega
    · omega
theorem sam_len (B : List Int) : ∀ (f i k : Nat), k ≤ B.length → k + sam B i k f ≤ B.length
  | 0, _, _, h => h
  | f + 1, i, k, h => by
    rw [sam]
    split
    · rename_i hc
      have := sam_len B f (i + 1) (k + 1) (by omega); omega
    · omega
/-- the token's length and distance: from the newest place on, a greater one only -/
def bst (B : List Int) (at_ : Nat) : Nat → Nat × Nat → Nat × Nat
  | 0, s => s
  | i + 1, s => if 32768 < at_ - i then s else bst B at_ i (if s.1 < sam B i at_ 258 then (sam B i at_ 258, at_ - i) else s)
/-- the same over places in a list, the newest first -/
def pst (B : List Int) (at_ : Nat) : List Nat → Nat × Nat → Nat × Nat
  | [], s => s
  | i :: r, s => if 32768 < at_ - i then s else if (if s.1 < sam B i at_ 258 then (sam B i at_ 258, at_ - i) else s).1 = 258 then (if s.1 < sam B i at_ 258 then (sam B i at_ 258, at_ - i) else s) else pst B at_ r (if s.1 < sam B i at_ 258 then (sam B i at_ 258, at_ - i) else s)
/-- three bytes from a place on -/
abbrev K3 := Int × Int × Int
def k3 (B : List Int) (i : Nat) : K3 := (B.getD i 0, B.getD (i + 1) 0, B.getD (i + 2) 0)
theorem sam_3 (B : List Int) (i k f : Nat) (hk : k + 3 ≤ B.length) : 3 ≤ sam B i k (f + 3) ↔ k3 B i = k3 B k := by
  rw [sam, sam, sam]
  unfold k3
  simp only [Prod.mk.injEq]
  by_cases h0 : B.getD i 0 = B.getD k 0
  · rw [if_pos ⟨by omega, h0⟩]
    by_cases h1 : B.getD (i + 1) 0 = B.getD (k + 1) 0
    · rw [if_pos ⟨by omega, h1⟩]
      by_cases h2 : B.getD (i + 1 + 1) 0 = B.getD (k + 1 + 1) 0
      · rw [if_pos ⟨by omega, h2⟩]
        exact ⟨fun _ => ⟨h0, h1, h2⟩, fun _ => by omega⟩
      · rw [if_neg (fun h => h2 h.2)]
        exact ⟨fun h => by omega, fun h => absurd h.2.2 h2⟩
    · rw [if_neg (fun h => h1 h.2)]
      exact ⟨fun h => by omega, fun h => absurd h.2.1 h1⟩
  · rw [if_neg (fun h => h0 h.2)]
    exact ⟨fun h => by omega, fun h => absurd h.1 h0⟩
theorem sam_short (B : List Int) (i k f : Nat) (hk : B.length < k + 3) : sam B i k f < 3 := by
  rcases Nat.lt_or_ge B.length k with h | h
  · cases f with
    | zero => simp [sam]
    | succ f => rw [sam, if_neg (by omega)]; omega
  · have := sam_len B f i k h; omega
/-- places with these three bytes, before a place; the oldest first -/
def plc (B : List Int) (at_ : Nat) (x : K3) : List Nat := (List.range at_).filter fun i => decide (i + 3 ≤ B.length ∧ k3 B i = x)
theorem plc_lt {B : List Int} {at_ : Nat} {x : K3} {i : Nat} (h : i ∈ plc B at_ x) : i < at_ := by
  unfold plc at h; simp at h; exact h.1
theorem plc_0 (B : List Int) (x : K3) : plc B 0 x = [] := rfl
theorem plc_s (B : List Int) (at_ : Nat) (x : K3) : plc B (at_ + 1) x = if at_ + 3 ≤ B.length ∧ k3 B at_ = x then plc B at_ x ++ [at_] else plc B at_ x := by
  unfold plc
  rw [List.range_succ, List.filter_append]
  split
  · rename_i h; rw [List.filter_cons_of_pos (by simpa using h), List.filter_nil]
  · rename_i h; rw [List.filter_cons_of_neg (by simpa using h), List.filter_nil, List.append_nil]
theorem bst_stop (B : List Int) (at_ : Nat) : ∀ (i : Nat) (s : Nat × Nat), s.1 = 258 → bst B at_ i s = s
  | 0, s, h => rfl
  | i + 1, s, h => by
    have hs := sam_le B 258 i at_
    unfold bst
    rw [if_neg (by omega : ¬ s.1 < sam B i at_ 258)]
    split
    · rfl
    · exact bst_stop B at_ i s h
theorem pst_far (B : List Int) (at_ : Nat) : ∀ (l : List Nat) (s : Nat × Nat), (∀ i ∈ l, 32768 < at_ - i) → pst B at_ l s = s
  | [], s, h => rfl
  | i :: r, s, h => by
    unfold pst
    rw [if_pos (h i (by simp))]
/-- the places of the same three bytes are enough -/
theorem bst_pst (B : List Int) (at_ : Nat) (h3 : at_ + 3 ≤ B.length) : ∀ (i : Nat), i ≤ at_ → ∀ s p : Nat × Nat, (s.1 < 3 ∧ p = (0, 0)) ∨ (s = p ∧ 3 ≤ s.1) →
    ((bst B at_ i s).1 < 3 ∧ pst B at_ (plc B i (k3 B at_)).reverse p = (0, 0)) ∨ (bst B at_ i s = pst B at_ (plc B i (k3 B at_)).reverse p ∧ 3 ≤ (bst B at_ i s).1)
  | 0, _, s, p, h => by rw [plc_0]; exact h
  | i + 1, hi, s, p, h => by
    have hl := sam_le B 258 i at_
    have h3i : 3 ≤ sam B i at_ 258 ↔ k3 B i = k3 B at_ := sam_3 B i at_ 255 h3
    have hfar : 32768 < at_ - i → pst B at_ (plc B (i + 1) (k3 B at_)).reverse p = p := fun hf => pst_far B at_ _ _ fun j hj => by
      have := plc_lt (List.mem_reverse.1 hj); omega
    by_cases hf : 32768 < at_ - i
    · rw [hfar hf, bst, if_pos hf]; exact h
    · rw [bst, if_neg hf]
      by_cases hk : k3 B i = k3 B at_
      · have ep : plc B (i + 1) (k3 B at_) = plc B i (k3 B at_) ++ [i] := by rw [plc_s, if_pos ⟨by omega, hk⟩]
        rw [ep, List.reverse_append, List.reverse_singleton, List.singleton_append, pst, if_neg hf]
        have hs3 := h3i.2 hk
        have hsp : (if s.1 < sam B i at_ 258 then (sam B i at_ 258, at_ - i) else s) = (if p.1 < sam B i at_ 258 then (sam B i at_ 258, at_ - i) else p) ∧ 3 ≤ (if s.1 < sam B i at_ 258 then (sam B i at_ 258, at_ - i) else s).1 := by
          rcases h with ⟨h1, rfl⟩ | ⟨rfl, h1⟩
          · rw [if_pos (by omega), if_pos (by show 0 < _; omega)]
            exact ⟨rfl, hs3⟩
          · refine ⟨rfl, ?_⟩
            split <;> first | omega | (show 3 ≤ sam B i at_ 258; omega)
        rw [← hsp.1]
        obtain ⟨u, hu⟩ : ∃ u, (if s.1 < sam B i at_ 258 then (sam B i at_ 258, at_ - i) else s) = u := ⟨_, rfl⟩
        rw [hu] at hsp ⊢
        by_cases h258 : u.1 = 258
        · rw [if_pos h258, bst_stop B at_ i u h258]
          exact .inr ⟨rfl, hsp.2⟩
        · rw [if_neg h258]
          exact bst_pst B at_ h3 i (by omega) u u (.inr ⟨rfl, hsp.2⟩)
      · have ep : plc B (i + 1) (k3 B at_) = plc B i (k3 B at_) := by rw [plc_s, if_neg (fun h => hk h.2)]
        rw [ep]
        have hlt : sam B i at_ 258 < 3 := by
          rcases Nat.lt_or_ge (sam B i at_ 258) 3 with h' | h'
          · exact h'
          · exact absurd (h3i.1 h') hk
        refine bst_pst B at_ h3 i (by omega) _ p ?_
        rcases h with ⟨h1, h2⟩ | ⟨h1, h2⟩
        · left
          refine ⟨?_, h2⟩
          split <;> first | omega | (show sam B i at_ 258 < 3; omega)
        · rw [if_neg (by omega)]
          exact .inr ⟨h1, h2⟩
theorem bst_short (B : List Int) (at_ : Nat) (h3 : B.length < at_ + 3) : ∀ (i : Nat) (s : Nat × Nat), s.1 < 3 → (bst B at_ i s).1 < 3
  | 0, s, h => h
  | i + 1, s, h => by
    have := sam_short B i at_ 258 h3
    unfold bst
    split
    · exact h
    · refine bst_short B at_ h3 i _ ?_
      split <;> first | omega | (show sam B i at_ 258 < 3; omega)
/-- the token at a place -/
def tok (B : List Int) (at_ : Nat) : Int × Nat × Nat :=
  if (bst B at_ at_ (0, 0)).1 < 3 then (B.getD at_ 0, 0, 0) else (0, (bst B at_ at_ (0, 0)).1, (bst B at_ at_ (0, 0)).2)
theorem tok_far (B : List Int) (at_ : Nat) (h3 : at_ + 3 ≤ B.length) : tok B at_ = if pst B at_ (plc B at_ (k3 B at_)).reverse (0, 0) = (0, 0) then (B.getD at_ 0, 0, 0) else (0, (pst B at_ (plc B at_ (k3 B at_)).reverse (0, 0)).1, (pst B at_ (plc B at_ (k3 B at_)).reverse (0, 0)).2) := by
  unfold tok
  rcases bst_pst B at_ h3 at_ (Nat.le_refl _) (0, 0) (0, 0) (.inl ⟨by decide, rfl⟩) with ⟨h1, h2⟩ | ⟨h1, h2⟩
  · rw [if_pos h1, if_pos h2]
  · rw [if_neg (by omega), ← h1, if_neg (fun h => by rw [h] at h2; simp at h2)]
theorem tok_near (B : List Int) (at_ : Nat) (h3 : B.length < at_ + 3) : tok B at_ = (B.getD at_ 0, 0, 0) := by
  unfold tok
  rw [if_pos (bst_short B at_ h3 at_ (0, 0) (by decide))]
theorem bst_bd (B : List Int) (at_ : Nat) (ha : at_ ≤ B.length) : ∀ (i : Nat), i ≤ at_ → ∀ s : Nat × Nat, (s.1 ≤ 258 ∧ at_ + s.1 ≤ B.length ∧ (0 < s.1 → 0 < s.2 ∧ s.2 ≤ at_ ∧ s.2 ≤ 32768)) →
    (bst B at_ i s).1 ≤ 258 ∧ at_ + (bst B at_ i s).1 ≤ B.length ∧ (0 < (bst B at_ i s).1 → 0 < (bst B at_ i s).2 ∧ (bst B at_ i s).2 ≤ at_ ∧ (bst B at_ i s).2 ≤ 32768)
  | 0, _, s, h => h
  | i + 1, hi, s, h => by
    have h1 := sam_le B 258 i at_
    have h2 := sam_len B 258 i at_ ha
    unfold bst
    split
    · exact h
    · refine bst_bd B at_ ha i (by omega) _ ?_
      split
      · exact ⟨h1, h2, fun _ => by omega⟩
      · exact h
theorem tok_bd (B : List Int) (at_ : Nat) (ha : at_ < B.length) : (tok B at_ = (B.getD at_ 0, 0, 0)) ∨ (∃ n d, tok B at_ = (0, n, d) ∧ 3 ≤ n ∧ n ≤ 258 ∧ at_ + n ≤ B.length ∧ 1 ≤ d ∧ d ≤ at_ ∧ d ≤ 32768) := by
  obtain ⟨h1, h2, h3⟩ := bst_bd B at_ (by omega) at_ (Nat.le_refl _) (0, 0) ⟨by omega, by omega, fun h => absurd h (by simp)⟩
  unfold tok
  split
  · exact .inl rfl
  · exact .inr ⟨_, _, rfl, by omega, h1, h2, by omega, by omega, by omega⟩
/-- all tokens from a place on -/
def toks (B : List Int) : Nat → Nat → List (Int × Nat × Nat)
  | 0, _ => []
  | f + 1, at_ => if at_ < B.length then tok B at_ :: toks B f (at_ + max 1 (tok B at_).2.1) else []
theorem toks_fuel (B : List Int) : ∀ (f g at_ : Nat), B.length - at_ ≤ f → B.length - at_ ≤ g → toks B f at_ = toks B g at_
  | 0, 0, _, _, _ => rfl
  | 0, g + 1, at_, h, _ => by rw [toks, toks, if_neg (by omega)]
  | f + 1, 0, at_, _, h => by rw [toks, toks, if_neg (by omega)]
  | f + 1, g + 1, at_, hf, hg => by
    rw [toks, toks]
    split
    · rw [toks_fuel B f g _ (by omega) (by omega)]
    · rfl
/-- the cells of tokens -/
def tkv (l : List (Int × Nat × Nat)) : List Value := l.flatMap fun t => [.int .u8 t.1, .int .i64 t.2.1, .int .i64 t.2.2]
theorem tkv_app (l : List (Int × Nat × Nat)) (t : Int × Nat × Nat) : tkv (l ++ [t]) = tkv l ++ [.int .u8 t.1, .int .i64 t.2.1, .int .i64 t.2.2] := by
  unfold tkv; simp
theorem tkv_len (l : List (Int × Nat × Nat)) : (tkv l).length = l.length * 3 := by
  unfold tkv
  induction l with
  | nil => rfl
  | cons t l ih => rw [List.flatMap_cons, List.length_append, ih]; simp; omega
end Go.Proofs.YteelffkghidpfaaGreat

set_option linter.unusedVariables false
set_option linter.unusedSimpArgs false
set_option maxRecDepth 100000
namespace Go.Proofs.YteelffkghidpfaaGreat
open Sx Go
section
variable {w0 : World} {H : List Asn}
set_option maxRecDepth 10000 in
set_option maxHeartbeats 2000000 in
/-- how many bytes are the same from two places on -/
theorem Same_c (b : Nat) (u : Value) (p : Option Addr) (c m : Nat) (B : List Int) (hr : Rd w0 H (.slice p m c) m (ints .u8 B)) (hb : blk b [.slice p m c, u] ∈ H) (hm : B.length = m) (i k : Nat) (hik : i < k) (hk : k ≤ m) (h4 : m ≤ 1100000) (w : World) (hw : St w0 H w) :
    Calls Tryz.prog 240 #[.pointer (some ⟨b, 0, none⟩), .int .i64 i, .int .i64 k] w fun e w' => e = .returned (.int .i64 (sam B i k 258)) ∧ St w0 H w' := by
  refine enter (vs := [.pointer (some ⟨b, 0, none⟩), .int .i64 i, .int .i64 k]) Tryz.func240 rfl rfl rfl hw ?_
  repeat (first | (refine sx ?_; try intro _))
  refine JS_loop1 (fun (n : Nat) => [(0, .pointer (some ⟨b, 0, none⟩)), (1, .int .i64 i), (2, .int .i64 k), (7, .int .i64 n)]) (fun _ => H) (fun n => n ≤ 258 ∧ k + n ≤ m ∧ sam B i k 258 = n + sam B (i + n) (k + n) (258 - n)) (fun n => 258 - n) 0 ⟨by omega, by omega, by simp⟩ (by repeat (first | exact trivial | refine ⟨rfl, ?_⟩ | refine ⟨lookI rfl (by omega), ?_⟩)) (fun _ h => h) ?_
  intro n ⟨hn, hkn, he⟩ again
  by_cases h258 : n = 258
  case' pos =>
    clear again
    repeat (first | (apply gQO; refine QO_v rfl (oL (V_load (tb := tb) rfl hb rfl rfl rfl rfl)) ?_) | (first | (refine sx ?_; try intro _)))
    have hfin : sam B i k 258 = n := by rw [he, h258]; rfl
  case' neg =>
    by_cases hkm : k + n = m
    case' pos =>
      clear again
      repeat (first | (apply gQO; refine QO_v rfl (oL (V_load (tb := tb) rfl hb rfl rfl rfl rfl)) ?_) | (first | (refine sx ?_; try intro _)))
      have hfin : sam B i k 258 = n := by
        rw [he, show 258 - n = (257 - n) + 1 by omega, sam, if_neg (by omega)]; rfl
    case' neg =>
      have g1 : (ints .u8 B)[i + n]? = some (.int .u8 (B.getD (i + n) 0)) := ints_get (by omega)
      have g2 : (ints .u8 B)[k + n]? = some (.int .u8 (B.getD (k + n) 0)) := ints_get (by omega)
      by_cases heq : B.getD (i + n) 0 = B.getD (k + n) 0
      case' neg =>
        clear again
        repeat (first | (apply gQO; refine QO_v rfl (oL (V_load (tb := tb) rfl hb rfl rfl rfl rfl)) ?_) | (apply gQO; refine QO_v rfl (oL (V_loadC (tb := tb) rfl hr rfl rfl g1 rfl)) ?_) | (apply gQO; refine QO_v rfl (oL (V_loadC (tb := tb) rfl hr rfl rfl g2 rfl)) ?_) | (first | (refine sx ?_; try intro _)))
        have hfin : sam B i k 258 = n := by
          rw [he, show 258 - n = (257 - n) + 1 by omega, sam, if_neg (fun h => heq h.2)]; rfl
      case' pos =>
        repeat (first | (apply gQO; refine QO_v rfl (oL (V_load (tb := tb) rfl hb rfl rfl rfl rfl)) ?_) | (apply gQO; refine QO_v rfl (oL (V_loadC (tb := tb) rfl hr rfl rfl g1 rfl)) ?_) | (apply gQO; refine QO_v rfl (oL (V_loadC (tb := tb) rfl hr rfl rfl g2 rfl)) ?_) | (first | (refine sx ?_; try intro _)))
        exact JS_again1 again (n + 1) ⟨by omega, by omega, by rw [he, show 258 - n = (258 - (n + 1)) + 1 by omega, sam, if_pos ⟨by omega, heq⟩, show i + n + 1 = i + (n + 1) by omega, show k + n + 1 = k + (n + 1) by omega]; omega⟩ (by omega) (by repeat (first | exact trivial | refine ⟨rfl, ?_⟩ | refine ⟨lookI rfl (by omega), ?_⟩)) (fun w hw => hw)
  all_goals
    refine JS_ret Tryz.func240 rfl rfl fun w hw => ⟨?_, hw⟩
    rw [hfin]
    rfl
end
/-! the places: entries of the map with the slices that they hold -/
abbrev PX := MapEntry × List Nat
def vx (x : PX) : Asn := vec 3 1 x.1.val x.2.length (ints .i64 (x.2.map Int.ofNat))
def kv (x : K3) : Value := .agg #[.int .u8 x.1, .int .u8 x.2.1, .int .u8 x.2.2]
theorem kv_inj {x y : K3} (h : kv x = kv y) : x = y := by
  obtain ⟨x1, x2, x3⟩ := x
  obtain ⟨y1, y2, y3⟩ := y
  simp [kv] at h
  simp [h]
abbrev plA (bp bm : Nat) (p : Option Addr) (c m : Nat) (X : List PX) (clock : Nat) (H : List Asn) : List Asn := blk bp [.slice p m c, .map (some bm)] :: mapL bm (X.map Prod.fst) clock :: bigA (X.map vx) :: H
structure PI (B : List Int) (at_ : Nat) (X : List PX) (clock : Nat) : Prop where
  ok : MOk Tryz.prog 282 (X.map Prod.fst) clock
  key : ∀ x ∈ X, ∃ i, i + 3 ≤ B.length ∧ i < at_ ∧ x.1.key = kv (k3 B i) ∧ x.2 = plc B at_ (k3 B i) ∧ ∃ q d, x.1.val = .slice q x.2.length d
  all : ∀ i, i < at_ → i + 3 ≤ B.length → ∃ x ∈ X, x.1.key = kv (k3 B i)
theorem PI.nil (B : List Int) (clock : Nat) : PI B 0 [] clock := ⟨MOk.nil, by simp, by simp⟩
theorem kund : Tryz.prog.underlying 282 = some (.array 3 5) := by kernel_rfl
theorem kundb : Tryz.prog.underlying 5 = some (.int .u8) := by kernel_rfl
theorem kcell : Tryz.prog.cellsOf 282 = 3 := by kernel_rfl
theorem kcellb : Tryz.prog.cellsOf 5 = 1 := by kernel_rfl
theorem ktype : Tryz.prog.keyType 282 = true := by kernel_rfl
theorem klaw : WideMaps.KeyLaw Tryz.prog 282 := deep_law_laid (by kernel_rfl) (m := 2) (by omega) (by decide +kernel) (by kernel_rfl) (by kernel_rfl)
theorem kkt : KeyT Tryz.prog 282 := KeyT.of (Maps.Keyed.of_law klaw)
theorem okb_wf {a : Int} (h : 0 ≤ a ∧ a < 256) : (Lit.int .u8 a).wf = true := by
  simp [Lit.wf, IntKind.min, IntKind.max, IntKind.bits, IntKind.signed]; omega
theorem kv_key {x : K3} (h1 : 0 ≤ x.1 ∧ x.1 < 256) (h2 : 0 ≤ x.2.1 ∧ x.2.1 < 256) (h3 : 0 ≤ x.2.2 ∧ x.2.2 < 256) : isKey Tryz.prog 282 (kv x) := by
  unfold isKey keyOf
  obtain ⟨n, hn⟩ : ∃ n, Tryz.prog.types.size = n := ⟨_, rfl⟩
  have w1 := okb_wf h1
  have w2 := okb_wf h2
  have w3 := okb_wf h3
  have hk := ktype
  have hf : (kv x).formed Tryz.prog 282 = true := by
    unfold kv Value.formed
    simp [kund, kcell]
  have hc : (kv x).cells.toList = [.int .u8 x.1, .int .u8 x.2.1, .int .u8 x.2.2] := rfl
  have hn1 : 1 ≤ n := by rw [← hn]; decide +kernel
  obtain ⟨n', rfl⟩ : ∃ n', n = n' + 1 := ⟨n - 1, by omega⟩
  simp only [kund]
  rw [hk, hf, hn, hc]
  have kl' : ∀ a : Int, (Lit.int .u8 a).wf = true → Tryz.prog.keyLits (n' + 1) 5 [.int .u8 a] = some [.int .u8 a] := fun a h => by
    simp [Program.keyLits, kundb, h]
  have kl3' : Tryz.prog.keyLits (n' + 1 + 1) 282 [.int .u8 x.1, .int .u8 x.2.1, .int .u8 x.2.2] = some [.int .u8 x.1, .int .u8 x.2.1, .int .u8 x.2.2] := by
    rw [Program.keyLits.eq_def]
    simp only [kund, kcell, kcellb]
    simp [kl' _ w1, kl' _ w2, kl' _ w3, List.range, List.range.loop]
  rw [kl3']
  exact ⟨_, rfl⟩
end Go.Proofs.YteelffkghidpfaaGreat

set_option linter.unusedVariables false
set_option linter.unusedSimpArgs false
set_option maxRecDepth 100000
namespace Go.Proofs.YteelffkghidpfaaGreat
open Sx Go
theorem kzero (w : World) : (zeroValue 199).run Tryz.prog w = .ok (.slice none 0 0) w := by
  have h : (Tryz.prog.info? 199).bind (·.zero) = some (.slice none 0 0) := by kernel_rfl
  obtain ⟨x, h1, h2⟩ := Option.bind_eq_some_iff.1 h
  simp [zeroValue, typeInfo, h1, h2]
theorem ints_i64 (l : List Nat) (j : Nat) (h : j < l.length) : (ints .i64 (l.map Int.ofNat))[j]? = some (.int .i64 (l.getD j 0 : Nat)) := by
  unfold ints
  rw [List.getElem?_map, List.getElem?_map, List.getElem?_eq_getElem h]
  simp [List.getD_eq_getElem?_getD, h]
theorem drop3 (B : List Int) (i : Nat) (h : i + 3 ≤ B.length) : ((ints .u8 B).drop (i * 1)).take 3 = [.int .u8 (k3 B i).1, .int .u8 (k3 B i).2.1, .int .u8 (k3 B i).2.2] := by
  unfold k3
  have e : B.drop i = B.getD i 0 :: B.getD (i + 1) 0 :: B.getD (i + 2) 0 :: B.drop (i + 3) := by
    rw [List.drop_eq_getElem_cons (by omega), List.drop_eq_getElem_cons (by omega), List.drop_eq_getElem_cons (by omega)]
    simp [List.getD_eq_getElem?_getD, List.getElem?_eq_getElem (show i < B.length by omega), List.getElem?_eq_getElem (show i + 1 < B.length by omega), List.getElem?_eq_getElem (show i + 2 < B.length by omega)]
  unfold ints
  rw [Nat.mul_one, ← List.map_drop, e]
  rfl
/-- the byte of a token's cells -/
def tkx (B : List Int) (at_ n : Nat) : Int := if n = 0 then B.getD at_ 0 else 0
section
variable {w0 : World} {H : List Asn}
attribute [local irreducible] pst plc sam
set_option maxRecDepth 10000 in
set_option maxHeartbeats 4000000 in
/-- the places, from the newest on -/
theorem Best_t {R : Ending → World → Prop} (bp bt br : Nat) (u : Value) (p : Option Addr) (c m : Nat) (B : List Int) (i : Nat) (L : List Nat) (q : Option Addr) (dd : Nat)
    (hr : Rd w0 H (.slice p m c) m (ints .u8 B)) (hb : blk bp [.slice p m c, u] ∈ H) (hm : B.length = m) (hl : Rd w0 H (.slice q L.length dd) L.length (ints .i64 (L.map Int.ofNat))) (hi : i < m) (hL : ∀ j, j < L.length → L.getD j 0 < i) (h4 : m ≤ 1100000) (hLl : L.length ≤ 1100000)
    (hR : ∀ w s, s = pst B i L.reverse (0, 0) → (s = (0, 0) ∨ 0 < s.1) → St w0 H w → R (.returned (.agg #[.int .u8 (tkx B i s.1), .int .i64 s.1, .int .i64 s.2])) w) :
    JS Tryz.prog 218 Tryz.f218.ntmps R [] w0 (todo Tryz.f218 [.b, .b, .b, .b, .a]) [(0, .pointer (some ⟨bp, 0, none⟩)), (1, .int .i64 i), (4, .pointer (some ⟨br, 0, none⟩)), (5, .pointer (some ⟨bt, 0, none⟩)), (6, .slice q L.length dd)]
      (blk bt [.int .u8 (B.getD i 0), .int .i64 0, .int .i64 0] :: blk br [.int .u8 0, .int .i64 0, .int .i64 0] :: H) := by
  refine JS_at rfl ?_
  repeat (first | (refine sx ?_; try intro _))
  refine JS_loop3 (fun (k n d : Nat) => [(0, .pointer (some ⟨bp, 0, none⟩)), (1, .int .i64 i), (4, .pointer (some ⟨br, 0, none⟩)), (5, .pointer (some ⟨bt, 0, none⟩)), (6, .slice q L.length dd), (7, .int .i64 (k - 1 : Int))])
    (fun k n d => blk bt [.int .u8 (tkx B i n), .int .i64 n, .int .i64 d] :: blk br [.int .u8 0, .int .i64 0, .int .i64 0] :: H)
    (fun k n d => k ≤ L.length ∧ n ≠ 258 ∧ ((n, d) = (0, 0) ∨ 0 < n) ∧ pst B i L.reverse (0, 0) = pst B i (L.take k).reverse (n, d)) (fun k _ _ => k) L.length 0 0 ⟨Nat.le_refl _, by omega, .inl rfl, by rw [List.take_length]⟩ (by repeat (first | exact trivial | refine ⟨rfl, ?_⟩ | refine ⟨lookI rfl (by omega), ?_⟩)) (fun w h => by rw [show tkx B i 0 = B.getD i 0 from rfl]; exact h) ?_
  intro k n d ⟨hk, hn, hnd, he⟩ again
  have hfinal : ∀ (n d : Nat), pst B i L.reverse (0, 0) = (n, d) → ((n, d) = (0, 0) ∨ 0 < n) → ∀ w, St w0 (blk bt [.int .u8 (tkx B i n), .int .i64 n, .int .i64 d] :: blk br [.int .u8 (tkx B i n), .int .i64 n, .int .i64 d] :: H) w → R (.returned (.agg #[.int .u8 (tkx B i n), .int .i64 n, .int .i64 d])) w :=
    fun n d h1 h2 w hw => hR w (n, d) h1.symm h2 hw.drop.drop
  cases k with
  | zero =>
    clear again
    rw [show ((0 : Nat) : Int) - 1 = -1 from rfl]
    have hf := hfinal n d (by rw [he]; unfold pst; rfl) hnd
    repeat (first | (refine sx ?_; try intro _))
    refine JS_retC (tb := tb) (vs := [.agg #[.int .u8 (tkx B i n), .int .i64 n, .int .i64 d]]) Tryz.func218 rfl (by first | exact ResV.agg (tb := tb) rfl (by repeat (first | apply List.Mem.head | apply List.Mem.tail)) rfl rfl rfl ResV.nil | exact ResV.agg (tb := tb) rfl (by repeat (first | apply List.Mem.head | apply List.Mem.tail)) rfl rfl rfl (ResV.tmp rfl ResV.nil) | exact ResV.agg (tb := tb) rfl (by repeat (first | apply List.Mem.head | apply List.Mem.tail)) rfl rfl rfl (ResV.tmp rfl (ResV.tmp rfl ResV.nil)) | exact ResV.one (tb := tb) rfl (by repeat (first | apply List.Mem.head | apply List.Mem.tail)) rfl rfl rfl ResV.nil | exact ResV.one (tb := tb) rfl (by repeat (first | apply List.Mem.head | apply List.Mem.tail)) rfl rfl rfl (ResV.tmp rfl ResV.nil) | exact ResV.one (tb := tb) rfl (by repeat (first | apply List.Mem.head | apply List.Mem.tail)) rfl rfl rfl (ResV.one (tb := tb) rfl (by repeat (first | apply List.Mem.head | apply List.Mem.tail)) rfl rfl rfl ResV.nil) | exact ResV.tmp rfl (ResV.agg (tb := tb) rfl (by repeat (first | apply List.Mem.head | apply List.Mem.tail)) rfl rfl rfl ResV.nil) | exact ResV.tmp rfl (ResV.one (tb := tb) rfl (by repeat (first | apply List.Mem.head | apply List.Mem.tail)) rfl rfl rfl ResV.nil)) hf
  | succ k =>
    rw [show ((k + 1 : Nat) : Int) - 1 = (k : Int) by omega]
    have gL := ints_i64 L k (by omega)
    have hjl := hL k (by omega)
    obtain ⟨j, hj⟩ : ∃ j, L.getD k 0 = j := ⟨_, rfl⟩
    rw [hj] at gL hjl
    have htk : (L.take (k + 1)).reverse = j :: (L.take k).reverse := by
      rw [List.take_add_one, List.reverse_append, List.getElem?_eq_getElem (by omega)]
      rw [List.getD_eq_getElem?_getD, List.getElem?_eq_getElem (by omega)] at hj
      simp only [Option.getD_some] at hj
      rw [hj]; rfl
    rw [htk] at he
    by_cases hfar : 32768 < i - j
    · clear again
      have hf := hfinal n d (by rw [he]; unfold pst; rw [if_pos hfar]) hnd
      repeat (first | (apply gJO; refine JO_v (oL (V_loadC (tb := tb) rfl (Rd_weak hl fun w hw => dS hw) rfl rfl gL rfl)) ?_) | (first | (refine sx ?_; try intro _)))
      refine JS_retC (tb := tb) (vs := [.agg #[.int .u8 (tkx B i n), .int .i64 n, .int .i64 d]]) Tryz.func218 rfl (by first | exact ResV.agg (tb := tb) rfl (by repeat (first | apply List.Mem.head | apply List.Mem.tail)) rfl rfl rfl ResV.nil | exact ResV.agg (tb := tb) rfl (by repeat (first | apply List.Mem.head | apply List.Mem.tail)) rfl rfl rfl (ResV.tmp rfl ResV.nil) | exact ResV.agg (tb := tb) rfl (by repeat (first | apply List.Mem.head | apply List.Mem.tail)) rfl rfl rfl (ResV.tmp rfl (ResV.tmp rfl ResV.nil)) | exact ResV.one (tb := tb) rfl (by repeat (first | apply List.Mem.head | apply List.Mem.tail)) rfl rfl rfl ResV.nil | exact ResV.one (tb := tb) rfl (by repeat (first | apply List.Mem.head | apply List.Mem.tail)) rfl rfl rfl (ResV.tmp rfl ResV.nil) | exact ResV.one (tb := tb) rfl (by repeat (first | apply List.Mem.head | apply List.Mem.tail)) rfl rfl rfl (ResV.one (tb := tb) rfl (by repeat (first | apply List.Mem.head | apply List.Mem.tail)) rfl rfl rfl ResV.nil) | exact ResV.tmp rfl (ResV.agg (tb := tb) rfl (by repeat (first | apply List.Mem.head | apply List.Mem.tail)) rfl rfl rfl ResV.nil) | exact ResV.tmp rfl (ResV.one (tb := tb) rfl (by repeat (first | apply List.Mem.head | apply List.Mem.tail)) rfl rfl rfl ResV.nil)) hf
    · have hs := sam_le B 258 j i
      repeat (first | (apply gJO; refine JO_v (oL (V_loadC (tb := tb) rfl (Rd_weak hl fun w hw => dS hw) rfl rfl gL rfl)) ?_) | (first | (refine sx ?_; try intro _)))
      refine JO_call Tryz.call240 rfl rfl fun w hw => (Same_c bp u p c m B (Rd_weak hr fun w hw => dS hw) (List.Mem.tail _ (List.Mem.tail _ hb)) hm j i hjl (by omega) (by omega) w hw).mono ?_
      rintro e w' ⟨rfl, hw'⟩
      refine ⟨_, rfl, _, hw', ?_⟩
      clear hw' hw w w'
      have hpst : pst B i (j :: (L.take k).reverse) (n, d) = if (if n < sam B j i 258 then (sam B j i 258, i - j) else (n, d)).1 = 258 then (if n < sam B j i 258 then (sam B j i 258, i - j) else (n, d)) else pst B i (L.take k).reverse (if n < sam B j i 258 then (sam B j i 258, i - j) else (n, d)) := by
        rw [pst.eq_def]; simp only []; rw [if_neg hfar]
      rw [hpst] at he
      clear hpst htk
      obtain ⟨s, hse⟩ : ∃ s, sam B j i 258 = s := ⟨_, rfl⟩
      rw [hse] at he hs ⊢
      have hij : ((i : Int) - (j : Int)) = ((i - j : Nat) : Int) := by omega
      by_cases hlt : n < s
      · rw [if_pos hlt] at he
        have hx0 : tkx B i s = 0 := by unfold tkx; rw [if_neg (by omega)]
        repeat (first | (apply gJO; refine JO_v (oL (V_loadC (tb := tb) rfl (Rd_weak hl fun w hw => dS hw) rfl rfl gL rfl)) ?_) | (first | (refine sx ?_; try intro _)))
        rw [hij, show (Value.int .u8 0) = .int .u8 (tkx B i s) by rw [hx0]]
        by_cases h258 : s = 258
        · rw [if_pos h258] at he
          have hf := hfinal s (i - j) he (.inr (by omega))
          clear again
          repeat (first | (refine sx ?_; try intro _))
          refine JS_retC (tb := tb) (vs := [.agg #[.int .u8 (tkx B i s), .int .i64 s, .int .i64 (i - j : Nat)]]) Tryz.func218 rfl (by first | exact ResV.agg (tb := tb) rfl (by repeat (first | apply List.Mem.head | apply List.Mem.tail)) rfl rfl rfl ResV.nil | exact ResV.agg (tb := tb) rfl (by repeat (first | apply List.Mem.head | apply List.Mem.tail)) rfl rfl rfl (ResV.tmp rfl ResV.nil) | exact ResV.agg (tb := tb) rfl (by repeat (first | apply List.Mem.head | apply List.Mem.tail)) rfl rfl rfl (ResV.tmp rfl (ResV.tmp rfl ResV.nil)) | exact ResV.one (tb := tb) rfl (by repeat (first | apply List.Mem.head | apply List.Mem.tail)) rfl rfl rfl ResV.nil | exact ResV.one (tb := tb) rfl (by repeat (first | apply List.Mem.head | apply List.Mem.tail)) rfl rfl rfl (ResV.tmp rfl ResV.nil) | exact ResV.one (tb := tb) rfl (by repeat (first | apply List.Mem.head | apply List.Mem.tail)) rfl rfl rfl (ResV.one (tb := tb) rfl (by repeat (first | apply List.Mem.head | apply List.Mem.tail)) rfl rfl rfl ResV.nil) | exact ResV.tmp rfl (ResV.agg (tb := tb) rfl (by repeat (first | apply List.Mem.head | apply List.Mem.tail)) rfl rfl rfl ResV.nil) | exact ResV.tmp rfl (ResV.one (tb := tb) rfl (by repeat (first | apply List.Mem.head | apply List.Mem.tail)) rfl rfl rfl ResV.nil)) hf
        · rw [if_neg h258] at he
          repeat (first | (refine sx ?_; try intro _))
          exact JS_again3 again k s (i - j) ⟨by omega, h258, .inr (by omega), he⟩ (by omega) (by repeat (first | exact trivial | refine ⟨rfl, ?_⟩ | refine ⟨lookI rfl (by omega), ?_⟩)) (fun w hw => by rw [hx0] at hw ⊢; exact hw)
      · rw [if_neg hlt] at he
        rw [if_neg hn] at he
        repeat (first | (refine sx ?_; try intro _))
        exact JS_again3 again k n d ⟨by omega, hn, hnd, he⟩ (by omega) (by repeat (first | exact trivial | refine ⟨rfl, ?_⟩ | refine ⟨lookI rfl (by omega), ?_⟩)) (fun w hw => hw)
attribute [local irreducible] tok k3
theorem kk3 {B : List Int} (hB : OKB B) (i : Nat) : isKey Tryz.prog 282 (kv (k3 B i)) := by
  unfold k3
  exact kv_key (hB i) (hB (i + 1)) (hB (i + 2))
theorem tok_pst {B : List Int} {i : Nat} (h3 : i + 3 ≤ B.length) {s : Nat × Nat} (hs : s = pst B i (plc B i (k3 B i)).reverse (0, 0)) (h0 : s = (0, 0) ∨ 0 < s.1) : tok B i = (tkx B i s.1, s.1, s.2) := by
  rw [tok_far B i h3, ← hs]
  unfold tkx
  rcases h0 with rfl | h0
  · rfl
  · rw [if_neg (fun h => by rw [h] at h0; simp at h0), if_neg (by omega)]
theorem plc_getD {B : List Int} {i : Nat} {x : K3} : ∀ j, j < (plc B i x).length → (plc B i x).getD j 0 < i := fun j hj => by
  rw [List.getD_eq_getElem?_getD, List.getElem?_eq_getElem hj]
  exact plc_lt (List.getElem_mem hj)
theorem plc_len {B : List Int} {i : Nat} {x : K3} : (plc B i x).length ≤ i := by
  have := List.length_filter_le (fun i => decide (i + 3 ≤ B.length ∧ k3 B i = x)) (List.range i)
  rw [List.length_range] at this
  unfold plc; exact this
theorem Rd_nil : Rd w0 H (.slice none 0 0) 0 [] := by
  unfold Rd
  exact fun w hw => ⟨⟨_, _, rfl, fun _ => rfl, Nat.le_refl _⟩, fun j v hv => by simp at hv⟩
/-- one entry's slice taken out -/
abbrev plO (bp bm : Nat) (p : Option Addr) (c m : Nat) (es : List MapEntry) (A C : List PX) (x : PX) (clock : Nat) (H : List Asn) : List Asn := vx x :: blk bp [.slice p m c, .map (some bm)] :: mapL bm es clock :: bigA (A.map vx ++ C.map vx) :: H
theorem plA_out0 {bp bm : Nat} {p : Option Addr} {c m : Nat} {X A C : List PX} {x : PX} {clock : Nat} (hAC : X = A ++ x :: C) {w : World} (h : St w0 (plA bp bm p c m X clock H) w) : St w0 (plO bp bm p c m (X.map Prod.fst) A C x clock H) w := by
  have hbig : X.map vx = A.map vx ++ vx x :: C.map vx := by rw [hAC, List.map_append, List.map_cons]
  unfold plA at h
  rw [hbig] at h
  have h1 := (h.perm (List.perm_middle (l₁ := [_, _]))).big_out
  exact h1.perm (List.Perm.cons _ (List.perm_middle (l₁ := [_, _])).symm)
theorem plA_in {bp bm : Nat} {p : Option Addr} {c m : Nat} {X A C : List PX} {x : PX} {clock : Nat} (hAC : X = A ++ x :: C) {w : World} (h : St w0 (plO bp bm p c m (X.map Prod.fst) A C x clock H) w) : St w0 (plA bp bm p c m X clock H) w := by
  have hbig : X.map vx = A.map vx ++ vx x :: C.map vx := by rw [hAC, List.map_append, List.map_cons]
  unfold plA
  rw [hbig]
  have h1 : St w0 (vx x :: bigA (A.map vx ++ C.map vx) :: ([blk bp [.slice p m c, .map (some bm)], mapL bm (X.map Prod.fst) clock] ++ H)) w := h.perm (List.Perm.cons _ (List.perm_middle (l₁ := [_, _])))
  exact h1.big_in.perm (List.perm_middle (l₁ := [_, _])).symm
theorem plA_out {a1 a2 : Asn} {bp bm : Nat} {p : Option Addr} {c m : Nat} {X A C : List PX} {x : PX} {clock : Nat} (hAC : X = A ++ x :: C) {w : World} (h : St w0 (a1 :: a2 :: plA bp bm p c m X clock H) w) : St w0 (a1 :: a2 :: plO bp bm p c m (X.map Prod.fst) A C x clock H) w := by
  have h1 : St w0 (plA bp bm p c m X clock (a1 :: a2 :: H)) w := h.perm ((List.perm_append_comm (l₁ := [a1, a2]) (l₂ := [_, _, _])).append_right H)
  exact (plA_out0 hAC h1).perm ((List.perm_append_comm (l₁ := [_, _, _, _]) (l₂ := [a1, a2])).append_right H)
set_option maxRecDepth 10000 in
set_option maxHeartbeats 4000000 in
/-- the token at a place -/
theorem Best_c (bp bm : Nat) (p : Option Addr) (c m : Nat) (X : List PX) (clock : Nat) (B : List Int) (i : Nat) (hr : Rd w0 H (.slice p m c) m (ints .u8 B)) (hm : B.length = m) (hB : OKB B) (hX : PI B i X clock) (hi : i < m) (h4 : m ≤ 1100000) (w : World) (hw : St w0 (plA bp bm p c m X clock H) w) :
    Calls Tryz.prog 218 #[.pointer (some ⟨bp, 0, none⟩), .int .i64 i] w fun e w' => e = .returned (.agg #[.int .u8 (tok B i).1, .int .i64 (tok B i).2.1, .int .i64 (tok B i).2.2]) ∧ St w0 (plA bp bm p c m X clock H) w' := by
  refine enter (vs := [.pointer (some ⟨bp, 0, none⟩), .int .i64 i]) Tryz.func218 rfl rfl rfl hw ?_
  have gB : (ints .u8 B)[i]? = some (.int .u8 (B.getD i 0)) := ints_get (by omega)
  have hmc : m ≤ c := (hr.lcap hw.drop.drop.drop).1
  clear hw w
  by_cases h3 : m < i + 3
  · rw [tok_near B i (by omega)]
    repeat (first | (apply gJO; refine JO_v (oL (V_loadC (tb := tb) rfl (Rd_weak hr fun w hw => dS hw) rfl rfl gB rfl)) ?_) | (first | (refine sx ?_; try intro _)))
    refine JS_retC (tb := tb) (vs := [.agg #[.int .u8 (B.getD i 0), .int .i64 0, .int .i64 0]]) Tryz.func218 rfl (by first | exact ResV.agg (tb := tb) rfl (by repeat (first | apply List.Mem.head | apply List.Mem.tail)) rfl rfl rfl ResV.nil | exact ResV.agg (tb := tb) rfl (by repeat (first | apply List.Mem.head | apply List.Mem.tail)) rfl rfl rfl (ResV.tmp rfl ResV.nil) | exact ResV.agg (tb := tb) rfl (by repeat (first | apply List.Mem.head | apply List.Mem.tail)) rfl rfl rfl (ResV.tmp rfl (ResV.tmp rfl ResV.nil)) | exact ResV.one (tb := tb) rfl (by repeat (first | apply List.Mem.head | apply List.Mem.tail)) rfl rfl rfl ResV.nil | exact ResV.one (tb := tb) rfl (by repeat (first | apply List.Mem.head | apply List.Mem.tail)) rfl rfl rfl (ResV.tmp rfl ResV.nil) | exact ResV.one (tb := tb) rfl (by repeat (first | apply List.Mem.head | apply List.Mem.tail)) rfl rfl rfl (ResV.one (tb := tb) rfl (by repeat (first | apply List.Mem.head | apply List.Mem.tail)) rfl rfl rfl ResV.nil) | exact ResV.tmp rfl (ResV.agg (tb := tb) rfl (by repeat (first | apply List.Mem.head | apply List.Mem.tail)) rfl rfl rfl ResV.nil) | exact ResV.tmp rfl (ResV.one (tb := tb) rfl (by repeat (first | apply List.Mem.head | apply List.Mem.tail)) rfl rfl rfl ResV.nil)) ?_
    intro w hw
    exact ⟨rfl, hw.drop.drop⟩
  · have hd3 := drop3 B i (by omega)
    have hkey := kk3 hB i
    repeat (first | (apply gJO; refine JO_v (oL (V_loadC (tb := tb) rfl (Rd_weak hr fun w hw => dS hw) rfl rfl gB rfl)) ?_) | (apply gJS; apply JS_seq) | (apply gJS; apply JS_region) | (apply gJS; refine JS_cond_F rfl (by omega) ?_) | (apply gJS; apply JS_skip) | (apply gJS; apply JS_block) | (apply gJO; first | (refine sx ?_; try intro _)) | (apply gJR; first | (refine sx ?_; try intro _)))
    by_cases hf : ∃ x ∈ X, x.1.key = kv (k3 B i)
    · obtain ⟨x, hx, hxk⟩ := hf
      obtain ⟨i', _, _, hk', hp', q, dd, hv⟩ := hX.key x hx
      have : k3 B i' = k3 B i := kv_inj (hk'.symm.trans hxk)
      rw [this] at hp'
      rw [hp'] at hv
      have hxm : x.1 ∈ X.map Prod.fst := List.mem_map.2 ⟨x, hx, rfl⟩
      obtain ⟨A, C, hAC⟩ := List.append_of_mem hx
      have hrx : Rd w0 (plO bp bm p c m (X.map Prod.fst) A C x clock H) (.slice q (plc B i (k3 B i)).length dd) (plc B i (k3 B i)).length (ints .i64 ((plc B i (k3 B i)).map Int.ofNat)) := by
        have := vec_rd (w0 := w0) (H := plO bp bm p c m (X.map Prod.fst) A C x clock H) (v := x.1.val) (n := x.2.length) (cs := ints .i64 (x.2.map Int.ofNat)) (e := 3) (size := 1) (List.Mem.head _)
        rw [hv, hp'] at this
        exact this
      repeat (first | (apply gQO; refine QO_v rfl (V_loadSub (tb := tb) (lo := i) (q := 3) rfl (Rd_weak hr fun w hw => dS hw) rfl rfl (by omega) rfl (by decide) rfl hd3 rfl) ?_) | (apply gQO; refine QO_v rfl (V_slice (tb := tb) (lo := i) (hi := i + 3) rfl rfl rfl rfl rfl rfl (by omega) (fun w hw => ⟨by omega, by omega⟩) rfl) ?_) | (apply gQO; refine QO_v rfl (V_arrayAt (tb := tb) rfl rfl (by omega) rfl) ?_) | (apply gQO; refine QO_e (OpE_ofV (V_lookupT (tb := tb) kkt rfl rfl rfl (by repeat (first | apply List.Mem.head | apply List.Mem.tail)) hX.ok hxm hxk rfl)) rfl (.inr fun _ w hw => hw) ?_; intro _) | (apply hIx 5) | (first | (refine sx ?_; try intro _)))
      refine Hold.go ?_
      rw [hv]
      refine JS_H (fun w hw => plA_out hAC hw) ?_
      exact JS_of_at (fn := Tryz.f218) (p := [.b, .b, .b, .b, .a]) (JS_ov (by repeat (first | exact trivial | refine ⟨rfl, ?_⟩ | refine ⟨lookI rfl (by omega), ?_⟩)) (Best_t bp _ _ _ p c m B i (plc B i (k3 B i)) q dd (Rd_weak hr fun w hw => dS hw) (by repeat (first | apply List.Mem.head | apply List.Mem.tail)) hm hrx hi plc_getD h4 (Nat.le_trans plc_len (by omega)) fun w s h1 h2 hw => ⟨by rw [tok_pst (by omega) h1 h2], plA_in hAC hw⟩)) rfl
    · have hnil : plc B i (k3 B i) = [] := by
        cases hp : plc B i (k3 B i) with
        | nil => rfl
        | cons j r =>
          have hj : j ∈ plc B i (k3 B i) := by rw [hp]; simp
          have hlt := plc_lt hj
          have hjk : j + 3 ≤ B.length ∧ k3 B j = k3 B i := by
            have : j ∈ (List.range i).filter fun i' => decide (i' + 3 ≤ B.length ∧ k3 B i' = k3 B i) := by unfold plc at hj; exact hj
            simpa using (List.mem_filter.1 this).2
          obtain ⟨x, hx, hxk⟩ := hX.all j hlt hjk.1
          exact absurd ⟨x, hx, by rw [hxk, hjk.2]⟩ hf
      have hmiss : ∀ e ∈ X.map Prod.fst, e.key ≠ kv (k3 B i) := fun e he hk => by
        obtain ⟨x, hx, rfl⟩ := List.mem_map.1 he
        exact hf ⟨x, hx, hk⟩
      have hrn : Rd w0 (plA bp bm p c m X clock H) (.slice none ([] : List Nat).length 0) ([] : List Nat).length (ints .i64 (([] : List Nat).map Int.ofNat)) := Rd_nil
      repeat (first | (apply gQO; refine QO_v rfl (V_loadSub (tb := tb) (lo := i) (q := 3) rfl (Rd_weak hr fun w hw => dS hw) rfl rfl (by omega) rfl (by decide) rfl hd3 rfl) ?_) | (apply gQO; refine QO_v rfl (V_slice (tb := tb) (lo := i) (hi := i + 3) rfl rfl rfl rfl rfl rfl (by omega) (fun w hw => ⟨by omega, by omega⟩) rfl) ?_) | (apply gQO; refine QO_v rfl (V_arrayAt (tb := tb) rfl rfl (by omega) rfl) ?_) | (apply gQO; refine QO_e (OpE_ofV (V_lookupF (tb := tb) kkt rfl rfl rfl (by repeat (first | apply List.Mem.head | apply List.Mem.tail)) hX.ok hkey hmiss kzero rfl)) rfl (.inr fun _ w hw => hw) ?_; intro _) | (apply hIx 5) | (first | (refine sx ?_; try intro _)))
      refine Hold.go ?_
      exact JS_of_at (fn := Tryz.f218) (p := [.b, .b, .b, .b, .a]) (JS_ov (by repeat (first | exact trivial | refine ⟨rfl, ?_⟩ | refine ⟨lookI rfl (by omega), ?_⟩)) (Best_t bp _ _ _ p c m B i [] none 0 (Rd_weak hr fun w hw => dS hw) (by repeat (first | apply List.Mem.head | apply List.Mem.tail)) hm hrn hi (fun j hj => absurd hj (by simp)) h4 (by simp) fun w s h1 h2 hw => ⟨by rw [tok_pst (by omega) (by rw [hnil]; exact h1) h2], hw⟩)) rfl
end
end Go.Proofs.YteelffkghidpfaaGreat

set_option linter.unusedVariables false
set_option linter.unusedSimpArgs false
set_option maxRecDepth 100000
namespace Go.Proofs.YteelffkghidpfaaGreat
open Sx Go
section
variable {w0 : World} {H : List Asn}
attribute [local irreducible] pst plc sam k3
theorem plc_id {B : List Int} {i : Nat} {x : K3} (h : k3 B i ≠ x) : plc B (i + 1) x = plc B i x := by rw [plc_s, if_neg (fun h' => h h'.2)]
theorem PI.near {B : List Int} {i : Nat} {X : List PX} {clock : Nat} (h : PI B i X clock) (h3 : B.length < i + 3) : PI B (i + 1) X clock := by
  refine ⟨h.ok, fun x hx => ?_, fun j hj hj3 => h.all j (by omega) hj3⟩
  obtain ⟨i', h1, h2, h3', h4, h5⟩ := h.key x hx
  exact ⟨i', h1, by omega, h3', by rw [h4, plc_s, if_neg (by omega)], h5⟩
theorem PI.more {B : List Int} {i : Nat} {A C : List PX} {x : PX} {clock : Nat} (h : PI B i (A ++ x :: C) clock) (h3 : i + 3 ≤ B.length) (hk : x.1.key = kv (k3 B i)) (p : Option Addr) (c : Nat) :
    PI B (i + 1) (A ++ ({ x.1 with val := .slice p (x.2.length + 1) c }, x.2 ++ [i]) :: C) clock := by
  have hother : ∀ y ∈ A ++ C, ∃ j, j + 3 ≤ B.length ∧ j < i + 1 ∧ y.1.key = kv (k3 B j) ∧ y.2 = plc B (i + 1) (k3 B j) ∧ ∃ q d, y.1.val = .slice q y.2.length d := fun y hy => by
    have hyX : y ∈ A ++ x :: C := by
      rcases List.mem_append.1 hy with hy | hy
      · exact List.mem_append_left _ hy
      · exact List.mem_append_right _ (List.mem_cons_of_mem _ hy)
    obtain ⟨j, h1, h2, h4, h5, h6⟩ := h.key y hyX
    have hne : y.1.key ≠ x.1.key := by
      have hn := h.ok.nodup
      rw [List.map_map, List.map_append, List.map_cons] at hn
      have hn2 := (List.perm_middle.nodup_iff).1 hn
      rw [List.nodup_cons, ← List.map_append] at hn2
      exact fun e => hn2.1 (List.mem_map.2 ⟨y, hy, e⟩)
    exact ⟨j, h1, by omega, h4, by rw [h5, plc_id (fun e => hne (by rw [h4, hk, e]))], h6⟩
  refine ⟨?_, fun y hy => ?_, fun j hj hj3 => ?_⟩
  · have := h.ok
    rw [List.map_append, List.map_cons] at this ⊢
    exact this.setv _
  · rcases List.mem_append.1 hy with hy | hy
    · exact hother y (List.mem_append_left _ hy)
    · rcases List.mem_cons.1 hy with rfl | hy
      · obtain ⟨j, h1, h2, h4, h5, h6⟩ := h.key x (by simp)
        refine ⟨i, h3, by omega, hk, ?_, p, c, ?_⟩
        · have : k3 B j = k3 B i := kv_inj (h4.symm.trans hk)
          show x.2 ++ [i] = _
          rw [plc_s, if_pos ⟨h3, rfl⟩, h5, this]
        · simp
      · exact hother y (List.mem_append_right _ hy)
  · rcases Nat.lt_or_ge j i with hji | hji
    · obtain ⟨y, hy, hyk⟩ := h.all j hji hj3
      rcases List.mem_append.1 hy with hy | hy
      · exact ⟨y, List.mem_append_left _ hy, hyk⟩
      · rcases List.mem_cons.1 hy with rfl | hy
        · exact ⟨_, List.mem_append_right _ (List.mem_cons_self ..), hyk⟩
        · exact ⟨y, List.mem_append_right _ (List.mem_cons_of_mem _ hy), hyk⟩
    · obtain rfl : j = i := by omega
      exact ⟨_, List.mem_append_right _ (List.mem_cons_self ..), hk⟩
theorem PI.new {B : List Int} {i : Nat} {X : List PX} {clock : Nat} (h : PI B i X clock) (hB : OKB B) (h3 : i + 3 ≤ B.length) (hn : ¬ ∃ x ∈ X, x.1.key = kv (k3 B i)) (hp : plc B i (k3 B i) = []) (p : Option Addr) (c : Nat) :
    PI B (i + 1) (X ++ (⟨kv (k3 B i), .slice p 1 c, clock⟩, [i]) :: []) (clock + 1) := by
  refine ⟨?_, fun y hy => ?_, fun j hj hj3 => ?_⟩
  · rw [List.map_append, List.map_cons, List.map_nil]
    refine h.ok.push (kk3 hB i) fun e he hk => ?_
    obtain ⟨x, hx, rfl⟩ := List.mem_map.1 he
    exact hn ⟨x, hx, hk⟩
  · rcases List.mem_append.1 hy with hy | hy
    · obtain ⟨j, h1, h2, h4, h5, h6⟩ := h.key y hy
      exact ⟨j, h1, by omega, h4, by rw [h5, plc_id (fun e => hn ⟨y, hy, by rw [h4, e]⟩)], h6⟩
    · simp at hy
      subst hy
      exact ⟨i, h3, by omega, rfl, by rw [plc_s, if_pos ⟨h3, rfl⟩, hp]; rfl, p, c, rfl⟩
  · rcases Nat.lt_or_ge j i with hji | hji
    · obtain ⟨y, hy, hyk⟩ := h.all j hji hj3
      exact ⟨y, List.mem_append_left _ hy, hyk⟩
    · obtain rfl : j = i := by omega
      exact ⟨_, List.mem_append_right _ (List.mem_cons_self ..), rfl⟩
theorem plc_nil {B : List Int} {i : Nat} {X : List PX} {clock : Nat} (hX : PI B i X clock) (hf : ¬ ∃ x ∈ X, x.1.key = kv (k3 B i)) : plc B i (k3 B i) = [] := by
  cases hp : plc B i (k3 B i) with
  | nil => rfl
  | cons j r =>
    have hj : j ∈ plc B i (k3 B i) := by rw [hp]; simp
    have hlt := plc_lt hj
    have hjk : j + 3 ≤ B.length ∧ k3 B j = k3 B i := by
      have : j ∈ (List.range i).filter fun i' => decide (i' + 3 ≤ B.length ∧ k3 B i' = k3 B i) := by unfold plc at hj; exact hj
      simpa using (List.mem_filter.1 this).2
    obtain ⟨x, hx, hxk⟩ := hX.all j hlt hjk.1
    exact absurd ⟨x, hx, by rw [hxk, hjk.2]⟩ hf
set_option maxRecDepth 10000 in
set_option maxHeartbeats 4000000 in
/-- a place is noted -/
theorem Note_c (bp bm : Nat) (p : Option Addr) (c m : Nat) (X : List PX) (clock : Nat) (B : List Int) (i : Nat) (hr : Rd w0 H (.slice p m c) m (ints .u8 B)) (hm : B.length = m) (hB : OKB B) (hX : PI B i X clock) (hi : i < m) (h4 : m ≤ 1100000) (w : World) (hw : St w0 (plA bp bm p c m X clock H) w) :
    Calls Tryz.prog 219 #[.pointer (some ⟨bp, 0, none⟩), .int .i64 i] w fun e w' => e = .returned (.tuple #[]) ∧ ∃ X clock, PI B (i + 1) X clock ∧ St w0 (plA bp bm p c m X clock H) w' := by
  refine enter (vs := [.pointer (some ⟨bp, 0, none⟩), .int .i64 i]) Tryz.func219 rfl rfl rfl hw ?_
  have hmc : m ≤ c := (hr.lcap hw.drop.drop.drop).1
  clear hw w
  by_cases h3 : m < i + 3
  · repeat (first | (refine sx ?_; try intro _))
    refine JS_fin Tryz.func219 rfl rfl (vs := []) ?_
    intro w hw
    exact ⟨rfl, X, clock, hX.near (by omega), hw⟩
  · have hd3 := drop3 B i (by omega)
    have hkey := kk3 hB i
    repeat (first | (apply gJO; refine JO_v (V_loadSub (tb := tb) (lo := i) (q := 3) rfl (Rd_weak hr fun w hw => dS hw) rfl rfl (by omega) rfl (by decide) rfl hd3 rfl) ?_) | (apply gJO; refine JO_v (V_slice (tb := tb) (lo := i) (hi := i + 3) rfl rfl rfl rfl rfl rfl (by omega) (fun w hw => ⟨by omega, by omega⟩) rfl) ?_) | (apply gJO; refine JO_v (V_arrayAt (tb := tb) rfl rfl (by omega) rfl) ?_) | (apply hIx' 2) | (first | (refine sx ?_; try intro _)))
    refine Hold.go ?_
    rename_i b4
    by_cases hf : ∃ x ∈ X, x.1.key = kv (k3 B i)
    · obtain ⟨x, hx, hxk⟩ := hf
      obtain ⟨i', _, _, hk', hp', q, dd, hv⟩ := hX.key x hx
      obtain ⟨A, C, hAC⟩ := List.append_of_mem hx
      have hX2 : X.map Prod.fst = A.map Prod.fst ++ x.1 :: C.map Prod.fst := by rw [hAC, List.map_append, List.map_cons]
      have hok := hX.ok
      rw [hX2] at hok
      have hvx : vx x = vec 3 1 (.slice q x.2.length dd) x.2.length (ints .i64 (x.2.map Int.ofNat)) := by unfold vx; rw [hv]
      have hln : x.2.length ≤ i := by rw [hp']; exact plc_len
      refine JS_H (H' := blk b4 [.int .u8 (k3 B i).1, .int .u8 (k3 B i).2.1, .int .u8 (k3 B i).2.2] :: vec 3 1 (.slice q x.2.length dd) x.2.length (ints .i64 (x.2.map Int.ofNat)) :: blk bp [.slice p m c, .map (some bm)] :: mapL bm (A.map Prod.fst ++ x.1 :: C.map Prod.fst) clock :: bigA (A.map vx ++ C.map vx) :: H) (fun w hw => by
        rw [← hX2, ← hvx]
        exact (plA_out0 hAC (hw.perm ((List.perm_append_comm (l₁ := [_]) (l₂ := [_, _, _])).append_right H))).perm ((List.perm_append_comm (l₁ := [_, _, _, _]) (l₂ := [_])).append_right H)) ?_
      have hxm : x.1 ∈ A.map Prod.fst ++ x.1 :: C.map Prod.fst := by simp
      obtain ⟨l, hl⟩ : ∃ l, x.2 = l := ⟨_, rfl⟩
      rw [hl] at hln hv ⊢
      refine JS_order [0, 1, 2, 3, 4, 5, 6, 7, 8, 10, 9, 11] [4, 0] (Picks.cons rfl (Picks.cons rfl (Picks.cons rfl (Picks.cons rfl (Picks.cons rfl (Picks.cons rfl (Picks.cons rfl (Picks.cons rfl (Picks.cons rfl (Picks.cons rfl (Picks.cons rfl (Picks.cons rfl (Picks.nil))))))))))))) (by kernel_rfl) (by kernel_rfl) rfl (by decide +kernel) ?_
      repeat (first | (apply gQO; (refine QO_e (E_buildSlice (tb := tb) rfl rfl rfl rfl rfl rfl rfl rfl rfl) rfl (.inr fun _ _ hw => dS hw) ?_; intro _)) | (apply gQO; refine QO_e (E_entryT (tb := tb) kkt rfl rfl rfl (by repeat (first | apply List.Mem.head | apply List.Mem.tail)) hok hxm hxk rfl) rfl (.inr fun _ w hw => hw) ?_; intro _) | (apply gQO; (refine QO_e (E_appendB (tb := tb) rfl rfl rfl rfl rfl rfl (by repeat (first | exact Sel.here _ _ | apply Sel.there)) (by first | exact vec_rd (by repeat (first | apply List.Mem.head | apply List.Mem.tail)) | assumption | exact ArgRd.rd (by assumption) _ | (apply Rd_weak; assumption; intro _ hx; exact dS hx)) (by simp only [ints_len, List.length_cons, List.length_nil]; first | omega | rfl) (by first | exact ints_one | (repeat (first | exact trivial | refine ⟨rfl, ?_⟩))) (by omega) (by omega) rfl) rfl (.inr fun _ _ hw => vecB_back (by repeat (first | exact Sel.here _ _ | apply Sel.there)) hw) ?_; intro _)) | (apply gQO; refine QO_k rfl (K_entryStore rfl rfl rfl (by repeat (first | exact Sel.here _ _ | apply Sel.there)) hok rfl) rfl ?_) | (first | (refine sx ?_; try intro _)))
      rw [hv]
      repeat (first | (apply gQO; (refine QO_e (E_appendB (tb := tb) rfl rfl rfl rfl rfl rfl (by repeat (first | exact Sel.here _ _ | apply Sel.there)) (by first | exact vec_rd (by repeat (first | apply List.Mem.head | apply List.Mem.tail)) | assumption | exact ArgRd.rd (by assumption) _ | (apply Rd_weak; assumption; intro _ hx; exact dS hx)) (by simp only [ints_len, List.length_cons, List.length_nil]; first | omega | rfl) (by first | exact ints_one | (repeat (first | exact trivial | refine ⟨rfl, ?_⟩))) (by omega) (by omega) rfl) rfl (.inr fun _ _ hw => vecB_back (by repeat (first | exact Sel.here _ _ | apply Sel.there)) hw) ?_; intro _)) | (apply gQO; refine QO_k rfl (K_entryStore rfl rfl rfl (by repeat (first | exact Sel.here _ _ | apply Sel.there)) hok rfl) rfl ?_) | (first | (refine sx ?_; try intro _)))
      rename_i pc
      refine JS_fin Tryz.func219 rfl rfl (vs := []) ?_
      intro w hw
      have hmore := (by rw [← hAC]; exact hX : PI B i (A ++ x :: C) clock).more (by omega) hxk pc.1 pc.2
      rw [hl] at hmore
      refine ⟨rfl, _, _, hmore, plA_in rfl ?_⟩
      rw [List.map_append, List.map_cons]
      have hv2 : vx ({ x.1 with val := .slice pc.1 (l.length + 1) pc.2 }, l ++ [i]) = vec 3 1 (.slice pc.1 (l.length + 1) pc.2) (l.length + 1) (ints .i64 (l.map Int.ofNat) ++ [.int .i64 i]) := by
        unfold vx
        simp only [List.map_append, List.map_cons, List.map_nil, List.length_append, List.length_cons, List.length_nil]
        rw [← ints_app]
        rfl
      unfold plO
      rw [hv2]
      exact vecB_fwd (Sel.here _ _) (hw.drop.drop)
    · have hnil := plc_nil hX hf
      have hmiss : ∀ e ∈ X.map Prod.fst, e.key ≠ kv (k3 B i) := fun e he hk => by
        obtain ⟨x, hx, rfl⟩ := List.mem_map.1 he
        exact hf ⟨x, hx, hk⟩
      have hok : MOk Tryz.prog 282 (X.map Prod.fst ++ (⟨kv (k3 B i), .slice none 0 0, clock⟩ : MapEntry) :: []) (clock + 1) := hX.ok.push hkey hmiss
      refine JS_H (H' := vec 3 1 (.slice none 0 0) 0 [] :: blk b4 [.int .u8 (k3 B i).1, .int .u8 (k3 B i).2.1, .int .u8 (k3 B i).2.2] :: plA bp bm p c m X clock H) (fun w hw => St.nilvec hw) ?_
      refine JS_order [0, 1, 2, 3, 4, 5, 6, 7, 8, 10, 9, 11] [4, 0] (Picks.cons rfl (Picks.cons rfl (Picks.cons rfl (Picks.cons rfl (Picks.cons rfl (Picks.cons rfl (Picks.cons rfl (Picks.cons rfl (Picks.cons rfl (Picks.cons rfl (Picks.cons rfl (Picks.cons rfl (Picks.nil))))))))))))) (by kernel_rfl) (by kernel_rfl) rfl (by decide +kernel) ?_
      repeat (first | (apply gQO; (refine QO_e (E_buildSlice (tb := tb) rfl rfl rfl rfl rfl rfl rfl rfl rfl) rfl (.inr fun _ _ hw => dS hw) ?_; intro _)) | (apply gQO; refine QO_e (E_entryF (tb := tb) kkt rfl rfl rfl (by repeat (first | exact Sel.here _ _ | apply Sel.there)) hX.ok hkey hmiss kzero rfl) rfl (.inl rfl) ?_; intro _) | (apply gQO; (refine QO_e (E_appendB (tb := tb) rfl rfl rfl rfl rfl rfl (by repeat (first | exact Sel.here _ _ | apply Sel.there)) (by first | exact vec_rd (by repeat (first | apply List.Mem.head | apply List.Mem.tail)) | assumption | exact ArgRd.rd (by assumption) _ | (apply Rd_weak; assumption; intro _ hx; exact dS hx)) (by simp only [ints_len, List.length_cons, List.length_nil]; first | omega | rfl) (by first | exact ints_one | (repeat (first | exact trivial | refine ⟨rfl, ?_⟩))) (by omega) (by omega) rfl) rfl (.inr fun _ _ hw => vecB_back (by repeat (first | exact Sel.here _ _ | apply Sel.there)) hw) ?_; intro _)) | (apply gQO; refine QO_k rfl (K_entryStore rfl rfl rfl (by repeat (first | exact Sel.here _ _ | apply Sel.there)) hok rfl) rfl ?_) | (first | (refine sx ?_; try intro _)))
      rename_i pc
      refine JS_fin Tryz.func219 rfl rfl (vs := []) ?_
      intro w hw
      refine ⟨rfl, _, _, hX.new hB (by omega) hf hnil pc.1 pc.2, plA_in rfl ?_⟩
      rw [List.map_append, List.map_cons]
      have hv2 : vx (⟨kv (k3 B i), .slice pc.1 1 pc.2, clock⟩, [i]) = vec 3 1 (.slice pc.1 (0 + 1) pc.2) (0 + 1) ([] ++ [.int .i64 i]) := by
        unfold vx; rfl
      unfold plO
      rw [hv2, List.map_nil, List.map_nil, List.append_nil]
      exact dS (vecB_fwd (Sel.there _ _ _ _ (Sel.here _ _)) hw)
end
end Go.Proofs.YteelffkghidpfaaGreat

set_option linter.unusedVariables false
set_option linter.unusedSimpArgs false
set_option maxRecDepth 100000
namespace Go.Proofs.YteelffkghidpfaaGreat
open Sx Go
section
variable {w0 : World} {H : List Asn}
attribute [local irreducible] pst plc sam k3 tok toks tkv
theorem toks_s {B : List Int} {i : Nat} (h : i < B.length) : toks B (B.length - i) i = tok B i :: toks B (B.length - (i + max 1 (tok B i).2.1)) (i + max 1 (tok B i).2.1) := by
  obtain ⟨f, hf⟩ : ∃ f, B.length - i = f + 1 := ⟨B.length - i - 1, by omega⟩
  rw [hf]
  have e : toks B (f + 1) i = tok B i :: toks B f (i + max 1 (tok B i).2.1) := by rw [toks.eq_def]; simp only []; rw [if_pos h]
  rw [e, toks_fuel B f (B.length - (i + max 1 (tok B i).2.1)) _ (by omega) (by omega)]
theorem toks_end {B : List Int} : toks B (B.length - B.length) B.length = [] := by
  rw [Nat.sub_self]; unfold toks; rfl
theorem toks_len {B : List Int} : ∀ f i, (toks B f i).length ≤ f
  | 0, i => by unfold toks; simp
  | f + 1, i => by
    unfold toks
    split
    · have := toks_len (B := B) f (i + max 1 (tok B i).2.1); simp; omega
    · simp
set_option maxRecDepth 10000 in
set_option maxHeartbeats 4000000 in
/-- all tokens of a text -/
theorem Find_c (p : Option Addr) (c m : Nat) (B : List Int) (hr : Rd w0 H (.slice p m c) m (ints .u8 B)) (hm : B.length = m) (hB : OKB B) (h4 : m ≤ 1100000) (w : World) (hw : St w0 H w) :
    Calls Tryz.prog 163 #[.slice p m c] w fun e w' => ∃ q d, e = .returned (.slice q (toks B m 0).length d) ∧ St w0 (vec 218 3 (.slice q (toks B m 0).length d) (toks B m 0).length (tkv (toks B m 0)) :: H) w' := by
  have hmc : m ≤ c := (hr.lcap hw).1
  refine enter (vs := [.slice p m c]) Tryz.func163 rfl rfl rfl hw ?_
  clear hw w
  repeat (first | (apply gJO; apply kMm; refine JO_makeMap rfl ?_; intro _) | (first | (refine sx ?_; try intro _)))
  rename_i bm bp
  refine JS_loop6 (fun (i : Nat) (X : List PX) (clock : Nat) (q : Option Addr) (d : Nat) (L : List (Int × Nat × Nat)) => [(0, .slice p m c), (3, .pointer (some ⟨bp, 0, none⟩)), (4, .slice q L.length d), (5, .int .i64 i)])
    (fun i X clock q d L => vec 218 3 (.slice q L.length d) L.length (tkv L) :: plA bp bm p c m X clock H) (fun i X clock q d L => i ≤ m ∧ PI B i X clock ∧ L.length ≤ i ∧ toks B m 0 = L ++ toks B (m - i) i) (fun i _ _ _ _ _ => m - i) 0 [] 0 none 0 [] ⟨Nat.zero_le _, PI.nil B 0, Nat.le_refl _, by rw [Nat.sub_zero, List.nil_append]⟩ (by repeat (first | exact trivial | refine ⟨rfl, ?_⟩ | refine ⟨lookI rfl (by omega), ?_⟩))
    (fun w h => by
      have h1 := St.big_nil h
      have h2 := h1.perm (List.perm_append_comm (l₁ := [_]) (l₂ := [_, _]) |>.append_right H)
      have : tkv [] = [] := by unfold tkv; rfl
      rw [this]
      exact St.nilvec h2) ?_
  intro i X clock q d L ⟨hi, hX, hLl, hL⟩ again
  by_cases him : i < m
  · have hts := toks_s (B := B) (i := i) (by omega)
    have hbd := tok_bd B i (by omega)
    repeat (first | (refine sx ?_; try intro _))
    refine JO_call Tryz.call218 rfl rfl fun w hw => (Best_c (H := vec 218 3 (.slice q L.length d) L.length (tkv L) :: H) bp bm p c m X clock B i (Rd_weak hr fun w hw => dS hw) hm hB hX him h4 w (hw.perm (List.perm_append_comm (l₁ := [_]) (l₂ := [_, _, _]) |>.append_right H))).mono ?_
    rintro e w' ⟨rfl, hw'⟩
    refine ⟨_, rfl, vec 218 3 (.slice q L.length d) L.length (tkv L) :: plA bp bm p c m X clock H, hw'.perm (List.perm_append_comm (l₁ := [_, _, _]) (l₂ := [_]) |>.append_right H), ?_⟩
    clear hw' hw w w'
    rw [hm] at hts
    obtain ⟨⟨x, n, k⟩, ht⟩ : ∃ t, tok B i = t := ⟨_, rfl⟩
    rw [ht] at hts hbd ⊢
    simp only [] at hts ⊢
    have hn258 : i + max 1 n ≤ m := by
      rcases hbd with h | ⟨n', d', h, _⟩
      · have : n = 0 := (Prod.mk.inj (Prod.mk.inj h).2).1
        omega
      · have : n = n' := (Prod.mk.inj (Prod.mk.inj h).2).1
        omega
    clear hbd
    have hmx : max (1 : Int) (n : Int) = ((max 1 n : Nat) : Int) := by omega
    have htv := tkv_app L (x, n, k)
    have hll : (L ++ [(x, n, k)]).length = L.length + 1 := by simp
    repeat (first | (apply gJO; (refine JO_app (tb := tb) rfl rfl rfl rfl rfl rfl (by repeat (first | exact Sel.here _ _ | apply Sel.there)) (by first | exact vec_rd (by repeat (first | apply List.Mem.head | apply List.Mem.tail)) | assumption | exact ArgRd.rd (by assumption) _ | (apply Rd_weak; assumption; intro _ hx; exact dS hx)) (by simp only [ints_len, List.length_cons, List.length_nil]; first | omega | rfl) (by first | exact ints_one | (repeat (first | exact trivial | refine ⟨rfl, ?_⟩))) (by omega) rfl ?_; intro _ _)) | (apply gJO; refine JO_v (oc_max (V_max rfl rfl hmx rfl)) ?_) | (apply gJO; refine JO_v (V_max rfl rfl hmx rfl) ?_) | (first | (refine sx ?_; try intro _)))
    rename_i bt ps q2 d2
    refine JS_loop3 (fun (j : Nat) (X : List PX) (clock : Nat) => [(0, .slice p m c), (3, .pointer (some ⟨bp, 0, none⟩)), (4, .slice q2 (L.length + 1) d2), (5, .int .i64 ((i + j : Nat) : Int)), (24, .int .i64 ((max 1 n : Nat) : Int)), (25, .int .i64 j)])
      (fun j X clock => plA bp bm p c m X clock (vec 218 3 (.slice q2 (L ++ [(x, n, k)]).length d2) (L ++ [(x, n, k)]).length (tkv (L ++ [(x, n, k)])) :: H)) (fun j X clock => j ≤ max 1 n ∧ PI B (i + j) X clock) (fun j _ _ => max 1 n - j) 0 X clock ⟨Nat.zero_le _, hX⟩ (by repeat (first | exact trivial | refine ⟨rfl, ?_⟩ | refine ⟨lookI rfl (by omega), ?_⟩))
      (fun w hw => by
        rw [htv, hll]
        have h1 := (fun h => St.sub (H' := vec 218 3 (.slice q2 (L.length + 1) d2) (L.length + 1) (tkv L ++ [.int .u8 x, .int .i64 n, .int .i64 k]) :: plA bp bm p c m X clock H) ((List.Sublist.refl _).cons _ |>.cons _) h) hw
        exact h1.perm (List.perm_append_comm (l₁ := [_]) (l₂ := [_, _, _]) |>.append_right H)) ?_
    intro j X2 clock2 ⟨hj, hX2⟩ again2
    by_cases hjn : j < max 1 n
    · repeat (first | (refine sx ?_; try intro _))
      refine JO_call Tryz.call219 rfl rfl fun w hw => (Note_c bp bm p c m X2 clock2 B (i + j) (Rd_weak hr fun w hw => dS hw) hm hB hX2 (by omega) h4 w hw).mono ?_
      rintro e w' ⟨rfl, X3, clock3, hX3, hw'⟩
      refine ⟨_, rfl, _, hw', ?_⟩
      clear hw' hw w w'
      repeat (first | (refine sx ?_; try intro _))
      exact JS_again3 again2 (j + 1) X3 clock3 ⟨by omega, hX3⟩ (by omega) (by repeat (first | exact trivial | refine ⟨rfl, ?_⟩ | refine ⟨lookI rfl (by omega), ?_⟩)) (fun w hw => hw)
    · obtain rfl : j = max 1 n := by omega
      clear again2
      repeat (first | (refine sx ?_; try intro _))
      exact JS_again6 again (i + max 1 n) X2 clock2 q2 d2 (L ++ [(x, n, k)]) ⟨hn258, hX2, by rw [hll]; omega, by rw [hL, hts, List.append_assoc]; rfl⟩ (by omega) (by rw [hll]; exact (by repeat (first | exact trivial | refine ⟨rfl, ?_⟩ | refine ⟨lookI rfl (by omega), ?_⟩))) (fun w hw => hw.perm (List.perm_append_comm (l₁ := [_, _, _]) (l₂ := [_]) |>.append_right H))
  · obtain rfl : i = m := by omega
    clear again
    have hend : toks B i 0 = L := by rw [hL, ← hm, toks_end, List.append_nil]
    rw [hend]
    repeat (first | (refine sx ?_; try intro _))
    refine JS_ret Tryz.func163 rfl rfl fun w hw => ⟨q, d, rfl, dS hw⟩
end
end Go.Proofs.YteelffkghidpfaaGreat

namespace Go.Proofs.YteelffkghidpfaaGreat
open Sx Go
set_option linter.unusedVariables false
set_option linter.unusedSimpArgs false
set_option maxRecDepth 100000
/-! the writer's Align -/
def padL (L : List Int) : List Int := L ++ List.replicate (8 * ((L.length + 7) / 8) - L.length) 0
theorem padL_len (L : List Int) : (padL L).length = 8 * ((L.length + 7) / 8) := by
  unfold padL; rw [List.length_append, List.length_replicate]; omega
theorem padL_get (L : List Int) (i : Nat) : (padL L).getD i 0 = L.getD i 0 := by
  unfold padL
  rw [List.getD_eq_getElem?_getD, List.getD_eq_getElem?_getD]
  rcases Nat.lt_or_ge i L.length with h | h
  · rw [List.getElem?_append_left h]
  · rw [List.getElem?_append_right h, List.getElem?_replicate, List.getElem?_eq_none (l := L) (by omega)]
    split <;> rfl
theorem padL_01 {L : List Int} (hL : ∀ j, L.getD j 0 = 0 ∨ L.getD j 0 = 1) (j : Nat) : (padL L).getD j 0 = 0 ∨ (padL L).getD j 0 = 1 := by
  rw [padL_get]; exact hL j
theorem padL_pack (L : List Int) : pack (padL L) = pack L := by
  unfold pack
  rw [padL_len, show (8 * ((L.length + 7) / 8) + 7) / 8 = (L.length + 7) / 8 by omega]
  apply tab_congr
  intro j hj
  unfold byteAt
  exact num_congr 8 fun t _ => padL_get L _
set_option maxRecDepth 10000 in
theorem WAlign_c {w0 : World} {H : List Asn} (b : Nat) (L : List Int) (q : Option Addr) (d : Nat) (hl : L.length ≤ 70368744177664) (w : World) (hw : St w0 (wrA b L q d :: wrV L q d :: H) w) :
    Calls Tryz.prog 167 #[.pointer (some ⟨b, 0, none⟩)] w fun e w' => e = .returned (.tuple #[]) ∧ St w0 (wrA b (padL L) q d :: wrV (padL L) q d :: H) w' := by
  have hlen := padL_len L
  have e1 : ((padL L).length + 7) / 8 = (L.length + 7) / 8 := by rw [hlen]; omega
  unfold wrA wrV at hw ⊢
  rw [e1, padL_pack, hlen]
  refine enter (vs := [.pointer (some ⟨b, 0, none⟩)]) Tryz.func167 rfl rfl rfl hw ?_
  have hcast : (8 : Int) * (((L.length + 7) / 8 : Nat) : Int) = ((8 * ((L.length + 7) / 8) : Nat) : Int) := by omega
  obtain ⟨k, hk⟩ : ∃ k, (L.length + 7) / 8 = k := ⟨_, rfl⟩
  rw [hk] at hcast ⊢
  have hmul : IntKind.i64.wrap ((8 : Int) * (k : Int)) = ((8 * k : Nat) : Int) := (wi64 (by omega)).trans hcast
  clear hw
  repeat (first | (apply gJO; refine JO_v (V_mul rfl rfl hmul rfl) ?_) | first | (refine sx ?_; try intro _))
  refine JS_fin Tryz.func167 rfl rfl (vs := []) ?_
  intro w hw
  exact ⟨rfl, hw⟩
set_option maxRecDepth 10000 in
theorem WAlignR_c {w0 : World} {H : List Asn} (b k : Nat) (q : Option Addr) (d : Nat) (x : Int) (hk : k ≤ 70368744177664) (w : World) (hw : St w0 (blk b [.slice q k d, .int .i64 x] :: H) w) :
    Calls Tryz.prog 167 #[.pointer (some ⟨b, 0, none⟩)] w fun e w' => e = .returned (.tuple #[]) ∧ St w0 (blk b [.slice q k d, .int .i64 ((8 * k : Nat) : Int)] :: H) w' := by
  refine enter (vs := [.pointer (some ⟨b, 0, none⟩)]) Tryz.func167 rfl rfl rfl hw ?_
  have hmul : IntKind.i64.wrap ((8 : Int) * (k : Int)) = ((8 * k : Nat) : Int) := (wi64 (by omega)).trans (by omega)
  clear hw
  repeat (first | (apply gJO; refine JO_v (V_mul rfl rfl hmul rfl) ?_) | first | (refine sx ?_; try intro _))
  refine JS_fin Tryz.func167 rfl rfl (vs := []) ?_
  intro w hw
  exact ⟨rfl, hw⟩
set_option maxRecDepth 10000 in
theorem WText_c {w0 : World} {H : List Asn} (b : Nat) (L : List Int) (q : Option Addr) (d : Nat) (p : Option Addr) (c m : Nat) (X : List Int) (hr : Rd w0 H (.slice p m c) m (ints .u8 X)) (hm : X.length = m) (hl : L.length ≤ 33554432) (hmx : m ≤ 33554432) (w : World) (hw : St w0 (wrA b L q d :: wrV L q d :: H) w) :
    Calls Tryz.prog 168 #[.pointer (some ⟨b, 0, none⟩), .slice p m c] w fun e w' => e = .returned (.tuple #[]) ∧ ∃ q d, St w0 (blk b [.slice q ((L.length + 7) / 8 + m) d, .int .i64 ((8 * ((L.length + 7) / 8 + m) : Nat) : Int)] ::
      vec 5 1 (.slice q ((L.length + 7) / 8 + m) d) ((L.length + 7) / 8 + m) (ints .u8 (pack L ++ X)) :: H) w' := by
  have hpl := pack_len L
  unfold wrA wrV at hw
  obtain ⟨k, hk⟩ : ∃ k, (L.length + 7) / 8 = k := ⟨_, rfl⟩
  rw [hk] at hw hpl ⊢
  refine enter (vs := [.pointer (some ⟨b, 0, none⟩), .slice p m c]) Tryz.func168 rfl rfl rfl hw ?_
  clear hw
  repeat (first | (refine sx ?_; try intro _))
  (refine JO_app (tb := tb) rfl rfl rfl rfl rfl rfl (by repeat (first | exact Sel.here _ _ | apply Sel.there)) (by first | exact vec_rd (by repeat (first | apply List.Mem.head | apply List.Mem.tail)) | assumption | exact ArgRd.rd (by assumption) _ | (apply Rd_weak; assumption; intro _ hx; exact dS hx)) (by simp only [ints_len, List.length_cons, List.length_nil]; first | omega | rfl) (by first | exact ints_one | (repeat (first | exact trivial | refine ⟨rfl, ?_⟩))) (by omega) rfl ?_; intro _ _)
  rename_i q2 d2
  rw [ints_app]
  repeat (first | (refine sx ?_; try intro _))
  refine JO_call Tryz.call167 rfl rfl fun w hw => (WAlignR_c b (k + m) q2 d2 _ (by omega) w hw).mono ?_
  rintro e w' ⟨rfl, hw'⟩
  refine ⟨_, rfl, _, hw', ?_⟩
  clear hw' hw w w'
  repeat (first | (refine sx ?_; try intro _))
  refine JS_fin Tryz.func168 rfl rfl (vs := []) ?_
  intro w hw
  exact ⟨rfl, q2, d2, hw⟩
end Go.Proofs.YteelffkghidpfaaGreat

namespace Go.Proofs.YteelffkghidpfaaGreat
open Sx Go
set_option linter.unusedVariables false
set_option linter.unusedSimpArgs false
set_option maxRecDepth 100000
theorem bnum_nbt (bt : Nat → Int) (a : Nat) : ∀ k, bnum (fun t => bt (a + t)) k = nbt bt a k
  | 0 => rfl
  | k + 1 => by rw [bnum, nbt, bnum_nbt bt a k]
/-- the bits behind a text -/
def txtL (L X : List Int) : List Int := padL L ++ tab (8 * X.length) (bitB X 0)
theorem txtL_len (L X : List Int) : (txtL L X).length = 8 * ((L.length + 7) / 8 + X.length) := by
  unfold txtL; rw [List.length_append, padL_len, tab_len]; omega
theorem txtL_01 {L X : List Int} (hL : ∀ j, L.getD j 0 = 0 ∨ L.getD j 0 = 1) (j : Nat) : (txtL L X).getD j 0 = 0 ∨ (txtL L X).getD j 0 = 1 := by
  refine app_01 (padL_01 hL) (fun j => ?_) j
  rcases Nat.lt_or_ge j (8 * X.length) with h | h
  · rw [List.getD_eq_getElem?_getD]
    unfold tab
    rw [List.getElem?_map, List.getElem?_range h]
    exact bitB_01 X 0 j
  · rw [List.getD_eq_getElem?_getD, List.getElem?_eq_none (by rw [tab_len]; omega)]; exact .inl rfl
theorem txtL_lo (L X : List Int) (i : Nat) (h : i < 8 * ((L.length + 7) / 8)) : (txtL L X).getD i 0 = L.getD i 0 := by
  unfold txtL
  rw [List.getD_eq_getElem?_getD, List.getElem?_append_left (by rw [padL_len]; exact h), ← List.getD_eq_getElem?_getD, padL_get]
theorem txtL_hi (L X : List Int) (i : Nat) (h : i < 8 * X.length) : (txtL L X).getD (8 * ((L.length + 7) / 8) + i) 0 = bitB X 0 i := by
  unfold txtL
  rw [List.getD_eq_getElem?_getD, List.getElem?_append_right (by rw [padL_len]; omega), padL_len, Nat.add_sub_cancel_left]
  unfold tab
  rw [List.getElem?_map, List.getElem?_range h]; rfl
theorem txtL_pack (L X : List Int) (hX : OKB X) : pack (txtL L X) = pack L ++ X := by
  have hl := pack_len L
  apply List.ext_getElem?
  intro j
  unfold pack at hl ⊢
  rw [txtL_len, show (8 * ((L.length + 7) / 8 + X.length) + 7) / 8 = (L.length + 7) / 8 + X.length by omega]
  rcases Nat.lt_or_ge j ((L.length + 7) / 8) with h | h
  · rw [List.getElem?_append_left (by rw [hl]; exact h)]
    unfold tab
    rw [List.getElem?_map, List.getElem?_map, List.getElem?_range h, List.getElem?_range (by omega), Option.map_some, Option.map_some]
    congr 1
    unfold byteAt
    exact num_congr 8 fun t ht => txtL_lo L X _ (by omega)
  · rw [List.getElem?_append_right (by rw [hl]; exact h), hl]
    rcases Nat.lt_or_ge j ((L.length + 7) / 8 + X.length) with h2 | h2
    · unfold tab
      rw [List.getElem?_map, List.getElem?_range h2, Option.map_some]
      obtain ⟨i, rfl⟩ : ∃ i, j = (L.length + 7) / 8 + i := ⟨j - (L.length + 7) / 8, by omega⟩
      rw [Nat.add_sub_cancel_left, List.getElem?_eq_getElem (by omega)]
      congr 1
      have hb := nbt_byte X hX i
      rw [← bnum_nbt] at hb
      unfold byteAt
      rw [num_congr (g := fun t => bitB X 0 (8 * i + t)) 8 (fun t ht => by rw [show 8 * ((L.length + 7) / 8 + i) + t = 8 * ((L.length + 7) / 8) + (8 * i + t) by omega]; exact txtL_hi L X _ (by omega)), hb]
      rw [List.getD_eq_getElem?_getD, List.getElem?_eq_getElem (by omega)]; rfl
    · rw [List.getElem?_eq_none (by rw [tab_len]; omega), List.getElem?_eq_none (by omega)]
/-- bytes are written behind what is filled up -/
theorem WText2_c {w0 : World} {H : List Asn} (b : Nat) (L : List Int) (q : Option Addr) (d : Nat) (p : Option Addr) (c m : Nat) (X : List Int) (hr : Rd w0 H (.slice p m c) m (ints .u8 X)) (hm : X.length = m) (hX : OKB X) (hl : L.length ≤ 33554432) (hmx : m ≤ 33554432) (w : World) (hw : St w0 (wrA b L q d :: wrV L q d :: H) w) :
    Calls Tryz.prog 168 #[.pointer (some ⟨b, 0, none⟩), .slice p m c] w fun e w' => e = .returned (.tuple #[]) ∧ ∃ q d, St w0 (wrA b (txtL L X) q d :: wrV (txtL L X) q d :: H) w' := by
  have h := WText_c b L q d p c m X hr hm hl hmx w hw
  unfold wrA wrV
  rw [txtL_len, txtL_pack L X hX, show (8 * ((L.length + 7) / 8 + X.length) + 7) / 8 = (L.length + 7) / 8 + X.length by omega, hm]
  exact h
end Go.Proofs.YteelffkghidpfaaGreat

set_option linter.unusedVariables false
set_option linter.unusedSimpArgs false
set_option maxRecDepth 100000
namespace Go.Proofs.YteelffkghidpfaaGreat
open Sx Go
/-! ## stored blocks: plain laws -/
theorem bnum_bits (n : Int) : ∀ k : Nat, bnum (fun t => n / 2 ^ t % 2) k = n % 2 ^ k
  | 0 => by rw [bnum]; simp
  | k + 1 => by
    rw [bnum, bnum_bits n k]
    have e2 : n % 2 ^ (k + 1) = n % 2 ^ k + n / 2 ^ k % 2 * 2 ^ k := by
      have hp : (0 : Int) < 2 ^ k := Int.pow_pos (by decide)
      have e1 := Int.mul_ediv_add_emod n (2 ^ k)
      have e3 := Int.mul_ediv_add_emod (n / 2 ^ k) 2
      obtain ⟨q, hq⟩ : ∃ q, n / 2 ^ k / 2 = q := ⟨_, rfl⟩
      obtain ⟨r, hr⟩ : ∃ r, n / 2 ^ k % 2 = r := ⟨_, rfl⟩
      obtain ⟨s, hs⟩ : ∃ s, n % 2 ^ k = s := ⟨_, rfl⟩
      have hs0 := Int.emod_nonneg n (Int.ne_of_gt hp)
      have hs1 := Int.emod_lt_of_pos n hp
      have hr0 : 0 ≤ r ∧ r ≤ 1 := by omega
      rw [hq, hr] at e3
      rw [hs] at e1 hs0 hs1
      rw [hr, hs]
      have hn : n = (s + r * 2 ^ k) + 2 ^ (k + 1) * q := by
        rw [← e1, ← e3, Int.pow_succ, Int.mul_add]
        rw [show (2 : Int) ^ k * (2 * q) = 2 ^ k * 2 * q by rw [Int.mul_assoc], Int.mul_comm r]
        omega
      rw [hn, Int.add_mul_emod_self_left]
      refine Int.emod_eq_of_lt ?_ ?_
      · rcases (show r = 0 ∨ r = 1 by omega) with h | h <;> rw [h] <;> omega
      · rw [Int.pow_succ]
        rcases (show r = 0 ∨ r = 1 by omega) with h | h <;> rw [h] <;> omega
    rw [e2]
theorem grp_get {n : Int} {k i : Nat} (h : i < k) : (grp n k).getD i 0 = n / 2 ^ i % 2 := by
  unfold grp
  rw [List.getD_eq_getElem?_getD, List.getElem?_map, List.getElem?_range h]; rfl
theorem pack_app (A C : List Int) (hA : 8 ∣ A.length) : pack (A ++ C) = pack A ++ pack C := by
  obtain ⟨a, ha⟩ := hA
  have hA8 : A.length = 8 * a := ha
  have hl := pack_len A
  apply List.ext_getElem?
  intro j
  unfold pack at hl ⊢
  rw [List.length_append, ha, show (8 * a + C.length + 7) / 8 = a + (C.length + 7) / 8 by omega, show (8 * a + 7) / 8 = a by omega]
  rw [ha, show (8 * a + 7) / 8 = a by omega] at hl
  rcases Nat.lt_or_ge j a with h | h
  · rw [List.getElem?_append_left (by rw [hl]; exact h)]
    unfold tab
    rw [List.getElem?_map, List.getElem?_map, List.getElem?_range h, List.getElem?_range (by omega), Option.map_some, Option.map_some]
    congr 1
    unfold byteAt
    refine num_congr 8 fun t ht => ?_
    rw [List.getD_eq_getElem?_getD, List.getElem?_append_left (by omega), ← List.getD_eq_getElem?_getD]
  · rw [List.getElem?_append_right (by rw [hl]; exact h), hl]
    obtain ⟨i, rfl⟩ : ∃ i, j = a + i := ⟨j - a, by omega⟩
    rw [Nat.add_sub_cancel_left]
    unfold tab
    rcases Nat.lt_or_ge i ((C.length + 7) / 8) with h2 | h2
    · rw [List.getElem?_map, List.getElem?_map, List.getElem?_range h2, List.getElem?_range (by omega), Option.map_some, Option.map_some]
      congr 1
      unfold byteAt
      refine num_congr 8 fun t ht => ?_
      rw [List.getD_eq_getElem?_getD, List.getElem?_append_right (by omega), List.getD_eq_getElem?_getD, show 8 * (a + i) + t - A.length = 8 * i + t by omega]
    · rw [List.getElem?_eq_none (by simp; omega), List.getElem?_eq_none (by simp; omega)]
theorem pack_grp16 (n : Int) (h : 0 ≤ n ∧ n < 65536) : pack (grp n 16) = [n % 256, n / 256] := by
  have b0 : byteAt (grp n 16) 0 = n % 256 := by
    unfold byteAt
    rw [num_congr (g := fun t => n / 2 ^ t % 2) 8 (fun t ht => by rw [show 8 * 0 + t = t by omega]; exact grp_get (by omega)), bnum_bits]
    rfl
  have b1 : byteAt (grp n 16) 1 = n / 256 := by
    unfold byteAt
    rw [num_congr (g := fun t => n / 256 / 2 ^ t % 2) 8 (fun t ht => by
      rw [show 8 * 1 + t = 8 + t by omega, grp_get (by omega), Int.pow_add, show (2 : Int) ^ 8 = 256 by decide, ← Int.ediv_ediv_of_nonneg (by decide)]), bnum_bits]
    have : (2 : Int) ^ 8 = 256 := by decide
    rw [this]; omega
  unfold pack tab
  rw [grp_len]
  simp [List.range_succ, b0, b1]
theorem pack_hd (la : Int) (h : la = 0 ∨ la = 1) : pack (grp la 1 ++ grp 0 2) = [la] := by
  rcases h with rfl | rfl <;> decide +kernel
/-- a stored block's first five bytes -/
def hd5 (la n : Int) : List Int := [la, n % 256, n / 256, 255 - n % 256, 255 - n / 256]
theorem sto_pack {L X : List Int} {la n : Int} (hX : OKB X) (hL : 8 ∣ L.length) (hla : la = 0 ∨ la = 1) (hn : 0 ≤ n ∧ n < 65536) :
    pack (txtL (padL (L ++ grp la 1 ++ grp 0 2) ++ grp n 16 ++ grp (65535 - n) 16) X) = pack L ++ (hd5 la n ++ X) := by
  rw [txtL_pack _ _ hX]
  have hg : (grp la 1 ++ grp 0 2).length = 3 := by rw [List.length_append, grp_len, grp_len]
  obtain ⟨a, ha⟩ := hL
  have e1 : padL (L ++ grp la 1 ++ grp 0 2) = L ++ padL (grp la 1 ++ grp 0 2) := by
    unfold padL
    rw [List.append_assoc L, List.length_append, hg, ha, show 8 * ((8 * a + 3 + 7) / 8) - (8 * a + 3) = 8 * ((3 + 7) / 8) - 3 by omega, List.append_assoc]
  have hp : (padL (grp la 1 ++ grp 0 2)).length = 8 := by rw [padL_len, hg]
  have e2 : (L ++ padL (grp la 1 ++ grp 0 2) ++ grp n 16).length = 8 * (a + 3) := by rw [List.length_append, List.length_append, hp, grp_len, ha]; omega
  rw [e1, pack_app _ _ ⟨_, e2⟩, pack_app _ _ ⟨a + 1, by rw [List.length_append, hp, ha]; omega⟩, pack_app _ _ ⟨a, ha⟩, padL_pack, pack_hd la hla, pack_grp16 n hn, pack_grp16 (65535 - n) (by omega)]
  have m1 : (65535 - n) % 256 = 255 - n % 256 := by omega
  have m2 : (65535 - n) / 256 = 255 - n / 256 := by omega
  rw [m1, m2]
  unfold hd5
  simp
/-- a text in stored blocks -/
def sb : Nat → List Int → List Int
  | 0, _ => []
  | f + 1, X => if X.length ≤ 65535 then hd5 1 X.length ++ X else hd5 0 65535 ++ X.take 65535 ++ sb f (X.drop 65535)
theorem sb_fuel : ∀ (f g : Nat) (X : List Int), X.length < f → X.length < g → sb f X = sb g X
  | 0, _, _, h, _ => absurd h (by omega)
  | _, 0, _, _, h => absurd h (by omega)
  | f + 1, g + 1, X, hf, hg => by
    rw [sb, sb]
    split
    · rfl
    · rw [sb_fuel f g _ (by rw [List.length_drop]; omega) (by rw [List.length_drop]; omega)]
def sbs (X : List Int) : List Int := sb (X.length + 1) X
theorem sbs_1 {X : List Int} (h : X.length ≤ 65535) : sbs X = hd5 1 X.length ++ X := by
  unfold sbs; rw [sb, if_pos h]
theorem sbs_2 {X : List Int} (h : ¬ X.length ≤ 65535) : sbs X = hd5 0 65535 ++ X.take 65535 ++ sbs (X.drop 65535) := by
  unfold sbs; rw [sb, if_neg h, sb_fuel X.length ((X.drop 65535).length + 1) _ (by rw [List.length_drop]; omega) (by omega)]
theorem hd5_okb {la n : Int} (hla : la = 0 ∨ la = 1) (hn : 0 ≤ n ∧ n < 65536) : ∀ x ∈ hd5 la n, 0 ≤ x ∧ x < 256 := by
  intro x hx
  unfold hd5 at hx
  simp at hx
  omega
end Go.Proofs.YteelffkghidpfaaGreat

set_option linter.unusedVariables false
set_option linter.unusedSimpArgs false
set_option maxRecDepth 100000
namespace Go.Proofs.YteelffkghidpfaaGreat
open Sx Go
theorem xor16_u32 {a : Int} (h : 0 ≤ a ∧ a < 65536) : IntKind.u32.wrap ((BitVec.ofInt IntKind.u32.bits a ^^^ BitVec.ofInt IntKind.u32.bits 65535).toNat) = 65535 - a := by
  rw [xor_nat .u32 ⟨h.1, Int.lt_trans h.2 (by decide)⟩ ⟨by omega, by decide⟩, show (65535 : Int).toNat = 65535 from rfl, xor16 (by omega)]
  exact (wu32 (by omega)).trans (by omega)
/-- what is read of a slice's part: the beginning, the rest -/
theorem Rd_take {w0 : World} {H : List Asn} {p : Option Addr} {m c n : Nat} {X : List Int} (h : Rd w0 H (.slice p m c) m (ints .u8 X)) (hm : X.length = m) (hn : n ≤ m) : Rd w0 H (.slice (subB p 0 c 1) (n - 0) (c - 0)) n (ints .u8 (X.take n)) := by
  have := Rd_sub (lo := 0) (hi := n) (sz := 1) h (Nat.zero_le _) hn
  rw [Nat.zero_mul, List.drop_zero, Nat.sub_zero, Nat.mul_one] at this
  rw [Nat.sub_zero]
  unfold ints at this ⊢
  rw [List.map_take]
  exact this
theorem Rd_drop {w0 : World} {H : List Asn} {p : Option Addr} {m c n : Nat} {X : List Int} (h : Rd w0 H (.slice p m c) m (ints .u8 X)) (hm : X.length = m) (hn : n ≤ m) : Rd w0 H (.slice (subB p n c 1) (m - n) (c - n)) (m - n) (ints .u8 (X.drop n)) := by
  have := Rd_sub (lo := n) (hi := m) (sz := 1) h hn (Nat.le_refl _)
  rw [Nat.mul_one, Nat.mul_one, List.take_of_length_le (by simp [ints, hm])] at this
  unfold ints at this ⊢
  rw [List.map_drop]
  exact this
theorem OKB_take {X : List Int} (h : OKB X) (n : Nat) : OKB (X.take n) := fun j => by
  rw [List.getD_eq_getElem?_getD, List.getElem?_take]
  split
  · have := h j; rwa [List.getD_eq_getElem?_getD] at this
  · decide
theorem OKB_drop {X : List Int} (h : OKB X) (n : Nat) : OKB (X.drop n) := fun j => by
  rw [List.getD_eq_getElem?_getD, List.getElem?_drop, ← List.getD_eq_getElem?_getD]
  exact h _
section
attribute [local irreducible] pack grp padL txtL sbs hd5
variable {w0 : World} {H : List Asn}
set_option maxRecDepth 10000 in
set_option maxHeartbeats 4000000 in
/-- a text in stored blocks -/
theorem DStored_c (p : Option Addr) (c m : Nat) (B : List Int) (hr : Rd w0 H (.slice p m c) m (ints .u8 B)) (hm : B.length = m) (hB : OKB B) (h4 : m ≤ 1100000) (w : World) (hw : St w0 H w) :
    Calls Tryz.prog 122 #[.slice p m c] w fun e w' => ∃ q d, e = .returned (.slice q (sbs B).length d) ∧ St w0 (vec 5 1 (.slice q (sbs B).length d) (sbs B).length (ints .u8 (sbs B)) :: H) w' := by
  refine enter (vs := [.slice p m c]) Tryz.func122 rfl rfl rfl hw ?_
  clear hw w
  repeat (first | (refine sx ?_; try intro _))
  rename_i b
  have hp0 : pack [] = [] := by unfold pack; rfl
  refine JS_loop6 (fun (p : Option Addr) (c : Nat) (X L : List Int) (q : Option Addr) (d : Nat) => [(0, .slice p X.length c), (3, .pointer (some ⟨b, 0, none⟩))]) (fun p c X L q d => wrA b L q d :: wrV L q d :: H)
    (fun p c X L q d => Rd w0 H (.slice p X.length c) X.length (ints .u8 X) ∧ OKB X ∧ 8 ∣ L.length ∧ (∀ j, L.getD j 0 = 0 ∨ L.getD j 0 = 1) ∧ L.length + 16 * X.length ≤ 17600000 ∧ pack L ++ sbs X = sbs B) (fun _ _ X _ _ _ => X.length) p c B [] none 0
    ⟨by rw [hm]; exact hr, hB, ⟨0, rfl⟩, fun j => .inl (by simp), by simp; omega, by rw [hp0, List.nil_append]⟩ (by rw [hm]; exact (by repeat (first | exact trivial | refine ⟨rfl, ?_⟩ | refine ⟨lookI rfl (by omega), ?_⟩))) (fun w h => by
    have := St.nilvec (e := 5) (sz := 1) (base := none) h
    show St w0 (blk b [.slice none 0 0, .int .i64 0] :: vec 5 1 (.slice none 0 0) 0 (ints .u8 (pack [])) :: H) w
    rw [hp0]
    exact this.perm (List.Perm.swap _ _ _)) ?_
  intro p c X L q d ⟨hrX, hX, hL8, hL, hLl, hall⟩ again
  obtain ⟨x, hx⟩ : ∃ x, X.length = x := ⟨_, rfl⟩
  rw [hx] at hrX hLl
  simp only [hx] at again ⊢
  obtain ⟨n, hn⟩ : ∃ n, min x 65535 = n := ⟨_, rfl⟩
  have hmin : min (x : Int) 65535 = n := by omega
  obtain ⟨a, ha⟩ := hL8
  have hp16 : (2 : Int) ^ 16 = 65536 := by decide
  have hxor := xor16_u32 (a := (n : Int)) ⟨by omega, by omega⟩
  have key : ∀ la : Int, la = 0 ∨ la = 1 → ∃ L1 L2 L3 L4 L5 : List Int, L1 = L ++ grp la 1 ∧ L2 = L1 ++ grp 0 2 ∧ L3 = padL L2 ∧ L4 = L3 ++ grp n 16 ∧ L5 = L4 ++ grp (65535 - n) 16 ∧ L1.length = L.length + 1 ∧ L2.length = L.length + 3 ∧ L3.length = L.length + 8 ∧ L4.length = L.length + 24 ∧ L5.length = L.length + 40 ∧
      (∀ j, L1.getD j 0 = 0 ∨ L1.getD j 0 = 1) ∧ (∀ j, L2.getD j 0 = 0 ∨ L2.getD j 0 = 1) ∧ (∀ j, L3.getD j 0 = 0 ∨ L3.getD j 0 = 1) ∧ (∀ j, L4.getD j 0 = 0 ∨ L4.getD j 0 = 1) ∧ (∀ j, L5.getD j 0 = 0 ∨ L5.getD j 0 = 1) ∧
      pack (txtL L5 (X.take n)) = pack L ++ (hd5 la n ++ X.take n) ∧ (txtL L5 (X.take n)).length = L.length + 40 + 8 * n ∧ (∀ j, (txtL L5 (X.take n)).getD j 0 = 0 ∨ (txtL L5 (X.take n)).getD j 0 = 1) := by
    intro la hla
    have g1 := app_01 hL (grp_01 la 1)
    have g2 := app_01 g1 (grp_01 0 2)
    have g3 := padL_01 g2
    have g4 := app_01 g3 (grp_01 n 16)
    have g5 := app_01 g4 (grp_01 (65535 - n) 16)
    have k1 : (L ++ grp la 1).length = L.length + 1 := by rw [List.length_append, grp_len]
    have k2 : (L ++ grp la 1 ++ grp 0 2).length = L.length + 3 := by rw [List.length_append, k1, grp_len]
    have k3 : (padL (L ++ grp la 1 ++ grp 0 2)).length = L.length + 8 := by rw [padL_len, k2]; omega
    have k4 : (padL (L ++ grp la 1 ++ grp 0 2) ++ grp n 16).length = L.length + 24 := by rw [List.length_append, k3, grp_len]
    have k5 : (padL (L ++ grp la 1 ++ grp 0 2) ++ grp n 16 ++ grp (65535 - n) 16).length = L.length + 40 := by rw [List.length_append, k4, grp_len]
    refine ⟨_, _, _, _, _, rfl, rfl, rfl, rfl, rfl, k1, k2, k3, k4, k5, g1, g2, g3, g4, g5, sto_pack (OKB_take hX n) ⟨a, ha⟩ hla ⟨by omega, by omega⟩, ?_, txtL_01 g5⟩
    rw [txtL_len, k5, List.length_take]; omega
  have hcX : ∀ w, St w0 H w → x ≤ c := fun w hw => (hrX.lcap hw).1
  by_cases hlast : x ≤ 65535
  case' pos =>
    obtain ⟨L1, L2, L3, L4, L5, d1, d2, d3, d4, d5, k1, k2, k3, k4, k5, g1, g2, g3, g4, g5, hpk, hlen, hg⟩ := key 1 (.inr rfl)
  case' neg =>
    obtain ⟨L1, L2, L3, L4, L5, d1, d2, d3, d4, d5, k1, k2, k3, k4, k5, g1, g2, g3, g4, g5, hpk, hlen, hg⟩ := key 0 (.inl rfl)
  all_goals
    clear key
    repeat (first | (apply gJO; refine JO_v (oc_min (V_min rfl rfl hmin rfl)) ?_) | first | (refine sx ?_; try intro _))
    refine JO_call Tryz.call162 rfl rfl fun w hw => (WGroup_c b L q d _ 1 (by omega) ⟨by decide, by decide⟩ (by decide) hL (by omega) w hw).mono ?_
    rintro e w' ⟨rfl, q1, e1, hw'⟩
    rw [← d1] at hw'
    refine ⟨_, rfl, _, hw', ?_⟩
    clear hw' hw w w'
    repeat (first | (refine sx ?_; try intro _))
    refine JO_call Tryz.call162 rfl rfl fun w hw => (WGroup_c b L1 q1 e1 0 2 (by omega) ⟨by decide, by decide⟩ (by decide) g1 (by omega) w hw).mono ?_
    rintro e w' ⟨rfl, q2, e2, hw'⟩
    rw [← d2] at hw'
    refine ⟨_, rfl, _, hw', ?_⟩
    clear hw' hw w w'
    repeat (first | (refine sx ?_; try intro _))
    refine JO_call Tryz.call167 rfl rfl fun w hw => (WAlign_c b L2 q2 e2 (by omega) w hw).mono ?_
    rintro e w' ⟨rfl, hw'⟩
    rw [← d3] at hw'
    refine ⟨_, rfl, _, hw', ?_⟩
    clear hw' hw w w'
    repeat (first | (refine sx ?_; try intro _))
    refine JO_call Tryz.call162 rfl rfl fun w hw => (WGroup_c b L3 q2 e2 n 16 (by omega) ⟨by omega, by rw [hp16]; omega⟩ (by omega) g3 (by omega) w hw).mono ?_
    rintro e w' ⟨rfl, q3, e3, hw'⟩
    rw [← d4] at hw'
    refine ⟨_, rfl, _, hw', ?_⟩
    clear hw' hw w w'
    repeat (first | (apply gJO; refine JO_v (V_xor rfl rfl hxor rfl) ?_) | first | (refine sx ?_; try intro _))
    refine JO_call Tryz.call162 rfl rfl fun w hw => (WGroup_c b L4 q3 e3 (65535 - n) 16 (by omega) ⟨by omega, by rw [hp16]; omega⟩ (by omega) g4 (by omega) w hw).mono ?_
    rintro e w' ⟨rfl, q4, e4, hw'⟩
    rw [← d5] at hw'
    refine ⟨_, rfl, _, hw', ?_⟩
    clear hw' hw w w'
    repeat (first | (apply gJO; refine JO_v (V_slice (tb := tb) (lo := 0) (hi := n) rfl rfl rfl rfl rfl (by rfl) (by rfl) (fun w hw => ⟨by omega, Nat.le_trans (by omega) (hcX w hw.drop.drop)⟩) rfl) ?_) | first | (refine sx ?_; try intro _))
    refine JO_call Tryz.call168 rfl rfl fun w hw => (WText2_c b L5 q4 e4 (subB p 0 c 1) (c - 0) n (X.take n) (Rd_weak (Rd_take hrX hx (by omega)) fun w hw => dS hw) (by rw [List.length_take]; omega) (OKB_take hX n) (by omega) (by omega) w hw).mono ?_
    rintro e w' ⟨rfl, q5, e5, hw'⟩
    obtain ⟨L6, d6⟩ : ∃ L6, txtL L5 (X.take n) = L6 := ⟨_, rfl⟩
    rw [d6] at hw' hpk hlen hg
    refine ⟨_, rfl, _, hw', ?_⟩
    clear hw' hw w w'
    repeat (first | (apply gJO; refine JO_v (V_slice (tb := tb) (lo := n) (hi := x) rfl rfl rfl rfl rfl (by rfl) (by rfl) (fun w hw => ⟨by omega, hcX w hw.drop.drop⟩) rfl) ?_) | first | (refine sx ?_; try intro _))
  case pos =>
    have hnx : n = x := by omega
    have hfin : pack L6 = sbs B := by
      rw [hpk, List.take_of_length_le (by omega), hnx, ← hx, ← sbs_1 (by omega), hall]
    have hpl := pack_len L6
    refine JO_call Tryz.call166 rfl rfl fun w hw => (WBytes_c b (pack L6).length L6 q5 e5 hg (by omega) hpl.symm w hw).mono ?_
    rw [hfin]
    rintro e w' ⟨q6, d6, rfl, hw'⟩
    refine ⟨_, rfl, _, hw', ?_⟩
    clear hw' hw w w'
    repeat (first | (refine sx ?_; try intro _))
    exact JS_ret Tryz.func122 rfl rfl fun w hw => ⟨q6, d6, rfl, dS hw⟩
  case neg =>
    have hnx : n = 65535 := by omega
    have hxd : (X.drop n).length = x - n := by rw [List.length_drop, hx]
    have hfin : pack L6 ++ sbs (X.drop n) = sbs B := by
      rw [hpk, ← hall, sbs_2 (X := X) (by omega), hnx]
      simp only [List.append_assoc]
      rfl
    repeat (first | (refine sx ?_; try intro _))
    refine JS_again6 again (subB p n c 1) (c - n) (X.drop n) L6 q5 e5 ⟨by rw [hxd]; exact Rd_drop hrX hx (by omega), OKB_drop hX n, ⟨a + 5 + n, by omega⟩, hg, by rw [hxd]; omega, hfin⟩ (by rw [hxd]; omega) (by rw [hxd]; exact (by repeat (first | exact trivial | refine ⟨rfl, ?_⟩ | refine ⟨lookI rfl (by omega), ?_⟩))) (fun w hw => hw)
end
end Go.Proofs.YteelffkghidpfaaGreat

set_option linter.unusedVariables false
set_option linter.unusedSimpArgs false
set_option maxRecDepth 100000
namespace Go.Proofs.YteelffkghidpfaaGreat
open Sx Go
section
attribute [local irreducible] sbs
variable {w0 : World} {H : List Asn}
set_option maxRecDepth 10000 in
set_option maxHeartbeats 4000000 in
/-- the reference's stored blocks -/
theorem RStored_c (p : Option Addr) (c m : Nat) (B : List Int) (hr : Rd w0 H (.slice p m c) m (ints .u8 B)) (hm : B.length = m) (hB : OKB B) (h4 : m ≤ 1100000) (w : World) (hw : St w0 H w) :
    Calls Tryz.prog 125 #[.slice p m c] w fun e w' => ∃ q d, e = .returned (.slice q (sbs B).length d) ∧ St w0 (vec 5 1 (.slice q (sbs B).length d) (sbs B).length (ints .u8 (sbs B)) :: H) w' := by
  have hcm : m ≤ c := (hr.lcap hw).1
  refine enter (vs := [.slice p m c]) Tryz.func125 rfl rfl rfl hw ?_
  clear hw w
  repeat (first | (refine sx ?_; try intro _))
  refine JS_loop4 (fun (at_ : Nat) (O : List Int) (q : Option Addr) (d : Nat) => [(0, .slice p m c), (3, .slice q O.length d), (4, .int .i64 at_)]) (fun at_ O q d => vec 5 1 (.slice q O.length d) O.length (ints .u8 O) :: H)
    (fun at_ O q d => at_ ≤ m ∧ O.length ≤ 5 * at_ ∧ O ++ sbs (B.drop at_) = sbs B) (fun at_ _ _ _ => m - at_) 0 [] none 0 ⟨by omega, by simp, by simp⟩ (by repeat (first | exact trivial | refine ⟨rfl, ?_⟩ | refine ⟨lookI rfl (by omega), ?_⟩)) (fun w h => St.nilvec h) ?_
  intro at_ O q d ⟨ha, hO, hall⟩ again
  obtain ⟨n, hn⟩ : ∃ n, min (m - at_) 65535 = n := ⟨_, rfl⟩
  have hmin : min ((m : Int) - (at_ : Int)) 65535 = n := by omega
  obtain ⟨o, ho⟩ : ∃ o, O.length = o := ⟨_, rfl⟩
  rw [ho] at hO ⊢
  have hdl : (B.drop at_).length = m - at_ := by rw [List.length_drop, hm]
  have hrow : Rd w0 H (.slice (subB p at_ c 1) (at_ + n - at_) (c - at_)) (at_ + n - at_) (ints .u8 ((B.drop at_).take n)) := by
    have := Rd_sub (lo := at_) (hi := at_ + n) (sz := 1) hr (by omega) (by omega)
    rw [Nat.mul_one, Nat.mul_one] at this
    unfold ints at this ⊢
    rw [List.map_take, List.map_drop]
    rwa [Nat.add_sub_cancel_left] at this ⊢
  have hrl : ((B.drop at_).take n).length = n := by rw [List.length_take]; omega
  have hb1 : ((n : Int) % 256 + 0) % 256 = (n : Int) % 256 := by omega
  by_cases hlast : at_ + n = m
  case' pos =>
    have hnn : (B.drop at_).length = n := by omega
    have hcase : sbs (B.drop at_) = hd5 1 n ++ (B.drop at_).take n := by rw [sbs_1 (by omega), hnn, List.take_of_length_le (by omega)]
  case' neg =>
    have hnn : n = 65535 := by omega
    have hcase : sbs (B.drop at_) = hd5 0 n ++ (B.drop at_).take n ++ sbs (B.drop (at_ + n)) := by rw [sbs_2 (by omega), hnn, List.drop_drop]; rfl
  all_goals
    repeat (first | (apply gJO; refine JO_v (oc_min (V_min rfl rfl hmin rfl)) ?_) | (apply gJO; refine JO_v (V_slice (tb := tb) (lo := at_) (hi := at_ + n) rfl rfl rfl rfl rfl rfl (by omega) (fun w hw => ⟨by omega, by omega⟩) rfl) ?_) | (apply gJO; (refine JO_app (tb := tb) rfl rfl rfl rfl rfl rfl (by repeat (first | exact Sel.here _ _ | apply Sel.there)) (by first | exact vec_rd (by repeat (first | apply List.Mem.head | apply List.Mem.tail)) | assumption | exact ArgRd.rd (by assumption) _ | (apply Rd_weak; assumption; intro _ hx; exact dS hx)) (by simp only [ints_len, List.length_cons, List.length_nil]; first | omega | rfl) (by first | exact ints_one | (repeat (first | exact trivial | refine ⟨rfl, ?_⟩))) (by omega) rfl ?_; intro _ _)) | first | (refine sx ?_; try intro _))
  case pos =>
    rename_i ps q2 d2 q3 d3
    have hI : ∀ Y : List Int, ints .u8 O ++ (.int .u8 1 :: .int .u8 ((n : Int) % 256) :: .int .u8 ((n : Int) / 256) :: .int .u8 (255 - (n : Int) % 256) :: .int .u8 (255 - (n : Int) / 256) :: [].append (rep 0 [.int .u8 0])) ++ ints .u8 Y = ints .u8 (O ++ (hd5 1 n ++ Y)) := fun Y => by
      unfold ints hd5; simp [rep]
    have hfin : O ++ (hd5 1 n ++ (B.drop at_).take n) = sbs B := by rw [← hcase, hall]
    have hlen : (sbs B).length = o + 5 + (at_ + n - at_) := by
      rw [← hfin]; simp only [List.length_append, hrl, ho]; unfold hd5; simp; omega
    refine JS_ret Tryz.func125 rfl rfl fun w hw => ⟨q3, d3, by rw [hlen]; rfl, ?_⟩
    rw [hI, hfin] at hw
    rw [hlen]
    exact dS hw
  case neg =>
    rename_i ps q2 d2 q3 d3
    have hI : ∀ Y : List Int, ints .u8 O ++ (.int .u8 0 :: .int .u8 ((n : Int) % 256) :: .int .u8 ((n : Int) / 256) :: .int .u8 (255 - (n : Int) % 256) :: .int .u8 (255 - (n : Int) / 256) :: [].append (rep 0 [.int .u8 0])) ++ ints .u8 Y = ints .u8 (O ++ (hd5 0 n ++ Y)) := fun Y => by
      unfold ints hd5; simp [rep]
    have hlen : (O ++ (hd5 0 n ++ (B.drop at_).take n)).length = o + 5 + (at_ + n - at_) := by
      simp only [List.length_append, hrl, ho]; unfold hd5; simp; omega
    refine JS_again4 again (at_ + n) (O ++ (hd5 0 n ++ (B.drop at_).take n)) q3 d3 ⟨by omega, by rw [hlen]; omega, by rw [← hall, hcase]; simp only [List.append_assoc]⟩ (by omega) (by rw [hlen]; exact (by repeat (first | exact trivial | refine ⟨rfl, ?_⟩ | refine ⟨lookI rfl (by omega), ?_⟩))) (fun w hw => ?_)
    rw [hI] at hw
    rw [hlen]
    exact dS hw
end
end Go.Proofs.YteelffkghidpfaaGreat

set_option linter.unusedVariables false
set_option linter.unusedSimpArgs false
set_option maxRecDepth 100000
namespace Go.Proofs.YteelffkghidpfaaGreat
open Sx Go
/-! ## the reference's tokens -/
section
variable {w0 : World} {H : List Asn}
set_option maxRecDepth 10000 in
set_option maxHeartbeats 2000000 in
theorem RSame16_c (p : Option Addr) (c m : Nat) (B : List Int) (hr : Rd w0 H (.slice p m c) m (ints .u8 B)) (hm : B.length = m) (i k : Nat) (hik : i < k) (hk : k ≤ m) (h4 : m ≤ 1100000) (w : World) (hw : St w0 H w) :
    Calls Tryz.prog 224 #[.slice p m c, .int .i64 i, .int .i64 k] w fun e w' => e = .returned (.int .i64 (sam B i k 258)) ∧ St w0 H w' := by
  refine enter (vs := [.slice p m c, .int .i64 i, .int .i64 k]) Tryz.func224 rfl rfl rfl hw ?_
  repeat (first | (refine sx ?_; try intro _))
  refine JS_loop1 (fun (n : Nat) => [(0, .slice p m c), (1, .int .i64 i), (2, .int .i64 k), (7, .int .i64 n)]) (fun _ => H) (fun n => n ≤ 258 ∧ k + n ≤ m ∧ sam B i k 258 = n + sam B (i + n) (k + n) (258 - n)) (fun n => 258 - n) 0 ⟨by omega, by omega, by simp⟩ (by repeat (first | exact trivial | refine ⟨rfl, ?_⟩ | refine ⟨lookI rfl (by omega), ?_⟩)) (fun _ h => h) ?_
  intro n ⟨hn, hkn, he⟩ again
  by_cases h258 : n = 258
  case' pos =>
    clear again
    repeat (first | (refine sx ?_; try intro _))
    have hfin : sam B i k 258 = n := by rw [he, h258]; rfl
  case' neg =>
    by_cases hkm : k + n = m
    case' pos =>
      clear again
      repeat (first | (refine sx ?_; try intro _))
      have hfin : sam B i k 258 = n := by
        rw [he, show 258 - n = (257 - n) + 1 by omega, sam, if_neg (by omega)]; rfl
    case' neg =>
      have g1 : (ints .u8 B)[i + n]? = some (.int .u8 (B.getD (i + n) 0)) := ints_get (by omega)
      have g2 : (ints .u8 B)[k + n]? = some (.int .u8 (B.getD (k + n) 0)) := ints_get (by omega)
      by_cases heq : B.getD (i + n) 0 = B.getD (k + n) 0
      case' neg =>
        clear again
        repeat (first | (apply gQO; refine QO_v rfl (oL (V_loadC (tb := tb) rfl hr rfl rfl g1 rfl)) ?_) | (apply gQO; refine QO_v rfl (oL (V_loadC (tb := tb) rfl hr rfl rfl g2 rfl)) ?_) | (first | (refine sx ?_; try intro _)))
        have hfin : sam B i k 258 = n := by
          rw [he, show 258 - n = (257 - n) + 1 by omega, sam, if_neg (fun h => heq h.2)]; rfl
      case' pos =>
        repeat (first | (apply gQO; refine QO_v rfl (oL (V_loadC (tb := tb) rfl hr rfl rfl g1 rfl)) ?_) | (apply gQO; refine QO_v rfl (oL (V_loadC (tb := tb) rfl hr rfl rfl g2 rfl)) ?_) | (first | (refine sx ?_; try intro _)))
        exact JS_again1 again (n + 1) ⟨by omega, by omega, by rw [he, show 258 - n = (258 - (n + 1)) + 1 by omega, sam, if_pos ⟨by omega, heq⟩, show i + n + 1 = i + (n + 1) by omega, show k + n + 1 = k + (n + 1) by omega]; omega⟩ (by omega) (by repeat (first | exact trivial | refine ⟨rfl, ?_⟩ | refine ⟨lookI rfl (by omega), ?_⟩)) (fun w hw => hw)
  all_goals
    refine JS_ret Tryz.func224 rfl rfl fun w hw => ⟨?_, hw⟩
    rw [hfin]
    rfl
attribute [local irreducible] sam bst tok toks tkv
theorem bst_s (B : List Int) (at_ i : Nat) (s : Nat × Nat) : bst B at_ (i + 1) s = if 32768 < at_ - i then s else bst B at_ i (if s.1 < sam B i at_ 258 then (sam B i at_ 258, at_ - i) else s) := by
  rw [bst.eq_def]
theorem bst_0 (B : List Int) (at_ : Nat) (s : Nat × Nat) : bst B at_ 0 s = s := by unfold bst; rfl
set_option maxRecDepth 10000 in
set_option maxHeartbeats 4000000 in
/-- all tokens of a text -/
theorem RFind_c (p : Option Addr) (c m : Nat) (B : List Int) (hr : Rd w0 H (.slice p m c) m (ints .u8 B)) (hm : B.length = m) (hB : OKB B) (h4 : m ≤ 1100000) (w : World) (hw : St w0 H w) :
    Calls Tryz.prog 170 #[.slice p m c] w fun e w' => ∃ q d, e = .returned (.slice q (toks B m 0).length d) ∧ St w0 (vec 218 3 (.slice q (toks B m 0).length d) (toks B m 0).length (tkv (toks B m 0)) :: H) w' := by
  refine enter (vs := [.slice p m c]) Tryz.func170 rfl rfl rfl hw ?_
  clear hw w
  have htv0 : tkv [] = [] := by unfold tkv; rfl
  repeat (first | (refine sx ?_; try intro _))
  refine JS_loop4 (fun (i : Nat) (q : Option Addr) (d : Nat) (L : List (Int × Nat × Nat)) => [(0, .slice p m c), (3, .slice q L.length d), (4, .int .i64 i)])
    (fun i q d L => vec 218 3 (.slice q L.length d) L.length (tkv L) :: H) (fun i q d L => i ≤ m ∧ L.length ≤ i ∧ toks B m 0 = L ++ toks B (m - i) i) (fun i _ _ _ => m - i) 0 none 0 [] ⟨Nat.zero_le _, Nat.le_refl _, by rw [Nat.sub_zero, List.nil_append]⟩ (by repeat (first | exact trivial | refine ⟨rfl, ?_⟩ | refine ⟨lookI rfl (by omega), ?_⟩))
    (fun w h => by rw [htv0]; exact St.nilvec h) ?_
  intro i q d L ⟨hi, hLl, hL⟩ again
  by_cases him : i < m
  · have hts := toks_s (B := B) (i := i) (by omega)
    have hbd := tok_bd B i (by omega)
    have hB1 := bst_bd B i (by omega)
    have gB : (ints .u8 B)[i]? = some (.int .u8 (B.getD i 0)) := ints_get (by omega)
    repeat (first | (refine sx ?_; try intro _))
    refine JS_loop3 (fun (k n e : Nat) => [(0, .slice p m c), (3, .slice q L.length d), (4, .int .i64 i), (5, .int .i64 n), (6, .int .i64 e), (7, .int .i64 (k - 1 : Int))]) (fun k n e => vec 218 3 (.slice q L.length d) L.length (tkv L) :: H)
      (fun k n e => k ≤ i ∧ (n ≤ 258 ∧ e ≤ i) ∧ bst B i i (0, 0) = bst B i k (n, e)) (fun k _ _ => k) i 0 0 ⟨Nat.le_refl _, ⟨by omega, by omega⟩, rfl⟩ (by repeat (first | exact trivial | refine ⟨rfl, ?_⟩ | refine ⟨lookI rfl (by omega), ?_⟩)) (fun w h => h) ?_
    intro k n e ⟨hk, hne, hbst⟩ again2
    by_cases hstop : k = 0 ∨ (0 < k ∧ 32768 < i - (k - 1))
    case' pos =>
      have hn : bst B i i (0, 0) = (n, e) := by
        rw [hbst]
        rcases hstop with rfl | ⟨h0, h⟩
        · exact bst_0 B i _
        · obtain ⟨k', rfl⟩ : ∃ k', k = k' + 1 := ⟨k - 1, by omega⟩
          rw [bst_s, if_pos (by rw [Nat.add_sub_cancel] at h; exact h)]
      clear again2
      have htok : tok B i = if n < 3 then (B.getD i 0, 0, 0) else (0, n, e) := by unfold tok; rw [hn]
      have hn258 := tok_bd B i (by omega)
      by_cases hn3 : n < 3
      case' pos =>
        rw [if_pos hn3] at htok
        rw [htok] at hts
        have htv := tkv_app L (B.getD i 0, 0, 0)
        have hll : (L ++ [(B.getD i 0, 0, 0)]).length = L.length + 1 := by simp
        have hts2 : toks B (m - i) i = (B.getD i 0, 0, 0) :: toks B (m - (i + 1)) (i + 1) := by rw [← hm]; exact hts
      case' neg =>
        rw [if_neg hn3] at htok
        rw [htok] at hts hn258
        have htv := tkv_app L (0, n, e)
        have hll : (L ++ [((0 : Int), n, e)]).length = L.length + 1 := by simp
        have hmx : max 1 n = n := by omega
        have hts2 : toks B (m - i) i = (0, n, e) :: toks B (m - (i + n)) (i + n) := by rw [← hm, hts]; show _ :: toks B (B.length - (i + max 1 n)) (i + max 1 n) = _; rw [hmx]
        have hin : i + n ≤ m := by
          rcases hn258 with h | ⟨n', d', h, h1, h2, h3, _⟩
          · have : n = 0 := (Prod.mk.inj (Prod.mk.inj h).2).1
            omega
          · have : n = n' := (Prod.mk.inj (Prod.mk.inj h).2).1
            omega
      all_goals
        clear hn258 hbd hB1 hts
        rcases hstop with hk0 | hk0
      all_goals
        repeat (first | (apply gJO; refine JO_v (oL (V_loadC (tb := tb) rfl (Rd_weak hr fun w hw => dS hw) rfl rfl gB rfl)) ?_) | (apply gJO; (refine JO_app (tb := tb) rfl rfl rfl rfl rfl rfl (by repeat (first | exact Sel.here _ _ | apply Sel.there)) (by first | exact vec_rd (by repeat (first | apply List.Mem.head | apply List.Mem.tail)) | assumption | exact ArgRd.rd (by assumption) _ | (apply Rd_weak; assumption; intro _ hx; exact dS hx)) (by simp only [ints_len, List.length_cons, List.length_nil]; first | omega | rfl) (by first | exact ints_one | (repeat (first | exact trivial | refine ⟨rfl, ?_⟩))) (by omega) rfl ?_; intro _ _)) | (first | (refine sx ?_; try intro _)))
        rename_i ps q2 d2
        first | exact JS_again4 again (i + 1) q2 d2 (L ++ [(B.getD i 0, 0, 0)]) ⟨by omega, by rw [hll]; omega, by rw [hL, hts2, List.append_assoc]; rfl⟩ (by omega) (by rw [hll]; exact (by repeat (first | exact trivial | refine ⟨rfl, ?_⟩ | refine ⟨lookI rfl (by omega), ?_⟩))) (fun w hw => by rw [htv, hll]; exact dS hw) | exact JS_again4 again (i + n) q2 d2 (L ++ [(0, n, e)]) ⟨by omega, by rw [hll]; omega, by rw [hL, hts2, List.append_assoc]; rfl⟩ (by omega) (by rw [hll]; exact (by repeat (first | exact trivial | refine ⟨rfl, ?_⟩ | refine ⟨lookI rfl (by omega), ?_⟩))) (fun w hw => by rw [htv, hll]; exact dS hw)
    case' neg =>
      obtain ⟨k', rfl⟩ : ∃ k', k = k' + 1 := ⟨k - 1, by omega⟩
      rw [Nat.add_sub_cancel] at hstop
      rw [show (((k' + 1 : Nat) : Int) - 1) = (k' : Int) by omega]
      rw [bst_s, if_neg (by omega)] at hbst
      have hs := sam_le B 258 k' i
      repeat (first | (refine sx ?_; try intro _))
      refine JO_call Tryz.call224 rfl rfl fun w hw => (RSame16_c p c m B (Rd_weak hr fun w hw => dS hw) hm k' i (by omega) (by omega) h4 w hw).mono ?_
      rintro e w' ⟨rfl, hw'⟩
      refine ⟨_, rfl, _, hw', ?_⟩
      clear hw' hw w w'
      obtain ⟨s, hse⟩ : ∃ s, sam B k' i 258 = s := ⟨_, rfl⟩
      rw [hse] at hbst hs ⊢
      by_cases hlt : n < s
      · rw [if_pos hlt] at hbst
        have hij : ((i : Int) - (k' : Int)) = ((i - k' : Nat) : Int) := by omega
        repeat (first | (refine sx ?_; try intro _))
        rw [hij]
        repeat (first | (refine sx ?_; try intro _))
        exact JS_again3 again2 k' s (i - k') ⟨by omega, ⟨hs, by omega⟩, hbst⟩ (by omega) (by repeat (first | exact trivial | refine ⟨rfl, ?_⟩ | refine ⟨lookI rfl (by omega), ?_⟩)) (fun w hw => hw)
      · rw [if_neg hlt] at hbst
        repeat (first | (refine sx ?_; try intro _))
        exact JS_again3 again2 k' n e ⟨by omega, hne, hbst⟩ (by omega) (by repeat (first | exact trivial | refine ⟨rfl, ?_⟩ | refine ⟨lookI rfl (by omega), ?_⟩)) (fun w hw => hw)
  · obtain rfl : i = m := by omega
    clear again
    have hend : toks B i 0 = L := by rw [hL, ← hm, toks_end, List.append_nil]
    rw [hend]
    repeat (first | (refine sx ?_; try intro _))
    refine JS_ret Tryz.func170 rfl rfl fun w hw => ⟨q, d, rfl, dS hw⟩
end
end Go.Proofs.YteelffkghidpfaaGreat

set_option linter.unusedVariables false
set_option linter.unusedSimpArgs false
set_option maxRecDepth 100000
namespace Go.Proofs.YteelffkghidpfaaGreat
open Sx Go
/-! lengths' and distances' symbols: bounds -/
theorem pk_next (f : Int → Int × Int) (a n : Int) : ∀ k : Nat, ∀ i : Nat, i < k → pk f a n k < a + i → n < (f (a + i)).1
  | 0, i, h, _ => absurd h (by omega)
  | k + 1, i, h, hp => by
    unfold pk at hp
    split at hp
    · omega
    · rename_i hn
      rcases Nat.lt_or_ge i k with hik | hik
      · exact pk_next f a n k i hik hp
      · obtain rfl : i = k := by omega
        omega
theorem lbase_next : ∀ j : Fin 28, (lbase (257 + (j.val : Int) + 1)).1 ≤ (lbase (257 + (j.val : Int))).1 + 2 ^ (lbase (257 + (j.val : Int))).2.toNat := by decide +kernel
theorem lfar_next : ∀ j : Fin 29, (lfar (0 + (j.val : Int) + 1)).1 ≤ (lfar (0 + (j.val : Int))).1 + 2 ^ (lfar (0 + (j.val : Int))).2.toNat := by decide +kernel
theorem lbase_tab : ∀ j : Fin 29, 0 ≤ (lbase (257 + (j.val : Int))).2 ∧ (lbase (257 + (j.val : Int))).2 ≤ 5 ∧ (j.val = 28 → lbase (257 + (j.val : Int)) = (258, 0)) := by decide +kernel
theorem lfar_tab : ∀ j : Fin 30, 0 ≤ (lfar (0 + (j.val : Int))).2 ∧ (lfar (0 + (j.val : Int))).2 ≤ 13 ∧ (j.val = 29 → lfar (0 + (j.val : Int)) = (24577, 13)) := by decide +kernel
theorem lenS_bd (n : Int) (h3 : 3 ≤ n) (h258 : n ≤ 258) : ∃ s b : Nat, ∃ r : Int, lenS n = ((s : Int), (b : Int), r) ∧ 257 ≤ s ∧ s ≤ 285 ∧ b ≤ 5 ∧ 0 ≤ r ∧ r < 2 ^ b ∧ lbase s = (n - r, (b : Int)) := by
  have e := grt_pk lbase 257 n (by show (3 : Int) ≤ n; omega) 28
  have hb := pk_bd lbase 257 n 29
  have hle := pk_le lbase 257 n (by show (3 : Int) ≤ n; omega) 29
  have hnx := pk_next lbase 257 n 29
  unfold lenS
  rw [if_neg (by omega), e]
  obtain ⟨x, hx⟩ : ∃ x, pk lbase 257 n 29 = x := ⟨_, rfl⟩
  rw [hx] at hb hle hnx
  rw [show pk lbase 257 n (28 + 1) = x from hx]
  obtain ⟨j, rfl⟩ : ∃ j : Nat, x = 257 + (j : Int) := ⟨(x - 257).toNat, by omega⟩
  have hj : j < 29 := by omega
  obtain ⟨t1, t2, t3⟩ := lbase_tab ⟨j, hj⟩
  simp only [] at t1 t2 t3
  refine ⟨257 + j, (lbase (257 + (j : Int))).2.toNat, n - (lbase (257 + (j : Int))).1, ?_, by omega, by omega, by omega, by omega, ?_, ?_⟩
  · rw [Int.toNat_of_nonneg t1]; rfl
  · rcases Nat.lt_or_ge j 28 with h | h
    · have h1 := hnx (j + 1) (by omega) (by omega)
      have h2 := lbase_next ⟨j, h⟩
      simp only [] at h2
      have e2 : (257 : Int) + ((j + 1 : Nat) : Int) = 257 + (j : Int) + 1 := by omega
      rw [e2] at h1
      omega
    · rw [t3 (by omega)]; show n - 258 < 2 ^ 0; omega
  · rw [Int.toNat_of_nonneg t1, show (((257 + j : Nat) : Int)) = 257 + (j : Int) by omega]
    have : n - (n - (lbase (257 + (j : Int))).1) = (lbase (257 + (j : Int))).1 := by omega
    rw [this]
theorem spanS_bd (n : Int) (h1 : 1 ≤ n) (h32 : n ≤ 32768) : ∃ s b : Nat, ∃ r : Int, spanS n = ((s : Int), (b : Int), r) ∧ s ≤ 29 ∧ b ≤ 13 ∧ 0 ≤ r ∧ r < 2 ^ b ∧ lfar s = (n - r, (b : Int)) := by
  have e := grt_pk lfar 0 n (by show (1 : Int) ≤ n; omega) 29
  have hb := pk_bd lfar 0 n 30
  have hle := pk_le lfar 0 n (by show (1 : Int) ≤ n; omega) 30
  have hnx := pk_next lfar 0 n 30
  unfold spanS
  rw [if_neg (by omega), e]
  obtain ⟨x, hx⟩ : ∃ x, pk lfar 0 n 30 = x := ⟨_, rfl⟩
  rw [hx] at hb hle hnx
  rw [show pk lfar 0 n (29 + 1) = x from hx]
  obtain ⟨j, rfl⟩ : ∃ j : Nat, x = 0 + (j : Int) := ⟨x.toNat, by omega⟩
  have hj : j < 30 := by omega
  obtain ⟨t1, t2, t3⟩ := lfar_tab ⟨j, hj⟩
  simp only [] at t1 t2 t3
  refine ⟨j, (lfar (0 + (j : Int))).2.toNat, n - (lfar (0 + (j : Int))).1, ?_, by omega, by omega, by omega, ?_, ?_⟩
  · rw [Int.toNat_of_nonneg t1, Int.zero_add]
  · rcases Nat.lt_or_ge j 29 with h | h
    · have h1 := hnx (j + 1) (by omega) (by omega)
      have h2 := lfar_next ⟨j, h⟩
      simp only [] at h2
      have e2 : (0 : Int) + ((j + 1 : Nat) : Int) = 0 + (j : Int) + 1 := by omega
      rw [e2] at h1
      omega
    · rw [t3 (by omega)]; show n - 24577 < 2 ^ 13; omega
  · rw [Int.toNat_of_nonneg t1, Int.zero_add]
    have : n - (n - (lfar (j : Int)).1) = (lfar (j : Int)).1 := by omega
    rw [this]
/-- a token's bits -/
def tkb (t : Int × Nat × Nat) : List Int :=
  if t.2.2 = 0 then fxS t.1.toNat
  else fxS (lenS t.2.1).1.toNat ++ grp (lenS t.2.1).2.2 (lenS t.2.1).2.1.toNat ++ spS (spanS t.2.2).1.toNat ++ grp (spanS t.2.2).2.2 (spanS t.2.2).2.1.toNat
/-- a token as it may be -/
def TOK (t : Int × Nat × Nat) : Prop := (0 ≤ t.1 ∧ t.1 < 256 ∧ t.2.1 = 0 ∧ t.2.2 = 0) ∨ (t.1 = 0 ∧ 3 ≤ t.2.1 ∧ t.2.1 ≤ 258 ∧ 1 ≤ t.2.2 ∧ t.2.2 ≤ 32768)
theorem bms_ln (x : Int) (k : Nat) : (bms x k).length = k := by unfold bms; rw [List.length_map, List.length_range]
theorem fxS_01 (k j : Nat) : (fxS k).getD j 0 = 0 ∨ (fxS k).getD j 0 = 1 := bms_01 _ _ j
theorem spS_01 (k j : Nat) : (spS k).getD j 0 = 0 ∨ (spS k).getD j 0 = 1 := bms_01 _ _ j
theorem spS_len (k : Nat) : (spS k).length = 5 := bms_ln _ _
theorem tkb_01 (t : Int × Nat × Nat) (j : Nat) : (tkb t).getD j 0 = 0 ∨ (tkb t).getD j 0 = 1 := by
  unfold tkb
  split
  · exact fxS_01 _ j
  · exact app_01 (app_01 (app_01 (fxS_01 _) (grp_01 _ _)) (spS_01 _)) (grp_01 _ _) j
theorem tkb_len {t : Int × Nat × Nat} (h : TOK t) : (tkb t).length ≤ 32 := by
  unfold tkb
  rcases h with ⟨h1, h2, h3, h4⟩ | ⟨h1, h2, h3, h4, h5⟩
  · rw [if_pos h4]
    have := fxS_len t.1.toNat (by omega); omega
  · rw [if_neg (by omega)]
    obtain ⟨s, b, r, e, a1, a2, a3, _⟩ := lenS_bd t.2.1 (by omega) (by omega)
    obtain ⟨s', b', r', e', a1', a3', _⟩ := spanS_bd t.2.2 (by omega) (by omega)
    rw [e, e']
    have := fxS_len s (by omega)
    simp only [List.length_append, Int.toNat_natCast, grp_len, spS_len]
    omega
section
attribute [local irreducible] grp fxS spS lenS spanS
variable {w0 : World} {H : List Asn} {b : Nat} {L : List Int} {q : Option Addr} {d : Nat} {pl ps pa pb : Option Addr} {cl cs ca cb : Nat}
set_option maxRecDepth 10000 in
set_option maxHeartbeats 4000000 in
/-- a token is written -/
theorem Tok_c (t : Int × Nat × Nat) (ht : TOK t) (hL : ∀ j, L.getD j 0 = 0 ∨ L.getD j 0 = 1) (hl : L.length ≤ 70368744177000) (w : World) (hw : St w0 (fwL b L q d pl ps pa pb cl cs ca cb H) w) :
    Calls Tryz.prog 164 #[.pointer (some ⟨b, 0, none⟩), .agg #[.int .u8 t.1, .int .i64 t.2.1, .int .i64 t.2.2]] w fun e w' => e = .returned (.tuple #[]) ∧ ∃ q d, St w0 (fwL b (L ++ tkb t) q d pl ps pa pb cl cs ca cb H) w' := by
  have hlen := tkb_len ht
  obtain ⟨x, n, k⟩ := t
  rcases ht with ⟨h1, h2, h3, h4⟩ | ⟨h1, h2, h3, h4, h5⟩
  · simp only [] at h1 h2 h3 h4
    subst h3; subst h4
    obtain ⟨x', rfl⟩ : ∃ x' : Nat, x = x' := ⟨x.toNat, by omega⟩
    exact Tok0_c x' (by omega) hL (by omega) w hw
  · simp only [] at h1 h2 h3 h4 h5 hlen ⊢
    obtain ⟨s, nb, r, e1, a1, a2, a3, a4, a5, _⟩ := lenS_bd n (by omega) (by omega)
    obtain ⟨s', nb', r', e2, c1, c3, c4, c5, _⟩ := spanS_bd k (by omega) (by omega)
    have htk : tkb (x, n, k) = fxS s ++ grp r nb ++ spS s' ++ grp r' nb' := by
      unfold tkb
      simp only []
      rw [if_neg (by omega), e1, e2]
      simp only [Int.toNat_natCast]
    rw [htk] at hlen ⊢
    simp only [List.length_append] at hlen
    have p5 : ∀ k : Fin 14, (2 : Int) ^ k.val ≤ 8192 := by decide
    have q1 := p5 ⟨nb, by omega⟩
    have q2 := p5 ⟨nb', by omega⟩
    simp only [] at q1 q2
    have f1 : nb ≤ 32 := by omega
    have f2 : r < 4294967296 := by omega
    have f3 : (L ++ fxS s).length ≤ 70368744177600 := by rw [List.length_append]; omega
    have f4 := app_01 hL (fxS_01 s)
    have f5 := app_01 f4 (grp_01 r nb)
    have f6 : (L ++ fxS s ++ grp r nb).length ≤ 70368744177600 := by rw [List.length_append, List.length_append]; omega
    have f7 := app_01 f5 (spS_01 s')
    have f8 : (L ++ fxS s ++ grp r nb ++ spS s').length ≤ 70368744177600 := by rw [List.length_append, List.length_append, List.length_append]; omega
    have f9 : nb' ≤ 32 := by omega
    have f10 : r' < 4294967296 := by omega
    have f11 : s < 288 := by omega
    have f12 : s' < 32 := by omega
    have f13 : L.length ≤ 70368744177600 := by omega
    refine enter (vs := [.pointer (some ⟨b, 0, none⟩), .agg #[.int .u8 x, .int .i64 n, .int .i64 k]]) Tryz.func164 rfl rfl rfl hw ?_
    clear hw w
    repeat (first | apply hIx 3 | (first | (refine sx ?_; try intro _)))
    refine Hold.go ?_
    rename_i bx
    refine JS_H (H' := fwL b L q d pl ps pa pb cl cs ca cb (blk bx [.int .u8 x, .int .i64 n, .int .i64 k] :: H)) (fun w hw => hw.perm (by (repeat (first | exact List.Perm.refl _ | refine List.Perm.cons _ ?_ | refine (List.perm_middle (l₁ := [_])).trans (List.Perm.cons _ ?_) | refine (List.perm_middle (l₁ := [_, _])).trans (List.Perm.cons _ ?_) | refine (List.perm_middle (l₁ := [_, _, _])).trans (List.Perm.cons _ ?_) | refine (List.perm_middle (l₁ := [_, _, _, _])).trans (List.Perm.cons _ ?_) | refine (List.perm_middle (l₁ := [_, _, _, _, _])).trans (List.Perm.cons _ ?_) | refine (List.perm_middle (l₁ := [_, _, _, _, _, _])).trans (List.Perm.cons _ ?_) | refine (List.perm_middle (l₁ := [_, _, _, _, _, _, _])).trans (List.Perm.cons _ ?_) | refine (List.perm_middle (l₁ := [_, _, _, _, _, _, _, _])).trans (List.Perm.cons _ ?_) | refine (List.perm_middle (l₁ := [_, _, _, _, _, _, _, _, _])).trans (List.Perm.cons _ ?_) | refine (List.perm_middle (l₁ := [_, _, _, _, _, _, _, _, _, _])).trans (List.Perm.cons _ ?_) | refine (List.perm_middle (l₁ := [_, _, _, _, _, _, _, _, _, _, _])).trans (List.Perm.cons _ ?_) | refine (List.perm_middle (l₁ := [_, _, _, _, _, _, _, _, _, _, _, _])).trans (List.Perm.cons _ ?_) | refine (List.perm_middle (l₁ := [_, _, _, _, _, _, _, _, _, _, _, _, _])).trans (List.Perm.cons _ ?_))))) ?_
    repeat (first | (refine sx ?_; try intro _))
    refine JO_call Tryz.call220 rfl rfl fun w hw => (TLength_c n w hw).mono ?_
    rintro e w' ⟨rfl, hw'⟩
    rw [e1]; dsimp only
    refine ⟨_, rfl, _, hw', ?_⟩
    clear hw' hw w w'
    repeat (first | (refine sx ?_; try intro _))
    refine JO_call Tryz.call165 rfl rfl fun w hw => (FLit_c (H := blk bx [.int .u8 x, .int .i64 n, .int .i64 k] :: H) s f11 hL f13 w hw).mono ?_
    rintro e w' ⟨rfl, q2, d2, hw'⟩
    refine ⟨_, rfl, _, hw', ?_⟩
    clear hw' hw w w'
    repeat (first | (refine sx ?_; try intro _))
    refine JO_call Tryz.call162 rfl rfl fun w hw => (WGroupT_c b (L ++ fxS s) q2 d2 r nb f1 ⟨a4, a5⟩ f2 f4 f3 w hw).mono ?_
    rintro e w' ⟨rfl, q3, d3, hw'⟩
    refine ⟨_, rfl, _, hw', ?_⟩
    clear hw' hw w w'
    repeat (first | (refine sx ?_; try intro _))
    refine JO_call Tryz.call221 rfl rfl fun w hw => (Span_c k w hw).mono ?_
    rintro e w' ⟨rfl, hw'⟩
    rw [e2]; dsimp only
    refine ⟨_, rfl, _, hw', ?_⟩
    clear hw' hw w w'
    repeat (first | (refine sx ?_; try intro _))
    refine JO_call Tryz.call222 rfl rfl fun w hw => (FSpan_c (L := L ++ fxS s ++ grp r nb) (q := q3) (d := d3) (H := blk bx [.int .u8 x, .int .i64 n, .int .i64 k] :: H) s' f12 f5 f6 w hw).mono ?_
    rintro e w' ⟨rfl, q4, d4, hw'⟩
    refine ⟨_, rfl, _, hw', ?_⟩
    clear hw' hw w w'
    repeat (first | (refine sx ?_; try intro _))
    refine JO_call Tryz.call162 rfl rfl fun w hw => (WGroupT_c b (L ++ fxS s ++ grp r nb ++ spS s') q4 d4 r' nb' f9 ⟨c4, c5⟩ f10 f7 f8 w hw).mono ?_
    rintro e w' ⟨rfl, q5, d5, hw'⟩
    refine ⟨_, rfl, _, hw', ?_⟩
    clear hw' hw w w'
    repeat (first | (refine sx ?_; try intro _))
    refine JS_fin Tryz.func164 rfl rfl (vs := []) ?_
    intro w hw
    refine ⟨rfl, q5, d5, ?_⟩
    have : L ++ (fxS s ++ grp r nb ++ spS s' ++ grp r' nb') = L ++ fxS s ++ grp r nb ++ spS s' ++ grp r' nb' := by simp only [List.append_assoc]
    rw [this]
    exact dS hw
end
end Go.Proofs.YteelffkghidpfaaGreat

set_option linter.unusedVariables false
set_option linter.unusedSimpArgs false
set_option maxRecDepth 100000
namespace Go.Proofs.YteelffkghidpfaaGreat
open Sx Go
/-- the bits of a fixed block -/
def fixL (B : List Int) : List Int := grp 1 1 ++ grp 1 2 ++ (toks B B.length 0).flatMap tkb ++ fxS 256
theorem tok_TOK {B : List Int} (hB : OKB B) (i : Nat) (hi : i < B.length) : TOK (tok B i) := by
  rcases tok_bd B i hi with h | ⟨n, d, h, h1, h2, h3, h4, h5, h6⟩
  · rw [h]; exact .inl ⟨(hB i).1, (hB i).2, rfl, rfl⟩
  · rw [h]; exact .inr ⟨rfl, h1, h2, h4, h6⟩
theorem toks_TOK {B : List Int} (hB : OKB B) : ∀ f i, ∀ t ∈ toks B f i, TOK t
  | 0, i, t, h => by rw [toks] at h; simp at h
  | f + 1, i, t, h => by
    rw [toks] at h
    split at h
    · rename_i hi
      rcases List.mem_cons.1 h with rfl | h
      · exact tok_TOK hB i hi
      · exact toks_TOK hB f _ t h
    · simp at h
theorem tkbs_len {l : List (Int × Nat × Nat)} (h : ∀ t ∈ l, TOK t) : (l.flatMap tkb).length ≤ 32 * l.length := by
  induction l with
  | nil => simp
  | cons t l ih =>
    rw [List.flatMap_cons, List.length_append, List.length_cons]
    have := tkb_len (h t (by simp))
    have := ih fun t ht => h t (by simp [ht])
    omega
theorem tkbs_01 : ∀ (l : List (Int × Nat × Nat)) (j : Nat), (l.flatMap tkb).getD j 0 = 0 ∨ (l.flatMap tkb).getD j 0 = 1
  | [], j => .inl (by simp)
  | t :: l, j => by rw [List.flatMap_cons]; exact app_01 (tkb_01 t) (tkbs_01 l) j
theorem tkbs_take {l : List (Int × Nat × Nat)} {i : Nat} (h : i < l.length) : (l.take (i + 1)).flatMap tkb = (l.take i).flatMap tkb ++ tkb (l[i]'h) := by
  rw [List.take_add_one, List.getElem?_eq_getElem h, List.flatMap_append]; simp
theorem tkv_at {l : List (Int × Nat × Nat)} {i : Nat} (h : i < l.length) : ((tkv l).drop (i * 3)).take 3 = [.int .u8 (l[i]'h).1, .int .i64 (l[i]'h).2.1, .int .i64 (l[i]'h).2.2] := by
  have e : l = l.take i ++ l[i] :: l.drop (i + 1) := by rw [List.getElem_cons_drop, List.take_append_drop]
  have e2 : tkv l = tkv (l.take i) ++ ([.int .u8 (l[i]'h).1, .int .i64 (l[i]'h).2.1, .int .i64 (l[i]'h).2.2] ++ tkv (l.drop (i + 1))) := by
    conv => lhs; rw [e]
    unfold tkv
    rw [List.flatMap_append, List.flatMap_cons]
  rw [e2, List.drop_append_of_le_length (by rw [tkv_len, List.length_take]; omega), List.drop_of_length_le (by rw [tkv_len, List.length_take]; omega)]
  rfl
theorem nil_01' (j : Nat) : ([] : List Int).getD j 0 = 0 ∨ ([] : List Int).getD j 0 = 1 := .inl (by simp)
theorem fixL_01 (B : List Int) (j : Nat) : (fixL B).getD j 0 = 0 ∨ (fixL B).getD j 0 = 1 :=
  app_01 (app_01 (app_01 (grp_01 1 1) (grp_01 1 2)) (tkbs_01 _)) (fxS_01 256) j
theorem fixL_len {B : List Int} (hB : OKB B) : (fixL B).length ≤ 32 * B.length + 12 := by
  unfold fixL
  have h1 := tkbs_len (toks_TOK hB B.length 0)
  have h2 := toks_len (B := B) B.length 0
  have h3 := fxS_len 256 (by omega)
  simp only [List.length_append, grp_len]
  omega
theorem fxB_okb : OKB fxB := by unfold fxB; exact fix_okb
theorem fxB_okl : OKL fxB := by unfold fxB; exact fix_okl
theorem spB_okb : OKB spB := by unfold spB; exact spans_okb
theorem spB_okl : OKL spB := by unfold spB; exact spans_okl
theorem fxB_eq : tab 288 fixF = fxB := by unfold fxB; rfl
theorem spB_eq : List.replicate 32 5 = spB := by unfold spB; rfl
theorem fxC_eq : cds fxB 16 0 = fxC := by unfold fxC; rfl
theorem spC_eq : cds spB 16 0 = spC := by unfold spC; rfl
section
attribute [local irreducible] grp fxS spS lenS spanS toks tkv tkb cds pack
variable {w0 : World} {H : List Asn}
set_option maxRecDepth 10000 in
set_option maxHeartbeats 4000000 in
/-- the fixed block of a text -/
theorem DFixed_c (p : Option Addr) (c m : Nat) (B : List Int) (hr : Rd w0 H (.slice p m c) m (ints .u8 B)) (hm : B.length = m) (hB : OKB B) (h4 : m ≤ 1100000) (w : World) (hw : St w0 H w) :
    Calls Tryz.prog 121 #[.slice p m c] w fun e w' => ∃ q d, e = .returned (.slice q (pack (fixL B)).length d) ∧ St w0 (vec 5 1 (.slice q (pack (fixL B)).length d) (pack (fixL B)).length (ints .u8 (pack (fixL B))) :: H) w' := by
  refine enter (vs := [.slice p m c]) Tryz.func121 rfl rfl rfl hw ?_
  clear hw w
  repeat (first | (refine sx ?_; try intro _))
  refine JO_call Tryz.call159 rfl rfl fun w hw => (Fixed_c w hw).mono ?_
  rintro e w' ⟨pl, cl, rfl, hw'⟩
  rw [fxB_eq] at hw'
  refine ⟨_, rfl, _, hw', ?_⟩
  clear hw' hw w w'
  repeat (first | (refine sx ?_; try intro _))
  refine JO_call Tryz.call160 rfl rfl fun w hw => (Spans_c w hw).mono ?_
  rintro e w' ⟨ps, cs, rfl, hw'⟩
  rw [spB_eq] at hw'
  refine ⟨_, rfl, _, hw', ?_⟩
  clear hw' hw w w'
  repeat (first | apply hIx 2 | (first | (refine sx ?_; try intro _)))
  refine Hold.go ?_
  rename_i b
  refine JS_H (H' := blk b [.slice none 0 0, .int .i64 0, .slice pl 288 cl, .slice ps 32 cs, .slice none 0 0, .slice none 0 0] :: vec 5 1 (.slice ps 32 cs) 32 (ints .u8 spB) :: vec 5 1 (.slice pl 288 cl) 288 (ints .u8 fxB) :: H) (fun w hw => hw) ?_
  refine JS_seq ?_
  refine JS_order [0, 1, 2, 3, 4, 5, 7, 8, 9, 10, 6, 11, 12, 13, 14, 15, 16, 17] [3, 0] (Picks.cons rfl (Picks.cons rfl (Picks.cons rfl (Picks.cons rfl (Picks.cons rfl (Picks.cons rfl (Picks.cons rfl (Picks.cons rfl (Picks.cons rfl (Picks.cons rfl (Picks.cons rfl (Picks.cons rfl (Picks.cons rfl (Picks.cons rfl (Picks.cons rfl (Picks.cons rfl (Picks.cons rfl (Picks.cons rfl (Picks.nil))))))))))))))))))) (by kernel_rfl) (by kernel_rfl) rfl (by decide +kernel) ?_
  repeat (first | (refine sx ?_; try intro _))
  refine QO_call Tryz.call161 rfl rfl fun w hw => (FCodes_c pl cl 288 fxB (vec_rd (e := 5) (size := 1) (by repeat (first | apply List.Mem.head | apply List.Mem.tail))) fxB_len fxB_okb fxB_okl (Rd.nil (vec_rd (e := 5) (size := 1) (n := 288) (cs := ints .u8 fxB) (by repeat (first | apply List.Mem.head | apply List.Mem.tail))) hw) w hw).mono ?_
  rintro e w' ⟨pa, ca, rfl, hw'⟩
  rw [fxC_eq] at hw'
  refine ⟨_, rfl, _, hw', .inl fun w hw => dS hw, ?_⟩
  clear hw' hw w w'
  repeat (first | (refine sx ?_; try intro _))
  refine QO_call Tryz.call161 rfl rfl fun w hw => (FCodes_c ps cs 32 spB (vec_rd (e := 5) (size := 1) (by repeat (first | apply List.Mem.head | apply List.Mem.tail))) spB_len spB_okb spB_okl (Rd.nil (vec_rd (e := 5) (size := 1) (n := 32) (cs := ints .u8 spB) (by repeat (first | apply List.Mem.head | apply List.Mem.tail))) hw) w hw).mono ?_
  rintro e w' ⟨pb, cb, rfl, hw'⟩
  rw [spC_eq] at hw'
  refine ⟨_, rfl, _, hw', .inl fun w hw => dS hw, ?_⟩
  clear hw' hw w w'
  repeat (first | apply hIx 3 | (first | (refine sx ?_; try intro _)))
  refine Hold.go ?_
  refine JS_H (H' := fwL b [] none 0 pl ps pa pb cl cs ca cb H) (fun w hw => by
    have h1 := St.nilvec (e := 5) (sz := 1) (base := none) hw
    show St w0 (blk b [.slice none 0 0, .int .i64 0, .slice pl 288 cl, .slice ps 32 cs, .slice pa 288 ca, .slice pb 32 cb] :: vec 5 1 (.slice none 0 0) 0 (ints .u8 (pack [])) :: vec 5 1 (.slice pl 288 cl) 288 (ints .u8 fxB) :: vec 5 1 (.slice ps 32 cs) 32 (ints .u8 spB) ::
      vec 31 1 (.slice pa 288 ca) 288 (ints .u32 fxC) :: vec 31 1 (.slice pb 32 cb) 32 (ints .u32 spC) :: H) w
    have hp : pack [] = [] := by unfold pack; rfl
    rw [hp]
    exact h1.perm (by (repeat (first | exact List.Perm.refl _ | refine List.Perm.cons _ ?_ | refine (List.perm_middle (l₁ := [_])).trans (List.Perm.cons _ ?_) | refine (List.perm_middle (l₁ := [_, _])).trans (List.Perm.cons _ ?_) | refine (List.perm_middle (l₁ := [_, _, _])).trans (List.Perm.cons _ ?_) | refine (List.perm_middle (l₁ := [_, _, _, _])).trans (List.Perm.cons _ ?_) | refine (List.perm_middle (l₁ := [_, _, _, _, _])).trans (List.Perm.cons _ ?_) | refine (List.perm_middle (l₁ := [_, _, _, _, _, _])).trans (List.Perm.cons _ ?_) | refine (List.perm_middle (l₁ := [_, _, _, _, _, _, _])).trans (List.Perm.cons _ ?_) | refine (List.perm_middle (l₁ := [_, _, _, _, _, _, _, _])).trans (List.Perm.cons _ ?_) | refine (List.perm_middle (l₁ := [_, _, _, _, _, _, _, _, _])).trans (List.Perm.cons _ ?_) | refine (List.perm_middle (l₁ := [_, _, _, _, _, _, _, _, _, _])).trans (List.Perm.cons _ ?_) | refine (List.perm_middle (l₁ := [_, _, _, _, _, _, _, _, _, _, _])).trans (List.Perm.cons _ ?_) | refine (List.perm_middle (l₁ := [_, _, _, _, _, _, _, _, _, _, _, _])).trans (List.Perm.cons _ ?_) | refine (List.perm_middle (l₁ := [_, _, _, _, _, _, _, _, _, _, _, _, _])).trans (List.Perm.cons _ ?_))))) ?_
  repeat (first | (refine sx ?_; try intro _))
  refine JO_call Tryz.call162 rfl rfl fun w hw => (WGroupT_c b [] none 0 1 1 (by omega) ⟨by decide, by decide⟩ (by decide) nil_01' (by simp) w hw).mono ?_
  rintro e w' ⟨rfl, q1, d1, hw'⟩
  refine ⟨_, rfl, _, hw', ?_⟩
  clear hw' hw w w'
  repeat (first | (refine sx ?_; try intro _))
  have o1 := app_01 nil_01' (grp_01 1 1)
  have l1 : (([] : List Int) ++ grp 1 1).length = 1 := by rw [List.nil_append, grp_len]
  refine JO_call Tryz.call162 rfl rfl fun w hw => (WGroupT_c b _ q1 d1 1 2 (by omega) ⟨by decide, by decide⟩ (by decide) o1 (by rw [l1]; omega) w hw).mono ?_
  rintro e w' ⟨rfl, q2, d2, hw'⟩
  rw [show ([] : List Int) ++ grp 1 1 ++ grp 1 2 = grp 1 1 ++ grp 1 2 by rw [List.nil_append]] at hw'
  refine ⟨_, rfl, _, hw', ?_⟩
  clear hw' hw w w' o1 l1
  repeat (first | (refine sx ?_; try intro _))
  refine JO_call Tryz.call163 rfl rfl fun w hw => (Find_c p c m B (Rd_weak hr fun w hw => dS hw) hm hB h4 w hw).mono ?_
  rintro e w' ⟨qt, dt, rfl, hw'⟩
  have hT := toks_TOK hB m 0
  have hTl := toks_len (B := B) m 0
  have hfix : fixL B = grp 1 1 ++ grp 1 2 ++ (toks B m 0).flatMap tkb ++ fxS 256 := by unfold fixL; rw [hm]
  obtain ⟨l, hl⟩ : ∃ l, toks B m 0 = l := ⟨_, rfl⟩
  rw [hl] at hT hTl hfix hw' ⊢
  refine ⟨_, rfl, _, hw', ?_⟩
  clear hw' hw w w'
  repeat (first | (refine sx ?_; try intro _))
  have h0 : grp 1 1 ++ grp 1 2 ++ (l.take 0).flatMap tkb = grp 1 1 ++ grp 1 2 := by rw [List.take_zero, List.flatMap_nil, List.append_nil]
  refine JS_loop3 (fun (i : Nat) (q : Option Addr) (d : Nat) => [(0, .slice p m c), (3, .pointer (some ⟨b, 0, none⟩)), (35, .slice qt l.length dt), (36, .int .i64 l.length), (37, .int .i64 i)])
    (fun i q d => fwL b (grp 1 1 ++ grp 1 2 ++ (l.take i).flatMap tkb) q d pl ps pa pb cl cs ca cb (vec 218 3 (.slice qt l.length dt) l.length (tkv l) :: H)) (fun i _ _ => i ≤ l.length) (fun i _ _ => l.length - i) 0 q2 d2 (Nat.zero_le _) (by repeat (first | exact trivial | refine ⟨rfl, ?_⟩ | refine ⟨lookI rfl (by omega), ?_⟩))
    (fun w hw => by rw [h0]; exact hw.perm (by (repeat (first | exact List.Perm.refl _ | refine List.Perm.cons _ ?_ | refine (List.perm_middle (l₁ := [_])).trans (List.Perm.cons _ ?_) | refine (List.perm_middle (l₁ := [_, _])).trans (List.Perm.cons _ ?_) | refine (List.perm_middle (l₁ := [_, _, _])).trans (List.Perm.cons _ ?_) | refine (List.perm_middle (l₁ := [_, _, _, _])).trans (List.Perm.cons _ ?_) | refine (List.perm_middle (l₁ := [_, _, _, _, _])).trans (List.Perm.cons _ ?_) | refine (List.perm_middle (l₁ := [_, _, _, _, _, _])).trans (List.Perm.cons _ ?_) | refine (List.perm_middle (l₁ := [_, _, _, _, _, _, _])).trans (List.Perm.cons _ ?_) | refine (List.perm_middle (l₁ := [_, _, _, _, _, _, _, _])).trans (List.Perm.cons _ ?_) | refine (List.perm_middle (l₁ := [_, _, _, _, _, _, _, _, _])).trans (List.Perm.cons _ ?_) | refine (List.perm_middle (l₁ := [_, _, _, _, _, _, _, _, _, _])).trans (List.Perm.cons _ ?_) | refine (List.perm_middle (l₁ := [_, _, _, _, _, _, _, _, _, _, _])).trans (List.Perm.cons _ ?_) | refine (List.perm_middle (l₁ := [_, _, _, _, _, _, _, _, _, _, _, _])).trans (List.Perm.cons _ ?_) | refine (List.perm_middle (l₁ := [_, _, _, _, _, _, _, _, _, _, _, _, _])).trans (List.Perm.cons _ ?_))))) ?_
  intro i q d hi again
  have o3 := app_01 (app_01 (grp_01 1 1) (grp_01 1 2)) (tkbs_01 (l.take i))
  have hl3 : (grp 1 1 ++ grp 1 2 ++ (l.take i).flatMap tkb).length ≤ 32 * l.length + 3 := by
    have := tkbs_len (l := l.take i) fun t ht => hT t (List.mem_of_mem_take ht)
    rw [List.length_take] at this
    simp only [List.length_append, grp_len]
    omega
  by_cases hil : i < l.length
  · have hat := tkv_at hil
    have htk := tkbs_take hil
    have hTi := hT _ (List.getElem_mem hil)
    obtain ⟨t, ht⟩ : ∃ t, l[i] = t := ⟨_, rfl⟩
    rw [ht] at hat htk hTi
    repeat (first | (apply gJO; refine JO_v (oL (V_loadCA (tb := tb) rfl (vec_rd (by repeat (first | apply List.Mem.head | apply List.Mem.tail))) rfl rfl rfl (by decide) hat rfl)) ?_) | (first | (refine sx ?_; try intro _)))
    rename_i bt
    have e8 : (.agg [.int .u8 t.1, .int .i64 t.2.1, .int .i64 t.2.2].toArray : Value) = .agg #[.int .u8 t.1, .int .i64 t.2.1, .int .i64 t.2.2] := rfl
    have hlx : (grp 1 1 ++ grp 1 2 ++ (l.take i).flatMap tkb).length ≤ 70368744177000 := by omega
    refine JO_call Tryz.call164 rfl rfl fun w hw => (Tok_c (H := blk bt [.int .u8 t.1, .int .i64 t.2.1, .int .i64 t.2.2] :: vec 218 3 (.slice qt l.length dt) l.length (tkv l) :: H) (L := grp 1 1 ++ grp 1 2 ++ (l.take i).flatMap tkb) (q := q) (d := d) t hTi o3 hlx w (hw.perm (by (repeat (first | exact List.Perm.refl _ | refine List.Perm.cons _ ?_ | refine (List.perm_middle (l₁ := [_])).trans (List.Perm.cons _ ?_) | refine (List.perm_middle (l₁ := [_, _])).trans (List.Perm.cons _ ?_) | refine (List.perm_middle (l₁ := [_, _, _])).trans (List.Perm.cons _ ?_) | refine (List.perm_middle (l₁ := [_, _, _, _])).trans (List.Perm.cons _ ?_) | refine (List.perm_middle (l₁ := [_, _, _, _, _])).trans (List.Perm.cons _ ?_) | refine (List.perm_middle (l₁ := [_, _, _, _, _, _])).trans (List.Perm.cons _ ?_) | refine (List.perm_middle (l₁ := [_, _, _, _, _, _, _])).trans (List.Perm.cons _ ?_) | refine (List.perm_middle (l₁ := [_, _, _, _, _, _, _, _])).trans (List.Perm.cons _ ?_) | refine (List.perm_middle (l₁ := [_, _, _, _, _, _, _, _, _])).trans (List.Perm.cons _ ?_) | refine (List.perm_middle (l₁ := [_, _, _, _, _, _, _, _, _, _])).trans (List.Perm.cons _ ?_) | refine (List.perm_middle (l₁ := [_, _, _, _, _, _, _, _, _, _, _])).trans (List.Perm.cons _ ?_) | refine (List.perm_middle (l₁ := [_, _, _, _, _, _, _, _, _, _, _, _])).trans (List.Perm.cons _ ?_) | refine (List.perm_middle (l₁ := [_, _, _, _, _, _, _, _, _, _, _, _, _])).trans (List.Perm.cons _ ?_)))))).mono ?_
    rintro e w' ⟨rfl, q3, d3, hw'⟩
    refine ⟨_, rfl, _, hw', ?_⟩
    clear hw' hw w w'
    repeat (first | (refine sx ?_; try intro _))
    refine JS_again3 again (i + 1) q3 d3 (by omega) (by omega) (by repeat (first | exact trivial | refine ⟨rfl, ?_⟩ | refine ⟨lookI rfl (by omega), ?_⟩)) (fun w hw => ?_)
    rw [htk, ← List.append_assoc]
    exact dS hw
  · obtain rfl : i = l.length := by omega
    clear again
    rw [List.take_length] at o3 hl3 ⊢
    have hl9 := fxS_len 256 (by omega)
    have hlx : (grp 1 1 ++ grp 1 2 ++ l.flatMap tkb).length ≤ 70368744177600 := by omega
    repeat (first | (refine sx ?_; try intro _))
    refine JO_call Tryz.call165 rfl rfl fun w hw => (FLit_c (H := vec 218 3 (.slice qt l.length dt) l.length (tkv l) :: H) (L := grp 1 1 ++ grp 1 2 ++ l.flatMap tkb) (q := q) (d := d) 256 (by omega) o3 hlx w hw).mono ?_
    rintro e w' ⟨rfl, q3, d3, hw'⟩
    rw [← hfix] at hw'
    refine ⟨_, rfl, _, hw', ?_⟩
    clear hw' hw w w'
    repeat (first | (refine sx ?_; try intro _))
    have o4 := fixL_01 B
    have hl4 : (fixL B).length ≤ 70368744177664 := by rw [hfix, List.length_append]; omega
    refine JO_call Tryz.call166 rfl rfl fun w hw => (WBytesT_c b (pack (fixL B)).length (fixL B) q3 d3 o4 hl4 (pack_len _).symm w hw).mono ?_
    rintro e w' ⟨q4, d4, rfl, hw'⟩
    refine ⟨_, rfl, _, hw', ?_⟩
    clear hw' hw w w'
    repeat (first | (refine sx ?_; try intro _))
    refine JS_ret Tryz.func121 rfl rfl fun w hw => ⟨q4, d4, rfl, dS hw⟩
end
end Go.Proofs.YteelffkghidpfaaGreat

namespace Go.Proofs.YteelffkghidpfaaGreat
open Sx Go
set_option linter.unusedVariables false
set_option linter.unusedSimpArgs false
set_option maxRecDepth 100000
attribute [local irreducible] syA fc tk cds
theorem lbase_ok {i : Int} (h : (lbase i).1 ≠ 0) : 257 ≤ i ∧ i ≤ 285 ∧ 3 ≤ (lbase i).1 ∧ (lbase i).1 ≤ 258 ∧ 0 ≤ (lbase i).2 ∧ (lbase i).2 ≤ 5 := by
  by_cases h1 : i < 257 ∨ 285 < i
  · exact absurd (by unfold lbase; rw [if_pos h1]) h
  by_cases h2 : i = 285
  · subst h2; decide
  · obtain ⟨k, rfl⟩ : ∃ k : Nat, i = 257 + k := ⟨(i - 257).toNat, by omega⟩
    have := lbase_bd k (by omega)
    omega
theorem lfar_ok {i : Int} (h : (lfar i).1 ≠ 0) : 0 ≤ i ∧ i ≤ 29 ∧ 1 ≤ (lfar i).1 ∧ (lfar i).1 ≤ 24577 ∧ 0 ≤ (lfar i).2 ∧ (lfar i).2 ≤ 13 := by
  by_cases h1 : i < 0 ∨ 29 < i
  · exact absurd (by unfold lfar; rw [if_pos h1]) h
  · obtain ⟨k, rfl⟩ : ∃ k : Nat, i = k := ⟨i.toNat, by omega⟩
    have := lfar_bd k (by omega)
    omega
section
variable {w0 : World} {H : List Asn} {bf br : Nat} {q : Option Addr} {d m : Nat} {B : List Int} {lim : Nat} {po : Option Addr} {co : Nat} {o : List Int}
set_option maxRecDepth 10000 in
set_option maxHeartbeats 4000000 in
/-- a block of symbols -/
theorem Blk_c (hK : InfK m B lim) (a : Nat) (ha : a ≤ 8 * m) (ho : o.length ≤ lim) (b1 b2 : Nat) (L D : List Int) (hs1 : IsSet w0 H b1 L) (hs2 : IsSet w0 H b2 D) (w : World) (hw : St w0 (infL bf br q d m B lim a po co o H) w) :
    Calls Tryz.prog 232 #[.pointer (some ⟨bf, 0, none⟩), .pointer (some ⟨b1, 0, none⟩), .pointer (some ⟨b2, 0, none⟩)] w fun e w' => ∃ r, It (blkF (bitB B 0) (8 * m) lim L D) a o r ∧ resP r (fun r => e = .panicked (FLT r) ∧ St w0 H w')
      (fun a' o' => a' ≤ 8 * m ∧ o'.length ≤ lim ∧ e = .returned (.tuple #[]) ∧ ∃ po co, St w0 (infL bf br q d m B lim a' po co o' H) w') := by
  have hl := hK.hl
  have hm1 := hK.hm1
  have hL320 := hs1.hl.1
  have hD320 := hs2.hl.1
  refine enter (vs := [.pointer (some ⟨bf, 0, none⟩), .pointer (some ⟨b1, 0, none⟩), .pointer (some ⟨b2, 0, none⟩)]) Tryz.func232 rfl rfl rfl hw ?_
  refine JS_block ?_
  refine JS_loop4 (fun (a1 : Nat) (o1 : List Int) (p : Option Addr) (c : Nat) => [(0, .pointer (some ⟨bf, 0, none⟩)), (1, .pointer (some ⟨b1, 0, none⟩)), (2, .pointer (some ⟨b2, 0, none⟩))]) (fun a1 o1 p c => infL bf br q d m B lim a1 p c o1 H)
    (fun a1 o1 _ _ => a1 ≤ 8 * m ∧ o1.length ≤ lim ∧ ∀ r, It (blkF (bitB B 0) (8 * m) lim L D) a1 o1 r → It (blkF (bitB B 0) (8 * m) lim L D) a o r) (fun a1 _ _ _ => 8 * m - a1) a o po co ⟨ha, ho, fun _ h => h⟩ (by repeat (first | exact trivial | refine ⟨rfl, ?_⟩ | refine ⟨lookI rfl (by omega), ?_⟩)) (fun _ h => h) ?_
  intro a1 o1 p c ⟨ha1, ho1, hinv⟩ again
  repeat (first | (refine sx ?_; try intro _))
  refine JO_callE Tryz.func232 Tryz.call247 rfl rfl fun A hA w hw => (Sym_c hK a1 ha1 b1 L hs1 w hw).mono ?_
  intro e w' h
  unfold symP at h
  cases hsy : symS (bitB B 0) (8 * m) L a1 with
  | err r =>
    rw [hsy] at h
    obtain ⟨rfl, hw'⟩ := h
    exact .inr ⟨_, rfl, .err r, hinv _ (.err (by unfold blkF; rw [hsy])), rfl, hw'⟩
  | ok i a2 =>
  rw [hsy] at h
  obtain ⟨hi0, hiL, ha12, ha2, rfl, hw'⟩ := h
  refine .inl ⟨_, rfl, _, hw', ?_⟩
  clear hw' hw w w' hA A
  have hF : blkF (bitB B 0) (8 * m) lim L D a1 o1 = if i = 256 then .stop a2 o1
    else if i < 256 then (if (lim : Int) - o1.length < 1 then .err 64 else .go a2 (o1 ++ [i]))
    else if (lbase i).1 = 0 then .err 62
    else if 8 * m < a2 + (lbase i).2.toNat then .err 20
    else blk2 (bitB B 0) (8 * m) lim D o1 ((lbase i).1 + nbt (bitB B 0) a2 (lbase i).2.toNat) (a2 + (lbase i).2.toNat) := by unfold blkF; rw [hsy]
  by_cases h256 : i = 256
  · rw [if_pos h256] at hF
    clear again
    repeat (first | (refine sx ?_; try intro _))
    refine JS_ret Tryz.func232 rfl rfl ?_
    intro w hw
    exact ⟨.ok a2 o1, hinv _ (.stop hF), ha2, ho1, rfl, p, c, hw⟩
  rw [if_neg h256] at hF
  by_cases hlt : i < 256
  · rw [if_pos hlt] at hF
    repeat (first | (refine sx ?_; try intro _))
    rename_i p1
    refine JO_callE Tryz.func232 Tryz.call231 rfl rfl fun A hA w hw => (Tell_c hK a2 (some p1) 1 1 [i] (vec_rd (List.Mem.head _)) rfl ho1 (by omega) w (infL_in hw)).mono ?_
    rintro e w' (⟨h, rfl, hw'⟩ | ⟨h, rfl, p', c', hw'⟩)
    · exact .inr ⟨_, rfl, .err 64, hinv _ (.err (by rw [hF, if_pos (by omega)])), rfl, hw'.drop⟩
    refine .inl ⟨_, rfl, _, hw', ?_⟩
    clear hw' hw w w' hA A
    rw [if_neg (by omega)] at hF
    repeat (first | (refine sx ?_; try intro _))
    exact JS_again4 again a2 (o1 ++ [i]) p' c' ⟨ha2, by simp; omega, fun r hr => hinv r (.go hF hr)⟩ (by omega) (by exact ⟨rfl, rfl, rfl, trivial⟩) (fun w hw => infL_out hw)
  rw [if_neg hlt] at hF
  repeat (first | (refine sx ?_; try intro _))
  refine JO_call Tryz.call242 rfl rfl fun w hw => (Base_c i (by omega) w hw).mono ?_
  rintro e w' ⟨rfl, hw'⟩
  refine ⟨_, rfl, _, hw', ?_⟩
  clear hw' hw w w'
  by_cases hb0 : (lbase i).1 = 0
  · rw [if_pos hb0] at hF
    generalize lbase i = lb at *
    repeat (first | (refine sx ?_; try intro _))
    refine JO_callE Tryz.func232 Tryz.call210 rfl rfl fun A hA w hw => (Give_c 62 w hw).mono ?_
    rintro e w' (⟨h, rfl, hw'⟩ | ⟨_, rfl, hw'⟩)
    · exact absurd h (by decide)
    · exact .inr ⟨_, rfl, .err 62, hinv _ (.err hF), rfl, infL_drop hw'⟩
  rw [if_neg hb0] at hF
  obtain ⟨_, _, c1, c2, c3, c4⟩ := lbase_ok hb0
  obtain ⟨⟨lb1, lb2⟩, hlb⟩ : ∃ x, lbase i = x := ⟨_, rfl⟩
  rw [hlb] at hF hb0 c1 c2 c3 c4 ⊢
  simp only at hF hb0 c1 c2 c3 c4 ⊢
  obtain ⟨k1, rfl⟩ : ∃ k : Nat, lb2 = k := ⟨lb2.toNat, by omega⟩
  simp only [Int.toNat_natCast] at hF
  obtain ⟨hn0, hn1⟩ := nbt_bd (bitB B 0) (bitB_01 B 0) a2 k1
  have hp1 := (pw16 5 (by omega)).2
  have hp1 : (2 : Int) ^ k1 ≤ 32 := by
    have : ∀ k : Fin 6, (2 : Int) ^ k.val ≤ 32 := by decide
    exact this ⟨k1, by omega⟩
  obtain ⟨n1, hn1e⟩ := Int.eq_ofNat_of_zero_le hn0
  rw [hn1e] at hF hn1
  repeat (first | (refine sx ?_; try intro _))
  refine JO_callE Tryz.func232 Tryz.call209 rfl rfl fun A hA w hw => (Grp_c hK a2 k1 (by omega) ha2 w hw).mono ?_
  rintro e w' (⟨h, rfl, hw'⟩ | ⟨h1, he, hw'⟩)
  · exact .inr ⟨_, rfl, .err 20, hinv _ (.err (by rw [hF, if_pos h])), rfl, hw'⟩
  rw [hn1e] at he; subst he
  refine .inl ⟨_, rfl, _, hw', ?_⟩
  clear hw' hw w w' hA A
  rw [if_neg (by omega)] at hF
  obtain ⟨ln, hln⟩ : ∃ ln : Nat, lb1 + (n1 : Int) = ln := ⟨(lb1 + (n1 : Int)).toNat, by omega⟩
  rw [hln] at hF
  repeat (first | (refine sx ?_; try intro _))
  refine JO_callE Tryz.func232 Tryz.call247 rfl rfl fun A hA w hw => (Sym_c hK (a2 + k1) h1 b2 D hs2 w hw).mono ?_
  intro e w' h
  unfold symP at h
  cases hsy2 : symS (bitB B 0) (8 * m) D (a2 + k1) with
  | err r =>
    rw [hsy2] at h
    obtain ⟨rfl, hw'⟩ := h
    exact .inr ⟨_, rfl, .err r, hinv _ (.err (by rw [hF]; unfold blk2; rw [hsy2])), rfl, hw'⟩
  | ok dd a3 =>
  rw [hsy2] at h
  obtain ⟨hd0, hdD, ha23, ha3, rfl, hw'⟩ := h
  refine .inl ⟨_, rfl, _, hw', ?_⟩
  clear hw' hw w w' hA A
  have hF2 : blk2 (bitB B 0) (8 * m) lim D o1 ln (a2 + k1) = if (lfar dd).1 = 0 then .err 62
    else if 8 * m < a3 + (lfar dd).2.toNat then .err 20
    else if (o1.length : Int) < (lfar dd).1 + nbt (bitB B 0) a3 (lfar dd).2.toNat then .err 63
    else if (lim : Int) - o1.length < ln then .err 64
    else .go (a3 + (lfar dd).2.toNat) (cpy o1 ((lfar dd).1 + nbt (bitB B 0) a3 (lfar dd).2.toNat).toNat (ln : Int).toNat) := by unfold blk2; rw [hsy2]
  rw [hF2] at hF
  clear hF2
  repeat (first | (refine sx ?_; try intro _))
  refine JO_call Tryz.call243 rfl rfl fun w hw => (Far_c dd (by omega) w hw).mono ?_
  rintro e w' ⟨rfl, hw'⟩
  refine ⟨_, rfl, _, hw', ?_⟩
  clear hw' hw w w'
  by_cases hf0 : (lfar dd).1 = 0
  · rw [if_pos hf0] at hF
    generalize lfar dd = lf at *
    repeat (first | (refine sx ?_; try intro _))
    refine JO_callE Tryz.func232 Tryz.call210 rfl rfl fun A hA w hw => (Give_c 62 w hw).mono ?_
    rintro e w' (⟨h, rfl, hw'⟩ | ⟨_, rfl, hw'⟩)
    · exact absurd h (by decide)
    · exact .inr ⟨_, rfl, .err 62, hinv _ (.err hF), rfl, infL_drop hw'⟩
  rw [if_neg hf0] at hF
  obtain ⟨_, _, d1, d2, d3, d4⟩ := lfar_ok hf0
  obtain ⟨⟨lf1, lf2⟩, hlf⟩ : ∃ x, lfar dd = x := ⟨_, rfl⟩
  rw [hlf] at hF hf0 d1 d2 d3 d4 ⊢
  simp only at hF hf0 d1 d2 d3 d4 ⊢
  obtain ⟨k2, rfl⟩ : ∃ k : Nat, lf2 = k := ⟨lf2.toNat, by omega⟩
  simp only [Int.toNat_natCast] at hF
  obtain ⟨hm0, hm1'⟩ := nbt_bd (bitB B 0) (bitB_01 B 0) a3 k2
  have hp2 : (2 : Int) ^ k2 ≤ 8192 := by
    have : ∀ k : Fin 14, (2 : Int) ^ k.val ≤ 8192 := by decide
    exact this ⟨k2, by omega⟩
  obtain ⟨n2, hn2e⟩ := Int.eq_ofNat_of_zero_le hm0
  rw [hn2e] at hF hm1'
  repeat (first | (refine sx ?_; try intro _))
  refine JO_callE Tryz.func232 Tryz.call209 rfl rfl fun A hA w hw => (Grp_c hK a3 k2 (by omega) ha3 w hw).mono ?_
  rintro e w' (⟨h, rfl, hw'⟩ | ⟨h2, he, hw'⟩)
  · exact .inr ⟨_, rfl, .err 20, hinv _ (.err (by rw [hF, if_pos h])), rfl, hw'⟩
  rw [hn2e] at he; subst he
  refine .inl ⟨_, rfl, _, hw', ?_⟩
  clear hw' hw w w' hA A
  rw [if_neg (by omega)] at hF
  obtain ⟨bk, hbk⟩ : ∃ bk : Nat, lf1 + (n2 : Int) = bk := ⟨(lf1 + (n2 : Int)).toNat, by omega⟩
  rw [hbk, Int.toNat_natCast] at hF
  repeat (first | (refine sx ?_; try intro _))
  simp only [hln, hbk]
  refine JO_callE Tryz.func232 Tryz.call248 rfl rfl fun A hA w hw => (Again_c hK (a3 + k2) ln bk (by omega) ho1 (by omega) (by omega) w hw).mono ?_
  rintro e w' (⟨h, rfl, hw'⟩ | ⟨h, h', rfl, hw'⟩ | ⟨h, h', rfl, p', c', hw'⟩)
  · exact .inr ⟨_, rfl, .err 63, hinv _ (.err (by rw [hF, if_pos (by omega)])), rfl, hw'⟩
  · exact .inr ⟨_, rfl, .err 64, hinv _ (.err (by rw [hF, if_neg (by omega), if_pos h'])), rfl, hw'⟩
  refine .inl ⟨_, rfl, _, hw', ?_⟩
  clear hw' hw w w' hA A
  rw [if_neg (by omega), if_neg h'] at hF
  repeat (first | (refine sx ?_; try intro _))
  exact JS_again4 again (a3 + k2) (cpy o1 bk ln) p' c' ⟨h2, by rw [cpy_len]; omega, fun r hr => hinv r (.go hF hr)⟩ (by omega) (by exact ⟨rfl, rfl, rfl, trivial⟩) (fun w hw => hw)
end
end Go.Proofs.YteelffkghidpfaaGreat
