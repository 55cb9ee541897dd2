import Derived.Test.YtjgjppgocheklaaK1
import Derived.Test.YtjgjppgocheklaaX19
namespace Go.Proofs.Ytjgjppgocheklaa
open Sx Go
set_option linter.unusedVariables false
set_option linter.unusedSimpArgs false
/-! bits turned about -/
def bsw (s : Nat) (m v : BitVec 32) : BitVec 32 := ((v >>> s) &&& m) ||| ((v &&& m) <<< s)
def ix (s j : Nat) : Nat := if (j / s) % 2 = 0 then j + s else j - s
theorem sw_bit (s : Nat) (hs : s = 1 ∨ s = 2 ∨ s = 4 ∨ s = 8 ∨ s = 16) (m v : BitVec 32) (hm : ∀ j, j < 32 → m.getLsbD j = decide ((j / s) % 2 = 0)) (j : Nat) (hj : j < 32) : (bsw s m v).getLsbD j = v.getLsbD (ix s j) := by
  unfold bsw ix
  simp only [BitVec.getLsbD_or, BitVec.getLsbD_and, BitVec.getLsbD_ushiftRight, BitVec.getLsbD_shiftLeft, hm j hj]
  by_cases h : (j / s) % 2 = 0
  · rw [if_pos h, decide_eq_true h, Bool.and_true, Nat.add_comm s j]
    by_cases hjs : j < s
    · simp [hjs]
    · have : m.getLsbD (j - s) = false := by
        rw [hm (j - s) (by omega)]
        refine decide_eq_false ?_
        rcases hs with rfl | rfl | rfl | rfl | rfl <;> omega
      simp [this]
  · rw [if_neg h, decide_eq_false h, Bool.and_false, Bool.false_or]
    have h1 : s ≤ j := by rcases hs with rfl | rfl | rfl | rfl | rfl <;> omega
    have : m.getLsbD (j - s) = true := by
      rw [hm (j - s) (by omega)]
      refine decide_eq_true ?_
      rcases hs with rfl | rfl | rfl | rfl | rfl <;> omega
    simp [this, hj, Nat.not_lt.2 h1]
theorem ix_lt (s : Nat) (hs : s = 1 ∨ s = 2 ∨ s = 4 ∨ s = 8 ∨ s = 16) (j : Nat) (hj : j < 32) : ix s j < 32 := by
  unfold ix
  split <;> rcases hs with rfl | rfl | rfl | rfl | rfl <;> omega
theorem mask_bit (s : Nat) (m : BitVec 32) (h : (List.range 32).all (fun j => m.getLsbD j == decide ((j / s) % 2 = 0)) = true) : ∀ j, j < 32 → m.getLsbD j = decide ((j / s) % 2 = 0) := by
  intro j hj
  have := List.all_eq_true.1 h j (by simpa using hj)
  simpa using this
def rev32 (v : BitVec 32) : BitVec 32 :=
  let a := bsw 1 1431655765#32 v
  let b := bsw 2 858993459#32 a
  let c := bsw 4 252645135#32 b
  let d := bsw 8 16711935#32 c
  (d >>> 16) ||| (d <<< 16)
theorem rev32_bit (v : BitVec 32) (j : Nat) (hj : j < 32) : (rev32 v).getLsbD j = v.getLsbD (31 - j) := by
  have e16 : ∀ d : BitVec 32, (d >>> 16) ||| (d <<< 16) = bsw 16 65535#32 d := by
    intro d
    unfold bsw
    apply BitVec.eq_of_getLsbD_eq
    intro i hi
    have hm := mask_bit 16 65535#32 (by decide +kernel)
    simp only [BitVec.getLsbD_or, BitVec.getLsbD_and, BitVec.getLsbD_ushiftRight, BitVec.getLsbD_shiftLeft, hm i hi]
    by_cases h : i < 16
    · rw [decide_eq_true (show (i / 16) % 2 = 0 by omega)]; simp [h]
    · have h1 : d.getLsbD (16 + i) = false := BitVec.getLsbD_of_ge _ _ (by omega)
      rw [hm (i - 16) (by omega), decide_eq_true (show ((i - 16) / 16) % 2 = 0 by omega), decide_eq_false (show ¬ (i / 16) % 2 = 0 by omega), h1]; simp
  unfold rev32
  simp only []
  have i16 := ix_lt 16 (by omega) j hj
  have i8 := ix_lt 8 (by omega) _ i16
  have i4 := ix_lt 4 (by omega) _ i8
  have i2 := ix_lt 2 (by omega) _ i4
  rw [e16, sw_bit 16 (by omega) _ _ (mask_bit 16 _ (by decide +kernel)) j hj, sw_bit 8 (by omega) _ _ (mask_bit 8 _ (by decide +kernel)) _ i16, sw_bit 4 (by omega) _ _ (mask_bit 4 _ (by decide +kernel)) _ i8,
    sw_bit 2 (by omega) _ _ (mask_bit 2 _ (by decide +kernel)) _ i4, sw_bit 1 (by omega) _ _ (mask_bit 1 _ (by decide +kernel)) _ i2]
  have : ∀ k : Fin 32, ix 1 (ix 2 (ix 4 (ix 8 (ix 16 k.val)))) = 31 - k.val := by decide +kernel
  rw [this ⟨j, hj⟩]
/-! a number as a vector of bits -/
def bv (v : BitVec 32) : Value := .int .u32 (v.toNat : Int)
section
variable {n : Nat} {D : List Deferred} {w0 : World} {ov : Ov} {H : List Asn} {d : Option Nat} {T T1 T2 : Nat} {pos : String} {af : Array Edge} {g : Option (Nat × Bool)} {x y : Operand}
theorem ofInt_bv (v : BitVec 32) : BitVec.ofInt IntKind.u32.bits (v.toNat : Int) = v := by
  show BitVec.ofInt 32 (v.toNat : Int) = v
  rw [BitVec.ofInt_natCast, BitVec.ofNat_toNat]; simp
theorem wrap_bv (v : BitVec 32) : IntKind.u32.wrap (v.toNat : Int) = (v.toNat : Int) := wu32 (by have := v.isLt; omega)
theorem VB_shr {v : BitVec 32} {s : Nat} {K : IntKind} (hx : ev ov x = some (bv v)) (hy : ev ov y = some (.int K s)) (hs : s ≤ 32) (hd : dOk d n = true) : OpV Try.prog n D w0 ov H ⟨d, .binOp .shr T1 x y T2, T, pos, af, g⟩ (bv (v >>> s)) := by
  refine V_shr (m := s) hx hy (by omega) (by show min ((s : Int)).toNat 32 = s; omega) ?_ hd
  rw [BitVec.toNat_ushiftRight, Nat.shiftRight_eq_div_pow]; simp
theorem VB_shl {v : BitVec 32} {s : Nat} {K : IntKind} (hx : ev ov x = some (bv v)) (hy : ev ov y = some (.int K s)) (hs : s ≤ 32) (hd : dOk d n = true) : OpV Try.prog n D w0 ov H ⟨d, .binOp .shl T1 x y T2, T, pos, af, g⟩ (bv (v <<< s)) := by
  refine V_shl (m := s) hx hy (by omega) (by show min ((s : Int)).toNat 32 = s; omega) ?_ hd
  rw [BitVec.toNat_shiftLeft, Nat.shiftLeft_eq, mu32]; simp
theorem VB_and {v : BitVec 32} {c : Nat} (hc : c < 4294967296) (hx : ev ov x = some (bv v)) (hy : ev ov y = some (.int .u32 c)) (hd : dOk d n = true) : OpV Try.prog n D w0 ov H ⟨d, .binOp .and T1 x y T2, T, pos, af, g⟩ (bv (v &&& BitVec.ofNat 32 c)) := by
  refine V_and hx hy ?_ hd
  rw [ofInt_bv, show BitVec.ofInt IntKind.u32.bits (c : Int) = BitVec.ofNat 32 c from BitVec.ofInt_natCast ..]
  exact wrap_bv _
theorem VB_or {v u : BitVec 32} (hx : ev ov x = some (bv v)) (hy : ev ov y = some (bv u)) (hd : dOk d n = true) : OpV Try.prog n D w0 ov H ⟨d, .binOp .or T1 x y T2, T, pos, af, g⟩ (bv (v ||| u)) := by
  refine V_or hx hy ?_ hd
  rw [ofInt_bv, ofInt_bv]
  exact wrap_bv _
end
set_option maxHeartbeats 1000000 in
theorem RevB_c {w0 : World} {H : List Asn} (v : BitVec 32) (w : World) (hw : St w0 H w) :
    Calls Try.prog 79 #[bv v] w fun e w' => e = .returned (bv ((bsw 8 16711935#32 v >>> 16) ||| (bsw 8 16711935#32 v <<< 16))) ∧ St w0 H w' := by
  refine enter (vs := [bv v]) Try.func79 rfl rfl rfl hw ?_
  repeat (first | (apply gJO; first | refine JO_v (VB_shr (s := 8) rfl rfl (by omega) rfl) ?_ | refine JO_v (VB_shr (s := 16) rfl rfl (by omega) rfl) ?_ | refine JO_v (VB_shl (s := 8) rfl rfl (by omega) rfl) ?_ | refine JO_v (VB_shl (s := 16) rfl rfl (by omega) rfl) ?_ | refine JO_v (VB_and (c := 16711935) (by omega) rfl rfl rfl) ?_ | refine JO_v (VB_or rfl rfl rfl) ?_) | (first | (apply gJO; first | (apply kS; refine aK ?_) | (apply kX; refine JO_box rfl rfl rfl ?_; intro _) | (apply kA; refine JO_alloc (tb := tb) rfl rfl ?_; intro _) | (apply kBs; refine JO_buildSlice (tb := tb) rfl rfl rfl rfl rfl rfl rfl rfl rfl ?_; intro _) | (apply kM; refine JO_make (tb := tb) rfl rfl rfl rfl rfl rfl (by omega) rfl ?_; intro _) | refine aO ?_) | (apply gJR; first | apply JR_un | apply JR_nil | refine JR_yes rfl rfl ?_ | refine JR_no rfl rfl rfl rfl ?_ | refine JR_noU rfl rfl rfl ?_) | (apply gJS; first | apply JS_seq | apply JS_region | apply JS_skip | apply JS_block | apply JS_inBlock | apply JS_label | refine JS_exit rfl ?_ | refine JS_condT rfl ?_ | refine JS_condF rfl ?_ | refine JS_draw [0] (by kernel_rfl) (by kernel_rfl) (by decide +kernel) ?_ | refine JS_draw [] (by kernel_rfl) (by kernel_rfl) (by decide +kernel) ?_ | refine JS_cond_T rfl (by omega) ?_ | refine JS_cond_F rfl (by omega) ?_) | (apply gQR; first | apply QR_un | apply QR_nil | refine QR_yes rfl rfl ?_ | refine QR_no rfl rfl rfl rfl ?_ | refine QR_noU rfl rfl rfl ?_) | (apply gQO; first | refine aQ ?_ | refine aQK rfl ?_)))
  refine JS_ret Try.func79 rfl rfl ?_
  intro w hw
  exact ⟨rfl, hw⟩
set_option maxHeartbeats 1000000 in
theorem Rev_c {w0 : World} {H : List Asn} (v : BitVec 32) (w : World) (hw : St w0 H w) :
    Calls Try.prog 77 #[bv v] w fun e w' => e = .returned (bv (rev32 v)) ∧ St w0 H w' := by
  refine enter (vs := [bv v]) Try.func77 rfl rfl rfl hw ?_
  repeat (first | (apply gJO; first | refine JO_v (VB_shr (s := 1) rfl rfl (by omega) rfl) ?_ | refine JO_v (VB_shr (s := 2) rfl rfl (by omega) rfl) ?_ | refine JO_v (VB_shr (s := 4) rfl rfl (by omega) rfl) ?_ | refine JO_v (VB_shl (s := 1) rfl rfl (by omega) rfl) ?_ | refine JO_v (VB_shl (s := 2) rfl rfl (by omega) rfl) ?_ | refine JO_v (VB_shl (s := 4) rfl rfl (by omega) rfl) ?_ | refine JO_v (VB_and (c := 1431655765) (by omega) rfl rfl rfl) ?_ | refine JO_v (VB_and (c := 858993459) (by omega) rfl rfl rfl) ?_ | refine JO_v (VB_and (c := 252645135) (by omega) rfl rfl rfl) ?_ | refine JO_v (VB_or rfl rfl rfl) ?_) | (first | (apply gJO; first | (apply kS; refine aK ?_) | (apply kX; refine JO_box rfl rfl rfl ?_; intro _) | (apply kA; refine JO_alloc (tb := tb) rfl rfl ?_; intro _) | (apply kBs; refine JO_buildSlice (tb := tb) rfl rfl rfl rfl rfl rfl rfl rfl rfl ?_; intro _) | (apply kM; refine JO_make (tb := tb) rfl rfl rfl rfl rfl rfl (by omega) rfl ?_; intro _) | refine aO ?_) | (apply gJR; first | apply JR_un | apply JR_nil | refine JR_yes rfl rfl ?_ | refine JR_no rfl rfl rfl rfl ?_ | refine JR_noU rfl rfl rfl ?_) | (apply gJS; first | apply JS_seq | apply JS_region | apply JS_skip | apply JS_block | apply JS_inBlock | apply JS_label | refine JS_exit rfl ?_ | refine JS_condT rfl ?_ | refine JS_condF rfl ?_ | refine JS_draw [0] (by kernel_rfl) (by kernel_rfl) (by decide +kernel) ?_ | refine JS_draw [] (by kernel_rfl) (by kernel_rfl) (by decide +kernel) ?_ | refine JS_cond_T rfl (by omega) ?_ | refine JS_cond_F rfl (by omega) ?_) | (apply gQR; first | apply QR_un | apply QR_nil | refine QR_yes rfl rfl ?_ | refine QR_no rfl rfl rfl rfl ?_ | refine QR_noU rfl rfl rfl ?_) | (apply gQO; first | refine aQ ?_ | refine aQK rfl ?_)))
  refine JO_call Try.call79 rfl rfl fun w hw => (RevB_c _ w hw).mono ?_
  rintro e w' ⟨rfl, hw'⟩
  refine ⟨_, rfl, _, hw', ?_⟩
  clear hw' hw w w'
  repeat (first | (apply gJO; first | (apply kS; refine aK ?_) | (apply kX; refine JO_box rfl rfl rfl ?_; intro _) | (apply kA; refine JO_alloc (tb := tb) rfl rfl ?_; intro _) | (apply kBs; refine JO_buildSlice (tb := tb) rfl rfl rfl rfl rfl rfl rfl rfl rfl ?_; intro _) | (apply kM; refine JO_make (tb := tb) rfl rfl rfl rfl rfl rfl (by omega) rfl ?_; intro _) | refine aO ?_) | (apply gJR; first | apply JR_un | apply JR_nil | refine JR_yes rfl rfl ?_ | refine JR_no rfl rfl rfl rfl ?_ | refine JR_noU rfl rfl rfl ?_) | (apply gJS; first | apply JS_seq | apply JS_region | apply JS_skip | apply JS_block | apply JS_inBlock | apply JS_label | refine JS_exit rfl ?_ | refine JS_condT rfl ?_ | refine JS_condF rfl ?_ | refine JS_draw [0] (by kernel_rfl) (by kernel_rfl) (by decide +kernel) ?_ | refine JS_draw [] (by kernel_rfl) (by kernel_rfl) (by decide +kernel) ?_ | refine JS_cond_T rfl (by omega) ?_ | refine JS_cond_F rfl (by omega) ?_) | (apply gQR; first | apply QR_un | apply QR_nil | refine QR_yes rfl rfl ?_ | refine QR_no rfl rfl rfl rfl ?_ | refine QR_noU rfl rfl rfl ?_) | (apply gQO; first | refine aQ ?_ | refine aQK rfl ?_))
  refine JS_ret Try.func77 rfl rfl ?_
  intro w hw
  exact ⟨rfl, hw⟩
end Go.Proofs.Ytjgjppgocheklaa
