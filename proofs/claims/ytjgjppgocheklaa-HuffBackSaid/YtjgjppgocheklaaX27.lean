import Derived.Test.YtjgjppgocheklaaX26
import Derived.Test.YtjgjppgocheklaaX17
namespace Go.Proofs.Ytjgjppgocheklaa
open Sx Go
set_option linter.unusedVariables false
set_option linter.unusedSimpArgs false
attribute [local irreducible] syA fc tk cds
/-- has a symbol a code, and how long? -/
def HAS (B : List Int) (k : Int) (n : Nat) : Prop := 0 ≤ k ∧ k < B.length ∧ 0 < n ∧ B.getD k.toNat 0 = (n : Int)
set_option maxHeartbeats 2000000 in
/-- a symbol is written, if it has a code -/
theorem Write_c {w0 : World} {H : List Asn} (b b2 : Nat) (B L : List Int) (q : Option Addr) (d : Nat) (hs : IsSet w0 H b B) (k : Int) (hk : -9223372036854775808 ≤ k ∧ k < 9223372036854775808) (hL : ∀ j, L.getD j 0 = 0 ∨ L.getD j 0 = 1) (hl : L.length ≤ 70368744177600) (w : World) (hw : St w0 (wrA b2 L q d :: wrV L q d :: H) w) :
    Calls Try.prog 38 #[.pointer (some ⟨b, 0, none⟩), .pointer (some ⟨b2, 0, none⟩), .int .i64 k] w fun e w' => ∃ r, e = .returned (.int .i64 r) ∧
      ((r = 1 ∧ (∀ n, ¬ HAS B k n) ∧ St w0 (wrA b2 L q d :: wrV L q d :: H) w') ∨ (r = 0 ∧ ∃ n q d, HAS B k n ∧ St w0 (wrA b2 (L ++ bms (cd B k.toNat) n) q d :: wrV (L ++ bms (cd B k.toNat) n) q d :: H) w')) := by
  refine enter (vs := [.pointer (some ⟨b, 0, none⟩), .pointer (some ⟨b2, 0, none⟩), .int .i64 k]) Try.func38 rfl rfl rfl hw ?_
  repeat (first | (apply gJO; first | (apply kS; refine aK ?_) | (apply kX; refine JO_box rfl rfl rfl ?_; intro _) | (apply kA; refine JO_alloc (tb := tb) rfl rfl ?_; intro _) | (apply kBs; refine JO_buildSlice (tb := tb) rfl rfl rfl rfl rfl rfl rfl rfl rfl ?_; intro _) | (apply kM; refine JO_make (tb := tb) rfl rfl rfl rfl rfl rfl (by omega) rfl ?_; intro _) | refine aO ?_) | (apply gJR; first | apply JR_un | apply JR_nil | refine JR_yes rfl rfl ?_ | refine JR_no rfl rfl rfl rfl ?_ | refine JR_noU rfl rfl rfl ?_) | (apply gJS; first | apply JS_seq | apply JS_region | apply JS_skip | apply JS_block | apply JS_inBlock | apply JS_label | refine JS_exit rfl ?_ | refine JS_condT rfl ?_ | refine JS_condF rfl ?_ | refine JS_draw [0] (by kernel_rfl) (by kernel_rfl) (by decide +kernel) ?_ | refine JS_draw [] (by kernel_rfl) (by kernel_rfl) (by decide +kernel) ?_ | refine JS_cond_T rfl (by omega) ?_ | refine JS_cond_F rfl (by omega) ?_) | (apply gQR; first | apply QR_un | apply QR_nil | refine QR_yes rfl rfl ?_ | refine QR_no rfl rfl rfl rfl ?_ | refine QR_noU rfl rfl rfl ?_) | (apply gQO; first | refine aQ ?_ | refine aQK rfl ?_))
  refine JO_call Try.call25 rfl rfl fun w hw => (Length2_c b B (hs.sub (by repeat (first | exact List.Sublist.refl _ | apply List.Sublist.cons))) k hk w hw).mono ?_
  rintro e w' ⟨r, rfl, hw', h⟩
  refine ⟨_, rfl, _, hw', ?_⟩
  clear hw' hw w w'
  have hB := hs.hB
  have hkl := hs.hl
  have hrn : 0 ≤ r ∧ r ≤ 15 := by
    rcases h with ⟨_, h⟩ | ⟨_, _, h⟩
    · omega
    · have := hB k.toNat; have := hkl.2.1 k.toNat; omega
  by_cases hr : r = 0
  · repeat (first | (apply gJO; first | (apply kS; refine aK ?_) | (apply kX; refine JO_box rfl rfl rfl ?_; intro _) | (apply kA; refine JO_alloc (tb := tb) rfl rfl ?_; intro _) | (apply kBs; refine JO_buildSlice (tb := tb) rfl rfl rfl rfl rfl rfl rfl rfl rfl ?_; intro _) | (apply kM; refine JO_make (tb := tb) rfl rfl rfl rfl rfl rfl (by omega) rfl ?_; intro _) | refine aO ?_) | (apply gJR; first | apply JR_un | apply JR_nil | refine JR_yes rfl rfl ?_ | refine JR_no rfl rfl rfl rfl ?_ | refine JR_noU rfl rfl rfl ?_) | (apply gJS; first | apply JS_seq | apply JS_region | apply JS_skip | apply JS_block | apply JS_inBlock | apply JS_label | refine JS_exit rfl ?_ | refine JS_condT rfl ?_ | refine JS_condF rfl ?_ | refine JS_draw [0] (by kernel_rfl) (by kernel_rfl) (by decide +kernel) ?_ | refine JS_draw [] (by kernel_rfl) (by kernel_rfl) (by decide +kernel) ?_ | refine JS_cond_T rfl (by omega) ?_ | refine JS_cond_F rfl (by omega) ?_) | (apply gQR; first | apply QR_un | apply QR_nil | refine QR_yes rfl rfl ?_ | refine QR_no rfl rfl rfl rfl ?_ | refine QR_noU rfl rfl rfl ?_) | (apply gQO; first | refine aQ ?_ | refine aQK rfl ?_))
    refine JS_ret Try.func38 rfl rfl ?_
    intro w hw
    refine ⟨1, rfl, .inl ⟨rfl, ?_, hw⟩⟩
    rintro n ⟨h1, h2, h3, h4⟩
    rcases h with ⟨h5, _⟩ | ⟨_, _, h⟩ <;> omega
  · obtain ⟨h1, h2, h3⟩ : 0 ≤ k ∧ k < B.length ∧ r = B.getD k.toNat 0 := by
      rcases h with ⟨_, h⟩ | h
      · exact absurd h hr
      · exact h
    obtain ⟨n, rfl⟩ := Int.eq_ofNat_of_zero_le hrn.1
    have hcl := cds_len B 16 0
    have hcg := cds_get B hkl.2.1 k.toNat (by omega)
    rw [if_pos (by omega)] at hcg
    have gc : (ints .u32 (cds B 16 0))[k.toNat]? = some (.int .u32 (cd B k.toNat)) := by rw [← hcg]; exact ints_get (by omega)
    have hcd := cd_lt B hB hkl k.toNat n (by omega) (by omega) h3.symm
    have hcb := cd_bd B k.toNat
    repeat (first | (apply gJO; first | (apply kS; refine aK ?_) | (apply kX; refine JO_box rfl rfl rfl ?_; intro _) | (apply kA; refine JO_alloc (tb := tb) rfl rfl ?_; intro _) | (apply kBs; refine JO_buildSlice (tb := tb) rfl rfl rfl rfl rfl rfl rfl rfl rfl ?_; intro _) | (apply kM; refine JO_make (tb := tb) rfl rfl rfl rfl rfl rfl (by omega) rfl ?_; intro _) | refine aO ?_) | (apply gJR; first | apply JR_un | apply JR_nil | refine JR_yes rfl rfl ?_ | refine JR_no rfl rfl rfl rfl ?_ | refine JR_noU rfl rfl rfl ?_) | (apply gJS; first | apply JS_seq | apply JS_region | apply JS_skip | apply JS_block | apply JS_inBlock | apply JS_label | refine JS_exit rfl ?_ | refine JS_condT rfl ?_ | refine JS_condF rfl ?_ | refine JS_draw [0] (by kernel_rfl) (by kernel_rfl) (by decide +kernel) ?_ | refine JS_draw [] (by kernel_rfl) (by kernel_rfl) (by decide +kernel) ?_ | refine JS_cond_T rfl (by omega) ?_ | refine JS_cond_F rfl (by omega) ?_) | (apply gQR; first | apply QR_un | apply QR_nil | refine QR_yes rfl rfl ?_ | refine QR_no rfl rfl rfl rfl ?_ | refine QR_noU rfl rfl rfl ?_) | (apply gQO; first | refine aQ ?_ | refine aQK rfl ?_))
    refine JO_call Try.call22 rfl rfl fun w hw => (Codes2_c b B.length B rfl (hs.sub (by repeat (first | exact List.Sublist.refl _ | apply List.Sublist.cons))) w hw).mono ?_
    rintro e w' ⟨p1, c1, rfl, hw'⟩
    refine ⟨_, rfl, _, hw', ?_⟩
    clear hw' hw w w'
    repeat (first | (apply gJO; refine JO_v (V_loadC (tb := tb) rfl (vec_rd (List.Mem.head _)) rfl rfl gc rfl) ?_) | (first | (apply gJO; first | (apply kS; refine aK ?_) | (apply kX; refine JO_box rfl rfl rfl ?_; intro _) | (apply kA; refine JO_alloc (tb := tb) rfl rfl ?_; intro _) | (apply kBs; refine JO_buildSlice (tb := tb) rfl rfl rfl rfl rfl rfl rfl rfl rfl ?_; intro _) | (apply kM; refine JO_make (tb := tb) rfl rfl rfl rfl rfl rfl (by omega) rfl ?_; intro _) | refine aO ?_) | (apply gJR; first | apply JR_un | apply JR_nil | refine JR_yes rfl rfl ?_ | refine JR_no rfl rfl rfl rfl ?_ | refine JR_noU rfl rfl rfl ?_) | (apply gJS; first | apply JS_seq | apply JS_region | apply JS_skip | apply JS_block | apply JS_inBlock | apply JS_label | refine JS_exit rfl ?_ | refine JS_condT rfl ?_ | refine JS_condF rfl ?_ | refine JS_draw [0] (by kernel_rfl) (by kernel_rfl) (by decide +kernel) ?_ | refine JS_draw [] (by kernel_rfl) (by kernel_rfl) (by decide +kernel) ?_ | refine JS_cond_T rfl (by omega) ?_ | refine JS_cond_F rfl (by omega) ?_) | (apply gQR; first | apply QR_un | apply QR_nil | refine QR_yes rfl rfl ?_ | refine QR_no rfl rfl rfl rfl ?_ | refine QR_noU rfl rfl rfl ?_) | (apply gQO; first | refine aQ ?_ | refine aQK rfl ?_)))
    refine JO_call Try.call64 rfl rfl fun w hw => (WCode_c (H := vec 42 1 (.slice p1 B.length c1) B.length (ints .u32 (cds B 16 0)) :: H) b2 L q d (cd B k.toNat) n (by omega) hcd hcb.2 hL hl w (hw.perm ((List.Perm.swap _ _ _).trans (List.Perm.cons _ (List.Perm.swap _ _ _))))).mono ?_
    rintro e w' ⟨rfl, q2, d2, hw'⟩
    refine ⟨_, rfl, _, hw', ?_⟩
    clear hw' hw w w'
    repeat (first | (apply gJO; first | (apply kS; refine aK ?_) | (apply kX; refine JO_box rfl rfl rfl ?_; intro _) | (apply kA; refine JO_alloc (tb := tb) rfl rfl ?_; intro _) | (apply kBs; refine JO_buildSlice (tb := tb) rfl rfl rfl rfl rfl rfl rfl rfl rfl ?_; intro _) | (apply kM; refine JO_make (tb := tb) rfl rfl rfl rfl rfl rfl (by omega) rfl ?_; intro _) | refine aO ?_) | (apply gJR; first | apply JR_un | apply JR_nil | refine JR_yes rfl rfl ?_ | refine JR_no rfl rfl rfl rfl ?_ | refine JR_noU rfl rfl rfl ?_) | (apply gJS; first | apply JS_seq | apply JS_region | apply JS_skip | apply JS_block | apply JS_inBlock | apply JS_label | refine JS_exit rfl ?_ | refine JS_condT rfl ?_ | refine JS_condF rfl ?_ | refine JS_draw [0] (by kernel_rfl) (by kernel_rfl) (by decide +kernel) ?_ | refine JS_draw [] (by kernel_rfl) (by kernel_rfl) (by decide +kernel) ?_ | refine JS_cond_T rfl (by omega) ?_ | refine JS_cond_F rfl (by omega) ?_) | (apply gQR; first | apply QR_un | apply QR_nil | refine QR_yes rfl rfl ?_ | refine QR_no rfl rfl rfl rfl ?_ | refine QR_noU rfl rfl rfl ?_) | (apply gQO; first | refine aQ ?_ | refine aQK rfl ?_))
    refine JS_ret Try.func38 rfl rfl ?_
    intro w hw
    exact ⟨0, rfl, .inr ⟨rfl, n, q2, d2, ⟨h1, h2, by omega, h3.symm⟩, St.sub (by repeat (first | exact List.Sublist.refl _ | apply List.Sublist.cons_cons | apply List.Sublist.cons)) hw⟩⟩
theorem WriteNil_c {w0 : World} {H : List Asn} (b : Nat) (B : List Int) (hs : IsSet w0 H b B) (k : Int) (hk : -9223372036854775808 ≤ k ∧ k < 9223372036854775808) (w : World) (hw : St w0 H w) :
    Calls Try.prog 38 #[.pointer (some ⟨b, 0, none⟩), .pointer none, .int .i64 k] w fun e w' => e = .returned (.int .i64 1) ∧ St w0 H w' := by
  refine enter (vs := [.pointer (some ⟨b, 0, none⟩), .pointer none, .int .i64 k]) Try.func38 rfl rfl rfl hw ?_
  repeat (first | (apply gJO; first | (apply kS; refine aK ?_) | (apply kX; refine JO_box rfl rfl rfl ?_; intro _) | (apply kA; refine JO_alloc (tb := tb) rfl rfl ?_; intro _) | (apply kBs; refine JO_buildSlice (tb := tb) rfl rfl rfl rfl rfl rfl rfl rfl rfl ?_; intro _) | (apply kM; refine JO_make (tb := tb) rfl rfl rfl rfl rfl rfl (by omega) rfl ?_; intro _) | refine aO ?_) | (apply gJR; first | apply JR_un | apply JR_nil | refine JR_yes rfl rfl ?_ | refine JR_no rfl rfl rfl rfl ?_ | refine JR_noU rfl rfl rfl ?_) | (apply gJS; first | apply JS_seq | apply JS_region | apply JS_skip | apply JS_block | apply JS_inBlock | apply JS_label | refine JS_exit rfl ?_ | refine JS_condT rfl ?_ | refine JS_condF rfl ?_ | refine JS_draw [0] (by kernel_rfl) (by kernel_rfl) (by decide +kernel) ?_ | refine JS_draw [] (by kernel_rfl) (by kernel_rfl) (by decide +kernel) ?_ | refine JS_cond_T rfl (by omega) ?_ | refine JS_cond_F rfl (by omega) ?_) | (apply gQR; first | apply QR_un | apply QR_nil | refine QR_yes rfl rfl ?_ | refine QR_no rfl rfl rfl rfl ?_ | refine QR_noU rfl rfl rfl ?_) | (apply gQO; first | refine aQ ?_ | refine aQK rfl ?_))
  refine JO_call Try.call25 rfl rfl fun w hw => (Length2_c b B hs k hk w hw).mono ?_
  rintro e w' ⟨r, rfl, hw', h⟩
  refine ⟨_, rfl, _, hw', ?_⟩
  clear hw' hw w w'
  repeat (first | (apply gJO; first | (apply kS; refine aK ?_) | (apply kX; refine JO_box rfl rfl rfl ?_; intro _) | (apply kA; refine JO_alloc (tb := tb) rfl rfl ?_; intro _) | (apply kBs; refine JO_buildSlice (tb := tb) rfl rfl rfl rfl rfl rfl rfl rfl rfl ?_; intro _) | (apply kM; refine JO_make (tb := tb) rfl rfl rfl rfl rfl rfl (by omega) rfl ?_; intro _) | refine aO ?_) | (apply gJR; first | apply JR_un | apply JR_nil | refine JR_yes rfl rfl ?_ | refine JR_no rfl rfl rfl rfl ?_ | refine JR_noU rfl rfl rfl ?_) | (apply gJS; first | apply JS_seq | apply JS_region | apply JS_skip | apply JS_block | apply JS_inBlock | apply JS_label | refine JS_exit rfl ?_ | refine JS_condT rfl ?_ | refine JS_condF rfl ?_ | refine JS_draw [0] (by kernel_rfl) (by kernel_rfl) (by decide +kernel) ?_ | refine JS_draw [] (by kernel_rfl) (by kernel_rfl) (by decide +kernel) ?_ | refine JS_cond_T rfl (by omega) ?_ | refine JS_cond_F rfl (by omega) ?_) | (apply gQR; first | apply QR_un | apply QR_nil | refine QR_yes rfl rfl ?_ | refine QR_no rfl rfl rfl rfl ?_ | refine QR_noU rfl rfl rfl ?_) | (apply gQO; first | refine aQ ?_ | refine aQK rfl ?_))
  refine JS_ret Try.func38 rfl rfl ?_
  intro w hw
  exact ⟨rfl, hw⟩
theorem num_bit (f : Nat → Int) (hf : ∀ t, f t = 0 ∨ f t = 1) (t : Nat) : ∀ k, t < k → bnum f k / 2 ^ t % 2 = f t
  | 0, h => absurd h (by omega)
  | k + 1, h => by
    have hp : (0 : Int) < 2 ^ t := Int.pow_pos (by decide)
    simp only [bnum]
    rcases Nat.lt_or_ge t k with h1 | h1
    · rw [show (2 : Int) ^ k = 2 ^ t * (2 * 2 ^ (k - t - 1)) by rw [show k = t + (1 + (k - t - 1)) by omega, Int.pow_add, Int.pow_add]; simp [show t + (1 + (k - t - 1)) - t - 1 = k - t - 1 by omega],
        show f k * (2 ^ t * (2 * 2 ^ (k - t - 1))) = 2 ^ t * (2 * (f k * 2 ^ (k - t - 1))) by rw [← Int.mul_assoc, ← Int.mul_assoc, Int.mul_comm (f k) (2 ^ t), Int.mul_assoc, Int.mul_assoc, Int.mul_left_comm (f k) 2],
        Int.add_mul_ediv_left _ _ (by omega)]
      have := num_bit f hf t k h1
      omega
    · obtain rfl : t = k := by omega
      have hb := num_bd f hf t
      rw [Int.add_mul_ediv_right _ _ (by omega), Int.ediv_eq_zero_of_lt hb.1 hb.2]
      have := hf t
      omega
theorem pack_bit (L : List Int) (hL : ∀ j, L.getD j 0 = 0 ∨ L.getD j 0 = 1) (n j : Nat) : bitB (pack L) n j = L.getD (n + j) 0 := by
  unfold bitB pack
  rcases Nat.lt_or_ge ((n + j) / 8) ((L.length + 7) / 8) with h | h
  · have : (tab ((L.length + 7) / 8) (byteAt L)).getD ((n + j) / 8) 0 = byteAt L ((n + j) / 8) := by simp [tab, List.getD_eq_getElem?_getD, h]
    rw [this]
    unfold byteAt
    rw [num_bit _ (fun t => hL _) _ 8 (by omega), show 8 * ((n + j) / 8) + (n + j) % 8 = n + j by omega]
  · rw [List.getD_eq_getElem?_getD, List.getElem?_eq_none (by rw [tab_len]; exact h), List.getD_eq_getElem?_getD, List.getElem?_eq_none (by omega)]
    simp
/-- the bits of symbols -/
def enc (B : List Int) : List Int → List Int
  | [] => []
  | s :: r => bms (cd B s.toNat) (B.getD s.toNat 0).toNat ++ enc B r
theorem enc_app (B : List Int) : ∀ (A C : List Int), enc B (A ++ C) = enc B A ++ enc B C
  | [], C => rfl
  | a :: A, C => by simp only [List.cons_append, enc, enc_app B A C, List.append_assoc]
theorem bms_01 (c : Int) (n j : Nat) : (bms c n).getD j 0 = 0 ∨ (bms c n).getD j 0 = 1 := by
  unfold bms
  rcases Nat.lt_or_ge j n with h | h
  · simp only [List.getD_eq_getElem?_getD, List.getElem?_map, List.getElem?_range h, Option.map_some, Option.getD_some]; omega
  · rw [List.getD_eq_getElem?_getD, List.getElem?_eq_none (by simp; omega)]; exact .inl rfl
theorem enc_01 (B : List Int) : ∀ (A : List Int) j, (enc B A).getD j 0 = 0 ∨ (enc B A).getD j 0 = 1
  | [], j => by simp [enc]
  | a :: A, j => app_01 (bms_01 _ _) (enc_01 B A) j
theorem enc_len (B : List Int) (h15 : ∀ j, B.getD j 0 ≤ 15) : ∀ A, (enc B A).length ≤ 15 * A.length
  | [] => by simp [enc]
  | a :: A => by
    have := enc_len B h15 A
    have := h15 a.toNat
    simp only [enc, List.length_append, bms_len, List.length_cons]; omega
/-- behind some symbols' bits stand the next one's -/
theorem enc_dec (B A C : List Int) (s : Int) (n : Nat) (hB : OKB B) (hk : OKL B) (hs : HAS B s n) (left : Nat) (hl : (enc B (A ++ s :: C)).length ≤ (enc B A).length + left) : DEC B (fun j => (enc B (A ++ s :: C)).getD ((enc B A).length + j) 0) left s.toNat := by
  obtain ⟨h1, h2, h3, h4⟩ := hs
  have hc := cd_lt B hB hk s.toNat n (by omega) h3 h4
  rw [enc_app] at hl
  simp only [enc, List.length_append, bms_len, h4, Int.toNat_natCast] at hl
  refine ⟨n, by omega, h3, h4, by omega, ?_⟩
  have hf : (fun j => (enc B (A ++ s :: C)).getD ((enc B A).length + j) 0) = fun j => (bms (cd B s.toNat) n ++ enc B C).getD j 0 := by
    funext j
    rw [enc_app]
    simp only [enc, h4, Int.toNat_natCast]
    rw [List.getD_eq_getElem?_getD, List.getElem?_append_right (by omega), List.getD_eq_getElem?_getD, Nat.add_sub_cancel_left]
  rw [hf]
  refine (val_bms _ (app_01 (bms_01 _ _) (enc_01 B C)) _ n hc).1 ?_
  apply List.ext_getElem?
  intro j
  rcases Nat.lt_or_ge j n with hj | hj
  · rw [List.getElem?_map, List.getElem?_range hj, Option.map_some, List.getD_eq_getElem?_getD, List.getElem?_append_left (by rw [bms_len]; exact hj), List.getElem?_eq_getElem (by rw [bms_len]; exact hj)]; rfl
  · rw [List.getElem?_eq_none (by simp; omega), List.getElem?_eq_none (by rw [bms_len]; exact hj)]
end Go.Proofs.Ytjgjppgocheklaa
