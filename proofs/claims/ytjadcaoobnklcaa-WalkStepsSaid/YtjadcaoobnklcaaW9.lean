import Derived.Test.YtjadcaoobnklcaaW8
import Derived.Test.YtjadcaoobnklcaaP3
namespace Go.Proofs.Ytjadcaoobnklcaa
open Sx Go
set_option linter.unusedVariables false
set_option linter.unusedSimpArgs false
set_option maxHeartbeats 4000000 in
/-- the reference's quotient, bit by bit -/
theorem RDiv_c {w0 : World} {H : List Asn} (p : Option Addr) (c : Nat) (X : List Int) (hr : Rd w0 H (.slice p 8 c) 8 (ints .u64 X)) (lX : X.length = 8) (dX : D16 X) (d : Int) (hd : 0 < d ∧ d < 18446744073709551616) (w : World) (hw : St w0 H w) :
    Calls Try.prog 44 #[.slice p 8 c, .int .u64 d] w fun e w' => ∃ q cq L l, e = .returned (.tuple #[.slice q 8 cq, .int .u64 l]) ∧ St w0 (vec 29 1 (.slice q 8 cq) 8 (ints .u64 L) :: H) w' ∧ L.length = 8 ∧ D16 L ∧ val L = val X / d ∧ l = val X % d := by
  refine enter (vs := [.slice p 8 c, .int .u64 d]) Try.func44 rfl rfl rfl hw ?_
  repeat (first | (refine gJR ?_; first | (apply gJO; first | (apply kS; refine aK ?_) | (apply kX; refine JO_box rfl rfl rfl ?_; intro _) | (apply kA; refine JO_alloc (tb := tb) rfl rfl ?_; intro _) | (apply kBs; refine JO_buildSlice (tb := tb) rfl rfl rfl rfl rfl rfl rfl rfl rfl ?_; intro _) | (apply kM; refine JO_make (tb := tb) rfl rfl rfl rfl rfl rfl (by omega) rfl ?_; intro _) | refine aO ?_) | (apply gJR; first | apply JR_un | apply JR_nil | refine JR_yes rfl rfl ?_ | refine JR_no rfl rfl rfl rfl ?_ | refine JR_noU rfl rfl rfl ?_) | (apply gJS; first | apply JS_seq | apply JS_region | apply JS_skip | apply JS_block | apply JS_inBlock | apply JS_label | refine JS_exit rfl ?_ | refine JS_condT rfl ?_ | refine JS_condF rfl ?_ | refine JS_draw [0] (by kernel_rfl) (by kernel_rfl) (by decide +kernel) ?_ | refine JS_draw [] (by kernel_rfl) (by kernel_rfl) (by decide +kernel) ?_) | (apply gQR; first | apply QR_un | apply QR_nil | refine QR_yes rfl rfl ?_ | refine QR_no rfl rfl rfl rfl ?_ | refine QR_noU rfl rfl rfl ?_) | (apply gQO; first | refine aQ ?_ | refine aQK rfl ?_)) | (refine gJO ?_; first | (apply gJO; first | (apply kS; refine aK ?_) | (apply kX; refine JO_box rfl rfl rfl ?_; intro _) | (apply kA; refine JO_alloc (tb := tb) rfl rfl ?_; intro _) | (apply kBs; refine JO_buildSlice (tb := tb) rfl rfl rfl rfl rfl rfl rfl rfl rfl ?_; intro _) | (apply kM; refine JO_make (tb := tb) rfl rfl rfl rfl rfl rfl (by omega) rfl ?_; intro _) | refine aO ?_) | (apply gJR; first | apply JR_un | apply JR_nil | refine JR_yes rfl rfl ?_ | refine JR_no rfl rfl rfl rfl ?_ | refine JR_noU rfl rfl rfl ?_) | (apply gJS; first | apply JS_seq | apply JS_region | apply JS_skip | apply JS_block | apply JS_inBlock | apply JS_label | refine JS_exit rfl ?_ | refine JS_condT rfl ?_ | refine JS_condF rfl ?_ | refine JS_draw [0] (by kernel_rfl) (by kernel_rfl) (by decide +kernel) ?_ | refine JS_draw [] (by kernel_rfl) (by kernel_rfl) (by decide +kernel) ?_) | (apply gQR; first | apply QR_un | apply QR_nil | refine QR_yes rfl rfl ?_ | refine QR_no rfl rfl rfl rfl ?_ | refine QR_noU rfl rfl rfl ?_) | (apply gQO; first | refine aQ ?_ | refine aQK rfl ?_)) | refine JS_seq ?_ | refine JS_region ?_)
  rename_i po
  rw [show (rep (Int.toNat 8) [Value.int IntKind.u64 0]) = ints .u64 (List.replicate 8 0) from ints_rep]
  have hV0 := val_nonneg dX
  have hV1 := val_lt dX
  rw [lX] at hV1
  refine JS_block ?_
  refine JS_loop3 (fun (k : Nat) (l : Int) (_ : List Int) => [(0, .slice p 8 c), (1, .int .u64 d), (6, .slice (some po) 8 8), (7, .int .u64 l), (8, .int .i64 (k - 1))]) (fun _ _ L => vec 29 1 (.slice (some po) 8 8) 8 (ints .u64 L) :: H)
    (fun k l L => k ≤ 128 ∧ L.length = 8 ∧ D16 L ∧ (0 ≤ l ∧ l < d) ∧ l = val X / 2 ^ k % d ∧ val L = val X / 2 ^ k / d * 2 ^ k) (fun k _ _ => k) 128 0 (List.replicate 8 0)
    ⟨by omega, rfl, D16_rep 8, by omega, by rw [Int.ediv_eq_zero_of_lt hV0 (by omega)]; rfl, by rw [Int.ediv_eq_zero_of_lt hV0 (by omega), Int.zero_ediv, Int.zero_mul]; rfl⟩ (by repeat (first | exact trivial | refine ⟨rfl, ?_⟩ | refine ⟨lookI rfl (by omega), ?_⟩)) (fun _ h => h) ?_
  intro k l L ⟨hk, hl, hD, hlr, he, hv⟩ again
  cases k with
  | zero =>
    repeat (first | (apply gJO; first | (apply kS; refine aK ?_) | (apply kX; refine JO_box rfl rfl rfl ?_; intro _) | (apply kA; refine JO_alloc (tb := tb) rfl rfl ?_; intro _) | (apply kBs; refine JO_buildSlice (tb := tb) rfl rfl rfl rfl rfl rfl rfl rfl rfl ?_; intro _) | (apply kM; refine JO_make (tb := tb) rfl rfl rfl rfl rfl rfl (by omega) rfl ?_; intro _) | refine aO ?_) | (apply gJR; first | apply JR_un | apply JR_nil | refine JR_yes rfl rfl ?_ | refine JR_no rfl rfl rfl rfl ?_ | refine JR_noU rfl rfl rfl ?_) | (apply gJS; first | apply JS_seq | apply JS_region | apply JS_skip | apply JS_block | apply JS_inBlock | apply JS_label | refine JS_exit rfl ?_ | refine JS_condT rfl ?_ | refine JS_condF rfl ?_ | refine JS_draw [0] (by kernel_rfl) (by kernel_rfl) (by decide +kernel) ?_ | refine JS_draw [] (by kernel_rfl) (by kernel_rfl) (by decide +kernel) ?_ | refine JS_cond_T rfl (by omega) ?_ | refine JS_cond_F rfl (by omega) ?_) | (apply gQR; first | apply QR_un | apply QR_nil | refine QR_yes rfl rfl ?_ | refine QR_no rfl rfl rfl rfl ?_ | refine QR_noU rfl rfl rfl ?_) | (apply gQO; first | refine aQ ?_ | refine aQK rfl ?_))
    refine JS_ret Try.func44 rfl rfl ?_
    intro w hw
    refine ⟨_, _, L, _, rfl, St.sub (by repeat (first | exact List.Sublist.refl _ | apply List.Sublist.cons_cons | apply List.Sublist.cons)) hw, hl, hD, ?_, ?_⟩
    · rw [hv]; simp
    · rw [he]; simp
  | succ i =>
    rw [show ((i + 1 : Nat) : Int) - 1 = (i : Int) by omega]
    have hb := val_bit dX i
    have hlow := val_low hD i hv
    have hP := pow_lt16 i
    have hP0 := pow_pos2 (i % 16)
    have hy0 : 0 ≤ X.getD (i / 16) 0 / 2 ^ (i % 16) := Int.ediv_nonneg (dX _).1 (Int.le_of_lt hP0)
    have hset := val_set L (i / 16) (L.getD (i / 16) 0 + 2 ^ (i % 16)) (by omega)
    have hpw := pow16 i
    have hL0 := (hD (i / 16)).1
    have hr' : Rd w0 (vec 29 1 (.slice (some po) 8 8) 8 (ints .u64 L) :: H) (.slice p 8 c) 8 (ints .u64 X) := Rd_weak hr fun w hw => St.sub (by repeat (first | exact List.Sublist.refl _ | apply List.Sublist.cons_cons | apply List.Sublist.cons)) hw
    have hj : ((i : Int) / 16).toNat = i / 16 := by omega
    have hm : min ((i : Int) % 16).toNat IntKind.u64.bits = i % 16 := by show min _ 64 = _; omega
    obtain ⟨y, hy⟩ : ∃ y, X.getD (i / 16) 0 / 2 ^ (i % 16) = y := ⟨_, rfl⟩
    rw [hy] at hy0 hb
    have hq : (1 : Int) * 2 ^ (i % 16) = 2 ^ (i % 16) := Int.one_mul _
    generalize hp : (1 : Int) * 2 ^ (i % 16) = P at *
    rw [← hq] at hlow hP hP0 hset
    have hsv : val (L.set (i / 16) (L.getD (i / 16) 0 + P)) = val L + 2 ^ i := by rw [hset, hpw, hq]; grind
    have hy1 : y % 2 = 0 ∨ y % 2 = 1 := by omega
    clear hset hpw hq hV0 hV1
    by_cases hh : 9223372036854775808 ≤ l
    · obtain ⟨e1, e2⟩ := bit_yes hd.1 he hb hv (show d ≤ 2 * l + y % 2 by omega) rfl
      clear he hv hb
      repeat (first | (refine gJO ?_; first | refine JO_v (V_shr (m := i % 16) rfl rfl (by omega) hm hy rfl) ?_ | refine JO_v (V_shl (m := i % 16) (c := P) rfl rfl (by omega) hm (by rw [hp]; exact wu64 (by omega)) rfl) ?_) | (first | (apply gJO; first | (apply kS; refine aK ?_) | (apply kX; refine JO_box rfl rfl rfl ?_; intro _) | (apply kA; refine JO_alloc (tb := tb) rfl rfl ?_; intro _) | (apply kBs; refine JO_buildSlice (tb := tb) rfl rfl rfl rfl rfl rfl rfl rfl rfl ?_; intro _) | (apply kM; refine JO_make (tb := tb) rfl rfl rfl rfl rfl rfl (by omega) rfl ?_; intro _) | refine aO ?_) | (apply gJR; first | apply JR_un | apply JR_nil | refine JR_yes rfl rfl ?_ | refine JR_no rfl rfl rfl rfl ?_ | refine JR_noU rfl rfl rfl ?_) | (apply gJS; first | apply JS_seq | apply JS_region | apply JS_skip | apply JS_block | apply JS_inBlock | apply JS_label | refine JS_exit rfl ?_ | refine JS_condT rfl ?_ | refine JS_condF rfl ?_ | refine JS_draw [0] (by kernel_rfl) (by kernel_rfl) (by decide +kernel) ?_ | refine JS_draw [] (by kernel_rfl) (by kernel_rfl) (by decide +kernel) ?_ | refine JS_cond_T rfl (by omega) ?_ | refine JS_cond_F rfl (by omega) ?_) | (apply gQR; first | apply QR_un | apply QR_nil | refine QR_yes rfl rfl ?_ | refine QR_no rfl rfl rfl rfl ?_ | refine QR_noU rfl rfl rfl ?_) | (apply gQO; first | refine aQ ?_ | refine aQK rfl ?_)))
      exact JS_again3 again i (2 * l + y % 2 - d) (L.set (i / 16) (L.getD (i / 16) 0 + P)) ⟨by omega, by simpa using hl, D16_set hD _ (by omega), by omega, e2, by rw [hsv]; exact e1⟩ (by omega) (by repeat (first | exact trivial | refine ⟨rfl, ?_⟩ | refine ⟨lookI rfl (by omega), ?_⟩)) (fun _ h => h)
    · by_cases hge : d ≤ 2 * l + y % 2
      · obtain ⟨e1, e2⟩ := bit_yes hd.1 he hb hv hge rfl
        clear he hv hb
        repeat (first | (refine gJO ?_; first | refine JO_v (V_shr (m := i % 16) rfl rfl (by omega) hm hy rfl) ?_ | refine JO_v (V_shl (m := i % 16) (c := P) rfl rfl (by omega) hm (by rw [hp]; exact wu64 (by omega)) rfl) ?_) | (first | (apply gJO; first | (apply kS; refine aK ?_) | (apply kX; refine JO_box rfl rfl rfl ?_; intro _) | (apply kA; refine JO_alloc (tb := tb) rfl rfl ?_; intro _) | (apply kBs; refine JO_buildSlice (tb := tb) rfl rfl rfl rfl rfl rfl rfl rfl rfl ?_; intro _) | (apply kM; refine JO_make (tb := tb) rfl rfl rfl rfl rfl rfl (by omega) rfl ?_; intro _) | refine aO ?_) | (apply gJR; first | apply JR_un | apply JR_nil | refine JR_yes rfl rfl ?_ | refine JR_no rfl rfl rfl rfl ?_ | refine JR_noU rfl rfl rfl ?_) | (apply gJS; first | apply JS_seq | apply JS_region | apply JS_skip | apply JS_block | apply JS_inBlock | apply JS_label | refine JS_exit rfl ?_ | refine JS_condT rfl ?_ | refine JS_condF rfl ?_ | refine JS_draw [0] (by kernel_rfl) (by kernel_rfl) (by decide +kernel) ?_ | refine JS_draw [] (by kernel_rfl) (by kernel_rfl) (by decide +kernel) ?_ | refine JS_cond_T rfl (by omega) ?_ | refine JS_cond_F rfl (by omega) ?_) | (apply gQR; first | apply QR_un | apply QR_nil | refine QR_yes rfl rfl ?_ | refine QR_no rfl rfl rfl rfl ?_ | refine QR_noU rfl rfl rfl ?_) | (apply gQO; first | refine aQ ?_ | refine aQK rfl ?_)))
        exact JS_again3 again i (2 * l + y % 2 - d) (L.set (i / 16) (L.getD (i / 16) 0 + P)) ⟨by omega, by simpa using hl, D16_set hD _ (by omega), by omega, e2, by rw [hsv]; exact e1⟩ (by omega) (by repeat (first | exact trivial | refine ⟨rfl, ?_⟩ | refine ⟨lookI rfl (by omega), ?_⟩)) (fun _ h => h)
      · obtain ⟨e1, e2⟩ := bit_no hd.1 he hb hv (show 2 * l + y % 2 < d by omega)
        clear he hv hb
        repeat (first | (refine gJO ?_; first | refine JO_v (V_shr (m := i % 16) rfl rfl (by omega) hm hy rfl) ?_ | refine JO_v (V_shl (m := i % 16) (c := P) rfl rfl (by omega) hm (by rw [hp]; exact wu64 (by omega)) rfl) ?_) | (first | (apply gJO; first | (apply kS; refine aK ?_) | (apply kX; refine JO_box rfl rfl rfl ?_; intro _) | (apply kA; refine JO_alloc (tb := tb) rfl rfl ?_; intro _) | (apply kBs; refine JO_buildSlice (tb := tb) rfl rfl rfl rfl rfl rfl rfl rfl rfl ?_; intro _) | (apply kM; refine JO_make (tb := tb) rfl rfl rfl rfl rfl rfl (by omega) rfl ?_; intro _) | refine aO ?_) | (apply gJR; first | apply JR_un | apply JR_nil | refine JR_yes rfl rfl ?_ | refine JR_no rfl rfl rfl rfl ?_ | refine JR_noU rfl rfl rfl ?_) | (apply gJS; first | apply JS_seq | apply JS_region | apply JS_skip | apply JS_block | apply JS_inBlock | apply JS_label | refine JS_exit rfl ?_ | refine JS_condT rfl ?_ | refine JS_condF rfl ?_ | refine JS_draw [0] (by kernel_rfl) (by kernel_rfl) (by decide +kernel) ?_ | refine JS_draw [] (by kernel_rfl) (by kernel_rfl) (by decide +kernel) ?_ | refine JS_cond_T rfl (by omega) ?_ | refine JS_cond_F rfl (by omega) ?_) | (apply gQR; first | apply QR_un | apply QR_nil | refine QR_yes rfl rfl ?_ | refine QR_no rfl rfl rfl rfl ?_ | refine QR_noU rfl rfl rfl ?_) | (apply gQO; first | refine aQ ?_ | refine aQK rfl ?_)))
        exact JS_again3 again i (2 * l + y % 2) L ⟨by omega, hl, hD, by omega, e2, e1⟩ (by omega) (by repeat (first | exact trivial | refine ⟨rfl, ?_⟩ | refine ⟨lookI rfl (by omega), ?_⟩)) (fun _ h => h)
end Go.Proofs.Ytjadcaoobnklcaa
