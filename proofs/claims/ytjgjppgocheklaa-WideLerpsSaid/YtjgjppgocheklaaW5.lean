import Derived.Test.YtjgjppgocheklaaA
import Derived.Test.YtjgjppgocheklaaW1
import Derived.Test.YtjgjppgocheklaaW2
import Derived.Test.YtjgjppgocheklaaW4
namespace Go.Proofs.Ytjgjppgocheklaa
open Sx Go
set_option linter.unusedVariables false
set_option linter.unusedSimpArgs false
theorem wide_split {X d : Int} (hX : 0 ≤ X) (hd : 0 < d) : X / 18446744073709551616 / d * 18446744073709551616 + (X / 18446744073709551616 % d * 18446744073709551616 + X % 18446744073709551616) / d = X / d ∧ (X / 18446744073709551616 % d * 18446744073709551616 + X % 18446744073709551616) % d = X % d := by
  have e1 := Int.mul_ediv_add_emod (X / 18446744073709551616) d
  have e : X = (X / 18446744073709551616 % d * 18446744073709551616 + X % 18446744073709551616) + d * (X / 18446744073709551616 / d * 18446744073709551616) := by
    have h1 : X = X / 18446744073709551616 * 18446744073709551616 + X % 18446744073709551616 := by omega
    generalize X / 18446744073709551616 % d = m at *
    generalize X / 18446744073709551616 / d = q at *
    generalize X / 18446744073709551616 = H at *
    generalize X % 18446744073709551616 = L at *
    rw [h1, ← e1]; grind
  constructor
  · conv => rhs; rw [e]
    rw [Int.add_mul_ediv_left _ _ (Int.ne_of_gt hd)]; omega
  · conv => rhs; rw [e]
    rw [Int.add_mul_emod_self_left]
set_option maxHeartbeats 400000 in
theorem Div_c {w0 : World} {H : List Asn} (h l d : Int) (hh : 0 ≤ h ∧ h < 18446744073709551616) (hl : 0 ≤ l ∧ l < 18446744073709551616) (hd : 0 ≤ d ∧ d < 18446744073709551616) (w : World) (hw : St w0 H w) :
    Calls Try.prog 32 #[.agg #[.int .u64 h, .int .u64 l], .int .u64 d] w fun e w' => ∃ a b m r, e = .returned (.tuple #[.agg #[.int .u64 a, .int .u64 b], .int .u64 m, .int .i64 r]) ∧ St w0 H w' ∧
      ((d = 0 ∧ a = 0 ∧ b = 0 ∧ m = 0 ∧ r = 100) ∨ (d ≠ 0 ∧ r = 0 ∧ a * 18446744073709551616 + b = (h * 18446744073709551616 + l) / d ∧ m = (h * 18446744073709551616 + l) % d ∧ a = h / d ∧ 0 ≤ a ∧ a < 18446744073709551616 ∧ 0 ≤ b ∧ b < 18446744073709551616 ∧ 0 ≤ m ∧ m < d)) := by
  refine enter (vs := [.agg #[.int .u64 h, .int .u64 l], .int .u64 d]) Try.func32 rfl rfl rfl hw ?_
  by_cases h0 : d = 0
  · repeat (first | (apply gJO; first | (apply kS; refine aK ?_) | (apply kX; refine JO_box rfl rfl rfl ?_; intro _) | (apply kA; refine JO_alloc (tb := tb) rfl rfl ?_; intro _) | (apply kBs; refine JO_buildSlice (tb := tb) rfl rfl rfl rfl rfl rfl rfl rfl rfl ?_; intro _) | (apply kM; refine JO_make (tb := tb) rfl rfl rfl rfl rfl rfl (by omega) rfl ?_; intro _) | refine aO ?_) | (apply gJR; first | apply JR_un | apply JR_nil | refine JR_yes rfl rfl ?_ | refine JR_no rfl rfl rfl rfl ?_ | refine JR_noU rfl rfl rfl ?_) | (apply gJS; first | apply JS_seq | apply JS_region | apply JS_skip | apply JS_block | apply JS_inBlock | apply JS_label | refine JS_exit rfl ?_ | refine JS_condT rfl ?_ | refine JS_condF rfl ?_ | refine JS_draw [0] (by kernel_rfl) (by kernel_rfl) (by decide +kernel) ?_ | refine JS_draw [] (by kernel_rfl) (by kernel_rfl) (by decide +kernel) ?_ | refine JS_cond_T rfl (by omega) ?_ | refine JS_cond_F rfl (by omega) ?_) | (apply gQR; first | apply QR_un | apply QR_nil | refine QR_yes rfl rfl ?_ | refine QR_no rfl rfl rfl rfl ?_ | refine QR_noU rfl rfl rfl ?_) | (apply gQO; first | refine aQ ?_ | refine aQK rfl ?_))
    refine JS_retC (tb := tb) Try.func32 rfl (by first | exact ResV.agg (tb := tb) rfl (by repeat (first | apply List.Mem.head | apply List.Mem.tail)) rfl rfl rfl ResV.nil | exact ResV.agg (tb := tb) rfl (by repeat (first | apply List.Mem.head | apply List.Mem.tail)) rfl rfl rfl (ResV.tmp rfl ResV.nil) | exact ResV.agg (tb := tb) rfl (by repeat (first | apply List.Mem.head | apply List.Mem.tail)) rfl rfl rfl (ResV.tmp rfl (ResV.tmp rfl ResV.nil)) | exact ResV.one (tb := tb) rfl (by repeat (first | apply List.Mem.head | apply List.Mem.tail)) rfl rfl rfl ResV.nil | exact ResV.one (tb := tb) rfl (by repeat (first | apply List.Mem.head | apply List.Mem.tail)) rfl rfl rfl (ResV.tmp rfl ResV.nil) | exact ResV.one (tb := tb) rfl (by repeat (first | apply List.Mem.head | apply List.Mem.tail)) rfl rfl rfl (ResV.one (tb := tb) rfl (by repeat (first | apply List.Mem.head | apply List.Mem.tail)) rfl rfl rfl ResV.nil) | exact ResV.tmp rfl (ResV.agg (tb := tb) rfl (by repeat (first | apply List.Mem.head | apply List.Mem.tail)) rfl rfl rfl ResV.nil) | exact ResV.tmp rfl (ResV.one (tb := tb) rfl (by repeat (first | apply List.Mem.head | apply List.Mem.tail)) rfl rfl rfl ResV.nil)) ?_
    intro w hw
    exact ⟨_, _, _, _, rfl, hw.drop.drop, .inl ⟨h0, rfl, rfl, rfl, rfl⟩⟩
  · have hm0 := Int.emod_nonneg h h0
    have hm1 := Int.emod_lt_of_pos h (show 0 < d by omega)
    have hq0 : 0 ≤ h / d := Int.ediv_nonneg hh.1 hd.1
    have hq1 : h / d ≤ h := Int.ediv_le_self _ hh.1
    obtain ⟨s1, s2⟩ := wide_split (X := h * 18446744073709551616 + l) (d := d) (by omega) (by omega)
    rw [show (h * 18446744073709551616 + l) / 18446744073709551616 = h from by omega, show (h * 18446744073709551616 + l) % 18446744073709551616 = l from by omega] at s1 s2
    repeat (first | (apply gJO; first | (apply kS; refine aK ?_) | (apply kX; refine JO_box rfl rfl rfl ?_; intro _) | (apply kA; refine JO_alloc (tb := tb) rfl rfl ?_; intro _) | (apply kBs; refine JO_buildSlice (tb := tb) rfl rfl rfl rfl rfl rfl rfl rfl rfl ?_; intro _) | (apply kM; refine JO_make (tb := tb) rfl rfl rfl rfl rfl rfl (by omega) rfl ?_; intro _) | refine aO ?_) | (apply gJR; first | apply JR_un | apply JR_nil | refine JR_yes rfl rfl ?_ | refine JR_no rfl rfl rfl rfl ?_ | refine JR_noU rfl rfl rfl ?_) | (apply gJS; first | apply JS_seq | apply JS_region | apply JS_skip | apply JS_block | apply JS_inBlock | apply JS_label | refine JS_exit rfl ?_ | refine JS_condT rfl ?_ | refine JS_condF rfl ?_ | refine JS_draw [0] (by kernel_rfl) (by kernel_rfl) (by decide +kernel) ?_ | refine JS_draw [] (by kernel_rfl) (by kernel_rfl) (by decide +kernel) ?_ | refine JS_cond_T rfl (by omega) ?_ | refine JS_cond_F rfl (by omega) ?_) | (apply gQR; first | apply QR_un | apply QR_nil | refine QR_yes rfl rfl ?_ | refine QR_no rfl rfl rfl rfl ?_ | refine QR_noU rfl rfl rfl ?_) | (apply gQO; first | refine aQ ?_ | refine aQK rfl ?_))
    refine JO_call Try.call61 rfl rfl fun w hw => (Div64_c (h % d) l d ⟨hm0, hm1⟩ hl hd.2 w hw).mono ?_
    rintro e w' ⟨q, r, rfl, hw', hq, hr⟩
    have hb0 : 0 ≤ q := by rw [hq]; exact Int.ediv_nonneg (by omega) hd.1
    have hb1 : q < 18446744073709551616 := by
      rw [hq]; refine Int.ediv_lt_of_lt_mul (by omega) ?_
      have : (h % d + 1) * 18446744073709551616 ≤ d * 18446744073709551616 := Int.mul_le_mul_of_nonneg_right (by omega) (by decide)
      rw [Int.mul_comm] at this
      omega
    have hr0 := Int.emod_nonneg (h % d * 18446744073709551616 + l) h0
    have hr1 := Int.emod_lt_of_pos (h % d * 18446744073709551616 + l) (show 0 < d by omega)
    refine ⟨_, rfl, _, hw', ?_⟩
    repeat (first | (apply gJO; first | (apply kS; refine aK ?_) | (apply kX; refine JO_box rfl rfl rfl ?_; intro _) | (apply kA; refine JO_alloc (tb := tb) rfl rfl ?_; intro _) | (apply kBs; refine JO_buildSlice (tb := tb) rfl rfl rfl rfl rfl rfl rfl rfl rfl ?_; intro _) | (apply kM; refine JO_make (tb := tb) rfl rfl rfl rfl rfl rfl (by omega) rfl ?_; intro _) | refine aO ?_) | (apply gJR; first | apply JR_un | apply JR_nil | refine JR_yes rfl rfl ?_ | refine JR_no rfl rfl rfl rfl ?_ | refine JR_noU rfl rfl rfl ?_) | (apply gJS; first | apply JS_seq | apply JS_region | apply JS_skip | apply JS_block | apply JS_inBlock | apply JS_label | refine JS_exit rfl ?_ | refine JS_condT rfl ?_ | refine JS_condF rfl ?_ | refine JS_draw [0] (by kernel_rfl) (by kernel_rfl) (by decide +kernel) ?_ | refine JS_draw [] (by kernel_rfl) (by kernel_rfl) (by decide +kernel) ?_ | refine JS_cond_T rfl (by omega) ?_ | refine JS_cond_F rfl (by omega) ?_) | (apply gQR; first | apply QR_un | apply QR_nil | refine QR_yes rfl rfl ?_ | refine QR_no rfl rfl rfl rfl ?_ | refine QR_noU rfl rfl rfl ?_) | (apply gQO; first | refine aQ ?_ | refine aQK rfl ?_))
    refine JS_retC (tb := tb) Try.func32 rfl (by first | exact ResV.agg (tb := tb) rfl (by repeat (first | apply List.Mem.head | apply List.Mem.tail)) rfl rfl rfl ResV.nil | exact ResV.agg (tb := tb) rfl (by repeat (first | apply List.Mem.head | apply List.Mem.tail)) rfl rfl rfl (ResV.tmp rfl ResV.nil) | exact ResV.agg (tb := tb) rfl (by repeat (first | apply List.Mem.head | apply List.Mem.tail)) rfl rfl rfl (ResV.tmp rfl (ResV.tmp rfl ResV.nil)) | exact ResV.one (tb := tb) rfl (by repeat (first | apply List.Mem.head | apply List.Mem.tail)) rfl rfl rfl ResV.nil | exact ResV.one (tb := tb) rfl (by repeat (first | apply List.Mem.head | apply List.Mem.tail)) rfl rfl rfl (ResV.tmp rfl ResV.nil) | exact ResV.one (tb := tb) rfl (by repeat (first | apply List.Mem.head | apply List.Mem.tail)) rfl rfl rfl (ResV.one (tb := tb) rfl (by repeat (first | apply List.Mem.head | apply List.Mem.tail)) rfl rfl rfl ResV.nil) | exact ResV.tmp rfl (ResV.agg (tb := tb) rfl (by repeat (first | apply List.Mem.head | apply List.Mem.tail)) rfl rfl rfl ResV.nil) | exact ResV.tmp rfl (ResV.one (tb := tb) rfl (by repeat (first | apply List.Mem.head | apply List.Mem.tail)) rfl rfl rfl ResV.nil)) ?_
    intro w hw
    exact ⟨_, _, _, _, rfl, hw.drop.drop, .inr ⟨h0, rfl, by rw [hq]; exact s1, by rw [hr]; exact s2, rfl, hq0, by omega, hb0, hb1, by rw [hr]; exact hr0, by rw [hr]; exact hr1⟩⟩
/-- what MulDiv answers -/
def MD (a b d q l r : Int) : Prop :=
  (d ≠ 0 ∧ a * b / d < 18446744073709551616 ∧ q = a * b / d ∧ l = a * b % d ∧ r = 0 ∧ 0 ≤ q ∧ 0 ≤ l ∧ l < d) ∨ ((d = 0 ∨ 18446744073709551616 ≤ a * b / d) ∧ q = 0 ∧ l = 0 ∧ r = 100)
theorem MulDiv_c {w0 : World} {H : List Asn} (a b d : Int) (ha : 0 ≤ a ∧ a < 18446744073709551616) (hb : 0 ≤ b ∧ b < 18446744073709551616) (hd : 0 ≤ d ∧ d < 18446744073709551616) (w : World) (hw : St w0 H w) :
    Calls Try.prog 27 #[.int .u64 a, .int .u64 b, .int .u64 d] w fun e w' => ∃ q l r, e = .returned (.tuple #[.int .u64 q, .int .u64 l, .int .i64 r]) ∧ St w0 H w' ∧ MD a b d q l r := by
  have hp := mul_bd ha.1 hb.1 (show a ≤ 18446744073709551615 by omega) (show b ≤ 18446744073709551615 by omega) (by omega)
  refine enter (vs := [.int .u64 a, .int .u64 b, .int .u64 d]) Try.func27 rfl rfl rfl hw ?_
  repeat (first | (apply gJO; first | (apply kS; refine aK ?_) | (apply kX; refine JO_box rfl rfl rfl ?_; intro _) | (apply kA; refine JO_alloc (tb := tb) rfl rfl ?_; intro _) | (apply kBs; refine JO_buildSlice (tb := tb) rfl rfl rfl rfl rfl rfl rfl rfl rfl ?_; intro _) | (apply kM; refine JO_make (tb := tb) rfl rfl rfl rfl rfl rfl (by omega) rfl ?_; intro _) | refine aO ?_) | (apply gJR; first | apply JR_un | apply JR_nil | refine JR_yes rfl rfl ?_ | refine JR_no rfl rfl rfl rfl ?_ | refine JR_noU rfl rfl rfl ?_) | (apply gJS; first | apply JS_seq | apply JS_region | apply JS_skip | apply JS_block | apply JS_inBlock | apply JS_label | refine JS_exit rfl ?_ | refine JS_condT rfl ?_ | refine JS_condF rfl ?_ | refine JS_draw [0] (by kernel_rfl) (by kernel_rfl) (by decide +kernel) ?_ | refine JS_draw [] (by kernel_rfl) (by kernel_rfl) (by decide +kernel) ?_) | (apply gQR; first | apply QR_un | apply QR_nil | refine QR_yes rfl rfl ?_ | refine QR_no rfl rfl rfl rfl ?_ | refine QR_noU rfl rfl rfl ?_) | (apply gQO; first | refine aQ ?_ | refine aQK rfl ?_))
  refine JO_call Try.call36 rfl rfl fun w hw => (Mul_c a b ha hb w hw).mono ?_
  rintro e w' ⟨rfl, hw'⟩
  refine ⟨_, rfl, _, hw', ?_⟩
  repeat (first | (apply gJO; first | (apply kS; refine aK ?_) | (apply kX; refine JO_box rfl rfl rfl ?_; intro _) | (apply kA; refine JO_alloc (tb := tb) rfl rfl ?_; intro _) | (apply kBs; refine JO_buildSlice (tb := tb) rfl rfl rfl rfl rfl rfl rfl rfl rfl ?_; intro _) | (apply kM; refine JO_make (tb := tb) rfl rfl rfl rfl rfl rfl (by omega) rfl ?_; intro _) | refine aO ?_) | (apply gJR; first | apply JR_un | apply JR_nil | refine JR_yes rfl rfl ?_ | refine JR_no rfl rfl rfl rfl ?_ | refine JR_noU rfl rfl rfl ?_) | (apply gJS; first | apply JS_seq | apply JS_region | apply JS_skip | apply JS_block | apply JS_inBlock | apply JS_label | refine JS_exit rfl ?_ | refine JS_condT rfl ?_ | refine JS_condF rfl ?_ | refine JS_draw [0] (by kernel_rfl) (by kernel_rfl) (by decide +kernel) ?_ | refine JS_draw [] (by kernel_rfl) (by kernel_rfl) (by decide +kernel) ?_) | (apply gQR; first | apply QR_un | apply QR_nil | refine QR_yes rfl rfl ?_ | refine QR_no rfl rfl rfl rfl ?_ | refine QR_noU rfl rfl rfl ?_) | (apply gQO; first | refine aQ ?_ | refine aQK rfl ?_))
  refine JO_callv rfl Try.call32 rfl rfl fun w hw => (Div_c (a * b / 18446744073709551616) (a * b % 18446744073709551616) d (by omega) (by omega) hd w hw).mono ?_
  rintro e w' ⟨x, y, m, r, rfl, hw', hc⟩
  refine ⟨_, rfl, _, hw', ?_⟩
  rw [show a * b / 18446744073709551616 * 18446744073709551616 + a * b % 18446744073709551616 = a * b from by omega] at hc
  rcases hc with ⟨h0, h1, h2, h3, h4⟩ | ⟨h0, h1, h2, h3, h4, h5, h6, h7, h8, h9, h10⟩
  · repeat (first | (apply gJO; first | (apply kS; refine aK ?_) | (apply kX; refine JO_box rfl rfl rfl ?_; intro _) | (apply kA; refine JO_alloc (tb := tb) rfl rfl ?_; intro _) | (apply kBs; refine JO_buildSlice (tb := tb) rfl rfl rfl rfl rfl rfl rfl rfl rfl ?_; intro _) | (apply kM; refine JO_make (tb := tb) rfl rfl rfl rfl rfl rfl (by omega) rfl ?_; intro _) | refine aO ?_) | (apply gJR; first | apply JR_un | apply JR_nil | refine JR_yes rfl rfl ?_ | refine JR_no rfl rfl rfl rfl ?_ | refine JR_noU rfl rfl rfl ?_) | (apply gJS; first | apply JS_seq | apply JS_region | apply JS_skip | apply JS_block | apply JS_inBlock | apply JS_label | refine JS_exit rfl ?_ | refine JS_condT rfl ?_ | refine JS_condF rfl ?_ | refine JS_draw [0] (by kernel_rfl) (by kernel_rfl) (by decide +kernel) ?_ | refine JS_draw [] (by kernel_rfl) (by kernel_rfl) (by decide +kernel) ?_ | refine JS_cond_T rfl (by omega) ?_ | refine JS_cond_F rfl (by omega) ?_) | (apply gQR; first | apply QR_un | apply QR_nil | refine QR_yes rfl rfl ?_ | refine QR_no rfl rfl rfl rfl ?_ | refine QR_noU rfl rfl rfl ?_) | (apply gQO; first | refine aQ ?_ | refine aQK rfl ?_))
    refine JS_ret Try.func27 rfl rfl ?_
    intro w hw
    exact ⟨_, _, _, rfl, hw.drop, .inr ⟨.inl h0, rfl, rfl, rfl⟩⟩
  · by_cases hx : x = 0
    · repeat (first | (apply gJO; first | (apply kS; refine aK ?_) | (apply kX; refine JO_box rfl rfl rfl ?_; intro _) | (apply kA; refine JO_alloc (tb := tb) rfl rfl ?_; intro _) | (apply kBs; refine JO_buildSlice (tb := tb) rfl rfl rfl rfl rfl rfl rfl rfl rfl ?_; intro _) | (apply kM; refine JO_make (tb := tb) rfl rfl rfl rfl rfl rfl (by omega) rfl ?_; intro _) | refine aO ?_) | (apply gJR; first | apply JR_un | apply JR_nil | refine JR_yes rfl rfl ?_ | refine JR_no rfl rfl rfl rfl ?_ | refine JR_noU rfl rfl rfl ?_) | (apply gJS; first | apply JS_seq | apply JS_region | apply JS_skip | apply JS_block | apply JS_inBlock | apply JS_label | refine JS_exit rfl ?_ | refine JS_condT rfl ?_ | refine JS_condF rfl ?_ | refine JS_draw [0] (by kernel_rfl) (by kernel_rfl) (by decide +kernel) ?_ | refine JS_draw [] (by kernel_rfl) (by kernel_rfl) (by decide +kernel) ?_ | refine JS_cond_T rfl (by omega) ?_ | refine JS_cond_F rfl (by omega) ?_) | (apply gQR; first | apply QR_un | apply QR_nil | refine QR_yes rfl rfl ?_ | refine QR_no rfl rfl rfl rfl ?_ | refine QR_noU rfl rfl rfl ?_) | (apply gQO; first | refine aQ ?_ | refine aQK rfl ?_))
      refine JS_ret Try.func27 rfl rfl ?_
      intro w hw
      exact ⟨_, _, _, rfl, hw.drop, .inl ⟨h0, by omega, by omega, h3, rfl, by omega, by omega, by omega⟩⟩
    · repeat (first | (apply gJO; first | (apply kS; refine aK ?_) | (apply kX; refine JO_box rfl rfl rfl ?_; intro _) | (apply kA; refine JO_alloc (tb := tb) rfl rfl ?_; intro _) | (apply kBs; refine JO_buildSlice (tb := tb) rfl rfl rfl rfl rfl rfl rfl rfl rfl ?_; intro _) | (apply kM; refine JO_make (tb := tb) rfl rfl rfl rfl rfl rfl (by omega) rfl ?_; intro _) | refine aO ?_) | (apply gJR; first | apply JR_un | apply JR_nil | refine JR_yes rfl rfl ?_ | refine JR_no rfl rfl rfl rfl ?_ | refine JR_noU rfl rfl rfl ?_) | (apply gJS; first | apply JS_seq | apply JS_region | apply JS_skip | apply JS_block | apply JS_inBlock | apply JS_label | refine JS_exit rfl ?_ | refine JS_condT rfl ?_ | refine JS_condF rfl ?_ | refine JS_draw [0] (by kernel_rfl) (by kernel_rfl) (by decide +kernel) ?_ | refine JS_draw [] (by kernel_rfl) (by kernel_rfl) (by decide +kernel) ?_ | refine JS_cond_T rfl (by omega) ?_ | refine JS_cond_F rfl (by omega) ?_) | (apply gQR; first | apply QR_un | apply QR_nil | refine QR_yes rfl rfl ?_ | refine QR_no rfl rfl rfl rfl ?_ | refine QR_noU rfl rfl rfl ?_) | (apply gQO; first | refine aQ ?_ | refine aQK rfl ?_))
      refine JS_ret Try.func27 rfl rfl ?_
      intro w hw
      exact ⟨_, _, _, rfl, hw.drop, .inr ⟨.inr (by omega), rfl, rfl, rfl⟩⟩
end Go.Proofs.Ytjgjppgocheklaa
