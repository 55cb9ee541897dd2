import Derived.Test.YtjgjppgocheklaaW2
import Derived.Test.YtjgjppgocheklaaW5
import Derived.Test.YtjgjppgocheklaaP5
namespace Go.Proofs.Ytjgjppgocheklaa
open Sx Go
set_option linter.unusedVariables false
set_option linter.unusedSimpArgs false
/-- the mean of numbers by weights -/
def ME (T : List (Int × Int)) (a r : Int) : Prop := ((sw T = 0 ∨ 18446744073709551616 ≤ sw T) ∧ a = 0 ∧ r = 100) ∨
  (sw T ≠ 0 ∧ sw T < 18446744073709551616 ∧ r = 0 ∧ ∃ low, (∀ t ∈ T, low ≤ t.1) ∧ (∃ t ∈ T, t.1 = low) ∧ a = low + sp low T / sw T)
set_option maxHeartbeats 4000000 in
theorem Mean_c {w0 : World} {H : List Asn} (p : Option Addr) (c m : Nat) (T : List (Int × Int)) (hr : Rd w0 H (.slice p m c) m (flat T)) (hm : T.length = m) (hT : OKT T) (hm1 : m ≤ 1000000) (w : World) (hw : St w0 H w) :
    Calls Try.prog 50 #[.slice p m c] w fun e w' => ∃ a r, e = .returned (.tuple #[.int .i64 a, .int .i64 r]) ∧ St w0 H w' ∧ ME T a r := by
  refine enter (vs := [.slice p m c]) Try.func50 rfl rfl rfl hw ?_
  by_cases h0 : m = 0
  · have hT0 : T = [] := List.eq_nil_of_length_eq_zero (by omega)
    repeat (first | (apply gJO; first | (apply kS; refine aK ?_) | (apply kX; refine JO_box rfl rfl rfl ?_; intro _) | (apply kA; refine JO_alloc (tb := tb) rfl rfl ?_; intro _) | (apply kBs; refine JO_buildSlice (tb := tb) rfl rfl rfl rfl rfl rfl rfl rfl rfl ?_; intro _) | (apply kM; refine JO_make (tb := tb) rfl rfl rfl rfl rfl rfl (by omega) rfl ?_; intro _) | refine aO ?_) | (apply gJR; first | apply JR_un | apply JR_nil | refine JR_yes rfl rfl ?_ | refine JR_no rfl rfl rfl rfl ?_ | refine JR_noU rfl rfl rfl ?_) | (apply gJS; first | apply JS_seq | apply JS_region | apply JS_skip | apply JS_block | apply JS_inBlock | apply JS_label | refine JS_exit rfl ?_ | refine JS_condT rfl ?_ | refine JS_condF rfl ?_ | refine JS_draw [0] (by kernel_rfl) (by kernel_rfl) (by decide +kernel) ?_ | refine JS_draw [] (by kernel_rfl) (by kernel_rfl) (by decide +kernel) ?_ | refine JS_cond_T rfl (by omega) ?_ | refine JS_cond_F rfl (by omega) ?_) | (apply gQR; first | apply QR_un | apply QR_nil | refine QR_yes rfl rfl ?_ | refine QR_no rfl rfl rfl rfl ?_ | refine QR_noU rfl rfl rfl ?_) | (apply gQO; first | refine aQ ?_ | refine aQK rfl ?_))
    refine JS_ret Try.func50 rfl rfl ?_
    intro w hw
    exact ⟨_, _, rfl, hw, .inl ⟨.inl (by rw [hT0]; rfl), rfl, rfl⟩⟩
  repeat (first | (apply gJO; refine JO_v (V_loadC (tb := tb) rfl (by first | exact vec_rd (by repeat (first | apply List.Mem.head | apply List.Mem.tail)) | assumption | exact ArgRd.rd (by assumption) _) rfl rfl (flat_get0 T 0 (by omega)) rfl) ?_) | (apply gJR; first | (apply gJO; first | (apply kS; refine aK ?_) | (apply kX; refine JO_box rfl rfl rfl ?_; intro _) | (apply kA; refine JO_alloc (tb := tb) rfl rfl ?_; intro _) | (apply kBs; refine JO_buildSlice (tb := tb) rfl rfl rfl rfl rfl rfl rfl rfl rfl ?_; intro _) | (apply kM; refine JO_make (tb := tb) rfl rfl rfl rfl rfl rfl (by omega) rfl ?_; intro _) | refine aO ?_) | (apply gJR; first | apply JR_un | apply JR_nil | refine JR_yes rfl rfl ?_ | refine JR_no rfl rfl rfl rfl ?_ | refine JR_noU rfl rfl rfl ?_) | (apply gJS; first | apply JS_seq | apply JS_region | apply JS_skip | apply JS_block | apply JS_inBlock | apply JS_label | refine JS_exit rfl ?_ | refine JS_condT rfl ?_ | refine JS_condF rfl ?_ | refine JS_draw [0] (by kernel_rfl) (by kernel_rfl) (by decide +kernel) ?_ | refine JS_draw [] (by kernel_rfl) (by kernel_rfl) (by decide +kernel) ?_ | refine JS_cond_T rfl (by omega) ?_ | refine JS_cond_F rfl (by omega) ?_) | (apply gQR; first | apply QR_un | apply QR_nil | refine QR_yes rfl rfl ?_ | refine QR_no rfl rfl rfl rfl ?_ | refine QR_noU rfl rfl rfl ?_) | (apply gQO; first | refine aQ ?_ | refine aQK rfl ?_)) | (apply gJO; first | (apply gJO; first | (apply kS; refine aK ?_) | (apply kX; refine JO_box rfl rfl rfl ?_; intro _) | (apply kA; refine JO_alloc (tb := tb) rfl rfl ?_; intro _) | (apply kBs; refine JO_buildSlice (tb := tb) rfl rfl rfl rfl rfl rfl rfl rfl rfl ?_; intro _) | (apply kM; refine JO_make (tb := tb) rfl rfl rfl rfl rfl rfl (by omega) rfl ?_; intro _) | refine aO ?_) | (apply gJR; first | apply JR_un | apply JR_nil | refine JR_yes rfl rfl ?_ | refine JR_no rfl rfl rfl rfl ?_ | refine JR_noU rfl rfl rfl ?_) | (apply gJS; first | apply JS_seq | apply JS_region | apply JS_skip | apply JS_block | apply JS_inBlock | apply JS_label | refine JS_exit rfl ?_ | refine JS_condT rfl ?_ | refine JS_condF rfl ?_ | refine JS_draw [0] (by kernel_rfl) (by kernel_rfl) (by decide +kernel) ?_ | refine JS_draw [] (by kernel_rfl) (by kernel_rfl) (by decide +kernel) ?_ | refine JS_cond_T rfl (by omega) ?_ | refine JS_cond_F rfl (by omega) ?_) | (apply gQR; first | apply QR_un | apply QR_nil | refine QR_yes rfl rfl ?_ | refine QR_no rfl rfl rfl rfl ?_ | refine QR_noU rfl rfl rfl ?_) | (apply gQO; first | refine aQ ?_ | refine aQK rfl ?_)) | apply JS_seq | apply JS_region | refine JS_condF rfl ?_ | apply JS_skip)
  refine JS_block ?_
  refine JS_loop2 (fun (i : Nat) (low : Int) => [(0, .slice p m c), (4, .int .i64 low), (23, .slice p m c), (24, .int .i64 m), (25, .int .i64 i)]) (fun _ _ => H)
    (fun i low => i ≤ m ∧ (∀ j, j < i → low ≤ (T.getD j (0, 0)).1) ∧ ∃ t ∈ T, t.1 = low) (fun i _ => m - i) 0 (T.getD 0 (0, 0)).1 ⟨by omega, fun j h => by omega, _, mem_get 0 (by omega), rfl⟩ (by repeat (first | exact trivial | refine ⟨rfl, ?_⟩ | refine ⟨lookI rfl (by omega), ?_⟩)) (fun _ h => h) ?_
  intro i low ⟨hi, hlow, hex⟩ again
  by_cases him : i < m
  · have hb := (hT.get i (by omega)).1
    repeat (first | (apply gJO; refine JO_v (V_loadCA (tb := tb) (vs := [.int .i64 (T.getD i (0, 0)).1, .int .u64 (T.getD i (0, 0)).2]) rfl (by first | exact vec_rd (by repeat (first | apply List.Mem.head | apply List.Mem.tail)) | assumption | exact ArgRd.rd (by assumption) _) rfl rfl rfl (by omega) (flat_seg T i (by omega)) rfl) ?_) | (first | (apply gJO; first | (apply kS; refine aK ?_) | (apply kX; refine JO_box rfl rfl rfl ?_; intro _) | (apply kA; refine JO_alloc (tb := tb) rfl rfl ?_; intro _) | (apply kBs; refine JO_buildSlice (tb := tb) rfl rfl rfl rfl rfl rfl rfl rfl rfl ?_; intro _) | (apply kM; refine JO_make (tb := tb) rfl rfl rfl rfl rfl rfl (by omega) rfl ?_; intro _) | refine aO ?_) | (apply gJR; first | apply JR_un | apply JR_nil | refine JR_yes rfl rfl ?_ | refine JR_no rfl rfl rfl rfl ?_ | refine JR_noU rfl rfl rfl ?_) | (apply gJS; first | apply JS_seq | apply JS_region | apply JS_skip | apply JS_block | apply JS_inBlock | apply JS_label | refine JS_exit rfl ?_ | refine JS_condT rfl ?_ | refine JS_condF rfl ?_ | refine JS_draw [0] (by kernel_rfl) (by kernel_rfl) (by decide +kernel) ?_ | refine JS_draw [] (by kernel_rfl) (by kernel_rfl) (by decide +kernel) ?_ | refine JS_cond_T rfl (by omega) ?_ | refine JS_cond_F rfl (by omega) ?_) | (apply gQR; first | apply QR_un | apply QR_nil | refine QR_yes rfl rfl ?_ | refine QR_no rfl rfl rfl rfl ?_ | refine QR_noU rfl rfl rfl ?_) | (apply gQO; first | refine aQ ?_ | refine aQK rfl ?_)))
    exact JS_again2 again (i + 1) (min low (T.getD i (0, 0)).1) ⟨by omega, fun j hj => by
      rcases Nat.lt_or_ge j i with h | h
      · have := hlow j h; omega
      · obtain rfl : j = i := by omega
        omega, by
      rcases Int.le_total low (T.getD i (0, 0)).1 with h | h
      · rw [Int.min_eq_left h]; exact hex
      · rw [Int.min_eq_right h]; exact ⟨_, mem_get i (by omega), rfl⟩⟩ (by omega) (by repeat (first | exact trivial | refine ⟨rfl, ?_⟩ | refine ⟨lookI rfl (by omega), ?_⟩)) (fun w hw => St.sub (by repeat (first | exact List.Sublist.refl _ | apply List.Sublist.cons_cons | apply List.Sublist.cons)) hw)
  obtain rfl : i = m := by omega
  have hall : ∀ t ∈ T, low ≤ t.1 := fun t ht => by
    obtain ⟨j, hj, rfl⟩ := List.getElem_of_mem ht
    have := hlow j (by omega)
    simpa [hj] using this
  obtain ⟨t0, ht0, hlow0⟩ := hex
  have hlb := (hT t0 ht0).1
  rw [hlow0] at hlb
  have hsp : ∀ k, 0 ≤ sp low (T.take k) ∧ sp low (T.take k) ≤ 18446744073709551615 * sw (T.take k) := fun k => sp_bd fun t ht => by
    have h1 := hT t (List.mem_of_mem_take ht)
    have h2 := hall t (List.mem_of_mem_take ht)
    omega
  clear again hlow
  repeat (first | (apply gJR; first | (apply gJO; first | (apply kS; refine aK ?_) | (apply kX; refine JO_box rfl rfl rfl ?_; intro _) | (apply kA; refine JO_alloc (tb := tb) rfl rfl ?_; intro _) | (apply kBs; refine JO_buildSlice (tb := tb) rfl rfl rfl rfl rfl rfl rfl rfl rfl ?_; intro _) | (apply kM; refine JO_make (tb := tb) rfl rfl rfl rfl rfl rfl (by omega) rfl ?_; intro _) | refine aO ?_) | (apply gJR; first | apply JR_un | apply JR_nil | refine JR_yes rfl rfl ?_ | refine JR_no rfl rfl rfl rfl ?_ | refine JR_noU rfl rfl rfl ?_) | (apply gJS; first | apply JS_seq | apply JS_region | apply JS_skip | apply JS_block | apply JS_inBlock | apply JS_label | refine JS_exit rfl ?_ | refine JS_condT rfl ?_ | refine JS_condF rfl ?_ | refine JS_draw [0] (by kernel_rfl) (by kernel_rfl) (by decide +kernel) ?_ | refine JS_draw [] (by kernel_rfl) (by kernel_rfl) (by decide +kernel) ?_ | refine JS_cond_T rfl (by omega) ?_ | refine JS_cond_F rfl (by omega) ?_) | (apply gQR; first | apply QR_un | apply QR_nil | refine QR_yes rfl rfl ?_ | refine QR_no rfl rfl rfl rfl ?_ | refine QR_noU rfl rfl rfl ?_) | (apply gQO; first | refine aQ ?_ | refine aQK rfl ?_)) | (apply gJO; first | (apply gJO; first | (apply kS; refine aK ?_) | (apply kX; refine JO_box rfl rfl rfl ?_; intro _) | (apply kA; refine JO_alloc (tb := tb) rfl rfl ?_; intro _) | (apply kBs; refine JO_buildSlice (tb := tb) rfl rfl rfl rfl rfl rfl rfl rfl rfl ?_; intro _) | (apply kM; refine JO_make (tb := tb) rfl rfl rfl rfl rfl rfl (by omega) rfl ?_; intro _) | refine aO ?_) | (apply gJR; first | apply JR_un | apply JR_nil | refine JR_yes rfl rfl ?_ | refine JR_no rfl rfl rfl rfl ?_ | refine JR_noU rfl rfl rfl ?_) | (apply gJS; first | apply JS_seq | apply JS_region | apply JS_skip | apply JS_block | apply JS_inBlock | apply JS_label | refine JS_exit rfl ?_ | refine JS_condT rfl ?_ | refine JS_condF rfl ?_ | refine JS_draw [0] (by kernel_rfl) (by kernel_rfl) (by decide +kernel) ?_ | refine JS_draw [] (by kernel_rfl) (by kernel_rfl) (by decide +kernel) ?_ | refine JS_cond_T rfl (by omega) ?_ | refine JS_cond_F rfl (by omega) ?_) | (apply gQR; first | apply QR_un | apply QR_nil | refine QR_yes rfl rfl ?_ | refine QR_no rfl rfl rfl rfl ?_ | refine QR_noU rfl rfl rfl ?_) | (apply gQO; first | refine aQ ?_ | refine aQK rfl ?_)) | apply JS_seq | apply JS_region | refine JS_condF rfl ?_ | refine JS_exit rfl ?_ | apply JS_skip | (apply gJS; refine JS_inBlock ?_))
  rename_i b8
  refine JS_block ?_
  refine JS_loop3 (fun (k : Nat) (h l : Int) => [(4, .int .i64 low), (7, .int .u64 (sw (T.take k))), (8, .pointer (some ⟨b8, 0, none⟩)), (35, .slice p i c), (36, .int .i64 i), (37, .int .i64 k)]) (fun _ h l => blk b8 [.int .u64 h, .int .u64 l] :: H)
    (fun k h l => k ≤ i ∧ sw (T.take k) < 18446744073709551616 ∧ (0 ≤ h ∧ h < 18446744073709551616) ∧ (0 ≤ l ∧ l < 18446744073709551616) ∧ h * 18446744073709551616 + l = sp low (T.take k)) (fun k _ _ => i - k) 0 0 0 ⟨by omega, by simp [sw], by omega, by omega, by simp [sp]⟩ (by repeat (first | exact trivial | refine ⟨rfl, ?_⟩ | refine ⟨lookI rfl (by omega), ?_⟩)) (fun _ h => h) ?_
  intro k h l ⟨hk, hs, hh, hl, hv⟩ again
  have hs0 := sw_nonneg (hT.take k)
  have hr' : Rd w0 (blk b8 [.int .u64 h, .int .u64 l] :: H) (.slice p i c) i (flat T) := Rd_weak hr fun w hw => St.sub (by repeat (first | exact List.Sublist.refl _ | apply List.Sublist.cons_cons | apply List.Sublist.cons)) hw
  by_cases hki : k = i
  · have e1 : T.take k = T := List.take_of_length_le (by omega)
    have hsk := hsp k
    rw [e1] at hs hv hs0 hsk
    rw [e1]
    clear again hsp
    repeat (first | (apply gJO; first | (apply kS; refine aK ?_) | (apply kX; refine JO_box rfl rfl rfl ?_; intro _) | (apply kA; refine JO_alloc (tb := tb) rfl rfl ?_; intro _) | (apply kBs; refine JO_buildSlice (tb := tb) rfl rfl rfl rfl rfl rfl rfl rfl rfl ?_; intro _) | (apply kM; refine JO_make (tb := tb) rfl rfl rfl rfl rfl rfl (by omega) rfl ?_; intro _) | refine aO ?_) | (apply gJR; first | apply JR_un | apply JR_nil | refine JR_yes rfl rfl ?_ | refine JR_no rfl rfl rfl rfl ?_ | refine JR_noU rfl rfl rfl ?_) | (apply gJS; first | apply JS_seq | apply JS_region | apply JS_skip | apply JS_block | apply JS_inBlock | apply JS_label | refine JS_exit rfl ?_ | refine JS_condT rfl ?_ | refine JS_condF rfl ?_ | refine JS_draw [0] (by kernel_rfl) (by kernel_rfl) (by decide +kernel) ?_ | refine JS_draw [] (by kernel_rfl) (by kernel_rfl) (by decide +kernel) ?_ | refine JS_cond_T rfl (by omega) ?_ | refine JS_cond_F rfl (by omega) ?_) | (apply gQR; first | apply QR_un | apply QR_nil | refine QR_yes rfl rfl ?_ | refine QR_no rfl rfl rfl rfl ?_ | refine QR_noU rfl rfl rfl ?_) | (apply gQO; first | refine aQ ?_ | refine aQK rfl ?_))
    refine JO_call Try.call32 rfl rfl fun w hw => (Div_c h l (sw T) hh hl ⟨hs0, hs⟩ w hw).mono ?_
    rintro e w' ⟨a, b, q, r, rfl, hw', h1⟩
    refine ⟨_, rfl, _, hw', ?_⟩
    clear hw' hw w w'
    rcases h1 with ⟨h2, rfl, rfl, rfl, rfl⟩ | ⟨h2, rfl, hq, _, _, ha0, ha1, hb0, hb1, _, _⟩
    · repeat (first | (apply gJO; first | (apply kS; refine aK ?_) | (apply kX; refine JO_box rfl rfl rfl ?_; intro _) | (apply kA; refine JO_alloc (tb := tb) rfl rfl ?_; intro _) | (apply kBs; refine JO_buildSlice (tb := tb) rfl rfl rfl rfl rfl rfl rfl rfl rfl ?_; intro _) | (apply kM; refine JO_make (tb := tb) rfl rfl rfl rfl rfl rfl (by omega) rfl ?_; intro _) | refine aO ?_) | (apply gJR; first | apply JR_un | apply JR_nil | refine JR_yes rfl rfl ?_ | refine JR_no rfl rfl rfl rfl ?_ | refine JR_noU rfl rfl rfl ?_) | (apply gJS; first | apply JS_seq | apply JS_region | apply JS_skip | apply JS_block | apply JS_inBlock | apply JS_label | refine JS_exit rfl ?_ | refine JS_condT rfl ?_ | refine JS_condF rfl ?_ | refine JS_draw [0] (by kernel_rfl) (by kernel_rfl) (by decide +kernel) ?_ | refine JS_draw [] (by kernel_rfl) (by kernel_rfl) (by decide +kernel) ?_ | refine JS_cond_T rfl (by omega) ?_ | refine JS_cond_F rfl (by omega) ?_) | (apply gQR; first | apply QR_un | apply QR_nil | refine QR_yes rfl rfl ?_ | refine QR_no rfl rfl rfl rfl ?_ | refine QR_noU rfl rfl rfl ?_) | (apply gQO; first | refine aQ ?_ | refine aQK rfl ?_))
      refine JS_ret Try.func50 rfl rfl ?_
      intro w hw
      exact ⟨_, _, rfl, St.sub (by repeat (first | exact List.Sublist.refl _ | apply List.Sublist.cons_cons | apply List.Sublist.cons)) hw, .inl ⟨.inl h2, rfl, rfl⟩⟩
    · rw [hv] at hq
      have hmax : ∀ M : Int, (∀ t ∈ T, t.1 ≤ M) → sp low T / sw T ≤ M - low := fun M hM => by
        have h3 := (sp_bd (T := T) (low := low) (M := M - low) fun t ht => ⟨hall t ht, by have := hM t ht; omega, (hT t ht).2.1⟩).2
        have h4 := Int.ediv_le_ediv (show 0 < sw T by omega) h3
        rwa [Int.mul_ediv_cancel _ h2] at h4
      have hM := hmax 9223372036854775807 (fun t ht => by have := (hT t ht).1.2; omega)
      have hq0 : 0 ≤ sp low T / sw T := Int.ediv_nonneg hsk.1 hs0
      obtain ⟨rfl, hb⟩ : a = 0 ∧ b = sp low T / sw T := by omega
      rw [← hb] at hM
      clear hmax hq hq0 hsk hv
      repeat (first | (apply gJO; first | (apply kS; refine aK ?_) | (apply kX; refine JO_box rfl rfl rfl ?_; intro _) | (apply kA; refine JO_alloc (tb := tb) rfl rfl ?_; intro _) | (apply kBs; refine JO_buildSlice (tb := tb) rfl rfl rfl rfl rfl rfl rfl rfl rfl ?_; intro _) | (apply kM; refine JO_make (tb := tb) rfl rfl rfl rfl rfl rfl (by omega) rfl ?_; intro _) | refine aO ?_) | (apply gJR; first | apply JR_un | apply JR_nil | refine JR_yes rfl rfl ?_ | refine JR_no rfl rfl rfl rfl ?_ | refine JR_noU rfl rfl rfl ?_) | (apply gJS; first | apply JS_seq | apply JS_region | apply JS_skip | apply JS_block | apply JS_inBlock | apply JS_label | refine JS_exit rfl ?_ | refine JS_condT rfl ?_ | refine JS_condF rfl ?_ | refine JS_draw [0] (by kernel_rfl) (by kernel_rfl) (by decide +kernel) ?_ | refine JS_draw [] (by kernel_rfl) (by kernel_rfl) (by decide +kernel) ?_ | refine JS_cond_T rfl (by omega) ?_ | refine JS_cond_F rfl (by omega) ?_) | (apply gQR; first | apply QR_un | apply QR_nil | refine QR_yes rfl rfl ?_ | refine QR_no rfl rfl rfl rfl ?_ | refine QR_noU rfl rfl rfl ?_) | (apply gQO; first | refine aQ ?_ | refine aQK rfl ?_))
      refine JS_ret Try.func50 rfl rfl ?_
      intro w hw
      refine ⟨_, _, rfl, St.sub (by repeat (first | exact List.Sublist.refl _ | apply List.Sublist.cons_cons | apply List.Sublist.cons)) hw, .inr ⟨h2, hs, rfl, low, hall, ⟨t0, ht0, hlow0⟩, ?_⟩⟩
      omega
  · obtain ⟨hb1, hb2⟩ := hT.get k (by omega)
    have hst := sw_take T k (by omega)
    have hpt := sp_take low T k (by omega)
    have hlx := hall _ (mem_get (T := T) k (by omega))
    have hspk := hsp (k + 1)
    rw [hst, hpt] at hspk
    repeat (first | (apply gJO; refine JO_v (V_loadCA (tb := tb) (vs := [.int .i64 (T.getD k (0, 0)).1, .int .u64 (T.getD k (0, 0)).2]) rfl (by first | exact vec_rd (by repeat (first | apply List.Mem.head | apply List.Mem.tail)) | assumption | exact ArgRd.rd (by assumption) _) rfl rfl rfl (by omega) (flat_seg T k (by omega)) rfl) ?_) | (apply gJO; refine JO_v (V_ext rfl (add64_run ⟨hs0, hs⟩ hb2 (by omega)) rfl) ?_) | (first | (apply gJO; first | (apply kS; refine aK ?_) | (apply kX; refine JO_box rfl rfl rfl ?_; intro _) | (apply kA; refine JO_alloc (tb := tb) rfl rfl ?_; intro _) | (apply kBs; refine JO_buildSlice (tb := tb) rfl rfl rfl rfl rfl rfl rfl rfl rfl ?_; intro _) | (apply kM; refine JO_make (tb := tb) rfl rfl rfl rfl rfl rfl (by omega) rfl ?_; intro _) | refine aO ?_) | (apply gJR; first | apply JR_un | apply JR_nil | refine JR_yes rfl rfl ?_ | refine JR_no rfl rfl rfl rfl ?_ | refine JR_noU rfl rfl rfl ?_) | (apply gJS; first | apply JS_seq | apply JS_region | apply JS_skip | apply JS_block | apply JS_inBlock | apply JS_label | refine JS_exit rfl ?_ | refine JS_condT rfl ?_ | refine JS_condF rfl ?_ | refine JS_draw [0] (by kernel_rfl) (by kernel_rfl) (by decide +kernel) ?_ | refine JS_draw [] (by kernel_rfl) (by kernel_rfl) (by decide +kernel) ?_) | (apply gQR; first | apply QR_un | apply QR_nil | refine QR_yes rfl rfl ?_ | refine QR_no rfl rfl rfl rfl ?_ | refine QR_noU rfl rfl rfl ?_) | (apply gQO; first | refine aQ ?_ | refine aQK rfl ?_)))
    by_cases hov : 18446744073709551616 ≤ sw (T.take k) + (T.getD k (0, 0)).2
    · have := sw_le hT (k + 1)
      clear hspk
      repeat (first | (apply gJO; first | (apply kS; refine aK ?_) | (apply kX; refine JO_box rfl rfl rfl ?_; intro _) | (apply kA; refine JO_alloc (tb := tb) rfl rfl ?_; intro _) | (apply kBs; refine JO_buildSlice (tb := tb) rfl rfl rfl rfl rfl rfl rfl rfl rfl ?_; intro _) | (apply kM; refine JO_make (tb := tb) rfl rfl rfl rfl rfl rfl (by omega) rfl ?_; intro _) | refine aO ?_) | (apply gJR; first | apply JR_un | apply JR_nil | refine JR_yes rfl rfl ?_ | refine JR_no rfl rfl rfl rfl ?_ | refine JR_noU rfl rfl rfl ?_) | (apply gJS; first | apply JS_seq | apply JS_region | apply JS_skip | apply JS_block | apply JS_inBlock | apply JS_label | refine JS_exit rfl ?_ | refine JS_condT rfl ?_ | refine JS_condF rfl ?_ | refine JS_draw [0] (by kernel_rfl) (by kernel_rfl) (by decide +kernel) ?_ | refine JS_draw [] (by kernel_rfl) (by kernel_rfl) (by decide +kernel) ?_ | refine JS_cond_T rfl (by omega) ?_ | refine JS_cond_F rfl (by omega) ?_) | (apply gQR; first | apply QR_un | apply QR_nil | refine QR_yes rfl rfl ?_ | refine QR_no rfl rfl rfl rfl ?_ | refine QR_noU rfl rfl rfl ?_) | (apply gQO; first | refine aQ ?_ | refine aQK rfl ?_))
      refine JS_ret Try.func50 rfl rfl ?_
      intro w hw
      exact ⟨_, _, rfl, St.sub (by repeat (first | exact List.Sublist.refl _ | apply List.Sublist.cons_cons | apply List.Sublist.cons)) hw, .inl ⟨.inr (by omega), rfl, rfl⟩⟩
    · obtain ⟨x, n, hxn⟩ : ∃ x n, T.getD k (0, 0) = (x, n) := ⟨_, _, rfl⟩
      rw [hxn] at hb1 hb2 hst hpt hlx hspk hov
      rw [hxn]
      simp only at hb1 hb2 hst hpt hlx hspk hov
      have hP := mul_bd (a := x - low) (b := n) (by omega) hb2.1 (show x - low ≤ 18446744073709551615 by omega) (show n ≤ 18446744073709551615 by omega) (by omega)
      repeat (first | (apply gJO; first | (apply kS; refine aK ?_) | (apply kX; refine JO_box rfl rfl rfl ?_; intro _) | (apply kA; refine JO_alloc (tb := tb) rfl rfl ?_; intro _) | (apply kBs; refine JO_buildSlice (tb := tb) rfl rfl rfl rfl rfl rfl rfl rfl rfl ?_; intro _) | (apply kM; refine JO_make (tb := tb) rfl rfl rfl rfl rfl rfl (by omega) rfl ?_; intro _) | refine aO ?_) | (apply gJR; first | apply JR_un | apply JR_nil | refine JR_yes rfl rfl ?_ | refine JR_no rfl rfl rfl rfl ?_ | refine JR_noU rfl rfl rfl ?_) | (apply gJS; first | apply JS_seq | apply JS_region | apply JS_skip | apply JS_block | apply JS_inBlock | apply JS_label | refine JS_exit rfl ?_ | refine JS_condT rfl ?_ | refine JS_condF rfl ?_ | refine JS_draw [0] (by kernel_rfl) (by kernel_rfl) (by decide +kernel) ?_ | refine JS_draw [] (by kernel_rfl) (by kernel_rfl) (by decide +kernel) ?_ | refine JS_cond_T rfl (by omega) ?_ | refine JS_cond_F rfl (by omega) ?_) | (apply gQR; first | apply QR_un | apply QR_nil | refine QR_yes rfl rfl ?_ | refine QR_no rfl rfl rfl rfl ?_ | refine QR_noU rfl rfl rfl ?_) | (apply gQO; first | refine aQ ?_ | refine aQK rfl ?_))
      rw [show (x % 18446744073709551616 - low % 18446744073709551616) % 18446744073709551616 = x - low from by omega]
      refine QO_call Try.call36 rfl rfl fun w hw => (Mul_c (x - low) n (by omega) hb2 w hw).mono ?_
      rintro e w' ⟨rfl, hw'⟩
      refine ⟨_, rfl, _, hw', .inl fun _ h => h, ?_⟩
      clear hw' hw w w'
      generalize (x - low) * n = Q at *
      repeat (first | (apply gJO; first | (apply kS; refine aK ?_) | (apply kX; refine JO_box rfl rfl rfl ?_; intro _) | (apply kA; refine JO_alloc (tb := tb) rfl rfl ?_; intro _) | (apply kBs; refine JO_buildSlice (tb := tb) rfl rfl rfl rfl rfl rfl rfl rfl rfl ?_; intro _) | (apply kM; refine JO_make (tb := tb) rfl rfl rfl rfl rfl rfl (by omega) rfl ?_; intro _) | refine aO ?_) | (apply gJR; first | apply JR_un | apply JR_nil | refine JR_yes rfl rfl ?_ | refine JR_no rfl rfl rfl rfl ?_ | refine JR_noU rfl rfl rfl ?_) | (apply gJS; first | apply JS_seq | apply JS_region | apply JS_skip | apply JS_block | apply JS_inBlock | apply JS_label | refine JS_exit rfl ?_ | refine JS_condT rfl ?_ | refine JS_condF rfl ?_ | refine JS_draw [0] (by kernel_rfl) (by kernel_rfl) (by decide +kernel) ?_ | refine JS_draw [] (by kernel_rfl) (by kernel_rfl) (by decide +kernel) ?_ | refine JS_cond_T rfl (by omega) ?_ | refine JS_cond_F rfl (by omega) ?_) | (apply gQR; first | apply QR_un | apply QR_nil | refine QR_yes rfl rfl ?_ | refine QR_no rfl rfl rfl rfl ?_ | refine QR_noU rfl rfl rfl ?_) | (apply gQO; first | refine aQ ?_ | refine aQK rfl ?_))
      refine QO_call Try.call37 rfl rfl fun w hw => (Add_c h l (Q / 18446744073709551616) (Q % 18446744073709551616) hh hl (by omega) (by omega) w hw).mono ?_
      rintro e w' ⟨h', l', r, rfl, hw', h1⟩
      refine ⟨_, rfl, _, hw', .inl fun _ h => h, ?_⟩
      clear hw' hw w w'
      obtain ⟨rfl, hh', hl'⟩ : r = 0 ∧ h' = h + Q / 18446744073709551616 + (l + Q % 18446744073709551616) / 18446744073709551616 ∧ l' = (l + Q % 18446744073709551616) % 18446744073709551616 := by
        rcases h1 with ⟨_, h2, h3, h4⟩ | ⟨h2, _⟩
        · exact ⟨h2, h3, h4⟩
        · omega
      clear h1
      have bh : 0 ≤ h' ∧ h' < 18446744073709551616 := by omega
      have bl : 0 ≤ l' ∧ l' < 18446744073709551616 := by omega
      have hv' : h' * 18446744073709551616 + l' = sp low (T.take (k + 1)) := by omega
      clear hh' hl' hspk hpt hP
      repeat (first | (apply gJO; first | (apply kS; refine aK ?_) | (apply kX; refine JO_box rfl rfl rfl ?_; intro _) | (apply kA; refine JO_alloc (tb := tb) rfl rfl ?_; intro _) | (apply kBs; refine JO_buildSlice (tb := tb) rfl rfl rfl rfl rfl rfl rfl rfl rfl ?_; intro _) | (apply kM; refine JO_make (tb := tb) rfl rfl rfl rfl rfl rfl (by omega) rfl ?_; intro _) | refine aO ?_) | (apply gJR; first | apply JR_un | apply JR_nil | refine JR_yes rfl rfl ?_ | refine JR_no rfl rfl rfl rfl ?_ | refine JR_noU rfl rfl rfl ?_) | (apply gJS; first | apply JS_seq | apply JS_region | apply JS_skip | apply JS_block | apply JS_inBlock | apply JS_label | refine JS_exit rfl ?_ | refine JS_condT rfl ?_ | refine JS_condF rfl ?_ | refine JS_draw [0] (by kernel_rfl) (by kernel_rfl) (by decide +kernel) ?_ | refine JS_draw [] (by kernel_rfl) (by kernel_rfl) (by decide +kernel) ?_ | refine JS_cond_T rfl (by omega) ?_ | refine JS_cond_F rfl (by omega) ?_) | (apply gQR; first | apply QR_un | apply QR_nil | refine QR_yes rfl rfl ?_ | refine QR_no rfl rfl rfl rfl ?_ | refine QR_noU rfl rfl rfl ?_) | (apply gQO; first | refine aQ ?_ | refine aQK rfl ?_))
      exact JS_again3 again (k + 1) h' l' ⟨by omega, by omega, bh, bl, hv'⟩ (by omega) (by repeat (first | exact trivial | refine ⟨rfl, ?_⟩ | refine ⟨lookI rfl (by omega), ?_⟩)) (fun w hw => St.sub (by repeat (first | exact List.Sublist.refl _ | apply List.Sublist.cons_cons | apply List.Sublist.cons)) hw)
end Go.Proofs.Ytjgjppgocheklaa
