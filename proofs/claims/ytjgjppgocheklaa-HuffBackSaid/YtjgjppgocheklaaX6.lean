import Derived.Test.YtjgjppgocheklaaX3
namespace Go.Proofs.Ytjgjppgocheklaa
open Sx Go
set_option linter.unusedVariables false
set_option linter.unusedSimpArgs false
theorem mask1_u8 {a : Int} (ha : 0 ≤ a ∧ a < 256) : IntKind.u8.wrap ((BitVec.ofInt IntKind.u8.bits a &&& BitVec.ofInt IntKind.u8.bits 1).toNat) = a % 2 := by
  obtain ⟨n, rfl⟩ := Int.eq_ofNat_of_zero_le ha.1
  have : ∀ k : Fin 256, IntKind.u8.wrap ((BitVec.ofInt IntKind.u8.bits (k.val : Int) &&& BitVec.ofInt IntKind.u8.bits 1).toNat) = (k.val : Int) % 2 := by decide +kernel
  exact this ⟨n, by omega⟩
theorem or0_u32 {x : Int} (hx : x = 0 ∨ x = 1) : IntKind.u32.wrap ((BitVec.ofInt IntKind.u32.bits 0 ||| BitVec.ofInt IntKind.u32.bits x).toNat) = x := by
  rcases hx with rfl | rfl <;> decide +kernel
theorem Left_c {w0 : World} {H : List Asn} (b : Nat) (q : Option Addr) (d m : Nat) (n : Int) (hb : blk b [.slice q m d, .int .i64 n] ∈ H) (hm1 : m ≤ 140737488355328) (hn : 0 ≤ n ∧ n ≤ 8 * m) (w : World) (hw : St w0 H w) :
    Calls Try.prog 74 #[.pointer (some ⟨b, 0, none⟩)] w fun e w' => e = .returned (.int .i64 (8 * m - n)) ∧ St w0 H w' := by
  refine enter (vs := [.pointer (some ⟨b, 0, none⟩)]) Try.func74 rfl rfl rfl hw ?_
  repeat (first | (apply gQO; refine QO_v rfl (V_load (tb := tb) rfl hb rfl rfl rfl rfl) ?_) | (first | (apply gJO; first | (apply kS; refine aK ?_) | (apply kX; refine JO_box rfl rfl rfl ?_; intro _) | (apply kA; refine JO_alloc (tb := tb) rfl rfl ?_; intro _) | (apply kBs; refine JO_buildSlice (tb := tb) rfl rfl rfl rfl rfl rfl rfl rfl rfl ?_; intro _) | (apply kM; refine JO_make (tb := tb) rfl rfl rfl rfl rfl rfl (by omega) rfl ?_; intro _) | refine aO ?_) | (apply gJR; first | apply JR_un | apply JR_nil | refine JR_yes rfl rfl ?_ | refine JR_no rfl rfl rfl rfl ?_ | refine JR_noU rfl rfl rfl ?_) | (apply gJS; first | apply JS_seq | apply JS_region | apply JS_skip | apply JS_block | apply JS_inBlock | apply JS_label | refine JS_exit rfl ?_ | refine JS_condT rfl ?_ | refine JS_condF rfl ?_ | refine JS_draw [0] (by kernel_rfl) (by kernel_rfl) (by decide +kernel) ?_ | refine JS_draw [] (by kernel_rfl) (by kernel_rfl) (by decide +kernel) ?_) | (apply gQR; first | apply QR_un | apply QR_nil | refine QR_yes rfl rfl ?_ | refine QR_no rfl rfl rfl rfl ?_ | refine QR_noU rfl rfl rfl ?_) | (apply gQO; first | refine aQ ?_ | refine aQK rfl ?_)))
  refine JS_ret Try.func74 rfl rfl ?_
  intro w hw
  exact ⟨rfl, hw⟩
set_option maxHeartbeats 2000000 in
/-- one bit -/
theorem Bit1_c {w0 : World} {H : List Asn} (b : Nat) (q : Option Addr) (d m : Nat) (B : List Int) (hr : Rd w0 H (.slice q m d) m (ints .u8 B)) (hm : B.length = m) (hB : OKB B) (hm1 : m ≤ 140737488355328) (n : Nat) (hn : n ≤ 8 * m) (w : World) (hw : St w0 (blk b [.slice q m d, .int .i64 n] :: H) w) :
    Calls Try.prog 68 #[.pointer (some ⟨b, 0, none⟩), .int .i64 1] w fun e w' => ∃ x r, e = .returned (.tuple #[.int .u32 x, .int .i64 r]) ∧
      ((n = 8 * m ∧ x = 0 ∧ r = 20 ∧ St w0 (blk b [.slice q m d, .int .i64 n] :: H) w') ∨ (n < 8 * m ∧ r = 0 ∧ x = B.getD (n / 8) 0 / 2 ^ (n % 8) % 2 ∧ St w0 (blk b [.slice q m d, .int .i64 (n + 1 : Nat)] :: H) w')) := by
  have hr' : Rd w0 (blk b [.slice q m d, .int .i64 n] :: H) (.slice q m d) m (ints .u8 B) := Rd_weak hr fun w hw => St.sub (by repeat (first | exact List.Sublist.refl _ | apply List.Sublist.cons_cons | apply List.Sublist.cons)) hw
  refine enter (vs := [.pointer (some ⟨b, 0, none⟩), .int .i64 1]) Try.func68 rfl rfl rfl hw ?_
  repeat (first | (apply gJO; first | (apply kS; refine aK ?_) | (apply kX; refine JO_box rfl rfl rfl ?_; intro _) | (apply kA; refine JO_alloc (tb := tb) rfl rfl ?_; intro _) | (apply kBs; refine JO_buildSlice (tb := tb) rfl rfl rfl rfl rfl rfl rfl rfl rfl ?_; intro _) | (apply kM; refine JO_make (tb := tb) rfl rfl rfl rfl rfl rfl (by omega) rfl ?_; intro _) | refine aO ?_) | (apply gJR; first | apply JR_un | apply JR_nil | refine JR_yes rfl rfl ?_ | refine JR_no rfl rfl rfl rfl ?_ | refine JR_noU rfl rfl rfl ?_) | (apply gJS; first | apply JS_seq | apply JS_region | apply JS_skip | apply JS_block | apply JS_inBlock | apply JS_label | refine JS_exit rfl ?_ | refine JS_condT rfl ?_ | refine JS_condF rfl ?_ | refine JS_draw [0] (by kernel_rfl) (by kernel_rfl) (by decide +kernel) ?_ | refine JS_draw [] (by kernel_rfl) (by kernel_rfl) (by decide +kernel) ?_ | refine JS_cond_T rfl (by omega) ?_ | refine JS_cond_F rfl (by omega) ?_) | (apply gQR; first | apply QR_un | apply QR_nil | refine QR_yes rfl rfl ?_ | refine QR_no rfl rfl rfl rfl ?_ | refine QR_noU rfl rfl rfl ?_) | (apply gQO; first | refine aQ ?_ | refine aQK rfl ?_))
  refine JO_call Try.call74 rfl rfl fun w hw => (Left_c b q d m n (List.Mem.head _) hm1 (by omega) w hw).mono ?_
  rintro e w' ⟨rfl, hw'⟩
  refine ⟨_, rfl, _, hw', ?_⟩
  clear hw' hw w w'
  by_cases hend : n = 8 * m
  · repeat (first | (apply gJO; first | (apply kS; refine aK ?_) | (apply kX; refine JO_box rfl rfl rfl ?_; intro _) | (apply kA; refine JO_alloc (tb := tb) rfl rfl ?_; intro _) | (apply kBs; refine JO_buildSlice (tb := tb) rfl rfl rfl rfl rfl rfl rfl rfl rfl ?_; intro _) | (apply kM; refine JO_make (tb := tb) rfl rfl rfl rfl rfl rfl (by omega) rfl ?_; intro _) | refine aO ?_) | (apply gJR; first | apply JR_un | apply JR_nil | refine JR_yes rfl rfl ?_ | refine JR_no rfl rfl rfl rfl ?_ | refine JR_noU rfl rfl rfl ?_) | (apply gJS; first | apply JS_seq | apply JS_region | apply JS_skip | apply JS_block | apply JS_inBlock | apply JS_label | refine JS_exit rfl ?_ | refine JS_condT rfl ?_ | refine JS_condF rfl ?_ | refine JS_draw [0] (by kernel_rfl) (by kernel_rfl) (by decide +kernel) ?_ | refine JS_draw [] (by kernel_rfl) (by kernel_rfl) (by decide +kernel) ?_ | refine JS_cond_T rfl (by omega) ?_ | refine JS_cond_F rfl (by omega) ?_) | (apply gQR; first | apply QR_un | apply QR_nil | refine QR_yes rfl rfl ?_ | refine QR_no rfl rfl rfl rfl ?_ | refine QR_noU rfl rfl rfl ?_) | (apply gQO; first | refine aQ ?_ | refine aQK rfl ?_))
    refine JS_ret Try.func68 rfl rfl ?_
    intro w hw
    exact ⟨_, _, rfl, .inl ⟨hend, rfl, rfl, hw⟩⟩
  · have hb := hB (n / 8)
    have gi : (ints .u8 B)[n / 8]? = some (.int .u8 (B.getD (n / 8) 0)) := ints_get (by omega)
    have hs : min ((n : Int) % 8).toNat IntKind.u8.bits = n % 8 := by show min _ 8 = _; omega
    obtain ⟨y, hy⟩ : ∃ y, B.getD (n / 8) 0 / 2 ^ (n % 8) = y := ⟨_, rfl⟩
    have hpos : (0 : Int) < 2 ^ (n % 8) := Int.pow_pos (by decide)
    have hy0 : 0 ≤ y := by rw [← hy]; exact Int.ediv_nonneg hb.1 (Int.le_of_lt hpos)
    have hy1 : y < 256 := by
      rw [← hy]
      exact Int.lt_of_le_of_lt (Int.ediv_le_self _ hb.1) hb.2
    have hz : y % 2 = 0 ∨ y % 2 = 1 := by omega
    rw [hy]
    repeat (first | (apply gQO; refine QO_v rfl (V_loadC (tb := tb) rfl hr' rfl rfl gi rfl) ?_) | (apply gQO; refine QO_v rfl (V_shr (m := n % 8) rfl rfl (by omega) hs hy rfl) ?_) | (apply gQO; refine QO_v rfl (V_and rfl rfl (mask1_u8 ⟨hy0, hy1⟩) rfl) ?_) | (apply gQO; refine QO_v rfl (V_shl (m := 0) (c := y % 2) rfl rfl (by omega) rfl (by rw [show y % 2 * 2 ^ 0 = y % 2 from by omega]; exact wu32 (by omega)) rfl) ?_) | (apply gQO; refine QO_v rfl (V_or rfl rfl (or0_u32 hz) rfl) ?_) | refine JS_loop' ?_ | refine JS_inLoop ?_ | (first | (apply gJO; first | (apply kS; refine aK ?_) | (apply kX; refine JO_box rfl rfl rfl ?_; intro _) | (apply kA; refine JO_alloc (tb := tb) rfl rfl ?_; intro _) | (apply kBs; refine JO_buildSlice (tb := tb) rfl rfl rfl rfl rfl rfl rfl rfl rfl ?_; intro _) | (apply kM; refine JO_make (tb := tb) rfl rfl rfl rfl rfl rfl (by omega) rfl ?_; intro _) | refine aO ?_) | (apply gJR; first | apply JR_un | apply JR_nil | refine JR_yes rfl rfl ?_ | refine JR_no rfl rfl rfl rfl ?_ | refine JR_noU rfl rfl rfl ?_) | (apply gJS; first | apply JS_seq | apply JS_region | apply JS_skip | apply JS_block | apply JS_inBlock | apply JS_label | refine JS_exit rfl ?_ | refine JS_condT rfl ?_ | refine JS_condF rfl ?_ | refine JS_draw [0] (by kernel_rfl) (by kernel_rfl) (by decide +kernel) ?_ | refine JS_draw [] (by kernel_rfl) (by kernel_rfl) (by decide +kernel) ?_ | refine JS_cond_T rfl (by omega) ?_ | refine JS_cond_F rfl (by omega) ?_) | (apply gQR; first | apply QR_un | apply QR_nil | refine QR_yes rfl rfl ?_ | refine QR_no rfl rfl rfl rfl ?_ | refine QR_noU rfl rfl rfl ?_) | (apply gQO; first | refine aQ ?_ | refine aQK rfl ?_)))
    refine JS_ret Try.func68 rfl rfl ?_
    intro w hw
    exact ⟨_, _, rfl, .inr ⟨by omega, rfl, rfl, hw⟩⟩
theorem Bit_c {w0 : World} {H : List Asn} (b : Nat) (q : Option Addr) (d m : Nat) (B : List Int) (hr : Rd w0 H (.slice q m d) m (ints .u8 B)) (hm : B.length = m) (hB : OKB B) (hm1 : m ≤ 140737488355328) (n : Nat) (hn : n ≤ 8 * m) (w : World) (hw : St w0 (blk b [.slice q m d, .int .i64 n] :: H) w) :
    Calls Try.prog 56 #[.pointer (some ⟨b, 0, none⟩)] w fun e w' => ∃ x r, e = .returned (.tuple #[.int .u32 x, .int .i64 r]) ∧
      ((n = 8 * m ∧ x = 0 ∧ r = 20 ∧ St w0 (blk b [.slice q m d, .int .i64 n] :: H) w') ∨ (n < 8 * m ∧ r = 0 ∧ x = B.getD (n / 8) 0 / 2 ^ (n % 8) % 2 ∧ St w0 (blk b [.slice q m d, .int .i64 (n + 1 : Nat)] :: H) w')) := by
  refine enter (vs := [.pointer (some ⟨b, 0, none⟩)]) Try.func56 rfl rfl rfl hw ?_
  repeat (first | (apply gJO; first | (apply kS; refine aK ?_) | (apply kX; refine JO_box rfl rfl rfl ?_; intro _) | (apply kA; refine JO_alloc (tb := tb) rfl rfl ?_; intro _) | (apply kBs; refine JO_buildSlice (tb := tb) rfl rfl rfl rfl rfl rfl rfl rfl rfl ?_; intro _) | (apply kM; refine JO_make (tb := tb) rfl rfl rfl rfl rfl rfl (by omega) rfl ?_; intro _) | refine aO ?_) | (apply gJR; first | apply JR_un | apply JR_nil | refine JR_yes rfl rfl ?_ | refine JR_no rfl rfl rfl rfl ?_ | refine JR_noU rfl rfl rfl ?_) | (apply gJS; first | apply JS_seq | apply JS_region | apply JS_skip | apply JS_block | apply JS_inBlock | apply JS_label | refine JS_exit rfl ?_ | refine JS_condT rfl ?_ | refine JS_condF rfl ?_ | refine JS_draw [0] (by kernel_rfl) (by kernel_rfl) (by decide +kernel) ?_ | refine JS_draw [] (by kernel_rfl) (by kernel_rfl) (by decide +kernel) ?_ | refine JS_cond_T rfl (by omega) ?_ | refine JS_cond_F rfl (by omega) ?_) | (apply gQR; first | apply QR_un | apply QR_nil | refine QR_yes rfl rfl ?_ | refine QR_no rfl rfl rfl rfl ?_ | refine QR_noU rfl rfl rfl ?_) | (apply gQO; first | refine aQ ?_ | refine aQK rfl ?_))
  refine JO_call Try.call68 rfl rfl fun w hw => (Bit1_c b q d m B hr hm hB hm1 n hn w hw).mono ?_
  rintro e w' ⟨x, r, rfl, h⟩
  rcases h with ⟨h1, rfl, rfl, hw'⟩ | ⟨h1, rfl, hx, hw'⟩
  · refine ⟨_, rfl, _, hw', ?_⟩
    repeat (first | (apply gJO; first | (apply kS; refine aK ?_) | (apply kX; refine JO_box rfl rfl rfl ?_; intro _) | (apply kA; refine JO_alloc (tb := tb) rfl rfl ?_; intro _) | (apply kBs; refine JO_buildSlice (tb := tb) rfl rfl rfl rfl rfl rfl rfl rfl rfl ?_; intro _) | (apply kM; refine JO_make (tb := tb) rfl rfl rfl rfl rfl rfl (by omega) rfl ?_; intro _) | refine aO ?_) | (apply gJR; first | apply JR_un | apply JR_nil | refine JR_yes rfl rfl ?_ | refine JR_no rfl rfl rfl rfl ?_ | refine JR_noU rfl rfl rfl ?_) | (apply gJS; first | apply JS_seq | apply JS_region | apply JS_skip | apply JS_block | apply JS_inBlock | apply JS_label | refine JS_exit rfl ?_ | refine JS_condT rfl ?_ | refine JS_condF rfl ?_ | refine JS_draw [0] (by kernel_rfl) (by kernel_rfl) (by decide +kernel) ?_ | refine JS_draw [] (by kernel_rfl) (by kernel_rfl) (by decide +kernel) ?_ | refine JS_cond_T rfl (by omega) ?_ | refine JS_cond_F rfl (by omega) ?_) | (apply gQR; first | apply QR_un | apply QR_nil | refine QR_yes rfl rfl ?_ | refine QR_no rfl rfl rfl rfl ?_ | refine QR_noU rfl rfl rfl ?_) | (apply gQO; first | refine aQ ?_ | refine aQK rfl ?_))
    refine JS_ret Try.func56 rfl rfl ?_
    intro w hw
    exact ⟨_, _, rfl, .inl ⟨h1, rfl, rfl, hw⟩⟩
  · refine ⟨_, rfl, _, hw', ?_⟩
    repeat (first | (apply gJO; first | (apply kS; refine aK ?_) | (apply kX; refine JO_box rfl rfl rfl ?_; intro _) | (apply kA; refine JO_alloc (tb := tb) rfl rfl ?_; intro _) | (apply kBs; refine JO_buildSlice (tb := tb) rfl rfl rfl rfl rfl rfl rfl rfl rfl ?_; intro _) | (apply kM; refine JO_make (tb := tb) rfl rfl rfl rfl rfl rfl (by omega) rfl ?_; intro _) | refine aO ?_) | (apply gJR; first | apply JR_un | apply JR_nil | refine JR_yes rfl rfl ?_ | refine JR_no rfl rfl rfl rfl ?_ | refine JR_noU rfl rfl rfl ?_) | (apply gJS; first | apply JS_seq | apply JS_region | apply JS_skip | apply JS_block | apply JS_inBlock | apply JS_label | refine JS_exit rfl ?_ | refine JS_condT rfl ?_ | refine JS_condF rfl ?_ | refine JS_draw [0] (by kernel_rfl) (by kernel_rfl) (by decide +kernel) ?_ | refine JS_draw [] (by kernel_rfl) (by kernel_rfl) (by decide +kernel) ?_ | refine JS_cond_T rfl (by omega) ?_ | refine JS_cond_F rfl (by omega) ?_) | (apply gQR; first | apply QR_un | apply QR_nil | refine QR_yes rfl rfl ?_ | refine QR_no rfl rfl rfl rfl ?_ | refine QR_noU rfl rfl rfl ?_) | (apply gQO; first | refine aQ ?_ | refine aQK rfl ?_))
    refine JS_ret Try.func56 rfl rfl ?_
    intro w hw
    exact ⟨_, _, rfl, .inr ⟨h1, rfl, hx, hw⟩⟩
end Go.Proofs.Ytjgjppgocheklaa
