import Derived.Carry
import Derived.Maps.Keyed
import Derived.WideKeyEntry
import Derived.DeepKeys4
import Derived.Test.YtakgoflfcgofdaaG2
namespace Go.Proofs.Ytakgoflfcgofdaa
open Sx Go
set_option linter.unusedVariables false
set_option linter.unusedSimpArgs false
attribute [local irreducible] syA fc tk cds
theorem or_add_u32 {a y : Int} {s : Nat} (hs : s < 32) (ha : 0 ≤ a ∧ a < 2 ^ s) (hy : y = 0 ∨ y = 1) : IntKind.u32.wrap ((BitVec.ofInt IntKind.u32.bits a ||| BitVec.ofInt IntKind.u32.bits (y * 2 ^ s)).toNat) = a + y * 2 ^ s := by
  have hp : (2 : Int) ^ s ≤ 2147483648 := by
    have : ∀ k : Fin 32, (2 : Int) ^ k.val ≤ 2147483648 := by decide
    exact this ⟨s, hs⟩
  have hyb : 0 ≤ y * 2 ^ s ∧ y * 2 ^ s ≤ 2147483648 := by rcases hy with rfl | rfl <;> omega
  rw [or_nat .u32 ⟨ha.1, by show a < 4294967296; omega⟩ ⟨hyb.1, by show y * 2 ^ s < 4294967296; omega⟩]
  obtain ⟨m, rfl⟩ := Int.eq_ofNat_of_zero_le ha.1
  have hpn : ((2 ^ s : Nat) : Int) = 2 ^ s := by simp
  rcases hy with rfl | rfl
  · simp only [Int.zero_mul, Int.toNat_natCast, Int.toNat_zero, Nat.or_zero, Int.add_zero]
    exact wu32 (by omega)
  · have h := Nat.two_pow_add_eq_or_of_lt (i := s) (b := m) (by have := ha.2; rw [← hpn] at this; omega) 1
    rw [Nat.mul_one] at h
    rw [Int.one_mul, Int.toNat_natCast, show ((2 : Int) ^ s).toNat = 2 ^ s by rw [← hpn]; rfl, Nat.or_comm, ← h]
    refine (wu32 (by omega)).trans (by omega)
theorem pw32 (i : Nat) (h : i < 32) : (1 : Int) ≤ 2 ^ i ∧ (2 : Int) ^ i ≤ 2147483648 := by
  have : ∀ k : Fin 32, (1 : Int) ≤ 2 ^ k.val ∧ (2 : Int) ^ k.val ≤ 2147483648 := by decide
  exact this ⟨i, h⟩
set_option maxHeartbeats 4000000 in
/-- so many bits are read -/
theorem RGrp_c {w0 : World} {H : List Asn} (b : Nat) (q : Option Addr) (d m : Nat) (B : List Int) (hr : Rd w0 H (.slice q m d) m (ints .u8 B)) (hm : B.length = m) (hB : OKB B) (hm1 : m ≤ 140737488355328) (a c : Nat) (hc : c ≤ 32) (ha : a ≤ 8 * m) (w : World) (hw : St w0 (blk b [.slice q m d, .int .i64 a] :: H) w) :
    Calls Try.prog 82 #[.pointer (some ⟨b, 0, none⟩), .int .i64 c] w fun e w' =>
      (8 * m < a + c ∧ e = .returned (.tuple #[.int .u32 0, .int .i64 20]) ∧ St w0 (blk b [.slice q m d, .int .i64 a] :: H) w') ∨
      (a + c ≤ 8 * m ∧ e = .returned (.tuple #[.int .u32 (nbt (bitB B 0) a c), .int .i64 0]) ∧ St w0 (blk b [.slice q m d, .int .i64 (a + c : Nat)] :: H) w') := by
  refine enter (vs := [.pointer (some ⟨b, 0, none⟩), .int .i64 c]) Try.func82 rfl rfl rfl hw ?_
  repeat (first | (apply gJO; first | (apply kS; refine aK ?_) | (apply kX; refine JO_box rfl rfl rfl ?_; intro _) | (apply kA; refine JO_alloc (tb := tb) rfl rfl ?_; intro _) | (apply kBs; refine JO_buildSlice (tb := tb) rfl rfl rfl rfl rfl rfl rfl rfl rfl ?_; intro _) | (apply kM; refine JO_make (tb := tb) rfl rfl rfl rfl rfl rfl (by omega) rfl ?_; intro _) | refine aO ?_) | (apply gJR; first | apply JR_un | apply JR_nil | refine JR_yes rfl rfl ?_ | refine JR_no rfl rfl rfl rfl ?_ | refine JR_noU rfl rfl rfl ?_) | (apply gJS; first | apply JS_seq | apply JS_region | apply JS_skip | apply JS_block | apply JS_inBlock | apply JS_label | refine JS_exit rfl ?_ | refine JS_condT rfl ?_ | refine JS_condF rfl ?_ | refine JS_draw [0] (by kernel_rfl) (by kernel_rfl) (by decide +kernel) ?_ | refine JS_draw [] (by kernel_rfl) (by kernel_rfl) (by decide +kernel) ?_ | refine JS_cond_T rfl (by omega) ?_ | refine JS_cond_F rfl (by omega) ?_) | (apply gQR; first | apply QR_un | apply QR_nil | refine QR_yes rfl rfl ?_ | refine QR_no rfl rfl rfl rfl ?_ | refine QR_noU rfl rfl rfl ?_) | (apply gQO; first | refine aQ ?_ | refine aQK rfl ?_))
  refine JO_call Try.call94 rfl rfl fun w hw => (Left_c b q d m a (List.Mem.head _) hm1 (by omega) w hw).mono ?_
  rintro e w' ⟨rfl, hw'⟩
  refine ⟨_, rfl, _, hw', ?_⟩
  clear hw' hw w w'
  by_cases hend : 8 * m < a + c
  · repeat (first | (apply gJO; first | (apply kS; refine aK ?_) | (apply kX; refine JO_box rfl rfl rfl ?_; intro _) | (apply kA; refine JO_alloc (tb := tb) rfl rfl ?_; intro _) | (apply kBs; refine JO_buildSlice (tb := tb) rfl rfl rfl rfl rfl rfl rfl rfl rfl ?_; intro _) | (apply kM; refine JO_make (tb := tb) rfl rfl rfl rfl rfl rfl (by omega) rfl ?_; intro _) | refine aO ?_) | (apply gJR; first | apply JR_un | apply JR_nil | refine JR_yes rfl rfl ?_ | refine JR_no rfl rfl rfl rfl ?_ | refine JR_noU rfl rfl rfl ?_) | (apply gJS; first | apply JS_seq | apply JS_region | apply JS_skip | apply JS_block | apply JS_inBlock | apply JS_label | refine JS_exit rfl ?_ | refine JS_condT rfl ?_ | refine JS_condF rfl ?_ | refine JS_draw [0] (by kernel_rfl) (by kernel_rfl) (by decide +kernel) ?_ | refine JS_draw [] (by kernel_rfl) (by kernel_rfl) (by decide +kernel) ?_ | refine JS_cond_T rfl (by omega) ?_ | refine JS_cond_F rfl (by omega) ?_) | (apply gQR; first | apply QR_un | apply QR_nil | refine QR_yes rfl rfl ?_ | refine QR_no rfl rfl rfl rfl ?_ | refine QR_noU rfl rfl rfl ?_) | (apply gQO; first | refine aQ ?_ | refine aQK rfl ?_))
    refine JS_ret Try.func82 rfl rfl ?_
    intro w hw
    exact .inl ⟨hend, rfl, hw⟩
  repeat (first | (apply gJR; first | (apply gJO; first | (apply kS; refine aK ?_) | (apply kX; refine JO_box rfl rfl rfl ?_; intro _) | (apply kA; refine JO_alloc (tb := tb) rfl rfl ?_; intro _) | (apply kBs; refine JO_buildSlice (tb := tb) rfl rfl rfl rfl rfl rfl rfl rfl rfl ?_; intro _) | (apply kM; refine JO_make (tb := tb) rfl rfl rfl rfl rfl rfl (by omega) rfl ?_; intro _) | refine aO ?_) | (apply gJR; first | apply JR_un | apply JR_nil | refine JR_yes rfl rfl ?_ | refine JR_no rfl rfl rfl rfl ?_ | refine JR_noU rfl rfl rfl ?_) | (apply gJS; first | apply JS_seq | apply JS_region | apply JS_skip | apply JS_block | apply JS_inBlock | apply JS_label | refine JS_exit rfl ?_ | refine JS_condT rfl ?_ | refine JS_condF rfl ?_ | refine JS_draw [0] (by kernel_rfl) (by kernel_rfl) (by decide +kernel) ?_ | refine JS_draw [] (by kernel_rfl) (by kernel_rfl) (by decide +kernel) ?_ | refine JS_cond_T rfl (by omega) ?_ | refine JS_cond_F rfl (by omega) ?_) | (apply gQR; first | apply QR_un | apply QR_nil | refine QR_yes rfl rfl ?_ | refine QR_no rfl rfl rfl rfl ?_ | refine QR_noU rfl rfl rfl ?_) | (apply gQO; first | refine aQ ?_ | refine aQK rfl ?_)) | (apply gJO; first | (apply gJO; first | (apply kS; refine aK ?_) | (apply kX; refine JO_box rfl rfl rfl ?_; intro _) | (apply kA; refine JO_alloc (tb := tb) rfl rfl ?_; intro _) | (apply kBs; refine JO_buildSlice (tb := tb) rfl rfl rfl rfl rfl rfl rfl rfl rfl ?_; intro _) | (apply kM; refine JO_make (tb := tb) rfl rfl rfl rfl rfl rfl (by omega) rfl ?_; intro _) | refine aO ?_) | (apply gJR; first | apply JR_un | apply JR_nil | refine JR_yes rfl rfl ?_ | refine JR_no rfl rfl rfl rfl ?_ | refine JR_noU rfl rfl rfl ?_) | (apply gJS; first | apply JS_seq | apply JS_region | apply JS_skip | apply JS_block | apply JS_inBlock | apply JS_label | refine JS_exit rfl ?_ | refine JS_condT rfl ?_ | refine JS_condF rfl ?_ | refine JS_draw [0] (by kernel_rfl) (by kernel_rfl) (by decide +kernel) ?_ | refine JS_draw [] (by kernel_rfl) (by kernel_rfl) (by decide +kernel) ?_ | refine JS_cond_T rfl (by omega) ?_ | refine JS_cond_F rfl (by omega) ?_) | (apply gQR; first | apply QR_un | apply QR_nil | refine QR_yes rfl rfl ?_ | refine QR_no rfl rfl rfl rfl ?_ | refine QR_noU rfl rfl rfl ?_) | (apply gQO; first | refine aQ ?_ | refine aQK rfl ?_)) | apply JS_seq | apply JS_region | refine JS_condF rfl ?_ | refine JS_cond_F rfl (by omega) ?_ | apply JS_skip)
  refine JS_block ?_
  refine JS_loop1 (fun (i : Nat) => [(0, .pointer (some ⟨b, 0, none⟩)), (6, .int .u32 (nbt (bitB B 0) a i)), (18, .int .i64 c), (19, .int .i64 i)]) (fun i => blk b [.slice q m d, .int .i64 (a + i : Nat)] :: H)
    (fun i => i ≤ c) (fun i => c - i) 0 (Nat.zero_le _) (by repeat (first | exact trivial | refine ⟨rfl, ?_⟩ | refine ⟨lookI rfl (by omega), ?_⟩)) (fun _ h => h) ?_
  intro i hi again
  by_cases hic : i < c
  · have hr' : Rd w0 (blk b [.slice q m d, .int .i64 (a + i : Nat)] :: H) (.slice q m d) m (ints .u8 B) := Rd_weak hr fun w hw => St.sub (by repeat (first | exact List.Sublist.refl _ | apply List.Sublist.cons_cons | apply List.Sublist.cons)) hw
    have hb := hB ((a + i) / 8)
    have gi : (ints .u8 B)[(a + i) / 8]? = some (.int .u8 (B.getD ((a + i) / 8) 0)) := ints_get (by omega)
    have hs : min (((a + i : Nat) : Int) % 8).toNat IntKind.u8.bits = (a + i) % 8 := by show min _ 8 = _; omega
    obtain ⟨y, hy⟩ : ∃ y, B.getD ((a + i) / 8) 0 / 2 ^ ((a + i) % 8) = y := ⟨_, rfl⟩
    have hpos : (0 : Int) < 2 ^ ((a + i) % 8) := Int.pow_pos (by decide)
    have hy0 : 0 ≤ y := by rw [← hy]; exact Int.ediv_nonneg hb.1 (Int.le_of_lt hpos)
    have hy1 : y < 256 := by
      rw [← hy]
      exact Int.lt_of_le_of_lt (Int.ediv_le_self _ hb.1) hb.2
    have hz : y % 2 = 0 ∨ y % 2 = 1 := by omega
    have hbt : bitB B 0 (a + i) = y % 2 := by unfold bitB; rw [Nat.zero_add, hy]
    obtain ⟨hn0, hn1⟩ := nbt_bd (bitB B 0) (bitB_01 B 0) a i
    obtain ⟨hp0, hp1⟩ := pw32 i (by omega)
    have hs2 : min ((i : Int)).toNat IntKind.u32.bits = i := by show min _ 32 = _; omega
    have hwr : IntKind.u32.wrap (y % 2 * 2 ^ i) = y % 2 * 2 ^ i := wu32 (by rcases hz with h | h <;> rw [h] <;> omega)
    have hor := or_add_u32 (s := i) (by omega) ⟨hn0, hn1⟩ hz
    repeat (first | (apply gQO; refine QO_v rfl (V_loadC (tb := tb) rfl hr' rfl rfl gi rfl) ?_) | (apply gQO; refine QO_v rfl (V_shr (m := (a + i) % 8) rfl rfl (by omega) hs hy rfl) ?_) | (apply gQO; refine QO_v rfl (V_and rfl rfl (mask1_u8 ⟨hy0, hy1⟩) rfl) ?_) | (apply gQO; refine QO_v rfl (V_shl (m := i) (c := y % 2 * 2 ^ i) rfl rfl (by omega) hs2 hwr rfl) ?_) | (apply gQO; refine QO_v rfl (V_or rfl rfl hor rfl) ?_) | (first | (apply gJO; first | (apply kS; refine aK ?_) | (apply kX; refine JO_box rfl rfl rfl ?_; intro _) | (apply kA; refine JO_alloc (tb := tb) rfl rfl ?_; intro _) | (apply kBs; refine JO_buildSlice (tb := tb) rfl rfl rfl rfl rfl rfl rfl rfl rfl ?_; intro _) | (apply kM; refine JO_make (tb := tb) rfl rfl rfl rfl rfl rfl (by omega) rfl ?_; intro _) | refine aO ?_) | (apply gJR; first | apply JR_un | apply JR_nil | refine JR_yes rfl rfl ?_ | refine JR_no rfl rfl rfl rfl ?_ | refine JR_noU rfl rfl rfl ?_) | (apply gJS; first | apply JS_seq | apply JS_region | apply JS_skip | apply JS_block | apply JS_inBlock | apply JS_label | refine JS_exit rfl ?_ | refine JS_condT rfl ?_ | refine JS_condF rfl ?_ | refine JS_draw [0] (by kernel_rfl) (by kernel_rfl) (by decide +kernel) ?_ | refine JS_draw [] (by kernel_rfl) (by kernel_rfl) (by decide +kernel) ?_ | refine JS_cond_T rfl (by omega) ?_ | refine JS_cond_F rfl (by omega) ?_) | (apply gQR; first | apply QR_un | apply QR_nil | refine QR_yes rfl rfl ?_ | refine QR_no rfl rfl rfl rfl ?_ | refine QR_noU rfl rfl rfl ?_) | (apply gQO; first | refine aQ ?_ | refine aQK rfl ?_)))
    refine JS_again1 again (i + 1) (by omega) (by omega) ?_ (fun w hw => hw)
    refine ⟨rfl, ?_, rfl, rfl, trivial⟩
    simp only [nbt, hbt]; rfl
  · obtain rfl : i = c := by omega
    clear again
    repeat (first | (apply gJO; first | (apply kS; refine aK ?_) | (apply kX; refine JO_box rfl rfl rfl ?_; intro _) | (apply kA; refine JO_alloc (tb := tb) rfl rfl ?_; intro _) | (apply kBs; refine JO_buildSlice (tb := tb) rfl rfl rfl rfl rfl rfl rfl rfl rfl ?_; intro _) | (apply kM; refine JO_make (tb := tb) rfl rfl rfl rfl rfl rfl (by omega) rfl ?_; intro _) | refine aO ?_) | (apply gJR; first | apply JR_un | apply JR_nil | refine JR_yes rfl rfl ?_ | refine JR_no rfl rfl rfl rfl ?_ | refine JR_noU rfl rfl rfl ?_) | (apply gJS; first | apply JS_seq | apply JS_region | apply JS_skip | apply JS_block | apply JS_inBlock | apply JS_label | refine JS_exit rfl ?_ | refine JS_condT rfl ?_ | refine JS_condF rfl ?_ | refine JS_draw [0] (by kernel_rfl) (by kernel_rfl) (by decide +kernel) ?_ | refine JS_draw [] (by kernel_rfl) (by kernel_rfl) (by decide +kernel) ?_ | refine JS_cond_T rfl (by omega) ?_ | refine JS_cond_F rfl (by omega) ?_) | (apply gQR; first | apply QR_un | apply QR_nil | refine QR_yes rfl rfl ?_ | refine QR_no rfl rfl rfl rfl ?_ | refine QR_noU rfl rfl rfl ?_) | (apply gQO; first | refine aQ ?_ | refine aQK rfl ?_))
    refine JS_ret Try.func82 rfl rfl ?_
    intro w hw
    exact .inr ⟨by omega, rfl, hw⟩
/-- up to the next byte -/
theorem Align_c {w0 : World} {H : List Asn} (b : Nat) (u : Value) (a : Nat) (ha : a ≤ 4611686018427387904) (w : World) (hw : St w0 (blk b [u, .int .i64 a] :: H) w) :
    Calls Try.prog 75 #[.pointer (some ⟨b, 0, none⟩)] w fun e w' => e = .returned (.tuple #[]) ∧ St w0 (blk b [u, .int .i64 (upto8 a : Nat)] :: H) w' := by
  refine enter (vs := [.pointer (some ⟨b, 0, none⟩)]) Try.func75 rfl rfl rfl hw ?_
  repeat (first | (apply gJO; first | (apply kS; refine aK ?_) | (apply kX; refine JO_box rfl rfl rfl ?_; intro _) | (apply kA; refine JO_alloc (tb := tb) rfl rfl ?_; intro _) | (apply kBs; refine JO_buildSlice (tb := tb) rfl rfl rfl rfl rfl rfl rfl rfl rfl ?_; intro _) | (apply kM; refine JO_make (tb := tb) rfl rfl rfl rfl rfl rfl (by omega) rfl ?_; intro _) | refine aO ?_) | (apply gJR; first | apply JR_un | apply JR_nil | refine JR_yes rfl rfl ?_ | refine JR_no rfl rfl rfl rfl ?_ | refine JR_noU rfl rfl rfl ?_) | (apply gJS; first | apply JS_seq | apply JS_region | apply JS_skip | apply JS_block | apply JS_inBlock | apply JS_label | refine JS_exit rfl ?_ | refine JS_condT rfl ?_ | refine JS_condF rfl ?_ | refine JS_draw [0] (by kernel_rfl) (by kernel_rfl) (by decide +kernel) ?_ | refine JS_draw [] (by kernel_rfl) (by kernel_rfl) (by decide +kernel) ?_ | refine JS_cond_T rfl (by omega) ?_ | refine JS_cond_F rfl (by omega) ?_) | (apply gQR; first | apply QR_un | apply QR_nil | refine QR_yes rfl rfl ?_ | refine QR_no rfl rfl rfl rfl ?_ | refine QR_noU rfl rfl rfl ?_) | (apply gQO; first | refine aQ ?_ | refine aQK rfl ?_))
  refine JS_fin Try.func75 rfl rfl ?_
  intro w hw
  refine ⟨rfl, ?_⟩
  rwa [show ((a : Int) + 7) / 8 * 8 = (upto8 a : Nat) by unfold upto8; omega] at hw
theorem upto8_le {a m : Nat} (h : a ≤ 8 * m) : upto8 a ≤ 8 * m := by unfold upto8; omega
theorem upto8_8 (a : Nat) : upto8 a % 8 = 0 := by unfold upto8; omega
theorem upto8_up (a : Nat) : upto8 (upto8 a) = upto8 a := by unfold upto8; omega
set_option maxHeartbeats 2000000 in
/-- bytes are read -/
theorem Text_c {w0 : World} {H : List Asn} (b : Nat) (q : Option Addr) (d m : Nat) (B : List Int) (hr : Rd w0 H (.slice q m d) m (ints .u8 B)) (hm : B.length = m) (hB : OKB B) (hm1 : m ≤ 140737488355328) (a n : Nat) (hn : n ≤ 140737488355328) (ha : a ≤ 8 * m) (w : World) (hw : St w0 (blk b [.slice q m d, .int .i64 a] :: H) w) :
    Calls Try.prog 76 #[.pointer (some ⟨b, 0, none⟩), .int .i64 n] w fun e w' =>
      (8 * m < upto8 a + 8 * n ∧ e = .returned (.tuple #[.slice none 0 0, .int .i64 20]) ∧ St w0 (blk b [.slice q m d, .int .i64 (upto8 a : Nat)] :: H) w') ∨
      (upto8 a + 8 * n ≤ 8 * m ∧ ∃ p c, e = .returned (.tuple #[.slice p n c, .int .i64 0]) ∧ St w0 (vec 5 1 (.slice p n c) n (ints .u8 ((B.drop (upto8 a / 8)).take n)) :: blk b [.slice q m d, .int .i64 (upto8 a + 8 * n : Nat)] :: H) w') := by
  have hu := upto8_le ha
  have hu8 := upto8_8 a
  refine enter (vs := [.pointer (some ⟨b, 0, none⟩), .int .i64 n]) Try.func76 rfl rfl rfl hw ?_
  repeat (first | (apply gJO; first | (apply kS; refine aK ?_) | (apply kX; refine JO_box rfl rfl rfl ?_; intro _) | (apply kA; refine JO_alloc (tb := tb) rfl rfl ?_; intro _) | (apply kBs; refine JO_buildSlice (tb := tb) rfl rfl rfl rfl rfl rfl rfl rfl rfl ?_; intro _) | (apply kM; refine JO_make (tb := tb) rfl rfl rfl rfl rfl rfl (by omega) rfl ?_; intro _) | refine aO ?_) | (apply gJR; first | apply JR_un | apply JR_nil | refine JR_yes rfl rfl ?_ | refine JR_no rfl rfl rfl rfl ?_ | refine JR_noU rfl rfl rfl ?_) | (apply gJS; first | apply JS_seq | apply JS_region | apply JS_skip | apply JS_block | apply JS_inBlock | apply JS_label | refine JS_exit rfl ?_ | refine JS_condT rfl ?_ | refine JS_condF rfl ?_ | refine JS_draw [0] (by kernel_rfl) (by kernel_rfl) (by decide +kernel) ?_ | refine JS_draw [] (by kernel_rfl) (by kernel_rfl) (by decide +kernel) ?_ | refine JS_cond_T rfl (by omega) ?_ | refine JS_cond_F rfl (by omega) ?_) | (apply gQR; first | apply QR_un | apply QR_nil | refine QR_yes rfl rfl ?_ | refine QR_no rfl rfl rfl rfl ?_ | refine QR_noU rfl rfl rfl ?_) | (apply gQO; first | refine aQ ?_ | refine aQK rfl ?_))
  refine JO_call Try.call75 rfl rfl fun w hw => (Align_c b _ a (by omega) w hw).mono ?_
  rintro e w' ⟨rfl, hw'⟩
  refine ⟨_, rfl, _, hw', ?_⟩
  clear hw' hw w w'
  generalize upto8 a = u at *
  repeat (first | (apply gJO; first | (apply kS; refine aK ?_) | (apply kX; refine JO_box rfl rfl rfl ?_; intro _) | (apply kA; refine JO_alloc (tb := tb) rfl rfl ?_; intro _) | (apply kBs; refine JO_buildSlice (tb := tb) rfl rfl rfl rfl rfl rfl rfl rfl rfl ?_; intro _) | (apply kM; refine JO_make (tb := tb) rfl rfl rfl rfl rfl rfl (by omega) rfl ?_; intro _) | refine aO ?_) | (apply gJR; first | apply JR_un | apply JR_nil | refine JR_yes rfl rfl ?_ | refine JR_no rfl rfl rfl rfl ?_ | refine JR_noU rfl rfl rfl ?_) | (apply gJS; first | apply JS_seq | apply JS_region | apply JS_skip | apply JS_block | apply JS_inBlock | apply JS_label | refine JS_exit rfl ?_ | refine JS_condT rfl ?_ | refine JS_condF rfl ?_ | refine JS_draw [0] (by kernel_rfl) (by kernel_rfl) (by decide +kernel) ?_ | refine JS_draw [] (by kernel_rfl) (by kernel_rfl) (by decide +kernel) ?_ | refine JS_cond_T rfl (by omega) ?_ | refine JS_cond_F rfl (by omega) ?_) | (apply gQR; first | apply QR_un | apply QR_nil | refine QR_yes rfl rfl ?_ | refine QR_no rfl rfl rfl rfl ?_ | refine QR_noU rfl rfl rfl ?_) | (apply gQO; first | refine aQ ?_ | refine aQK rfl ?_))
  refine JO_call Try.call94 rfl rfl fun w hw => (Left_c b q d m u (List.Mem.head _) hm1 (by omega) w hw).mono ?_
  rintro e w' ⟨rfl, hw'⟩
  refine ⟨_, rfl, _, hw', ?_⟩
  clear hw' hw w w'
  by_cases hend : 8 * m < u + 8 * n
  · repeat (first | (apply gJO; first | (apply kS; refine aK ?_) | (apply kX; refine JO_box rfl rfl rfl ?_; intro _) | (apply kA; refine JO_alloc (tb := tb) rfl rfl ?_; intro _) | (apply kBs; refine JO_buildSlice (tb := tb) rfl rfl rfl rfl rfl rfl rfl rfl rfl ?_; intro _) | (apply kM; refine JO_make (tb := tb) rfl rfl rfl rfl rfl rfl (by omega) rfl ?_; intro _) | refine aO ?_) | (apply gJR; first | apply JR_un | apply JR_nil | refine JR_yes rfl rfl ?_ | refine JR_no rfl rfl rfl rfl ?_ | refine JR_noU rfl rfl rfl ?_) | (apply gJS; first | apply JS_seq | apply JS_region | apply JS_skip | apply JS_block | apply JS_inBlock | apply JS_label | refine JS_exit rfl ?_ | refine JS_condT rfl ?_ | refine JS_condF rfl ?_ | refine JS_draw [0] (by kernel_rfl) (by kernel_rfl) (by decide +kernel) ?_ | refine JS_draw [] (by kernel_rfl) (by kernel_rfl) (by decide +kernel) ?_ | refine JS_cond_T rfl (by omega) ?_ | refine JS_cond_F rfl (by omega) ?_) | (apply gQR; first | apply QR_un | apply QR_nil | refine QR_yes rfl rfl ?_ | refine QR_no rfl rfl rfl rfl ?_ | refine QR_noU rfl rfl rfl ?_) | (apply gQO; first | refine aQ ?_ | refine aQK rfl ?_))
    refine JS_ret Try.func76 rfl rfl ?_
    intro w hw
    exact .inl ⟨hend, rfl, hw⟩
  have hr' : Rd w0 (blk b [.slice q m d, .int .i64 (u + 8 * n : Nat)] :: H) (.slice q m d) m (ints .u8 B) := Rd_weak hr fun w hw => St.sub (by repeat (first | exact List.Sublist.refl _ | apply List.Sublist.cons_cons | apply List.Sublist.cons)) hw
  have hrs := Rd_sub (lo := u / 8) (hi := u / 8 + n) (sz := 1) hr' (by omega) (by omega)
  have hsub : ((ints .u8 B).drop (u / 8 * 1)).take ((u / 8 + n - u / 8) * 1) = ints .u8 ((B.drop (u / 8)).take n) := by
    rw [show u / 8 + n - u / 8 = n by omega, Nat.mul_one, Nat.mul_one, ints_drop, ints_take]
  rw [hsub, show u / 8 + n - u / 8 = n by omega] at hrs
  have hcap : ∀ w, St w0 (blk b [.slice q m d, .int .i64 (u + 8 * n : Nat)] :: H) w → u / 8 + n ≤ d := fun w hw => by
    have := (hr'.lcap hw).1; omega
  have hst : ((u : Int) + 8 * n) = ((u + 8 * n : Nat) : Int) := by omega
  repeat (first | (apply gJO; refine JO_v (V_slice (tb := tb) (lo := u / 8) (hi := u / 8 + n) rfl rfl rfl rfl rfl (by omega) (by omega) (fun w hw => ⟨by omega, hcap w (by rw [← hst]; exact hw)⟩) rfl) ?_) | (first | (apply gJO; first | (apply kS; refine aK ?_) | (apply kX; refine JO_box rfl rfl rfl ?_; intro _) | (apply kA; refine JO_alloc (tb := tb) rfl rfl ?_; intro _) | (apply kBs; refine JO_buildSlice (tb := tb) rfl rfl rfl rfl rfl rfl rfl rfl rfl ?_; intro _) | (apply kM; refine JO_make (tb := tb) rfl rfl rfl rfl rfl rfl (by omega) rfl ?_; intro _) | refine aO ?_) | (apply gJR; first | apply JR_un | apply JR_nil | refine JR_yes rfl rfl ?_ | refine JR_no rfl rfl rfl rfl ?_ | refine JR_noU rfl rfl rfl ?_) | (apply gJS; first | apply JS_seq | apply JS_region | apply JS_skip | apply JS_block | apply JS_inBlock | apply JS_label | refine JS_exit rfl ?_ | refine JS_condT rfl ?_ | refine JS_condF rfl ?_ | refine JS_draw [0] (by kernel_rfl) (by kernel_rfl) (by decide +kernel) ?_ | refine JS_draw [] (by kernel_rfl) (by kernel_rfl) (by decide +kernel) ?_ | refine JS_cond_T rfl (by omega) ?_ | refine JS_cond_F rfl (by omega) ?_) | (apply gQR; first | apply QR_un | apply QR_nil | refine QR_yes rfl rfl ?_ | refine QR_no rfl rfl rfl rfl ?_ | refine QR_noU rfl rfl rfl ?_) | (apply gQO; first | refine aQ ?_ | refine aQK rfl ?_)))
  have e3 : u / 8 + n - u / 8 = n := by omega
  simp only [hst, e3]
  have hl : ((B.drop (u / 8)).take n).length = n := by rw [List.length_take, List.length_drop]; omega
  have hok : OKB ((B.drop (u / 8)).take n) := Byt_take (Byt_drop hB _) _
  refine JO_call Try.call72 rfl rfl fun w hw => (Clone_c _ _ n _ hrs hl hok (by omega) (hrs.nil hw) w hw).mono ?_
  rintro e w' ⟨p, c, rfl, hw'⟩
  refine ⟨_, rfl, _, hw', ?_⟩
  clear hw' hw w w'
  repeat (first | (apply gJO; first | (apply kS; refine aK ?_) | (apply kX; refine JO_box rfl rfl rfl ?_; intro _) | (apply kA; refine JO_alloc (tb := tb) rfl rfl ?_; intro _) | (apply kBs; refine JO_buildSlice (tb := tb) rfl rfl rfl rfl rfl rfl rfl rfl rfl ?_; intro _) | (apply kM; refine JO_make (tb := tb) rfl rfl rfl rfl rfl rfl (by omega) rfl ?_; intro _) | refine aO ?_) | (apply gJR; first | apply JR_un | apply JR_nil | refine JR_yes rfl rfl ?_ | refine JR_no rfl rfl rfl rfl ?_ | refine JR_noU rfl rfl rfl ?_) | (apply gJS; first | apply JS_seq | apply JS_region | apply JS_skip | apply JS_block | apply JS_inBlock | apply JS_label | refine JS_exit rfl ?_ | refine JS_condT rfl ?_ | refine JS_condF rfl ?_ | refine JS_draw [0] (by kernel_rfl) (by kernel_rfl) (by decide +kernel) ?_ | refine JS_draw [] (by kernel_rfl) (by kernel_rfl) (by decide +kernel) ?_ | refine JS_cond_T rfl (by omega) ?_ | refine JS_cond_F rfl (by omega) ?_) | (apply gQR; first | apply QR_un | apply QR_nil | refine QR_yes rfl rfl ?_ | refine QR_no rfl rfl rfl rfl ?_ | refine QR_noU rfl rfl rfl ?_) | (apply gQO; first | refine aQ ?_ | refine aQK rfl ?_))
  refine JS_ret Try.func76 rfl rfl ?_
  intro w hw
  exact .inr ⟨by omega, p, c, rfl, hw⟩
end Go.Proofs.Ytakgoflfcgofdaa

namespace Go.Proofs.Ytakgoflfcgofdaa
open Sx Go
set_option linter.unusedVariables false
set_option linter.unusedSimpArgs false
attribute [local irreducible] syA fc tk cds
/-- what is thrown when a reading is given up -/
def FLT (r : Int) : List PanicEntry := [{ v := .iface 98 (.int .i64 r), recovered := false }]
theorem Give_c {w0 : World} {H : List Asn} (r : Int) (w : World) (hw : St w0 H w) :
    Calls Try.prog 56 #[.int .i64 r] w fun e w' => (r = 0 ∧ e = .returned (.tuple #[]) ∧ St w0 H w') ∨ (r ≠ 0 ∧ e = .panicked (FLT r) ∧ St w0 H w') := by
  refine enter (vs := [.int .i64 r]) Try.func56 rfl rfl rfl hw ?_
  by_cases h : r = 0
  · repeat (first | (apply gJO; first | (apply kS; refine aK ?_) | (apply kX; refine JO_box rfl rfl rfl ?_; intro _) | (apply kA; refine JO_alloc (tb := tb) rfl rfl ?_; intro _) | (apply kBs; refine JO_buildSlice (tb := tb) rfl rfl rfl rfl rfl rfl rfl rfl rfl ?_; intro _) | (apply kM; refine JO_make (tb := tb) rfl rfl rfl rfl rfl rfl (by omega) rfl ?_; intro _) | refine aO ?_) | (apply gJR; first | apply JR_un | apply JR_nil | refine JR_yes rfl rfl ?_ | refine JR_no rfl rfl rfl rfl ?_ | refine JR_noU rfl rfl rfl ?_) | (apply gJS; first | apply JS_seq | apply JS_region | apply JS_skip | apply JS_block | apply JS_inBlock | apply JS_label | refine JS_exit rfl ?_ | refine JS_condT rfl ?_ | refine JS_condF rfl ?_ | refine JS_draw [0] (by kernel_rfl) (by kernel_rfl) (by decide +kernel) ?_ | refine JS_draw [] (by kernel_rfl) (by kernel_rfl) (by decide +kernel) ?_ | refine JS_cond_T rfl (by omega) ?_ | refine JS_cond_F rfl (by omega) ?_) | (apply gQR; first | apply QR_un | apply QR_nil | refine QR_yes rfl rfl ?_ | refine QR_no rfl rfl rfl rfl ?_ | refine QR_noU rfl rfl rfl ?_) | (apply gQO; first | refine aQ ?_ | refine aQK rfl ?_))
    refine JS_fin Try.func56 rfl rfl ?_
    intro w hw
    exact .inl ⟨h, rfl, hw⟩
  · repeat (first | (apply gJO; refine JO_v (V_mkI (tb := tb) rfl rfl (by simp) rfl) ?_) | first | (apply gJO; first | (apply kS; refine aK ?_) | (apply kX; refine JO_box rfl rfl rfl ?_; intro _) | (apply kA; refine JO_alloc (tb := tb) rfl rfl ?_; intro _) | (apply kBs; refine JO_buildSlice (tb := tb) rfl rfl rfl rfl rfl rfl rfl rfl rfl ?_; intro _) | (apply kM; refine JO_make (tb := tb) rfl rfl rfl rfl rfl rfl (by omega) rfl ?_; intro _) | refine aO ?_) | (apply gJR; first | apply JR_un | apply JR_nil | refine JR_yes rfl rfl ?_ | refine JR_no rfl rfl rfl rfl ?_ | refine JR_noU rfl rfl rfl ?_) | (apply gJS; first | apply JS_seq | apply JS_region | apply JS_skip | apply JS_block | apply JS_inBlock | apply JS_label | refine JS_exit rfl ?_ | refine JS_condT rfl ?_ | refine JS_condF rfl ?_ | refine JS_draw [0] (by kernel_rfl) (by kernel_rfl) (by decide +kernel) ?_ | refine JS_draw [] (by kernel_rfl) (by kernel_rfl) (by decide +kernel) ?_ | refine JS_cond_T rfl (by omega) ?_ | refine JS_cond_F rfl (by omega) ?_) | (apply gQR; first | apply QR_un | apply QR_nil | refine QR_yes rfl rfl ?_ | refine QR_no rfl rfl rfl rfl ?_ | refine QR_noU rfl rfl rfl ?_) | (apply gQO; first | refine aQ ?_ | refine aQK rfl ?_))
    refine JO_panic Try.func56 rfl ?_
    intro a w _ hw
    exact .inr ⟨h, rfl, hw⟩
/-- the reading's memory -/
abbrev infL (bf br : Nat) (q : Option Addr) (d m : Nat) (B : List Int) (lim : Int) (a : Nat) (po : Option Addr) (co : Nat) (o : List Int) (H : List Asn) : List Asn :=
  blk br [.slice q m d, .int .i64 a] :: blk bf [.pointer (some ⟨br, 0, none⟩), .slice po o.length co, .int .i64 lim] :: vec 5 1 (.slice po o.length co) o.length (ints .u8 o) :: vec 5 1 (.slice q m d) m (ints .u8 B) :: H
theorem infL_drop {w0 : World} {w : World} {bf br : Nat} {q : Option Addr} {d m : Nat} {B : List Int} {lim : Int} {a : Nat} {po : Option Addr} {co : Nat} {o : List Int} {H : List Asn} (h : St w0 (infL bf br q d m B lim a po co o H) w) : St w0 H w := h.drop.drop.drop.drop
theorem infL_in {w0 : World} {w : World} {bf br : Nat} {q : Option Addr} {d m : Nat} {B : List Int} {lim : Int} {a : Nat} {po : Option Addr} {co : Nat} {o : List Int} {H : List Asn} {x : Asn} (h : St w0 (x :: infL bf br q d m B lim a po co o H) w) : St w0 (infL bf br q d m B lim a po co o (x :: H)) w :=
  h.perm (List.Perm.trans (List.Perm.swap _ _ _) (List.Perm.cons _ (List.Perm.trans (List.Perm.swap _ _ _) (List.Perm.cons _ (List.Perm.trans (List.Perm.swap _ _ _) (List.Perm.cons _ (List.Perm.swap _ _ _)))))))
theorem infL_out {w0 : World} {w : World} {bf br : Nat} {q : Option Addr} {d m : Nat} {B : List Int} {lim : Int} {a : Nat} {po : Option Addr} {co : Nat} {o : List Int} {H : List Asn} {x : Asn} (h : St w0 (infL bf br q d m B lim a po co o (x :: H)) w) : St w0 (infL bf br q d m B lim a po co o H) w := St.sub (by repeat (first | exact List.Sublist.refl _ | apply List.Sublist.cons_cons | apply List.Sublist.cons)) h
/-- what stays the same all along -/
structure InfK (m : Nat) (B : List Int) (lim : Nat) : Prop where
  hm : B.length = m
  hB : OKB B
  hm1 : m ≤ 140737488355328
  hl : lim ≤ 1048576
theorem pw16 (i : Nat) (h : i ≤ 16) : (1 : Int) ≤ 2 ^ i ∧ (2 : Int) ^ i ≤ 65536 := by
  have : ∀ k : Fin 17, (1 : Int) ≤ 2 ^ k.val ∧ (2 : Int) ^ k.val ≤ 65536 := by decide
  exact this ⟨i, by omega⟩
section
variable {w0 : World} {H : List Asn} {bf br : Nat} {q : Option Addr} {d m : Nat} {B : List Int} {lim : Nat} {po : Option Addr} {co : Nat} {o : List Int}
theorem Grp_c (hK : InfK m B lim) (a c : Nat) (hc : c ≤ 16) (ha : a ≤ 8 * m) (w : World) (hw : St w0 (infL bf br q d m B lim a po co o H) w) :
    Calls Try.prog 55 #[.pointer (some ⟨bf, 0, none⟩), .int .i64 c] w fun e w' => (8 * m < a + c ∧ e = .panicked (FLT 20) ∧ St w0 H w') ∨
      (a + c ≤ 8 * m ∧ e = .returned (.int .i64 (nbt (bitB B 0) a c)) ∧ St w0 (infL bf br q d m B lim (a + c) po co o H) w') := by
  obtain ⟨hn0, hn1⟩ := nbt_bd (bitB B 0) (bitB_01 B 0) a c
  have hp := (pw16 c hc).2
  refine enter (vs := [.pointer (some ⟨bf, 0, none⟩), .int .i64 c]) Try.func55 rfl rfl rfl hw ?_
  repeat (first | (apply gJO; first | (apply kS; refine aK ?_) | (apply kX; refine JO_box rfl rfl rfl ?_; intro _) | (apply kA; refine JO_alloc (tb := tb) rfl rfl ?_; intro _) | (apply kBs; refine JO_buildSlice (tb := tb) rfl rfl rfl rfl rfl rfl rfl rfl rfl ?_; intro _) | (apply kM; refine JO_make (tb := tb) rfl rfl rfl rfl rfl rfl (by omega) rfl ?_; intro _) | refine aO ?_) | (apply gJR; first | apply JR_un | apply JR_nil | refine JR_yes rfl rfl ?_ | refine JR_no rfl rfl rfl rfl ?_ | refine JR_noU rfl rfl rfl ?_) | (apply gJS; first | apply JS_seq | apply JS_region | apply JS_skip | apply JS_block | apply JS_inBlock | apply JS_label | refine JS_exit rfl ?_ | refine JS_condT rfl ?_ | refine JS_condF rfl ?_ | refine JS_draw [0] (by kernel_rfl) (by kernel_rfl) (by decide +kernel) ?_ | refine JS_draw [] (by kernel_rfl) (by kernel_rfl) (by decide +kernel) ?_ | refine JS_cond_T rfl (by omega) ?_ | refine JS_cond_F rfl (by omega) ?_) | (apply gQR; first | apply QR_un | apply QR_nil | refine QR_yes rfl rfl ?_ | refine QR_no rfl rfl rfl rfl ?_ | refine QR_noU rfl rfl rfl ?_) | (apply gQO; first | refine aQ ?_ | refine aQK rfl ?_))
  refine JO_call Try.call82 rfl rfl fun w hw => (RGrp_c br q d m B (vec_rd (by repeat (first | apply List.Mem.head | apply List.Mem.tail))) hK.hm hK.hB hK.hm1 a c (by omega) ha w hw).mono ?_
  rintro e w' (⟨h, rfl, hw'⟩ | ⟨h, rfl, hw'⟩)
  · refine ⟨_, rfl, _, hw', ?_⟩
    clear hw' hw w w'
    repeat (first | (apply gJO; first | (apply kS; refine aK ?_) | (apply kX; refine JO_box rfl rfl rfl ?_; intro _) | (apply kA; refine JO_alloc (tb := tb) rfl rfl ?_; intro _) | (apply kBs; refine JO_buildSlice (tb := tb) rfl rfl rfl rfl rfl rfl rfl rfl rfl ?_; intro _) | (apply kM; refine JO_make (tb := tb) rfl rfl rfl rfl rfl rfl (by omega) rfl ?_; intro _) | refine aO ?_) | (apply gJR; first | apply JR_un | apply JR_nil | refine JR_yes rfl rfl ?_ | refine JR_no rfl rfl rfl rfl ?_ | refine JR_noU rfl rfl rfl ?_) | (apply gJS; first | apply JS_seq | apply JS_region | apply JS_skip | apply JS_block | apply JS_inBlock | apply JS_label | refine JS_exit rfl ?_ | refine JS_condT rfl ?_ | refine JS_condF rfl ?_ | refine JS_draw [0] (by kernel_rfl) (by kernel_rfl) (by decide +kernel) ?_ | refine JS_draw [] (by kernel_rfl) (by kernel_rfl) (by decide +kernel) ?_ | refine JS_cond_T rfl (by omega) ?_ | refine JS_cond_F rfl (by omega) ?_) | (apply gQR; first | apply QR_un | apply QR_nil | refine QR_yes rfl rfl ?_ | refine QR_no rfl rfl rfl rfl ?_ | refine QR_noU rfl rfl rfl ?_) | (apply gQO; first | refine aQ ?_ | refine aQK rfl ?_))
    refine JO_callE Try.func55 Try.call56 rfl rfl fun A hA w hw => (Give_c 20 w hw).mono ?_
    rintro e w' (⟨h, rfl, hw'⟩ | ⟨_, rfl, hw'⟩)
    · exact absurd h (by decide)
    · exact .inr ⟨_, rfl, .inl ⟨h, rfl, infL_drop hw'⟩⟩
  · refine ⟨_, rfl, _, hw', ?_⟩
    clear hw' hw w w'
    generalize nbt (bitB B 0) a c = x at *
    repeat (first | (apply gJO; first | (apply kS; refine aK ?_) | (apply kX; refine JO_box rfl rfl rfl ?_; intro _) | (apply kA; refine JO_alloc (tb := tb) rfl rfl ?_; intro _) | (apply kBs; refine JO_buildSlice (tb := tb) rfl rfl rfl rfl rfl rfl rfl rfl rfl ?_; intro _) | (apply kM; refine JO_make (tb := tb) rfl rfl rfl rfl rfl rfl (by omega) rfl ?_; intro _) | refine aO ?_) | (apply gJR; first | apply JR_un | apply JR_nil | refine JR_yes rfl rfl ?_ | refine JR_no rfl rfl rfl rfl ?_ | refine JR_noU rfl rfl rfl ?_) | (apply gJS; first | apply JS_seq | apply JS_region | apply JS_skip | apply JS_block | apply JS_inBlock | apply JS_label | refine JS_exit rfl ?_ | refine JS_condT rfl ?_ | refine JS_condF rfl ?_ | refine JS_draw [0] (by kernel_rfl) (by kernel_rfl) (by decide +kernel) ?_ | refine JS_draw [] (by kernel_rfl) (by kernel_rfl) (by decide +kernel) ?_ | refine JS_cond_T rfl (by omega) ?_ | refine JS_cond_F rfl (by omega) ?_) | (apply gQR; first | apply QR_un | apply QR_nil | refine QR_yes rfl rfl ?_ | refine QR_no rfl rfl rfl rfl ?_ | refine QR_noU rfl rfl rfl ?_) | (apply gQO; first | refine aQ ?_ | refine aQK rfl ?_))
    refine JO_callE Try.func55 Try.call56 rfl rfl fun A hA w hw => (Give_c 0 w hw).mono ?_
    rintro e w' (⟨_, rfl, hw'⟩ | ⟨h, rfl, hw'⟩)
    · refine .inl ⟨_, rfl, _, hw', ?_⟩
      clear hw' hw w w'
      repeat (first | (apply gJO; first | (apply kS; refine aK ?_) | (apply kX; refine JO_box rfl rfl rfl ?_; intro _) | (apply kA; refine JO_alloc (tb := tb) rfl rfl ?_; intro _) | (apply kBs; refine JO_buildSlice (tb := tb) rfl rfl rfl rfl rfl rfl rfl rfl rfl ?_; intro _) | (apply kM; refine JO_make (tb := tb) rfl rfl rfl rfl rfl rfl (by omega) rfl ?_; intro _) | refine aO ?_) | (apply gJR; first | apply JR_un | apply JR_nil | refine JR_yes rfl rfl ?_ | refine JR_no rfl rfl rfl rfl ?_ | refine JR_noU rfl rfl rfl ?_) | (apply gJS; first | apply JS_seq | apply JS_region | apply JS_skip | apply JS_block | apply JS_inBlock | apply JS_label | refine JS_exit rfl ?_ | refine JS_condT rfl ?_ | refine JS_condF rfl ?_ | refine JS_draw [0] (by kernel_rfl) (by kernel_rfl) (by decide +kernel) ?_ | refine JS_draw [] (by kernel_rfl) (by kernel_rfl) (by decide +kernel) ?_ | refine JS_cond_T rfl (by omega) ?_ | refine JS_cond_F rfl (by omega) ?_) | (apply gQR; first | apply QR_un | apply QR_nil | refine QR_yes rfl rfl ?_ | refine QR_no rfl rfl rfl rfl ?_ | refine QR_noU rfl rfl rfl ?_) | (apply gQO; first | refine aQ ?_ | refine aQK rfl ?_))
      refine JS_ret Try.func55 rfl rfl ?_
      intro w hw
      exact .inr ⟨h, rfl, hw⟩
    · exact absurd rfl h
/-- what a symbol's reading does -/
def symP (bt : Nat → Int) (m : Nat) (L : List Int) (a : Nat) (E : Int → Prop) (K : Int → Nat → Prop) : Prop :=
  match symS bt (8 * m) L a with
  | .err r => E r
  | .ok i a1 => 0 ≤ i ∧ i < L.length ∧ a < a1 ∧ a1 ≤ 8 * m ∧ K i a1
theorem Sym_c (hK : InfK m B lim) (a : Nat) (ha : a ≤ 8 * m) (b : Nat) (L : List Int) (hs : IsSet w0 H b L) (w : World) (hw : St w0 (infL bf br q d m B lim a po co o H) w) :
    Calls Try.prog 95 #[.pointer (some ⟨bf, 0, none⟩), .pointer (some ⟨b, 0, none⟩)] w fun e w' =>
      symP (bitB B 0) m L a (fun r => e = .panicked (FLT r) ∧ St w0 H w') (fun i a1 => e = .returned (.int .i64 i) ∧ St w0 (infL bf br q d m B lim a1 po co o H) w') := by
  refine enter (vs := [.pointer (some ⟨bf, 0, none⟩), .pointer (some ⟨b, 0, none⟩)]) Try.func95 rfl rfl rfl hw ?_
  repeat (first | (apply gJO; first | (apply kS; refine aK ?_) | (apply kX; refine JO_box rfl rfl rfl ?_; intro _) | (apply kA; refine JO_alloc (tb := tb) rfl rfl ?_; intro _) | (apply kBs; refine JO_buildSlice (tb := tb) rfl rfl rfl rfl rfl rfl rfl rfl rfl ?_; intro _) | (apply kM; refine JO_make (tb := tb) rfl rfl rfl rfl rfl rfl (by omega) rfl ?_; intro _) | refine aO ?_) | (apply gJR; first | apply JR_un | apply JR_nil | refine JR_yes rfl rfl ?_ | refine JR_no rfl rfl rfl rfl ?_ | refine JR_noU rfl rfl rfl ?_) | (apply gJS; first | apply JS_seq | apply JS_region | apply JS_skip | apply JS_block | apply JS_inBlock | apply JS_label | refine JS_exit rfl ?_ | refine JS_condT rfl ?_ | refine JS_condF rfl ?_ | refine JS_draw [0] (by kernel_rfl) (by kernel_rfl) (by decide +kernel) ?_ | refine JS_draw [] (by kernel_rfl) (by kernel_rfl) (by decide +kernel) ?_ | refine JS_cond_T rfl (by omega) ?_ | refine JS_cond_F rfl (by omega) ?_) | (apply gQR; first | apply QR_un | apply QR_nil | refine QR_yes rfl rfl ?_ | refine QR_no rfl rfl rfl rfl ?_ | refine QR_noU rfl rfl rfl ?_) | (apply gQO; first | refine aQ ?_ | refine aQK rfl ?_))
  refine JO_call Try.call102 rfl rfl fun w hw => (Read2_c b br L B (hs.sub (by repeat (first | exact List.Sublist.refl _ | apply List.Sublist.cons))) q d m (vec_rd (by repeat (first | apply List.Mem.head | apply List.Mem.tail))) hK.hm hK.hB hK.hm1 a ha w hw).mono ?_
  rintro e w' ⟨i, u, r, rfl, hw', hu, hrd⟩
  refine ⟨_, rfl, _, hw', ?_⟩
  clear hw' hw w w'
  rw [← bitB_fun] at hrd
  have hsy := symS_of hs.hB hs.hl (bitB_01 B 0) hrd
  by_cases hr : r = 0
  · subst hr
    rw [if_pos rfl] at hsy
    have hi : 0 ≤ i ∧ i < L.length ∧ 0 < u := by
      rcases hrd with ⟨j, rfl, _, ⟨n, hj, h0, hn, _⟩, hu⟩ | ⟨_, _, h | h | ⟨_, _, h | h⟩⟩
      · rw [hu] at hn; omega
      · omega
      · omega
      · omega
      · omega
    repeat (first | (apply gJO; first | (apply kS; refine aK ?_) | (apply kX; refine JO_box rfl rfl rfl ?_; intro _) | (apply kA; refine JO_alloc (tb := tb) rfl rfl ?_; intro _) | (apply kBs; refine JO_buildSlice (tb := tb) rfl rfl rfl rfl rfl rfl rfl rfl rfl ?_; intro _) | (apply kM; refine JO_make (tb := tb) rfl rfl rfl rfl rfl rfl (by omega) rfl ?_; intro _) | refine aO ?_) | (apply gJR; first | apply JR_un | apply JR_nil | refine JR_yes rfl rfl ?_ | refine JR_no rfl rfl rfl rfl ?_ | refine JR_noU rfl rfl rfl ?_) | (apply gJS; first | apply JS_seq | apply JS_region | apply JS_skip | apply JS_block | apply JS_inBlock | apply JS_label | refine JS_exit rfl ?_ | refine JS_condT rfl ?_ | refine JS_condF rfl ?_ | refine JS_draw [0] (by kernel_rfl) (by kernel_rfl) (by decide +kernel) ?_ | refine JS_draw [] (by kernel_rfl) (by kernel_rfl) (by decide +kernel) ?_ | refine JS_cond_T rfl (by omega) ?_ | refine JS_cond_F rfl (by omega) ?_) | (apply gQR; first | apply QR_un | apply QR_nil | refine QR_yes rfl rfl ?_ | refine QR_no rfl rfl rfl rfl ?_ | refine QR_noU rfl rfl rfl ?_) | (apply gQO; first | refine aQ ?_ | refine aQK rfl ?_))
    refine JO_callE Try.func95 Try.call56 rfl rfl fun A hA w hw => (Give_c 0 w hw).mono ?_
    rintro e w' (⟨_, rfl, hw'⟩ | ⟨h, rfl, hw'⟩)
    · refine .inl ⟨_, rfl, _, hw', ?_⟩
      clear hw' hw w w'
      repeat (first | (apply gJO; first | (apply kS; refine aK ?_) | (apply kX; refine JO_box rfl rfl rfl ?_; intro _) | (apply kA; refine JO_alloc (tb := tb) rfl rfl ?_; intro _) | (apply kBs; refine JO_buildSlice (tb := tb) rfl rfl rfl rfl rfl rfl rfl rfl rfl ?_; intro _) | (apply kM; refine JO_make (tb := tb) rfl rfl rfl rfl rfl rfl (by omega) rfl ?_; intro _) | refine aO ?_) | (apply gJR; first | apply JR_un | apply JR_nil | refine JR_yes rfl rfl ?_ | refine JR_no rfl rfl rfl rfl ?_ | refine JR_noU rfl rfl rfl ?_) | (apply gJS; first | apply JS_seq | apply JS_region | apply JS_skip | apply JS_block | apply JS_inBlock | apply JS_label | refine JS_exit rfl ?_ | refine JS_condT rfl ?_ | refine JS_condF rfl ?_ | refine JS_draw [0] (by kernel_rfl) (by kernel_rfl) (by decide +kernel) ?_ | refine JS_draw [] (by kernel_rfl) (by kernel_rfl) (by decide +kernel) ?_ | refine JS_cond_T rfl (by omega) ?_ | refine JS_cond_F rfl (by omega) ?_) | (apply gQR; first | apply QR_un | apply QR_nil | refine QR_yes rfl rfl ?_ | refine QR_no rfl rfl rfl rfl ?_ | refine QR_noU rfl rfl rfl ?_) | (apply gQO; first | refine aQ ?_ | refine aQK rfl ?_))
      refine JS_ret Try.func95 rfl rfl ?_
      intro w hw
      unfold symP
      rw [hsy]
      exact ⟨hi.1, hi.2.1, by omega, hu, rfl, hw⟩
    · exact absurd rfl h
  · rw [if_neg hr] at hsy
    repeat (first | (apply gJO; first | (apply kS; refine aK ?_) | (apply kX; refine JO_box rfl rfl rfl ?_; intro _) | (apply kA; refine JO_alloc (tb := tb) rfl rfl ?_; intro _) | (apply kBs; refine JO_buildSlice (tb := tb) rfl rfl rfl rfl rfl rfl rfl rfl rfl ?_; intro _) | (apply kM; refine JO_make (tb := tb) rfl rfl rfl rfl rfl rfl (by omega) rfl ?_; intro _) | refine aO ?_) | (apply gJR; first | apply JR_un | apply JR_nil | refine JR_yes rfl rfl ?_ | refine JR_no rfl rfl rfl rfl ?_ | refine JR_noU rfl rfl rfl ?_) | (apply gJS; first | apply JS_seq | apply JS_region | apply JS_skip | apply JS_block | apply JS_inBlock | apply JS_label | refine JS_exit rfl ?_ | refine JS_condT rfl ?_ | refine JS_condF rfl ?_ | refine JS_draw [0] (by kernel_rfl) (by kernel_rfl) (by decide +kernel) ?_ | refine JS_draw [] (by kernel_rfl) (by kernel_rfl) (by decide +kernel) ?_ | refine JS_cond_T rfl (by omega) ?_ | refine JS_cond_F rfl (by omega) ?_) | (apply gQR; first | apply QR_un | apply QR_nil | refine QR_yes rfl rfl ?_ | refine QR_no rfl rfl rfl rfl ?_ | refine QR_noU rfl rfl rfl ?_) | (apply gQO; first | refine aQ ?_ | refine aQK rfl ?_))
    refine JO_callE Try.func95 Try.call56 rfl rfl fun A hA w hw => (Give_c r w hw).mono ?_
    rintro e w' (⟨h, rfl, hw'⟩ | ⟨_, rfl, hw'⟩)
    · exact absurd h hr
    · refine .inr ⟨_, rfl, ?_⟩
      show symP _ _ _ _ _ _
      unfold symP
      rw [hsy]
      exact ⟨rfl, infL_drop hw'⟩
/-- bytes are told -/
theorem Tell_c (hK : InfK m B lim) (a : Nat) (u : Option Addr) (cu n : Nat) (X : List Int) (hr : Rd w0 H (.slice u n cu) n (ints .u8 X)) (hX : X.length = n) (ho : o.length ≤ lim) (hn : n ≤ 140737488355328) (w : World) (hw : St w0 (infL bf br q d m B lim a po co o H) w) :
    Calls Try.prog 77 #[.pointer (some ⟨bf, 0, none⟩), .slice u n cu] w fun e w' => ((lim : Int) - o.length < n ∧ e = .panicked (FLT 64) ∧ St w0 H w') ∨
      (¬ (lim : Int) - o.length < n ∧ e = .returned (.tuple #[]) ∧ ∃ po co, St w0 (infL bf br q d m B lim a po co (o ++ X) H) w') := by
  have hl := hK.hl
  refine enter (vs := [.pointer (some ⟨bf, 0, none⟩), .slice u n cu]) Try.func77 rfl rfl rfl hw ?_
  by_cases h : (lim : Int) - o.length < n
  · repeat (first | (apply gJO; first | (apply kS; refine aK ?_) | (apply kX; refine JO_box rfl rfl rfl ?_; intro _) | (apply kA; refine JO_alloc (tb := tb) rfl rfl ?_; intro _) | (apply kBs; refine JO_buildSlice (tb := tb) rfl rfl rfl rfl rfl rfl rfl rfl rfl ?_; intro _) | (apply kM; refine JO_make (tb := tb) rfl rfl rfl rfl rfl rfl (by omega) rfl ?_; intro _) | refine aO ?_) | (apply gJR; first | apply JR_un | apply JR_nil | refine JR_yes rfl rfl ?_ | refine JR_no rfl rfl rfl rfl ?_ | refine JR_noU rfl rfl rfl ?_) | (apply gJS; first | apply JS_seq | apply JS_region | apply JS_skip | apply JS_block | apply JS_inBlock | apply JS_label | refine JS_exit rfl ?_ | refine JS_condT rfl ?_ | refine JS_condF rfl ?_ | refine JS_draw [0] (by kernel_rfl) (by kernel_rfl) (by decide +kernel) ?_ | refine JS_draw [] (by kernel_rfl) (by kernel_rfl) (by decide +kernel) ?_ | refine JS_cond_T rfl (by omega) ?_ | refine JS_cond_F rfl (by omega) ?_) | (apply gQR; first | apply QR_un | apply QR_nil | refine QR_yes rfl rfl ?_ | refine QR_no rfl rfl rfl rfl ?_ | refine QR_noU rfl rfl rfl ?_) | (apply gQO; first | refine aQ ?_ | refine aQK rfl ?_))
    refine JO_callE Try.func77 Try.call56 rfl rfl fun A hA w hw => (Give_c 64 w hw).mono ?_
    rintro e w' (⟨h, rfl, hw'⟩ | ⟨_, rfl, hw'⟩)
    · exact absurd h (by decide)
    · exact .inr ⟨_, rfl, .inl ⟨h, rfl, infL_drop hw'⟩⟩
  · repeat (first | (apply gJO; first | (apply kS; refine aK ?_) | (apply kX; refine JO_box rfl rfl rfl ?_; intro _) | (apply kA; refine JO_alloc (tb := tb) rfl rfl ?_; intro _) | (apply kBs; refine JO_buildSlice (tb := tb) rfl rfl rfl rfl rfl rfl rfl rfl rfl ?_; intro _) | (apply kM; refine JO_make (tb := tb) rfl rfl rfl rfl rfl rfl (by omega) rfl ?_; intro _) | refine aO ?_) | (apply gJR; first | apply JR_un | apply JR_nil | refine JR_yes rfl rfl ?_ | refine JR_no rfl rfl rfl rfl ?_ | refine JR_noU rfl rfl rfl ?_) | (apply gJS; first | apply JS_seq | apply JS_region | apply JS_skip | apply JS_block | apply JS_inBlock | apply JS_label | refine JS_exit rfl ?_ | refine JS_condT rfl ?_ | refine JS_condF rfl ?_ | refine JS_draw [0] (by kernel_rfl) (by kernel_rfl) (by decide +kernel) ?_ | refine JS_draw [] (by kernel_rfl) (by kernel_rfl) (by decide +kernel) ?_ | refine JS_cond_T rfl (by omega) ?_ | refine JS_cond_F rfl (by omega) ?_) | (apply gQR; first | apply QR_un | apply QR_nil | refine QR_yes rfl rfl ?_ | refine QR_no rfl rfl rfl rfl ?_ | refine QR_noU rfl rfl rfl ?_) | (apply gQO; first | refine aQ ?_ | refine aQK rfl ?_))
    have hr' : Rd w0 (infL bf br q d m B lim a po co o H) (.slice u n cu) n (ints .u8 X) := Rd_weak hr fun w hw => infL_drop hw
    refine JO_app (tb := tb) rfl rfl rfl rfl rfl rfl (by repeat (first | exact Sel.here _ _ | apply Sel.there)) hr' (by rw [ints_len]; omega) (by first | exact ints_one | (repeat (first | exact trivial | refine ⟨rfl, ?_⟩))) (by omega) rfl ?_
    intro p c
    repeat (first | (apply gJO; first | (apply kS; refine aK ?_) | (apply kX; refine JO_box rfl rfl rfl ?_; intro _) | (apply kA; refine JO_alloc (tb := tb) rfl rfl ?_; intro _) | (apply kBs; refine JO_buildSlice (tb := tb) rfl rfl rfl rfl rfl rfl rfl rfl rfl ?_; intro _) | (apply kM; refine JO_make (tb := tb) rfl rfl rfl rfl rfl rfl (by omega) rfl ?_; intro _) | refine aO ?_) | (apply gJR; first | apply JR_un | apply JR_nil | refine JR_yes rfl rfl ?_ | refine JR_no rfl rfl rfl rfl ?_ | refine JR_noU rfl rfl rfl ?_) | (apply gJS; first | apply JS_seq | apply JS_region | apply JS_skip | apply JS_block | apply JS_inBlock | apply JS_label | refine JS_exit rfl ?_ | refine JS_condT rfl ?_ | refine JS_condF rfl ?_ | refine JS_draw [0] (by kernel_rfl) (by kernel_rfl) (by decide +kernel) ?_ | refine JS_draw [] (by kernel_rfl) (by kernel_rfl) (by decide +kernel) ?_ | refine JS_cond_T rfl (by omega) ?_ | refine JS_cond_F rfl (by omega) ?_) | (apply gQR; first | apply QR_un | apply QR_nil | refine QR_yes rfl rfl ?_ | refine QR_no rfl rfl rfl rfl ?_ | refine QR_noU rfl rfl rfl ?_) | (apply gQO; first | refine aQ ?_ | refine aQK rfl ?_))
    refine JS_fin Try.func77 rfl rfl ?_
    intro w hw
    refine .inr ⟨h, rfl, p, c, ?_⟩
    unfold infL
    rw [List.length_append, hX, ← ints_app]
    exact hw
end
end Go.Proofs.Ytakgoflfcgofdaa

namespace Go.Proofs.Ytakgoflfcgofdaa
open Sx Go
set_option linter.unusedVariables false
set_option linter.unusedSimpArgs false
attribute [local irreducible] syA fc tk cds
def resP (r : Res) (E : Int → Prop) (K : Nat → List Int → Prop) : Prop :=
  match r with
  | .err e => E e
  | .ok a o => K a o
theorem xor16 {n : Nat} (h : n < 65536) : n ^^^ 65535 = 65535 - n := by
  have h1 : (BitVec.ofNat 16 n ^^^ BitVec.allOnes 16).toNat = n ^^^ 65535 := by
    rw [BitVec.toNat_xor, BitVec.toNat_ofNat, Nat.mod_eq_of_lt (by omega)]; rfl
  rw [← h1, BitVec.xor_allOnes, BitVec.toNat_not, BitVec.toNat_ofNat, Nat.mod_eq_of_lt (by omega)]
theorem xor16_i64 {a : Int} (h : 0 ≤ a ∧ a < 65536) : IntKind.i64.wrap ((BitVec.ofInt IntKind.i64.bits a ^^^ BitVec.ofInt IntKind.i64.bits 65535).toNat) = 65535 - a := by
  rw [xor_nat .i64 ⟨h.1, Int.lt_trans h.2 (by decide)⟩ ⟨by omega, by decide⟩, show (65535 : Int).toNat = 65535 from rfl, xor16 (by omega)]
  exact (wi64 (by omega)).trans (by omega)
theorem nbt_byte (B : List Int) (hB : OKB B) (j : Nat) : nbt (bitB B 0) (8 * j) 8 = B.getD j 0 := by
  have h := hB j
  simp only [nbt, bitB, Nat.zero_add]
  have e : ∀ t, t < 8 → (8 * j + t) / 8 = j ∧ (8 * j + t) % 8 = t := fun t ht => by omega
  rw [(e 0 (by omega)).1, (e 0 (by omega)).2, (e 1 (by omega)).1, (e 1 (by omega)).2, (e 2 (by omega)).1, (e 2 (by omega)).2, (e 3 (by omega)).1, (e 3 (by omega)).2, (e 4 (by omega)).1, (e 4 (by omega)).2, (e 5 (by omega)).1, (e 5 (by omega)).2, (e 6 (by omega)).1, (e 6 (by omega)).2, (e 7 (by omega)).1, (e 7 (by omega)).2]
  simp only [Int.reducePow]
  omega
theorem byts_eq (B : List Int) (hB : OKB B) (j n : Nat) (h : j + n ≤ B.length) : byts (bitB B 0) (8 * j) n = (B.drop j).take n := by
  apply List.ext_getElem?
  intro k
  simp only [byts, List.getElem?_map, List.getElem?_take, List.getElem?_drop]
  by_cases hk : k < n
  · rw [List.getElem?_range hk, if_pos hk, Option.map_some, show 8 * j + 8 * k = 8 * (j + k) by omega, nbt_byte B hB]
    rw [List.getD_eq_getElem?_getD, List.getElem?_eq_getElem (by omega)]; rfl
  · rw [if_neg hk, List.getElem?_eq_none (by simp; omega)]; rfl
section
variable {w0 : World} {H : List Asn} {bf br : Nat} {q : Option Addr} {d m : Nat} {B : List Int} {lim : Nat} {po : Option Addr} {co : Nat} {o : List Int}
set_option maxHeartbeats 2000000 in
theorem Sto_c (hK : InfK m B lim) (a : Nat) (ha : a ≤ 8 * m) (ho : o.length ≤ lim) (w : World) (hw : St w0 (infL bf br q d m B lim a po co o H) w) :
    Calls Try.prog 52 #[.pointer (some ⟨bf, 0, none⟩)] w fun e w' => resP (stoF (bitB B 0) (8 * m) lim a o) (fun r => e = .panicked (FLT r) ∧ St w0 H w')
      (fun a' o' => a' ≤ 8 * m ∧ o'.length ≤ lim ∧ e = .returned (.tuple #[]) ∧ ∃ po co, St w0 (infL bf br q d m B lim a' po co o' H) w') := by
  have hl := hK.hl
  have hm1 := hK.hm1
  have hu := upto8_le ha
  have hu8 := upto8_8 a
  refine enter (vs := [.pointer (some ⟨bf, 0, none⟩)]) Try.func52 rfl rfl rfl hw ?_
  repeat (first | (apply gJO; first | (apply kS; refine aK ?_) | (apply kX; refine JO_box rfl rfl rfl ?_; intro _) | (apply kA; refine JO_alloc (tb := tb) rfl rfl ?_; intro _) | (apply kBs; refine JO_buildSlice (tb := tb) rfl rfl rfl rfl rfl rfl rfl rfl rfl ?_; intro _) | (apply kM; refine JO_make (tb := tb) rfl rfl rfl rfl rfl rfl (by omega) rfl ?_; intro _) | refine aO ?_) | (apply gJR; first | apply JR_un | apply JR_nil | refine JR_yes rfl rfl ?_ | refine JR_no rfl rfl rfl rfl ?_ | refine JR_noU rfl rfl rfl ?_) | (apply gJS; first | apply JS_seq | apply JS_region | apply JS_skip | apply JS_block | apply JS_inBlock | apply JS_label | refine JS_exit rfl ?_ | refine JS_condT rfl ?_ | refine JS_condF rfl ?_ | refine JS_draw [0] (by kernel_rfl) (by kernel_rfl) (by decide +kernel) ?_ | refine JS_draw [] (by kernel_rfl) (by kernel_rfl) (by decide +kernel) ?_ | refine JS_cond_T rfl (by omega) ?_ | refine JS_cond_F rfl (by omega) ?_) | (apply gQR; first | apply QR_un | apply QR_nil | refine QR_yes rfl rfl ?_ | refine QR_no rfl rfl rfl rfl ?_ | refine QR_noU rfl rfl rfl ?_) | (apply gQO; first | refine aQ ?_ | refine aQK rfl ?_))
  refine JO_call Try.call75 rfl rfl fun w hw => (Align_c br _ a (by omega) w hw).mono ?_
  rintro e w' ⟨rfl, hw'⟩
  refine ⟨_, rfl, _, hw', ?_⟩
  clear hw' hw w w'
  have hS : ∀ r, stoF (bitB B 0) (8 * m) lim a o = r → stoF (bitB B 0) (8 * m) lim a o = r := fun _ h => h
  unfold stoF at hS ⊢
  generalize upto8 a = u at *
  have huu : upto8 (u + 32) = u + 32 := by unfold upto8; omega
  obtain ⟨n, hn⟩ := Int.eq_ofNat_of_zero_le (nbt_bd (bitB B 0) (bitB_01 B 0) u 16).1
  have hn1 := (nbt_bd (bitB B 0) (bitB_01 B 0) u 16).2
  obtain ⟨x, hx⟩ := Int.eq_ofNat_of_zero_le (nbt_bd (bitB B 0) (bitB_01 B 0) (u + 16) 16).1
  have hx1 := (nbt_bd (bitB B 0) (bitB_01 B 0) (u + 16) 16).2
  have hp16 : (2 : Int) ^ 16 = 65536 := by decide
  rw [hn, hp16] at hn1
  rw [hx, hp16] at hx1
  rw [hn, hx]
  repeat (first | (apply gJO; first | (apply kS; refine aK ?_) | (apply kX; refine JO_box rfl rfl rfl ?_; intro _) | (apply kA; refine JO_alloc (tb := tb) rfl rfl ?_; intro _) | (apply kBs; refine JO_buildSlice (tb := tb) rfl rfl rfl rfl rfl rfl rfl rfl rfl ?_; intro _) | (apply kM; refine JO_make (tb := tb) rfl rfl rfl rfl rfl rfl (by omega) rfl ?_; intro _) | refine aO ?_) | (apply gJR; first | apply JR_un | apply JR_nil | refine JR_yes rfl rfl ?_ | refine JR_no rfl rfl rfl rfl ?_ | refine JR_noU rfl rfl rfl ?_) | (apply gJS; first | apply JS_seq | apply JS_region | apply JS_skip | apply JS_block | apply JS_inBlock | apply JS_label | refine JS_exit rfl ?_ | refine JS_condT rfl ?_ | refine JS_condF rfl ?_ | refine JS_draw [0] (by kernel_rfl) (by kernel_rfl) (by decide +kernel) ?_ | refine JS_draw [] (by kernel_rfl) (by kernel_rfl) (by decide +kernel) ?_ | refine JS_cond_T rfl (by omega) ?_ | refine JS_cond_F rfl (by omega) ?_) | (apply gQR; first | apply QR_un | apply QR_nil | refine QR_yes rfl rfl ?_ | refine QR_no rfl rfl rfl rfl ?_ | refine QR_noU rfl rfl rfl ?_) | (apply gQO; first | refine aQ ?_ | refine aQK rfl ?_))
  refine JO_callE Try.func52 Try.call55 rfl rfl fun A hA w hw => (Grp_c hK u 16 (by omega) (by omega) w hw).mono ?_
  rintro e w' (⟨h, rfl, hw'⟩ | ⟨h1, he, hw'⟩)
  · refine .inr ⟨_, rfl, ?_⟩
    show resP _ _ _
    rw [if_pos h]; exact ⟨rfl, hw'⟩
  rw [hn] at he; subst he
  refine .inl ⟨_, rfl, _, hw', ?_⟩
  clear hw' hw w w' hA A
  rw [if_neg (by omega)]
  repeat (first | (apply gJO; first | (apply kS; refine aK ?_) | (apply kX; refine JO_box rfl rfl rfl ?_; intro _) | (apply kA; refine JO_alloc (tb := tb) rfl rfl ?_; intro _) | (apply kBs; refine JO_buildSlice (tb := tb) rfl rfl rfl rfl rfl rfl rfl rfl rfl ?_; intro _) | (apply kM; refine JO_make (tb := tb) rfl rfl rfl rfl rfl rfl (by omega) rfl ?_; intro _) | refine aO ?_) | (apply gJR; first | apply JR_un | apply JR_nil | refine JR_yes rfl rfl ?_ | refine JR_no rfl rfl rfl rfl ?_ | refine JR_noU rfl rfl rfl ?_) | (apply gJS; first | apply JS_seq | apply JS_region | apply JS_skip | apply JS_block | apply JS_inBlock | apply JS_label | refine JS_exit rfl ?_ | refine JS_condT rfl ?_ | refine JS_condF rfl ?_ | refine JS_draw [0] (by kernel_rfl) (by kernel_rfl) (by decide +kernel) ?_ | refine JS_draw [] (by kernel_rfl) (by kernel_rfl) (by decide +kernel) ?_ | refine JS_cond_T rfl (by omega) ?_ | refine JS_cond_F rfl (by omega) ?_) | (apply gQR; first | apply QR_un | apply QR_nil | refine QR_yes rfl rfl ?_ | refine QR_no rfl rfl rfl rfl ?_ | refine QR_noU rfl rfl rfl ?_) | (apply gQO; first | refine aQ ?_ | refine aQK rfl ?_))
  refine JO_callE Try.func52 Try.call55 rfl rfl fun A hA w hw => (Grp_c hK (u + 16) 16 (by omega) (by omega) w hw).mono ?_
  rintro e w' (⟨h, rfl, hw'⟩ | ⟨h2, he, hw'⟩)
  · refine .inr ⟨_, rfl, ?_⟩
    show resP _ _ _
    rw [if_pos (by omega)]; exact ⟨rfl, hw'⟩
  rw [hx] at he; subst he
  refine .inl ⟨_, rfl, _, hw', ?_⟩
  clear hw' hw w w' hA A
  rw [if_neg (by omega)]
  have hxor := xor16_i64 (a := (n : Int)) ⟨by omega, hn1⟩
  by_cases h3 : (n : Int) + x ≠ 65535
  · repeat (first | (apply gJO; refine JO_v (V_xor rfl rfl hxor rfl) ?_) | first | (apply gJO; first | (apply kS; refine aK ?_) | (apply kX; refine JO_box rfl rfl rfl ?_; intro _) | (apply kA; refine JO_alloc (tb := tb) rfl rfl ?_; intro _) | (apply kBs; refine JO_buildSlice (tb := tb) rfl rfl rfl rfl rfl rfl rfl rfl rfl ?_; intro _) | (apply kM; refine JO_make (tb := tb) rfl rfl rfl rfl rfl rfl (by omega) rfl ?_; intro _) | refine aO ?_) | (apply gJR; first | apply JR_un | apply JR_nil | refine JR_yes rfl rfl ?_ | refine JR_no rfl rfl rfl rfl ?_ | refine JR_noU rfl rfl rfl ?_) | (apply gJS; first | apply JS_seq | apply JS_region | apply JS_skip | apply JS_block | apply JS_inBlock | apply JS_label | refine JS_exit rfl ?_ | refine JS_condT rfl ?_ | refine JS_condF rfl ?_ | refine JS_draw [0] (by kernel_rfl) (by kernel_rfl) (by decide +kernel) ?_ | refine JS_draw [] (by kernel_rfl) (by kernel_rfl) (by decide +kernel) ?_ | refine JS_cond_T rfl (by omega) ?_ | refine JS_cond_F rfl (by omega) ?_) | (apply gQR; first | apply QR_un | apply QR_nil | refine QR_yes rfl rfl ?_ | refine QR_no rfl rfl rfl rfl ?_ | refine QR_noU rfl rfl rfl ?_) | (apply gQO; first | refine aQ ?_ | refine aQK rfl ?_))
    refine JO_callE Try.func52 Try.call56 rfl rfl fun A hA w hw => (Give_c 61 w hw).mono ?_
    rintro e w' (⟨h, rfl, hw'⟩ | ⟨_, rfl, hw'⟩)
    · exact absurd h (by decide)
    · refine .inr ⟨_, rfl, ?_⟩
      show resP _ _ _
      rw [if_pos h3]; exact ⟨rfl, infL_drop hw'⟩
  rw [if_neg h3]
  have h3' : (n : Int) + x = 65535 := by omega
  by_cases h4 : (lim : Int) - o.length < n
  · repeat (first | (apply gJO; refine JO_v (V_xor rfl rfl hxor rfl) ?_) | first | (apply gJO; first | (apply kS; refine aK ?_) | (apply kX; refine JO_box rfl rfl rfl ?_; intro _) | (apply kA; refine JO_alloc (tb := tb) rfl rfl ?_; intro _) | (apply kBs; refine JO_buildSlice (tb := tb) rfl rfl rfl rfl rfl rfl rfl rfl rfl ?_; intro _) | (apply kM; refine JO_make (tb := tb) rfl rfl rfl rfl rfl rfl (by omega) rfl ?_; intro _) | refine aO ?_) | (apply gJR; first | apply JR_un | apply JR_nil | refine JR_yes rfl rfl ?_ | refine JR_no rfl rfl rfl rfl ?_ | refine JR_noU rfl rfl rfl ?_) | (apply gJS; first | apply JS_seq | apply JS_region | apply JS_skip | apply JS_block | apply JS_inBlock | apply JS_label | refine JS_exit rfl ?_ | refine JS_condT rfl ?_ | refine JS_condF rfl ?_ | refine JS_draw [0] (by kernel_rfl) (by kernel_rfl) (by decide +kernel) ?_ | refine JS_draw [] (by kernel_rfl) (by kernel_rfl) (by decide +kernel) ?_ | refine JS_cond_T rfl (by omega) ?_ | refine JS_cond_F rfl (by omega) ?_) | (apply gQR; first | apply QR_un | apply QR_nil | refine QR_yes rfl rfl ?_ | refine QR_no rfl rfl rfl rfl ?_ | refine QR_noU rfl rfl rfl ?_) | (apply gQO; first | refine aQ ?_ | refine aQK rfl ?_))
    refine JO_callE Try.func52 Try.call56 rfl rfl fun A hA w hw => (Give_c 64 w hw).mono ?_
    rintro e w' (⟨h, rfl, hw'⟩ | ⟨_, rfl, hw'⟩)
    · exact absurd h (by decide)
    · refine .inr ⟨_, rfl, ?_⟩
      show resP _ _ _
      rw [if_pos h4]; exact ⟨rfl, infL_drop hw'⟩
  rw [if_neg h4]
  repeat (first | (apply gJO; refine JO_v (V_xor rfl rfl hxor rfl) ?_) | first | (apply gJO; first | (apply kS; refine aK ?_) | (apply kX; refine JO_box rfl rfl rfl ?_; intro _) | (apply kA; refine JO_alloc (tb := tb) rfl rfl ?_; intro _) | (apply kBs; refine JO_buildSlice (tb := tb) rfl rfl rfl rfl rfl rfl rfl rfl rfl ?_; intro _) | (apply kM; refine JO_make (tb := tb) rfl rfl rfl rfl rfl rfl (by omega) rfl ?_; intro _) | refine aO ?_) | (apply gJR; first | apply JR_un | apply JR_nil | refine JR_yes rfl rfl ?_ | refine JR_no rfl rfl rfl rfl ?_ | refine JR_noU rfl rfl rfl ?_) | (apply gJS; first | apply JS_seq | apply JS_region | apply JS_skip | apply JS_block | apply JS_inBlock | apply JS_label | refine JS_exit rfl ?_ | refine JS_condT rfl ?_ | refine JS_condF rfl ?_ | refine JS_draw [0] (by kernel_rfl) (by kernel_rfl) (by decide +kernel) ?_ | refine JS_draw [] (by kernel_rfl) (by kernel_rfl) (by decide +kernel) ?_ | refine JS_cond_T rfl (by omega) ?_ | refine JS_cond_F rfl (by omega) ?_) | (apply gQR; first | apply QR_un | apply QR_nil | refine QR_yes rfl rfl ?_ | refine QR_no rfl rfl rfl rfl ?_ | refine QR_noU rfl rfl rfl ?_) | (apply gQO; first | refine aQ ?_ | refine aQK rfl ?_))
  refine JO_call Try.call76 rfl rfl fun w hw => (Text_c br q d m B (vec_rd (by repeat (first | apply List.Mem.head | apply List.Mem.tail))) hK.hm hK.hB hK.hm1 (u + 16 + 16) n (by omega) (by omega) w hw).mono ?_
  rw [show u + 16 + 16 = u + 32 by omega, huu]
  rintro e w' (⟨h5, rfl, hw'⟩ | ⟨h5, p, c, rfl, hw'⟩)
  · refine ⟨_, rfl, _, hw', ?_⟩
    clear hw' hw w w'
    repeat (first | (apply gJO; first | (apply kS; refine aK ?_) | (apply kX; refine JO_box rfl rfl rfl ?_; intro _) | (apply kA; refine JO_alloc (tb := tb) rfl rfl ?_; intro _) | (apply kBs; refine JO_buildSlice (tb := tb) rfl rfl rfl rfl rfl rfl rfl rfl rfl ?_; intro _) | (apply kM; refine JO_make (tb := tb) rfl rfl rfl rfl rfl rfl (by omega) rfl ?_; intro _) | refine aO ?_) | (apply gJR; first | apply JR_un | apply JR_nil | refine JR_yes rfl rfl ?_ | refine JR_no rfl rfl rfl rfl ?_ | refine JR_noU rfl rfl rfl ?_) | (apply gJS; first | apply JS_seq | apply JS_region | apply JS_skip | apply JS_block | apply JS_inBlock | apply JS_label | refine JS_exit rfl ?_ | refine JS_condT rfl ?_ | refine JS_condF rfl ?_ | refine JS_draw [0] (by kernel_rfl) (by kernel_rfl) (by decide +kernel) ?_ | refine JS_draw [] (by kernel_rfl) (by kernel_rfl) (by decide +kernel) ?_ | refine JS_cond_T rfl (by omega) ?_ | refine JS_cond_F rfl (by omega) ?_) | (apply gQR; first | apply QR_un | apply QR_nil | refine QR_yes rfl rfl ?_ | refine QR_no rfl rfl rfl rfl ?_ | refine QR_noU rfl rfl rfl ?_) | (apply gQO; first | refine aQ ?_ | refine aQK rfl ?_))
    refine JO_callE Try.func52 Try.call56 rfl rfl fun A hA w hw => (Give_c 20 w hw).mono ?_
    rintro e w' (⟨h, rfl, hw'⟩ | ⟨_, rfl, hw'⟩)
    · exact absurd h (by decide)
    · refine .inr ⟨_, rfl, ?_⟩
      show resP _ _ _
      rw [if_pos (by omega)]; exact ⟨rfl, infL_drop hw'⟩
  refine ⟨_, rfl, _, hw', ?_⟩
  clear hw' hw w w'
  have hby := byts_eq B hK.hB ((u + 32) / 8) n (by rw [hK.hm]; omega)
  rw [show 8 * ((u + 32) / 8) = u + 32 by omega] at hby
  rw [← hby]
  rw [if_neg (by omega), Int.toNat_natCast]
  repeat (first | (apply gJO; first | (apply kS; refine aK ?_) | (apply kX; refine JO_box rfl rfl rfl ?_; intro _) | (apply kA; refine JO_alloc (tb := tb) rfl rfl ?_; intro _) | (apply kBs; refine JO_buildSlice (tb := tb) rfl rfl rfl rfl rfl rfl rfl rfl rfl ?_; intro _) | (apply kM; refine JO_make (tb := tb) rfl rfl rfl rfl rfl rfl (by omega) rfl ?_; intro _) | refine aO ?_) | (apply gJR; first | apply JR_un | apply JR_nil | refine JR_yes rfl rfl ?_ | refine JR_no rfl rfl rfl rfl ?_ | refine JR_noU rfl rfl rfl ?_) | (apply gJS; first | apply JS_seq | apply JS_region | apply JS_skip | apply JS_block | apply JS_inBlock | apply JS_label | refine JS_exit rfl ?_ | refine JS_condT rfl ?_ | refine JS_condF rfl ?_ | refine JS_draw [0] (by kernel_rfl) (by kernel_rfl) (by decide +kernel) ?_ | refine JS_draw [] (by kernel_rfl) (by kernel_rfl) (by decide +kernel) ?_ | refine JS_cond_T rfl (by omega) ?_ | refine JS_cond_F rfl (by omega) ?_) | (apply gQR; first | apply QR_un | apply QR_nil | refine QR_yes rfl rfl ?_ | refine QR_no rfl rfl rfl rfl ?_ | refine QR_noU rfl rfl rfl ?_) | (apply gQO; first | refine aQ ?_ | refine aQK rfl ?_))
  refine JO_callE Try.func52 Try.call56 rfl rfl fun A hA w hw => (Give_c 0 w hw).mono ?_
  rintro e w' (⟨_, rfl, hw'⟩ | ⟨h, rfl, hw'⟩)
  rotate_left
  · exact absurd rfl h
  refine .inl ⟨_, rfl, _, hw', ?_⟩
  clear hw' hw w w' hA A
  repeat (first | (apply gJO; first | (apply kS; refine aK ?_) | (apply kX; refine JO_box rfl rfl rfl ?_; intro _) | (apply kA; refine JO_alloc (tb := tb) rfl rfl ?_; intro _) | (apply kBs; refine JO_buildSlice (tb := tb) rfl rfl rfl rfl rfl rfl rfl rfl rfl ?_; intro _) | (apply kM; refine JO_make (tb := tb) rfl rfl rfl rfl rfl rfl (by omega) rfl ?_; intro _) | refine aO ?_) | (apply gJR; first | apply JR_un | apply JR_nil | refine JR_yes rfl rfl ?_ | refine JR_no rfl rfl rfl rfl ?_ | refine JR_noU rfl rfl rfl ?_) | (apply gJS; first | apply JS_seq | apply JS_region | apply JS_skip | apply JS_block | apply JS_inBlock | apply JS_label | refine JS_exit rfl ?_ | refine JS_condT rfl ?_ | refine JS_condF rfl ?_ | refine JS_draw [0] (by kernel_rfl) (by kernel_rfl) (by decide +kernel) ?_ | refine JS_draw [] (by kernel_rfl) (by kernel_rfl) (by decide +kernel) ?_ | refine JS_cond_T rfl (by omega) ?_ | refine JS_cond_F rfl (by omega) ?_) | (apply gQR; first | apply QR_un | apply QR_nil | refine QR_yes rfl rfl ?_ | refine QR_no rfl rfl rfl rfl ?_ | refine QR_noU rfl rfl rfl ?_) | (apply gQO; first | refine aQ ?_ | refine aQK rfl ?_))
  refine JO_callE Try.func52 Try.call77 rfl rfl fun A hA w hw => (Tell_c hK (u + 32 + 8 * n) p c n _ (vec_rd (List.Mem.head _)) (byts_len _ _ _) ho (by omega) w (infL_in hw)).mono ?_
  rintro e w' (⟨h, rfl, hw'⟩ | ⟨_, rfl, p', c', hw'⟩)
  · exact absurd h h4
  refine .inl ⟨_, rfl, _, hw', ?_⟩
  clear hw' hw w w' hA A
  repeat (first | (apply gJO; first | (apply kS; refine aK ?_) | (apply kX; refine JO_box rfl rfl rfl ?_; intro _) | (apply kA; refine JO_alloc (tb := tb) rfl rfl ?_; intro _) | (apply kBs; refine JO_buildSlice (tb := tb) rfl rfl rfl rfl rfl rfl rfl rfl rfl ?_; intro _) | (apply kM; refine JO_make (tb := tb) rfl rfl rfl rfl rfl rfl (by omega) rfl ?_; intro _) | refine aO ?_) | (apply gJR; first | apply JR_un | apply JR_nil | refine JR_yes rfl rfl ?_ | refine JR_no rfl rfl rfl rfl ?_ | refine JR_noU rfl rfl rfl ?_) | (apply gJS; first | apply JS_seq | apply JS_region | apply JS_skip | apply JS_block | apply JS_inBlock | apply JS_label | refine JS_exit rfl ?_ | refine JS_condT rfl ?_ | refine JS_condF rfl ?_ | refine JS_draw [0] (by kernel_rfl) (by kernel_rfl) (by decide +kernel) ?_ | refine JS_draw [] (by kernel_rfl) (by kernel_rfl) (by decide +kernel) ?_ | refine JS_cond_T rfl (by omega) ?_ | refine JS_cond_F rfl (by omega) ?_) | (apply gQR; first | apply QR_un | apply QR_nil | refine QR_yes rfl rfl ?_ | refine QR_no rfl rfl rfl rfl ?_ | refine QR_noU rfl rfl rfl ?_) | (apply gQO; first | refine aQ ?_ | refine aQK rfl ?_))
  refine JS_fin Try.func52 rfl rfl ?_
  intro w hw
  refine ⟨h5, ?_, rfl, p', c', infL_out hw⟩
  rw [List.length_append, byts_len]; omega
theorem MakeS_c (p : Option Addr) (c m : Nat) (B : List Int) (hr : Rd w0 H (.slice p m c) m (ints .u8 B)) (hm : B.length = m) (hB : OKB B) (hm1 : m ≤ 140737488355328) (hpm : p = none → m = 0) (w : World) (hw : St w0 H w) :
    Calls Try.prog 64 #[.slice p m c] w fun e w' => ∃ u r, e = .returned (.tuple #[u, .int .i64 r]) ∧
      ((BADL B r ∧ u = .pointer none ∧ St w0 H w') ∨ (OKL B ∧ r = 0 ∧ ∃ b a1 a2 a3, u = .pointer (some ⟨b, 0, none⟩) ∧ IsSet w0 [a1, a2, a3] b B ∧ St w0 (a1 :: a2 :: a3 :: H) w')) := by
  refine (Make_c p c m B hr hm hB hm1 hpm w hw).mono ?_
  rintro e w' ⟨u, r, rfl, h⟩
  refine ⟨u, r, rfl, ?_⟩
  subst hm
  rcases h with ⟨h1, rfl, rfl, h2⟩ | ⟨h1, h15, h2, rfl, rfl, h3⟩ | ⟨h1, h15, h2, rfl, b, q, d, s, k, rfl, h3⟩
  · exact .inl ⟨.inl ⟨h1, rfl⟩, rfl, h2⟩
  · exact .inl ⟨.inr ⟨h1, h15, fun h => h2 ((fine_iff B hB h15).2 h), rfl⟩, rfl, h3⟩
  · refine .inr ⟨⟨h1, h15, (fine_iff B hB h15).1 h2⟩, rfl, b, _, _, _, rfl, ⟨⟨q, d, s, k, (by repeat (first | apply List.Mem.head | apply List.Mem.tail)), vec_rd (by repeat (first | apply List.Mem.head | apply List.Mem.tail)), vec_rd (by repeat (first | apply List.Mem.head | apply List.Mem.tail))⟩, hB, ⟨h1, h15, (fine_iff B hB h15).1 h2⟩⟩, h3⟩
/-- a set is made -/
theorem Made_c (p : Option Addr) (c n : Nat) (L : List Int) (hr : Rd w0 H (.slice p n c) n (ints .u8 L)) (hL : L.length = n) (hB : OKB L) (hn : n ≤ 140737488355328) (w : World) (hw : St w0 H w) :
    Calls Try.prog 79 #[.slice p n c] w fun e w' => (¬ OKL L ∧ e = .panicked (FLT 62) ∧ St w0 H w') ∨ (OKL L ∧ ∃ b a1 a2 a3, e = .returned (.pointer (some ⟨b, 0, none⟩)) ∧ IsSet w0 [a1, a2, a3] b L ∧ St w0 (a1 :: a2 :: a3 :: H) w') := by
  refine enter (vs := [.slice p n c]) Try.func79 rfl rfl rfl hw ?_
  repeat (first | (apply gJO; first | (apply kS; refine aK ?_) | (apply kX; refine JO_box rfl rfl rfl ?_; intro _) | (apply kA; refine JO_alloc (tb := tb) rfl rfl ?_; intro _) | (apply kBs; refine JO_buildSlice (tb := tb) rfl rfl rfl rfl rfl rfl rfl rfl rfl ?_; intro _) | (apply kM; refine JO_make (tb := tb) rfl rfl rfl rfl rfl rfl (by omega) rfl ?_; intro _) | refine aO ?_) | (apply gJR; first | apply JR_un | apply JR_nil | refine JR_yes rfl rfl ?_ | refine JR_no rfl rfl rfl rfl ?_ | refine JR_noU rfl rfl rfl ?_) | (apply gJS; first | apply JS_seq | apply JS_region | apply JS_skip | apply JS_block | apply JS_inBlock | apply JS_label | refine JS_exit rfl ?_ | refine JS_condT rfl ?_ | refine JS_condF rfl ?_ | refine JS_draw [0] (by kernel_rfl) (by kernel_rfl) (by decide +kernel) ?_ | refine JS_draw [] (by kernel_rfl) (by kernel_rfl) (by decide +kernel) ?_ | refine JS_cond_T rfl (by omega) ?_ | refine JS_cond_F rfl (by omega) ?_) | (apply gQR; first | apply QR_un | apply QR_nil | refine QR_yes rfl rfl ?_ | refine QR_no rfl rfl rfl rfl ?_ | refine QR_noU rfl rfl rfl ?_) | (apply gQO; first | refine aQ ?_ | refine aQK rfl ?_))
  refine JO_call Try.call64 rfl rfl fun w hw => (MakeS_c p c n L hr hL hB hn (hr.nil hw) w hw).mono ?_
  rintro e w' ⟨u, r, rfl, h⟩
  rcases h with ⟨hbad, rfl, hw'⟩ | ⟨hok, rfl, b, a1, a2, a3, rfl, hs, hw'⟩
  · refine ⟨_, rfl, _, hw', ?_⟩
    clear hw' hw w w'
    have hr0 := hbad.pos
    repeat (first | (apply gJO; first | (apply kS; refine aK ?_) | (apply kX; refine JO_box rfl rfl rfl ?_; intro _) | (apply kA; refine JO_alloc (tb := tb) rfl rfl ?_; intro _) | (apply kBs; refine JO_buildSlice (tb := tb) rfl rfl rfl rfl rfl rfl rfl rfl rfl ?_; intro _) | (apply kM; refine JO_make (tb := tb) rfl rfl rfl rfl rfl rfl (by omega) rfl ?_; intro _) | refine aO ?_) | (apply gJR; first | apply JR_un | apply JR_nil | refine JR_yes rfl rfl ?_ | refine JR_no rfl rfl rfl rfl ?_ | refine JR_noU rfl rfl rfl ?_) | (apply gJS; first | apply JS_seq | apply JS_region | apply JS_skip | apply JS_block | apply JS_inBlock | apply JS_label | refine JS_exit rfl ?_ | refine JS_condT rfl ?_ | refine JS_condF rfl ?_ | refine JS_draw [0] (by kernel_rfl) (by kernel_rfl) (by decide +kernel) ?_ | refine JS_draw [] (by kernel_rfl) (by kernel_rfl) (by decide +kernel) ?_ | refine JS_cond_T rfl (by omega) ?_ | refine JS_cond_F rfl (by omega) ?_) | (apply gQR; first | apply QR_un | apply QR_nil | refine QR_yes rfl rfl ?_ | refine QR_no rfl rfl rfl rfl ?_ | refine QR_noU rfl rfl rfl ?_) | (apply gQO; first | refine aQ ?_ | refine aQK rfl ?_))
    refine JO_callE Try.func79 Try.call56 rfl rfl fun A hA w hw => (Give_c 62 w hw).mono ?_
    rintro e w' (⟨h, rfl, hw'⟩ | ⟨_, rfl, hw'⟩)
    · exact absurd h (by decide)
    · exact .inr ⟨_, rfl, .inl ⟨hbad.not, rfl, hw'⟩⟩
  · refine ⟨_, rfl, _, hw', ?_⟩
    clear hw' hw w w'
    repeat (first | (apply gJO; first | (apply kS; refine aK ?_) | (apply kX; refine JO_box rfl rfl rfl ?_; intro _) | (apply kA; refine JO_alloc (tb := tb) rfl rfl ?_; intro _) | (apply kBs; refine JO_buildSlice (tb := tb) rfl rfl rfl rfl rfl rfl rfl rfl rfl ?_; intro _) | (apply kM; refine JO_make (tb := tb) rfl rfl rfl rfl rfl rfl (by omega) rfl ?_; intro _) | refine aO ?_) | (apply gJR; first | apply JR_un | apply JR_nil | refine JR_yes rfl rfl ?_ | refine JR_no rfl rfl rfl rfl ?_ | refine JR_noU rfl rfl rfl ?_) | (apply gJS; first | apply JS_seq | apply JS_region | apply JS_skip | apply JS_block | apply JS_inBlock | apply JS_label | refine JS_exit rfl ?_ | refine JS_condT rfl ?_ | refine JS_condF rfl ?_ | refine JS_draw [0] (by kernel_rfl) (by kernel_rfl) (by decide +kernel) ?_ | refine JS_draw [] (by kernel_rfl) (by kernel_rfl) (by decide +kernel) ?_ | refine JS_cond_T rfl (by omega) ?_ | refine JS_cond_F rfl (by omega) ?_) | (apply gQR; first | apply QR_un | apply QR_nil | refine QR_yes rfl rfl ?_ | refine QR_no rfl rfl rfl rfl ?_ | refine QR_noU rfl rfl rfl ?_) | (apply gQO; first | refine aQ ?_ | refine aQK rfl ?_))
    refine JS_ret Try.func79 rfl rfl ?_
    intro w hw
    exact .inr ⟨hok, b, a1, a2, a3, rfl, hs, hw⟩
set_option maxRecDepth 10000 in
set_option maxHeartbeats 4000000 in
/-- bytes from so far back, again -/
theorem Again_c (hK : InfK m B lim) (a len bk : Nat) (hbk : 0 < bk) (ho : o.length ≤ lim) (hlen : len ≤ 1000) (hbk2 : bk ≤ 100000) (w : World) (hw : St w0 (infL bf br q d m B lim a po co o H) w) :
    Calls Try.prog 96 #[.pointer (some ⟨bf, 0, none⟩), .int .i64 len, .int .i64 bk] w fun e w' => (o.length < bk ∧ e = .panicked (FLT 63) ∧ St w0 H w') ∨ (bk ≤ o.length ∧ (lim : Int) - o.length < len ∧ e = .panicked (FLT 64) ∧ St w0 H w') ∨
      (bk ≤ o.length ∧ ¬ (lim : Int) - o.length < len ∧ e = .returned (.tuple #[]) ∧ ∃ po co, St w0 (infL bf br q d m B lim a po co (cpy o bk len) H) w') := by
  have hl := hK.hl
  refine enter (vs := [.pointer (some ⟨bf, 0, none⟩), .int .i64 len, .int .i64 bk]) Try.func96 rfl rfl rfl hw ?_
  by_cases h1 : o.length < bk
  · repeat (first | (apply gJO; first | (apply kS; refine aK ?_) | (apply kX; refine JO_box rfl rfl rfl ?_; intro _) | (apply kA; refine JO_alloc (tb := tb) rfl rfl ?_; intro _) | (apply kBs; refine JO_buildSlice (tb := tb) rfl rfl rfl rfl rfl rfl rfl rfl rfl ?_; intro _) | (apply kM; refine JO_make (tb := tb) rfl rfl rfl rfl rfl rfl (by omega) rfl ?_; intro _) | refine aO ?_) | (apply gJR; first | apply JR_un | apply JR_nil | refine JR_yes rfl rfl ?_ | refine JR_no rfl rfl rfl rfl ?_ | refine JR_noU rfl rfl rfl ?_) | (apply gJS; first | apply JS_seq | apply JS_region | apply JS_skip | apply JS_block | apply JS_inBlock | apply JS_label | refine JS_exit rfl ?_ | refine JS_condT rfl ?_ | refine JS_condF rfl ?_ | refine JS_draw [0] (by kernel_rfl) (by kernel_rfl) (by decide +kernel) ?_ | refine JS_draw [] (by kernel_rfl) (by kernel_rfl) (by decide +kernel) ?_ | refine JS_cond_T rfl (by omega) ?_ | refine JS_cond_F rfl (by omega) ?_) | (apply gQR; first | apply QR_un | apply QR_nil | refine QR_yes rfl rfl ?_ | refine QR_no rfl rfl rfl rfl ?_ | refine QR_noU rfl rfl rfl ?_) | (apply gQO; first | refine aQ ?_ | refine aQK rfl ?_))
    refine JO_callE Try.func96 Try.call56 rfl rfl fun A hA w hw => (Give_c 63 w hw).mono ?_
    rintro e w' (⟨h, rfl, hw'⟩ | ⟨_, rfl, hw'⟩)
    · exact absurd h (by decide)
    · exact .inr ⟨_, rfl, .inl ⟨h1, rfl, infL_drop hw'⟩⟩
  by_cases h2 : (lim : Int) - o.length < len
  · repeat (first | (apply gJO; first | (apply kS; refine aK ?_) | (apply kX; refine JO_box rfl rfl rfl ?_; intro _) | (apply kA; refine JO_alloc (tb := tb) rfl rfl ?_; intro _) | (apply kBs; refine JO_buildSlice (tb := tb) rfl rfl rfl rfl rfl rfl rfl rfl rfl ?_; intro _) | (apply kM; refine JO_make (tb := tb) rfl rfl rfl rfl rfl rfl (by omega) rfl ?_; intro _) | refine aO ?_) | (apply gJR; first | apply JR_un | apply JR_nil | refine JR_yes rfl rfl ?_ | refine JR_no rfl rfl rfl rfl ?_ | refine JR_noU rfl rfl rfl ?_) | (apply gJS; first | apply JS_seq | apply JS_region | apply JS_skip | apply JS_block | apply JS_inBlock | apply JS_label | refine JS_exit rfl ?_ | refine JS_condT rfl ?_ | refine JS_condF rfl ?_ | refine JS_draw [0] (by kernel_rfl) (by kernel_rfl) (by decide +kernel) ?_ | refine JS_draw [] (by kernel_rfl) (by kernel_rfl) (by decide +kernel) ?_ | refine JS_cond_T rfl (by omega) ?_ | refine JS_cond_F rfl (by omega) ?_) | (apply gQR; first | apply QR_un | apply QR_nil | refine QR_yes rfl rfl ?_ | refine QR_no rfl rfl rfl rfl ?_ | refine QR_noU rfl rfl rfl ?_) | (apply gQO; first | refine aQ ?_ | refine aQK rfl ?_))
    refine JO_callE Try.func96 Try.call56 rfl rfl fun A hA w hw => (Give_c 64 w hw).mono ?_
    rintro e w' (⟨h, rfl, hw'⟩ | ⟨_, rfl, hw'⟩)
    · exact absurd h (by decide)
    · exact .inr ⟨_, rfl, .inr (.inl ⟨by omega, h2, rfl, infL_drop hw'⟩)⟩
  repeat (first | (apply gJR; first | (apply gJO; first | (apply kS; refine aK ?_) | (apply kX; refine JO_box rfl rfl rfl ?_; intro _) | (apply kA; refine JO_alloc (tb := tb) rfl rfl ?_; intro _) | (apply kBs; refine JO_buildSlice (tb := tb) rfl rfl rfl rfl rfl rfl rfl rfl rfl ?_; intro _) | (apply kM; refine JO_make (tb := tb) rfl rfl rfl rfl rfl rfl (by omega) rfl ?_; intro _) | refine aO ?_) | (apply gJR; first | apply JR_un | apply JR_nil | refine JR_yes rfl rfl ?_ | refine JR_no rfl rfl rfl rfl ?_ | refine JR_noU rfl rfl rfl ?_) | (apply gJS; first | apply JS_seq | apply JS_region | apply JS_skip | apply JS_block | apply JS_inBlock | apply JS_label | refine JS_exit rfl ?_ | refine JS_condT rfl ?_ | refine JS_condF rfl ?_ | refine JS_draw [0] (by kernel_rfl) (by kernel_rfl) (by decide +kernel) ?_ | refine JS_draw [] (by kernel_rfl) (by kernel_rfl) (by decide +kernel) ?_ | refine JS_cond_T rfl (by omega) ?_ | refine JS_cond_F rfl (by omega) ?_) | (apply gQR; first | apply QR_un | apply QR_nil | refine QR_yes rfl rfl ?_ | refine QR_no rfl rfl rfl rfl ?_ | refine QR_noU rfl rfl rfl ?_) | (apply gQO; first | refine aQ ?_ | refine aQK rfl ?_)) | (apply gJO; first | (apply gJO; first | (apply kS; refine aK ?_) | (apply kX; refine JO_box rfl rfl rfl ?_; intro _) | (apply kA; refine JO_alloc (tb := tb) rfl rfl ?_; intro _) | (apply kBs; refine JO_buildSlice (tb := tb) rfl rfl rfl rfl rfl rfl rfl rfl rfl ?_; intro _) | (apply kM; refine JO_make (tb := tb) rfl rfl rfl rfl rfl rfl (by omega) rfl ?_; intro _) | refine aO ?_) | (apply gJR; first | apply JR_un | apply JR_nil | refine JR_yes rfl rfl ?_ | refine JR_no rfl rfl rfl rfl ?_ | refine JR_noU rfl rfl rfl ?_) | (apply gJS; first | apply JS_seq | apply JS_region | apply JS_skip | apply JS_block | apply JS_inBlock | apply JS_label | refine JS_exit rfl ?_ | refine JS_condT rfl ?_ | refine JS_condF rfl ?_ | refine JS_draw [0] (by kernel_rfl) (by kernel_rfl) (by decide +kernel) ?_ | refine JS_draw [] (by kernel_rfl) (by kernel_rfl) (by decide +kernel) ?_ | refine JS_cond_T rfl (by omega) ?_ | refine JS_cond_F rfl (by omega) ?_) | (apply gQR; first | apply QR_un | apply QR_nil | refine QR_yes rfl rfl ?_ | refine QR_no rfl rfl rfl rfl ?_ | refine QR_noU rfl rfl rfl ?_) | (apply gQO; first | refine aQ ?_ | refine aQK rfl ?_)) | (apply gQR; first | (apply gJO; first | (apply kS; refine aK ?_) | (apply kX; refine JO_box rfl rfl rfl ?_; intro _) | (apply kA; refine JO_alloc (tb := tb) rfl rfl ?_; intro _) | (apply kBs; refine JO_buildSlice (tb := tb) rfl rfl rfl rfl rfl rfl rfl rfl rfl ?_; intro _) | (apply kM; refine JO_make (tb := tb) rfl rfl rfl rfl rfl rfl (by omega) rfl ?_; intro _) | refine aO ?_) | (apply gJR; first | apply JR_un | apply JR_nil | refine JR_yes rfl rfl ?_ | refine JR_no rfl rfl rfl rfl ?_ | refine JR_noU rfl rfl rfl ?_) | (apply gJS; first | apply JS_seq | apply JS_region | apply JS_skip | apply JS_block | apply JS_inBlock | apply JS_label | refine JS_exit rfl ?_ | refine JS_condT rfl ?_ | refine JS_condF rfl ?_ | refine JS_draw [0] (by kernel_rfl) (by kernel_rfl) (by decide +kernel) ?_ | refine JS_draw [] (by kernel_rfl) (by kernel_rfl) (by decide +kernel) ?_ | refine JS_cond_T rfl (by omega) ?_ | refine JS_cond_F rfl (by omega) ?_) | (apply gQR; first | apply QR_un | apply QR_nil | refine QR_yes rfl rfl ?_ | refine QR_no rfl rfl rfl rfl ?_ | refine QR_noU rfl rfl rfl ?_) | (apply gQO; first | refine aQ ?_ | refine aQK rfl ?_)) | (apply gQO; first | (apply gJO; first | (apply kS; refine aK ?_) | (apply kX; refine JO_box rfl rfl rfl ?_; intro _) | (apply kA; refine JO_alloc (tb := tb) rfl rfl ?_; intro _) | (apply kBs; refine JO_buildSlice (tb := tb) rfl rfl rfl rfl rfl rfl rfl rfl rfl ?_; intro _) | (apply kM; refine JO_make (tb := tb) rfl rfl rfl rfl rfl rfl (by omega) rfl ?_; intro _) | refine aO ?_) | (apply gJR; first | apply JR_un | apply JR_nil | refine JR_yes rfl rfl ?_ | refine JR_no rfl rfl rfl rfl ?_ | refine JR_noU rfl rfl rfl ?_) | (apply gJS; first | apply JS_seq | apply JS_region | apply JS_skip | apply JS_block | apply JS_inBlock | apply JS_label | refine JS_exit rfl ?_ | refine JS_condT rfl ?_ | refine JS_condF rfl ?_ | refine JS_draw [0] (by kernel_rfl) (by kernel_rfl) (by decide +kernel) ?_ | refine JS_draw [] (by kernel_rfl) (by kernel_rfl) (by decide +kernel) ?_ | refine JS_cond_T rfl (by omega) ?_ | refine JS_cond_F rfl (by omega) ?_) | (apply gQR; first | apply QR_un | apply QR_nil | refine QR_yes rfl rfl ?_ | refine QR_no rfl rfl rfl rfl ?_ | refine QR_noU rfl rfl rfl ?_) | (apply gQO; first | refine aQ ?_ | refine aQK rfl ?_)) | apply JS_seq | apply JS_region | refine JS_draw [] (by kernel_rfl) (by kernel_rfl) (by decide +kernel) ?_ | refine JS_condF rfl ?_ | refine JS_cond_F rfl (by omega) ?_ | apply JS_skip)
  refine JS_block ?_
  refine JS_loop3 (fun (i : Nat) (p : Option Addr) (c : Nat) => [(0, .pointer (some ⟨bf, 0, none⟩)), (2, .int .i64 bk), (27, .int .i64 len), (28, .int .i64 i)]) (fun i p c => infL bf br q d m B lim a p c (cpy o bk i) H)
    (fun i _ _ => i ≤ len) (fun i _ _ => len - i) 0 po co (Nat.zero_le _) (by repeat (first | exact trivial | refine ⟨rfl, ?_⟩ | refine ⟨lookI rfl (by omega), ?_⟩)) (fun _ h => h) ?_
  intro i p c hi again
  have hcl := cpy_len o bk i
  by_cases hil : i < len
  · have hcs : cpy o bk (i + 1) = cpy o bk i ++ [(cpy o bk i).getD ((cpy o bk i).length - bk) 0] := rfl
    generalize cpy o bk i = L at *
    have gi : (ints .u8 L)[L.length - bk]? = some (.int .u8 (L.getD (L.length - bk) 0)) := ints_get (by omega)
    generalize L.getD (L.length - bk) 0 = x at *
    repeat (first | (apply gQO; first | refine QO_v rfl (V_index (tb := tb) (j := L.length - bk) rfl rfl rfl rfl (Rd.sl (vec_rd (by repeat (first | apply List.Mem.head | apply List.Mem.tail)))) (by omega) (by omega) rfl) ?_ | refine QO_v rfl (V_loadC (tb := tb) rfl (vec_rd (by repeat (first | apply List.Mem.head | apply List.Mem.tail))) rfl rfl gi rfl) ?_ | (refine QO_e (E_buildSlice (tb := tb) rfl rfl rfl rfl rfl rfl rfl rfl rfl) rfl (.inr fun _ _ hw => St.sub (by repeat (first | exact List.Sublist.refl _ | apply List.Sublist.cons_cons | apply List.Sublist.cons)) hw) ?_; intro _) | (refine QO_e (E_appendB (tb := tb) rfl rfl rfl rfl rfl rfl (by repeat (first | exact Sel.here _ _ | apply Sel.there)) (by first | exact vec_rd (by repeat (first | apply List.Mem.head | apply List.Mem.tail)) | assumption | exact ArgRd.rd (by assumption) _ | (apply Rd_weak; assumption; intro _ hx; exact St.sub (by repeat (first | exact List.Sublist.refl _ | apply List.Sublist.cons_cons | apply List.Sublist.cons)) hx)) (by simp only [ints_len, List.length_cons, List.length_nil]; first | omega | rfl) (by first | exact ints_one | (repeat (first | exact trivial | refine ⟨rfl, ?_⟩))) (by omega) (by omega) rfl) rfl (.inr fun _ _ hw => vecB_back (by repeat (first | exact Sel.here _ _ | apply Sel.there)) hw) ?_; intro _)) | (first | (apply gJO; first | (apply kS; refine aK ?_) | (apply kX; refine JO_box rfl rfl rfl ?_; intro _) | (apply kA; refine JO_alloc (tb := tb) rfl rfl ?_; intro _) | (apply kBs; refine JO_buildSlice (tb := tb) rfl rfl rfl rfl rfl rfl rfl rfl rfl ?_; intro _) | (apply kM; refine JO_make (tb := tb) rfl rfl rfl rfl rfl rfl (by omega) rfl ?_; intro _) | refine aO ?_) | (apply gJR; first | apply JR_un | apply JR_nil | refine JR_yes rfl rfl ?_ | refine JR_no rfl rfl rfl rfl ?_ | refine JR_noU rfl rfl rfl ?_) | (apply gJS; first | apply JS_seq | apply JS_region | apply JS_skip | apply JS_block | apply JS_inBlock | apply JS_label | refine JS_exit rfl ?_ | refine JS_condT rfl ?_ | refine JS_condF rfl ?_ | refine JS_draw [0] (by kernel_rfl) (by kernel_rfl) (by decide +kernel) ?_ | refine JS_draw [] (by kernel_rfl) (by kernel_rfl) (by decide +kernel) ?_ | refine JS_cond_T rfl (by omega) ?_ | refine JS_cond_F rfl (by omega) ?_) | (apply gQR; first | apply QR_un | apply QR_nil | refine QR_yes rfl rfl ?_ | refine QR_no rfl rfl rfl rfl ?_ | refine QR_noU rfl rfl rfl ?_) | (apply gQO; first | refine aQ ?_ | refine aQK rfl ?_)))
    rename_i p1 c1
    exact JS_again3 again (i + 1) c1.1 c1.2 (by omega) (by omega) (by exact ⟨rfl, rfl, rfl, rfl, trivial⟩) (fun w hw => by rw [hcs]; unfold infL; rw [show (L ++ [x]).length = L.length + 1 by simp, ← ints_app1]; have g := vecB_fwd (by repeat (first | exact Sel.here _ _ | apply Sel.there)) hw; exact St.sub (by repeat (first | exact List.Sublist.refl _ | apply List.Sublist.cons_cons | apply List.Sublist.cons)) g)
  · obtain rfl : i = len := by omega
    clear again
    repeat (first | (apply gJO; first | (apply kS; refine aK ?_) | (apply kX; refine JO_box rfl rfl rfl ?_; intro _) | (apply kA; refine JO_alloc (tb := tb) rfl rfl ?_; intro _) | (apply kBs; refine JO_buildSlice (tb := tb) rfl rfl rfl rfl rfl rfl rfl rfl rfl ?_; intro _) | (apply kM; refine JO_make (tb := tb) rfl rfl rfl rfl rfl rfl (by omega) rfl ?_; intro _) | refine aO ?_) | (apply gJR; first | apply JR_un | apply JR_nil | refine JR_yes rfl rfl ?_ | refine JR_no rfl rfl rfl rfl ?_ | refine JR_noU rfl rfl rfl ?_) | (apply gJS; first | apply JS_seq | apply JS_region | apply JS_skip | apply JS_block | apply JS_inBlock | apply JS_label | refine JS_exit rfl ?_ | refine JS_condT rfl ?_ | refine JS_condF rfl ?_ | refine JS_draw [0] (by kernel_rfl) (by kernel_rfl) (by decide +kernel) ?_ | refine JS_draw [] (by kernel_rfl) (by kernel_rfl) (by decide +kernel) ?_ | refine JS_cond_T rfl (by omega) ?_ | refine JS_cond_F rfl (by omega) ?_) | (apply gQR; first | apply QR_un | apply QR_nil | refine QR_yes rfl rfl ?_ | refine QR_no rfl rfl rfl rfl ?_ | refine QR_noU rfl rfl rfl ?_) | (apply gQO; first | refine aQ ?_ | refine aQK rfl ?_))
    refine JS_fin Try.func96 rfl rfl ?_
    intro w hw
    exact .inr (.inr ⟨by omega, h2, rfl, p, c, hw⟩)
end
end Go.Proofs.Ytakgoflfcgofdaa

namespace Go.Proofs.Ytakgoflfcgofdaa
open Sx Go
set_option linter.unusedVariables false
set_option linter.unusedSimpArgs false
attribute [local irreducible] syA fc tk cds pack bms
set_option maxHeartbeats 2000000 in
/-- a literal's or length's symbol -/
theorem WLit_c {w0 : World} {H : List Asn} (b : Nat) (L : List Int) (q : Option Addr) (d : Nat) (u : Value) (u' : Value) (p1 p3 : Option Addr) (c1 c3 m1 : Nat) (B A : List Int) (hrB : Rd w0 H (.slice p1 m1 c1) m1 (ints .u8 B)) (hrA : Rd w0 H (.slice p3 m1 c3) m1 (ints .u32 A)) (hB : B.length = m1) (hA : A.length = m1)
    (k x : Nat) (hk : k < m1) (hx : B.getD k 0 = x) (hx15 : x ≤ 15) (hAk : 0 ≤ A.getD k 0 ∧ A.getD k 0 < 2 ^ x) (hL : ∀ j, L.getD j 0 = 0 ∨ L.getD j 0 = 1) (hl : L.length ≤ 70368744177600) (w : World)
    (hw : St w0 (wtA b L q d [.slice p1 m1 c1, u, .slice p3 m1 c3, u'] :: wrV L q d :: H) w) :
    Calls Try.prog 38 #[.pointer (some ⟨b, 0, none⟩), .int .i64 k] w fun e w' => e = .returned (.tuple #[]) ∧ ∃ q d, St w0 (wtA b (L ++ bms (A.getD k 0) x) q d [.slice p1 m1 c1, u, .slice p3 m1 c3, u'] :: wrV (L ++ bms (A.getD k 0) x) q d :: H) w' := by
  refine enter (vs := [.pointer (some ⟨b, 0, none⟩), .int .i64 k]) Try.func38 rfl rfl rfl hw ?_
  have gB : (ints .u8 B)[k]? = some (.int .u8 x) := by rw [← hx]; exact ints_get (by omega)
  have gA : (ints .u32 A)[k]? = some (.int .u32 (A.getD k 0)) := ints_get (by omega)
  have hrB' : Rd w0 (wtA b L q d [.slice p1 m1 c1, u, .slice p3 m1 c3, u'] :: wrV L q d :: H) (.slice p1 m1 c1) m1 (ints .u8 B) := Rd_weak hrB fun w hw => St.sub (by repeat (first | exact List.Sublist.refl _ | apply List.Sublist.cons_cons | apply List.Sublist.cons)) hw
  have hrA' : Rd w0 (wtA b L q d [.slice p1 m1 c1, u, .slice p3 m1 c3, u'] :: wrV L q d :: H) (.slice p3 m1 c3) m1 (ints .u32 A) := Rd_weak hrA fun w hw => St.sub (by repeat (first | exact List.Sublist.refl _ | apply List.Sublist.cons_cons | apply List.Sublist.cons)) hw
  have hpw : (2 : Int) ^ x ≤ 32768 := by
    have h : ∀ k : Fin 16, (2 : Int) ^ k.val ≤ 32768 := by decide
    exact h ⟨x, by omega⟩
  repeat (first | (apply gQO; refine QO_v rfl (V_loadC (tb := tb) rfl hrB' rfl rfl gB rfl) ?_) | (apply gQO; refine QO_v rfl (V_loadC (tb := tb) rfl hrA' rfl rfl gA rfl) ?_) | (first | (apply gJO; first | (apply kS; refine aK ?_) | (apply kX; refine JO_box rfl rfl rfl ?_; intro _) | (apply kA; refine JO_alloc (tb := tb) rfl rfl ?_; intro _) | (apply kBs; refine JO_buildSlice (tb := tb) rfl rfl rfl rfl rfl rfl rfl rfl rfl ?_; intro _) | (apply kM; refine JO_make (tb := tb) rfl rfl rfl rfl rfl rfl (by omega) rfl ?_; intro _) | refine aO ?_) | (apply gJR; first | apply JR_un | apply JR_nil | refine JR_yes rfl rfl ?_ | refine JR_no rfl rfl rfl rfl ?_ | refine JR_noU rfl rfl rfl ?_) | (apply gJS; first | apply JS_seq | apply JS_region | apply JS_skip | apply JS_block | apply JS_inBlock | apply JS_label | refine JS_exit rfl ?_ | refine JS_condT rfl ?_ | refine JS_condF rfl ?_ | refine JS_draw [0] (by kernel_rfl) (by kernel_rfl) (by decide +kernel) ?_ | refine JS_draw [] (by kernel_rfl) (by kernel_rfl) (by decide +kernel) ?_ | refine JS_cond_T rfl (by omega) ?_ | refine JS_cond_F rfl (by omega) ?_) | (apply gQR; first | apply QR_un | apply QR_nil | refine QR_yes rfl rfl ?_ | refine QR_no rfl rfl rfl rfl ?_ | refine QR_noU rfl rfl rfl ?_) | (apply gQO; first | refine aQ ?_ | refine aQK rfl ?_)))
  refine QO_call Try.call71 rfl rfl fun w hw => (WCodeT_c b L q d (A.getD k 0) x (by omega) hAk (by omega) hL hl w hw).mono ?_
  rintro e w' ⟨rfl, q2, d2, hw'⟩
  refine ⟨_, rfl, _, hw', .inr rfl, ?_⟩
  clear hw' hw w w'
  repeat (first | (apply gJO; first | (apply kS; refine aK ?_) | (apply kX; refine JO_box rfl rfl rfl ?_; intro _) | (apply kA; refine JO_alloc (tb := tb) rfl rfl ?_; intro _) | (apply kBs; refine JO_buildSlice (tb := tb) rfl rfl rfl rfl rfl rfl rfl rfl rfl ?_; intro _) | (apply kM; refine JO_make (tb := tb) rfl rfl rfl rfl rfl rfl (by omega) rfl ?_; intro _) | refine aO ?_) | (apply gJR; first | apply JR_un | apply JR_nil | refine JR_yes rfl rfl ?_ | refine JR_no rfl rfl rfl rfl ?_ | refine JR_noU rfl rfl rfl ?_) | (apply gJS; first | apply JS_seq | apply JS_region | apply JS_skip | apply JS_block | apply JS_inBlock | apply JS_label | refine JS_exit rfl ?_ | refine JS_condT rfl ?_ | refine JS_condF rfl ?_ | refine JS_draw [0] (by kernel_rfl) (by kernel_rfl) (by decide +kernel) ?_ | refine JS_draw [] (by kernel_rfl) (by kernel_rfl) (by decide +kernel) ?_ | refine JS_cond_T rfl (by omega) ?_ | refine JS_cond_F rfl (by omega) ?_) | (apply gQR; first | apply QR_un | apply QR_nil | refine QR_yes rfl rfl ?_ | refine QR_no rfl rfl rfl rfl ?_ | refine QR_noU rfl rfl rfl ?_) | (apply gQO; first | refine aQ ?_ | refine aQK rfl ?_))
  refine JS_fin Try.func38 rfl rfl (vs := []) ?_
  intro w hw
  exact ⟨rfl, q2, d2, hw⟩
set_option maxHeartbeats 2000000 in
/-- a span's symbol -/
theorem WSpan_c {w0 : World} {H : List Asn} (b : Nat) (L : List Int) (q : Option Addr) (d : Nat) (u : Value) (u' : Value) (p1 p3 : Option Addr) (c1 c3 m1 : Nat) (B A : List Int) (hrB : Rd w0 H (.slice p1 m1 c1) m1 (ints .u8 B)) (hrA : Rd w0 H (.slice p3 m1 c3) m1 (ints .u32 A)) (hB : B.length = m1) (hA : A.length = m1)
    (k x : Nat) (hk : k < m1) (hx : B.getD k 0 = x) (hx15 : x ≤ 15) (hAk : 0 ≤ A.getD k 0 ∧ A.getD k 0 < 2 ^ x) (hL : ∀ j, L.getD j 0 = 0 ∨ L.getD j 0 = 1) (hl : L.length ≤ 70368744177600) (w : World)
    (hw : St w0 (wtA b L q d [u, .slice p1 m1 c1, u', .slice p3 m1 c3] :: wrV L q d :: H) w) :
    Calls Try.prog 70 #[.pointer (some ⟨b, 0, none⟩), .int .i64 k] w fun e w' => e = .returned (.tuple #[]) ∧ ∃ q d, St w0 (wtA b (L ++ bms (A.getD k 0) x) q d [u, .slice p1 m1 c1, u', .slice p3 m1 c3] :: wrV (L ++ bms (A.getD k 0) x) q d :: H) w' := by
  refine enter (vs := [.pointer (some ⟨b, 0, none⟩), .int .i64 k]) Try.func70 rfl rfl rfl hw ?_
  have gB : (ints .u8 B)[k]? = some (.int .u8 x) := by rw [← hx]; exact ints_get (by omega)
  have gA : (ints .u32 A)[k]? = some (.int .u32 (A.getD k 0)) := ints_get (by omega)
  have hrB' : Rd w0 (wtA b L q d [u, .slice p1 m1 c1, u', .slice p3 m1 c3] :: wrV L q d :: H) (.slice p1 m1 c1) m1 (ints .u8 B) := Rd_weak hrB fun w hw => St.sub (by repeat (first | exact List.Sublist.refl _ | apply List.Sublist.cons_cons | apply List.Sublist.cons)) hw
  have hrA' : Rd w0 (wtA b L q d [u, .slice p1 m1 c1, u', .slice p3 m1 c3] :: wrV L q d :: H) (.slice p3 m1 c3) m1 (ints .u32 A) := Rd_weak hrA fun w hw => St.sub (by repeat (first | exact List.Sublist.refl _ | apply List.Sublist.cons_cons | apply List.Sublist.cons)) hw
  have hpw : (2 : Int) ^ x ≤ 32768 := by
    have h : ∀ k : Fin 16, (2 : Int) ^ k.val ≤ 32768 := by decide
    exact h ⟨x, by omega⟩
  repeat (first | (apply gQO; refine QO_v rfl (V_loadC (tb := tb) rfl hrB' rfl rfl gB rfl) ?_) | (apply gQO; refine QO_v rfl (V_loadC (tb := tb) rfl hrA' rfl rfl gA rfl) ?_) | (first | (apply gJO; first | (apply kS; refine aK ?_) | (apply kX; refine JO_box rfl rfl rfl ?_; intro _) | (apply kA; refine JO_alloc (tb := tb) rfl rfl ?_; intro _) | (apply kBs; refine JO_buildSlice (tb := tb) rfl rfl rfl rfl rfl rfl rfl rfl rfl ?_; intro _) | (apply kM; refine JO_make (tb := tb) rfl rfl rfl rfl rfl rfl (by omega) rfl ?_; intro _) | refine aO ?_) | (apply gJR; first | apply JR_un | apply JR_nil | refine JR_yes rfl rfl ?_ | refine JR_no rfl rfl rfl rfl ?_ | refine JR_noU rfl rfl rfl ?_) | (apply gJS; first | apply JS_seq | apply JS_region | apply JS_skip | apply JS_block | apply JS_inBlock | apply JS_label | refine JS_exit rfl ?_ | refine JS_condT rfl ?_ | refine JS_condF rfl ?_ | refine JS_draw [0] (by kernel_rfl) (by kernel_rfl) (by decide +kernel) ?_ | refine JS_draw [] (by kernel_rfl) (by kernel_rfl) (by decide +kernel) ?_ | refine JS_cond_T rfl (by omega) ?_ | refine JS_cond_F rfl (by omega) ?_) | (apply gQR; first | apply QR_un | apply QR_nil | refine QR_yes rfl rfl ?_ | refine QR_no rfl rfl rfl rfl ?_ | refine QR_noU rfl rfl rfl ?_) | (apply gQO; first | refine aQ ?_ | refine aQK rfl ?_)))
  refine QO_call Try.call71 rfl rfl fun w hw => (WCodeT_c b L q d (A.getD k 0) x (by omega) hAk (by omega) hL hl w hw).mono ?_
  rintro e w' ⟨rfl, q2, d2, hw'⟩
  refine ⟨_, rfl, _, hw', .inr rfl, ?_⟩
  clear hw' hw w w'
  repeat (first | (apply gJO; first | (apply kS; refine aK ?_) | (apply kX; refine JO_box rfl rfl rfl ?_; intro _) | (apply kA; refine JO_alloc (tb := tb) rfl rfl ?_; intro _) | (apply kBs; refine JO_buildSlice (tb := tb) rfl rfl rfl rfl rfl rfl rfl rfl rfl ?_; intro _) | (apply kM; refine JO_make (tb := tb) rfl rfl rfl rfl rfl rfl (by omega) rfl ?_; intro _) | refine aO ?_) | (apply gJR; first | apply JR_un | apply JR_nil | refine JR_yes rfl rfl ?_ | refine JR_no rfl rfl rfl rfl ?_ | refine JR_noU rfl rfl rfl ?_) | (apply gJS; first | apply JS_seq | apply JS_region | apply JS_skip | apply JS_block | apply JS_inBlock | apply JS_label | refine JS_exit rfl ?_ | refine JS_condT rfl ?_ | refine JS_condF rfl ?_ | refine JS_draw [0] (by kernel_rfl) (by kernel_rfl) (by decide +kernel) ?_ | refine JS_draw [] (by kernel_rfl) (by kernel_rfl) (by decide +kernel) ?_ | refine JS_cond_T rfl (by omega) ?_ | refine JS_cond_F rfl (by omega) ?_) | (apply gQR; first | apply QR_un | apply QR_nil | refine QR_yes rfl rfl ?_ | refine QR_no rfl rfl rfl rfl ?_ | refine QR_noU rfl rfl rfl ?_) | (apply gQO; first | refine aQ ?_ | refine aQK rfl ?_))
  refine JS_fin Try.func70 rfl rfl (vs := []) ?_
  intro w hw
  exact ⟨rfl, q2, d2, hw⟩

/-- the codes of lengths that are a set's -/
theorem FCodes_c {w0 : World} {H : List Asn} (p : Option Addr) (c m : Nat) (B : List Int) (hr : Rd w0 H (.slice p m c) m (ints .u8 B)) (hm : B.length = m) (hB : OKB B) (hok : OKL B) (hpm : p = none → m = 0) (w : World) (hw : St w0 H w) :
    Calls Try.prog 34 #[.slice p m c] w fun e w' => ∃ p c, e = .returned (.slice p m c) ∧ St w0 (vec 46 1 (.slice p m c) m (ints .u32 (cds B 16 0)) :: H) w' := by
  have h320 := hok.1
  refine enter (vs := [.slice p m c]) Try.func34 rfl rfl rfl hw ?_
  repeat (first | (apply gJO; first | (apply kS; refine aK ?_) | (apply kX; refine JO_box rfl rfl rfl ?_; intro _) | (apply kA; refine JO_alloc (tb := tb) rfl rfl ?_; intro _) | (apply kBs; refine JO_buildSlice (tb := tb) rfl rfl rfl rfl rfl rfl rfl rfl rfl ?_; intro _) | (apply kM; refine JO_make (tb := tb) rfl rfl rfl rfl rfl rfl (by omega) rfl ?_; intro _) | refine aO ?_) | (apply gJR; first | apply JR_un | apply JR_nil | refine JR_yes rfl rfl ?_ | refine JR_no rfl rfl rfl rfl ?_ | refine JR_noU rfl rfl rfl ?_) | (apply gJS; first | apply JS_seq | apply JS_region | apply JS_skip | apply JS_block | apply JS_inBlock | apply JS_label | refine JS_exit rfl ?_ | refine JS_condT rfl ?_ | refine JS_condF rfl ?_ | refine JS_draw [0] (by kernel_rfl) (by kernel_rfl) (by decide +kernel) ?_ | refine JS_draw [] (by kernel_rfl) (by kernel_rfl) (by decide +kernel) ?_ | refine JS_cond_T rfl (by omega) ?_ | refine JS_cond_F rfl (by omega) ?_) | (apply gQR; first | apply QR_un | apply QR_nil | refine QR_yes rfl rfl ?_ | refine QR_no rfl rfl rfl rfl ?_ | refine QR_noU rfl rfl rfl ?_) | (apply gQO; first | refine aQ ?_ | refine aQK rfl ?_))
  refine JO_call Try.call64 rfl rfl fun w hw => (MakeS_c p c m B hr hm hB (by omega) hpm w hw).mono ?_
  rintro e w' ⟨u, r, rfl, ⟨h, _⟩ | ⟨_, rfl, b, a1, a2, a3, rfl, hs, hw'⟩⟩
  · exact absurd hok h.not
  refine ⟨_, rfl, _, hw', ?_⟩
  clear hw' hw w w'
  repeat (first | (apply gJO; first | (apply kS; refine aK ?_) | (apply kX; refine JO_box rfl rfl rfl ?_; intro _) | (apply kA; refine JO_alloc (tb := tb) rfl rfl ?_; intro _) | (apply kBs; refine JO_buildSlice (tb := tb) rfl rfl rfl rfl rfl rfl rfl rfl rfl ?_; intro _) | (apply kM; refine JO_make (tb := tb) rfl rfl rfl rfl rfl rfl (by omega) rfl ?_; intro _) | refine aO ?_) | (apply gJR; first | apply JR_un | apply JR_nil | refine JR_yes rfl rfl ?_ | refine JR_no rfl rfl rfl rfl ?_ | refine JR_noU rfl rfl rfl ?_) | (apply gJS; first | apply JS_seq | apply JS_region | apply JS_skip | apply JS_block | apply JS_inBlock | apply JS_label | refine JS_exit rfl ?_ | refine JS_condT rfl ?_ | refine JS_condF rfl ?_ | refine JS_draw [0] (by kernel_rfl) (by kernel_rfl) (by decide +kernel) ?_ | refine JS_draw [] (by kernel_rfl) (by kernel_rfl) (by decide +kernel) ?_ | refine JS_cond_T rfl (by omega) ?_ | refine JS_cond_F rfl (by omega) ?_) | (apply gQR; first | apply QR_un | apply QR_nil | refine QR_yes rfl rfl ?_ | refine QR_no rfl rfl rfl rfl ?_ | refine QR_noU rfl rfl rfl ?_) | (apply gQO; first | refine aQ ?_ | refine aQK rfl ?_))
  refine JO_call Try.call65 rfl rfl fun w hw => (Codes2_c b m B hm (hs.sub ((((List.nil_sublist H).cons_cons a3).cons_cons a2).cons_cons a1)) w hw).mono ?_
  rintro e w' ⟨p2, c2, rfl, hw'⟩
  refine ⟨_, rfl, _, hw', ?_⟩
  clear hw' hw w w'
  repeat (first | (apply gJO; first | (apply kS; refine aK ?_) | (apply kX; refine JO_box rfl rfl rfl ?_; intro _) | (apply kA; refine JO_alloc (tb := tb) rfl rfl ?_; intro _) | (apply kBs; refine JO_buildSlice (tb := tb) rfl rfl rfl rfl rfl rfl rfl rfl rfl ?_; intro _) | (apply kM; refine JO_make (tb := tb) rfl rfl rfl rfl rfl rfl (by omega) rfl ?_; intro _) | refine aO ?_) | (apply gJR; first | apply JR_un | apply JR_nil | refine JR_yes rfl rfl ?_ | refine JR_no rfl rfl rfl rfl ?_ | refine JR_noU rfl rfl rfl ?_) | (apply gJS; first | apply JS_seq | apply JS_region | apply JS_skip | apply JS_block | apply JS_inBlock | apply JS_label | refine JS_exit rfl ?_ | refine JS_condT rfl ?_ | refine JS_condF rfl ?_ | refine JS_draw [0] (by kernel_rfl) (by kernel_rfl) (by decide +kernel) ?_ | refine JS_draw [] (by kernel_rfl) (by kernel_rfl) (by decide +kernel) ?_ | refine JS_cond_T rfl (by omega) ?_ | refine JS_cond_F rfl (by omega) ?_) | (apply gQR; first | apply QR_un | apply QR_nil | refine QR_yes rfl rfl ?_ | refine QR_no rfl rfl rfl rfl ?_ | refine QR_noU rfl rfl rfl ?_) | (apply gQO; first | refine aQ ?_ | refine aQK rfl ?_))
  refine JS_ret Try.func34 rfl rfl ?_
  intro w hw
  exact ⟨_, _, rfl, St.sub (by repeat (first | exact List.Sublist.refl _ | apply List.Sublist.cons_cons | apply List.Sublist.cons)) hw⟩
end Go.Proofs.Ytakgoflfcgofdaa

namespace Go.Proofs.Ytakgoflfcgofdaa
open Sx Go
set_option linter.unusedVariables false
set_option linter.unusedSimpArgs false
/-! the writer of a fixed block -/
def fxB : List Int := tab 288 fixF
def fxC : List Int := cds fxB 16 0
def spB : List Int := List.replicate 32 5
def spC : List Int := cds spB 16 0
theorem fxB_len : fxB.length = 288 := tab_len _ _
theorem fxC_len : fxC.length = 288 := (cds_len _ _ _).trans fxB_len
theorem spB_len : spB.length = 32 := List.length_replicate
theorem spC_len : spC.length = 32 := (cds_len _ _ _).trans spB_len
theorem fxB_get (k : Nat) (hk : k < 288) : fxB.getD k 0 = fixF k := by
  unfold fxB tab
  rw [List.getD_eq_getElem?_getD, List.getElem?_map, List.getElem?_range hk]; rfl
theorem fx_at (k : Nat) (hk : k < 288) : ∃ x : Nat, fxB.getD k 0 = x ∧ 7 ≤ x ∧ x ≤ 9 ∧ 0 ≤ fxC.getD k 0 ∧ fxC.getD k 0 < 2 ^ x := by
  have hg := fxB_get k hk
  obtain ⟨x, hx, h7, h9⟩ : ∃ x : Nat, fixF k = x ∧ 7 ≤ x ∧ x ≤ 9 := by
    unfold fixF
    split
    · exact ⟨8, rfl, by omega, by omega⟩
    · split
      · exact ⟨9, rfl, by omega, by omega⟩
      · split
        · exact ⟨7, rfl, by omega, by omega⟩
        · exact ⟨8, rfl, by omega, by omega⟩
  rw [hx] at hg
  have h := cd_lt fxB fix_okb fix_okl k x (by rw [fxB_len]; exact hk) (by omega) hg
  have hc : fxC.getD k 0 = cd fxB k := by
    unfold fxC
    rw [cds_get fxB fix_okl.2.1 k (by rw [fxB_len]; exact hk), if_pos (by omega)]
  exact ⟨x, hg, h7, h9, by rw [hc]; exact h.1, by rw [hc]; exact h.2⟩
theorem sp_at (k : Nat) (hk : k < 32) : spB.getD k 0 = (5 : Nat) ∧ 0 ≤ spC.getD k 0 ∧ spC.getD k 0 < 2 ^ 5 := by
  have hg : spB.getD k 0 = (5 : Nat) := by
    unfold spB
    rw [List.getD_eq_getElem?_getD, List.getElem?_replicate, if_pos hk]; rfl
  have h := cd_lt spB spans_okb spans_okl k 5 (by rw [spB_len]; exact hk) (by omega) hg
  have hc : spC.getD k 0 = cd spB k := by
    unfold spC
    rw [cds_get spB spans_okl.2.1 k (by rw [spB_len]; exact hk), if_pos (by omega)]
  exact ⟨hg, by rw [hc]; exact h.1, by rw [hc]; exact h.2⟩
attribute [irreducible] fxB fxC spB spC
/-- the bits of a literal's or length's symbol, and of a span's -/
def fxS (k : Nat) : List Int := bms (fxC.getD k 0) (fxB.getD k 0).toNat
def spS (k : Nat) : List Int := bms (spC.getD k 0) 5
theorem fxS_len (k : Nat) (hk : k < 288) : 7 ≤ (fxS k).length ∧ (fxS k).length ≤ 9 := by
  obtain ⟨x, h1, h2, h3, _⟩ := fx_at k hk
  unfold fxS bms
  rw [h1, List.length_map, List.length_range]; omega
abbrev fwL (b : Nat) (L : List Int) (q : Option Addr) (d : Nat) (pl ps pa pb : Option Addr) (cl cs ca cb : Nat) (H : List Asn) : List Asn :=
  wtA b L q d [.slice pl 288 cl, .slice ps 32 cs, .slice pa 288 ca, .slice pb 32 cb] :: wrV L q d :: vec 5 1 (.slice pl 288 cl) 288 (ints .u8 fxB) :: vec 5 1 (.slice ps 32 cs) 32 (ints .u8 spB) ::
    vec 46 1 (.slice pa 288 ca) 288 (ints .u32 fxC) :: vec 46 1 (.slice pb 32 cb) 32 (ints .u32 spC) :: H
section
variable {w0 : World} {H : List Asn} {b : Nat} {L : List Int} {q : Option Addr} {d : Nat} {pl ps pa pb : Option Addr} {cl cs ca cb : Nat}
theorem FLit_c (k : Nat) (hk : k < 288) (hL : ∀ j, L.getD j 0 = 0 ∨ L.getD j 0 = 1) (hl : L.length ≤ 70368744177600) (w : World) (hw : St w0 (fwL b L q d pl ps pa pb cl cs ca cb H) w) :
    Calls Try.prog 38 #[.pointer (some ⟨b, 0, none⟩), .int .i64 k] w fun e w' => e = .returned (.tuple #[]) ∧ ∃ q d, St w0 (fwL b (L ++ fxS k) q d pl ps pa pb cl cs ca cb H) w' := by
  obtain ⟨x, h1, h7, h9, hc⟩ := fx_at k hk
  unfold fxS
  rw [h1, Int.toNat_natCast]
  exact WLit_c b L q d _ _ pl pa cl ca 288 fxB fxC (vec_rd (by repeat (first | apply List.Mem.head | apply List.Mem.tail))) (vec_rd (by repeat (first | apply List.Mem.head | apply List.Mem.tail))) fxB_len fxC_len k x hk h1 (by omega) hc hL hl w hw
theorem FSpan_c (k : Nat) (hk : k < 32) (hL : ∀ j, L.getD j 0 = 0 ∨ L.getD j 0 = 1) (hl : L.length ≤ 70368744177600) (w : World) (hw : St w0 (fwL b L q d pl ps pa pb cl cs ca cb H) w) :
    Calls Try.prog 70 #[.pointer (some ⟨b, 0, none⟩), .int .i64 k] w fun e w' => e = .returned (.tuple #[]) ∧ ∃ q d, St w0 (fwL b (L ++ spS k) q d pl ps pa pb cl cs ca cb H) w' := by
  obtain ⟨h1, hc⟩ := sp_at k hk
  unfold spS
  exact WSpan_c b L q d _ _ ps pb cs cb 32 spB spC (vec_rd (by repeat (first | apply List.Mem.head | apply List.Mem.tail))) (vec_rd (by repeat (first | apply List.Mem.head | apply List.Mem.tail))) spB_len spC_len k 5 hk h1 (by omega) hc hL hl w hw
/-- a token that is a byte -/
theorem Tok0_c (x : Nat) (hx : x < 256) (hL : ∀ j, L.getD j 0 = 0 ∨ L.getD j 0 = 1) (hl : L.length ≤ 70368744177600) (w : World) (hw : St w0 (fwL b L q d pl ps pa pb cl cs ca cb H) w) :
    Calls Try.prog 37 #[.pointer (some ⟨b, 0, none⟩), .agg #[.int .u8 x, .int .i64 0, .int .i64 0]] w fun e w' => e = .returned (.tuple #[]) ∧ ∃ q d, St w0 (fwL b (L ++ fxS x) q d pl ps pa pb cl cs ca cb H) w' := by
  refine enter (vs := [.pointer (some ⟨b, 0, none⟩), .agg #[.int .u8 x, .int .i64 0, .int .i64 0]]) Try.func37 rfl rfl rfl hw ?_
  repeat (first | (apply gJO; first | (apply kS; refine aK ?_) | (apply kX; refine JO_box rfl rfl rfl ?_; intro _) | (apply kA; refine JO_alloc (tb := tb) rfl rfl ?_; intro _) | (apply kBs; refine JO_buildSlice (tb := tb) rfl rfl rfl rfl rfl rfl rfl rfl rfl ?_; intro _) | (apply kM; refine JO_make (tb := tb) rfl rfl rfl rfl rfl rfl (by omega) rfl ?_; intro _) | refine aO ?_) | (apply gJR; first | apply JR_un | apply JR_nil | refine JR_yes rfl rfl ?_ | refine JR_no rfl rfl rfl rfl ?_ | refine JR_noU rfl rfl rfl ?_) | (apply gJS; first | apply JS_seq | apply JS_region | apply JS_skip | apply JS_block | apply JS_inBlock | apply JS_label | refine JS_exit rfl ?_ | refine JS_condT rfl ?_ | refine JS_condF rfl ?_ | refine JS_draw [0] (by kernel_rfl) (by kernel_rfl) (by decide +kernel) ?_ | refine JS_draw [] (by kernel_rfl) (by kernel_rfl) (by decide +kernel) ?_ | refine JS_cond_T rfl (by omega) ?_ | refine JS_cond_F rfl (by omega) ?_) | (apply gQR; first | apply QR_un | apply QR_nil | refine QR_yes rfl rfl ?_ | refine QR_no rfl rfl rfl rfl ?_ | refine QR_noU rfl rfl rfl ?_) | (apply gQO; first | refine aQ ?_ | refine aQK rfl ?_))
  rename_i bx
  refine JO_call Try.call38 rfl rfl fun w hw => (FLit_c x (by omega) hL hl w hw.drop).mono ?_
  rintro e w' ⟨rfl, q2, d2, hw'⟩
  refine ⟨_, rfl, _, hw', ?_⟩
  clear hw' hw w w'
  repeat (first | (apply gJO; first | (apply kS; refine aK ?_) | (apply kX; refine JO_box rfl rfl rfl ?_; intro _) | (apply kA; refine JO_alloc (tb := tb) rfl rfl ?_; intro _) | (apply kBs; refine JO_buildSlice (tb := tb) rfl rfl rfl rfl rfl rfl rfl rfl rfl ?_; intro _) | (apply kM; refine JO_make (tb := tb) rfl rfl rfl rfl rfl rfl (by omega) rfl ?_; intro _) | refine aO ?_) | (apply gJR; first | apply JR_un | apply JR_nil | refine JR_yes rfl rfl ?_ | refine JR_no rfl rfl rfl rfl ?_ | refine JR_noU rfl rfl rfl ?_) | (apply gJS; first | apply JS_seq | apply JS_region | apply JS_skip | apply JS_block | apply JS_inBlock | apply JS_label | refine JS_exit rfl ?_ | refine JS_condT rfl ?_ | refine JS_condF rfl ?_ | refine JS_draw [0] (by kernel_rfl) (by kernel_rfl) (by decide +kernel) ?_ | refine JS_draw [] (by kernel_rfl) (by kernel_rfl) (by decide +kernel) ?_ | refine JS_cond_T rfl (by omega) ?_ | refine JS_cond_F rfl (by omega) ?_) | (apply gQR; first | apply QR_un | apply QR_nil | refine QR_yes rfl rfl ?_ | refine QR_no rfl rfl rfl rfl ?_ | refine QR_noU rfl rfl rfl ?_) | (apply gQO; first | refine aQ ?_ | refine aQK rfl ?_))
  refine JS_ret Try.func37 rfl rfl fun w hw => ⟨rfl, q2, d2, hw⟩
end
end Go.Proofs.Ytakgoflfcgofdaa

set_option linter.unusedVariables false
set_option linter.unusedSimpArgs false
namespace Go.Proofs.Ytakgoflfcgofdaa
open Sx Go
/-! ## what stood there already: plain laws -/
/-- how many bytes are the same from two places on, at most so many -/
def sam (B : List Int) (i k : Nat) : Nat → Nat
  | 0 => 0
  | f + 1 => if k < B.length ∧ B.getD i 0 = B.getD k 0 then 1 + sam B (i + 1) (k + 1) f else 0
theorem sam_le (B : List Int) : ∀ (f i k : Nat), sam B i k f ≤ f
  | 0, _, _ => Nat.le_refl _
  | f + 1, i, k => by
    rw [sam]
    split
    · have := sam_le B f (i + 1) (k + 1); omega
    · omega
theorem sam_len (B : List Int) : ∀ (f i k : Nat), k ≤ B.length → k + sam B i k f ≤ B.length
  | 0, _, _, h => h
  | f + 1, i, k, h => by
    rw [sam]
    split
    · rename_i hc
      have := sam_len B f (i + 1) (k + 1) (by omega); omega
    · omega
/-- the token's length and distance: from the newest place on, a greater one only -/
def bst (B : List Int) (at_ : Nat) : Nat → Nat × Nat → Nat × Nat
  | 0, s => s
  | i + 1, s => if 32768 < at_ - i then s else bst B at_ i (if s.1 < sam B i at_ 258 then (sam B i at_ 258, at_ - i) else s)
/-- the same over places in a list, the newest first -/
def pst (B : List Int) (at_ : Nat) : List Nat → Nat × Nat → Nat × Nat
  | [], s => s
  | i :: r, s => if 32768 < at_ - i then s else if (if s.1 < sam B i at_ 258 then (sam B i at_ 258, at_ - i) else s).1 = 258 then (if s.1 < sam B i at_ 258 then (sam B i at_ 258, at_ - i) else s) else pst B at_ r (if s.1 < sam B i at_ 258 then (sam B i at_ 258, at_ - i) else s)
/-- three bytes from a place on -/
abbrev K3 := Int × Int × Int
def k3 (B : List Int) (i : Nat) : K3 := (B.getD i 0, B.getD (i + 1) 0, B.getD (i + 2) 0)
theorem sam_3 (B : List Int) (i k f : Nat) (hk : k + 3 ≤ B.length) : 3 ≤ sam B i k (f + 3) ↔ k3 B i = k3 B k := by
  rw [sam, sam, sam]
  unfold k3
  simp only [Prod.mk.injEq]
  by_cases h0 : B.getD i 0 = B.getD k 0
  · rw [if_pos ⟨by omega, h0⟩]
    by_cases h1 : B.getD (i + 1) 0 = B.getD (k + 1) 0
    · rw [if_pos ⟨by omega, h1⟩]
      by_cases h2 : B.getD (i + 1 + 1) 0 = B.getD (k + 1 + 1) 0
      · rw [if_pos ⟨by omega, h2⟩]
        exact ⟨fun _ => ⟨h0, h1, h2⟩, fun _ => by omega⟩
      · rw [if_neg (fun h => h2 h.2)]
        exact ⟨fun h => by omega, fun h => absurd h.2.2 h2⟩
    · rw [if_neg (fun h => h1 h.2)]
      exact ⟨fun h => by omega, fun h => absurd h.2.1 h1⟩
  · rw [if_neg (fun h => h0 h.2)]
    exact ⟨fun h => by omega, fun h => absurd h.1 h0⟩
theorem sam_short (B : List Int) (i k f : Nat) (hk : B.length < k + 3) : sam B i k f < 3 := by
  rcases Nat.lt_or_ge B.length k with h | h
  · cases f with
    | zero => simp [sam]
    | succ f => rw [sam, if_neg (by omega)]; omega
  · have := sam_len B f i k h; omega
/-- places with these three bytes, before a place; the oldest first -/
def plc (B : List Int) (at_ : Nat) (x : K3) : List Nat := (List.range at_).filter fun i => decide (i + 3 ≤ B.length ∧ k3 B i = x)
theorem plc_lt {B : List Int} {at_ : Nat} {x : K3} {i : Nat} (h : i ∈ plc B at_ x) : i < at_ := by
  unfold plc at h; simp at h; exact h.1
theorem plc_0 (B : List Int) (x : K3) : plc B 0 x = [] := rfl
theorem plc_s (B : List Int) (at_ : Nat) (x : K3) : plc B (at_ + 1) x = if at_ + 3 ≤ B.length ∧ k3 B at_ = x then plc B at_ x ++ [at_] else plc B at_ x := by
  unfold plc
  rw [List.range_succ, List.filter_append]
  split
  · rename_i h; rw [List.filter_cons_of_pos (by simpa using h), List.filter_nil]
  · rename_i h; rw [List.filter_cons_of_neg (by simpa using h), List.filter_nil, List.append_nil]
theorem pst_stop (B : List Int) (at_ : Nat) : ∀ (l : List Nat) (s : Nat × Nat), s.1 = 258 → pst B at_ l s = s
  | [], s, h => rfl
  | i :: r, s, h => by
    have hs := sam_le B 258 i at_
    unfold pst
    rw [if_neg (by omega : ¬ s.1 < sam B i at_ 258)]
    split
    · rfl
    · rfl
theorem bst_stop (B : List Int) (at_ : Nat) : ∀ (i : Nat) (s : Nat × Nat), s.1 = 258 → bst B at_ i s = s
  | 0, s, h => rfl
  | i + 1, s, h => by
    have hs := sam_le B 258 i at_
    unfold bst
    rw [if_neg (by omega : ¬ s.1 < sam B i at_ 258)]
    split
    · rfl
    · exact bst_stop B at_ i s h
theorem pst_far (B : List Int) (at_ : Nat) : ∀ (l : List Nat) (s : Nat × Nat), (∀ i ∈ l, 32768 < at_ - i) → pst B at_ l s = s
  | [], s, h => rfl
  | i :: r, s, h => by
    unfold pst
    rw [if_pos (h i (by simp))]
theorem bst_le (B : List Int) (at_ : Nat) : ∀ (i : Nat) (s : Nat × Nat), s.1 ≤ (bst B at_ i s).1
  | 0, s => Nat.le_refl _
  | i + 1, s => by
    unfold bst
    split
    · exact Nat.le_refl _
    · split
      · exact Nat.le_trans (Nat.le_of_lt (by assumption)) (bst_le B at_ i _)
      · exact bst_le B at_ i s
/-- the places of the same three bytes are enough -/
theorem bst_pst (B : List Int) (at_ : Nat) (h3 : at_ + 3 ≤ B.length) : ∀ (i : Nat), i ≤ at_ → ∀ s p : Nat × Nat, (s.1 < 3 ∧ p = (0, 0)) ∨ (s = p ∧ 3 ≤ s.1) →
    ((bst B at_ i s).1 < 3 ∧ pst B at_ (plc B i (k3 B at_)).reverse p = (0, 0)) ∨ (bst B at_ i s = pst B at_ (plc B i (k3 B at_)).reverse p ∧ 3 ≤ (bst B at_ i s).1)
  | 0, _, s, p, h => by rw [plc_0]; exact h
  | i + 1, hi, s, p, h => by
    have hl := sam_le B 258 i at_
    have h3i : 3 ≤ sam B i at_ 258 ↔ k3 B i = k3 B at_ := sam_3 B i at_ 255 h3
    have hfar : 32768 < at_ - i → pst B at_ (plc B (i + 1) (k3 B at_)).reverse p = p := fun hf => pst_far B at_ _ _ fun j hj => by
      have := plc_lt (List.mem_reverse.1 hj); omega
    by_cases hf : 32768 < at_ - i
    · rw [hfar hf, bst, if_pos hf]; exact h
    · rw [bst, if_neg hf]
      by_cases hk : k3 B i = k3 B at_
      · have ep : plc B (i + 1) (k3 B at_) = plc B i (k3 B at_) ++ [i] := by rw [plc_s, if_pos ⟨by omega, hk⟩]
        rw [ep, List.reverse_append, List.reverse_singleton, List.singleton_append, pst, if_neg hf]
        have hs3 := h3i.2 hk
        have hsp : (if s.1 < sam B i at_ 258 then (sam B i at_ 258, at_ - i) else s) = (if p.1 < sam B i at_ 258 then (sam B i at_ 258, at_ - i) else p) ∧ 3 ≤ (if s.1 < sam B i at_ 258 then (sam B i at_ 258, at_ - i) else s).1 := by
          rcases h with ⟨h1, rfl⟩ | ⟨rfl, h1⟩
          · rw [if_pos (by omega), if_pos (by show 0 < _; omega)]
            exact ⟨rfl, hs3⟩
          · refine ⟨rfl, ?_⟩
            split <;> first | omega | (show 3 ≤ sam B i at_ 258; omega)
        rw [← hsp.1]
        obtain ⟨u, hu⟩ : ∃ u, (if s.1 < sam B i at_ 258 then (sam B i at_ 258, at_ - i) else s) = u := ⟨_, rfl⟩
        rw [hu] at hsp ⊢
        by_cases h258 : u.1 = 258
        · rw [if_pos h258, bst_stop B at_ i u h258]
          exact .inr ⟨rfl, hsp.2⟩
        · rw [if_neg h258]
          exact bst_pst B at_ h3 i (by omega) u u (.inr ⟨rfl, hsp.2⟩)
      · have ep : plc B (i + 1) (k3 B at_) = plc B i (k3 B at_) := by rw [plc_s, if_neg (fun h => hk h.2)]
        rw [ep]
        have hlt : sam B i at_ 258 < 3 := by
          rcases Nat.lt_or_ge (sam B i at_ 258) 3 with h' | h'
          · exact h'
          · exact absurd (h3i.1 h') hk
        refine bst_pst B at_ h3 i (by omega) _ p ?_
        rcases h with ⟨h1, h2⟩ | ⟨h1, h2⟩
        · left
          refine ⟨?_, h2⟩
          split <;> first | omega | (show sam B i at_ 258 < 3; omega)
        · rw [if_neg (by omega)]
          exact .inr ⟨h1, h2⟩
theorem bst_short (B : List Int) (at_ : Nat) (h3 : B.length < at_ + 3) : ∀ (i : Nat) (s : Nat × Nat), s.1 < 3 → (bst B at_ i s).1 < 3
  | 0, s, h => h
  | i + 1, s, h => by
    have := sam_short B i at_ 258 h3
    unfold bst
    split
    · exact h
    · refine bst_short B at_ h3 i _ ?_
      split <;> first | omega | (show sam B i at_ 258 < 3; omega)
/-- the token at a place -/
def tok (B : List Int) (at_ : Nat) : Int × Nat × Nat :=
  if (bst B at_ at_ (0, 0)).1 < 3 then (B.getD at_ 0, 0, 0) else (0, (bst B at_ at_ (0, 0)).1, (bst B at_ at_ (0, 0)).2)
theorem tok_far (B : List Int) (at_ : Nat) (h3 : at_ + 3 ≤ B.length) : tok B at_ = if pst B at_ (plc B at_ (k3 B at_)).reverse (0, 0) = (0, 0) then (B.getD at_ 0, 0, 0) else (0, (pst B at_ (plc B at_ (k3 B at_)).reverse (0, 0)).1, (pst B at_ (plc B at_ (k3 B at_)).reverse (0, 0)).2) := by
  unfold tok
  rcases bst_pst B at_ h3 at_ (Nat.le_refl _) (0, 0) (0, 0) (.inl ⟨by decide, rfl⟩) with ⟨h1, h2⟩ | ⟨h1, h2⟩
  · rw [if_pos h1, if_pos h2]
  · rw [if_neg (by omega), ← h1, if_neg (fun h => by rw [h] at h2; simp at h2)]
theorem tok_near (B : List Int) (at_ : Nat) (h3 : B.length < at_ + 3) : tok B at_ = (B.getD at_ 0, 0, 0) := by
  unfold tok
  rw [if_pos (bst_short B at_ h3 at_ (0, 0) (by decide))]
theorem bst_bd (B : List Int) (at_ : Nat) (ha : at_ ≤ B.length) : ∀ (i : Nat), i ≤ at_ → ∀ s : Nat × Nat, (s.1 ≤ 258 ∧ at_ + s.1 ≤ B.length ∧ (0 < s.1 → 0 < s.2 ∧ s.2 ≤ at_ ∧ s.2 ≤ 32768)) →
    (bst B at_ i s).1 ≤ 258 ∧ at_ + (bst B at_ i s).1 ≤ B.length ∧ (0 < (bst B at_ i s).1 → 0 < (bst B at_ i s).2 ∧ (bst B at_ i s).2 ≤ at_ ∧ (bst B at_ i s).2 ≤ 32768)
  | 0, _, s, h => h
  | i + 1, hi, s, h => by
    have h1 := sam_le B 258 i at_
    have h2 := sam_len B 258 i at_ ha
    unfold bst
    split
    · exact h
    · refine bst_bd B at_ ha i (by omega) _ ?_
      split
      · exact ⟨h1, h2, fun _ => by omega⟩
      · exact h
theorem tok_bd (B : List Int) (at_ : Nat) (ha : at_ < B.length) : (tok B at_ = (B.getD at_ 0, 0, 0)) ∨ (∃ n d, tok B at_ = (0, n, d) ∧ 3 ≤ n ∧ n ≤ 258 ∧ at_ + n ≤ B.length ∧ 1 ≤ d ∧ d ≤ at_ ∧ d ≤ 32768) := by
  obtain ⟨h1, h2, h3⟩ := bst_bd B at_ (by omega) at_ (Nat.le_refl _) (0, 0) ⟨by omega, by omega, fun h => absurd h (by simp)⟩
  unfold tok
  split
  · exact .inl rfl
  · exact .inr ⟨_, _, rfl, by omega, h1, h2, by omega, by omega, by omega⟩
/-- all tokens from a place on -/
def toks (B : List Int) : Nat → Nat → List (Int × Nat × Nat)
  | 0, _ => []
  | f + 1, at_ => if at_ < B.length then tok B at_ :: toks B f (at_ + max 1 (tok B at_).2.1) else []
theorem toks_fuel (B : List Int) : ∀ (f g at_ : Nat), B.length - at_ ≤ f → B.length - at_ ≤ g → toks B f at_ = toks B g at_
  | 0, 0, _, _, _ => rfl
  | 0, g + 1, at_, h, _ => by rw [toks, toks, if_neg (by omega)]
  | f + 1, 0, at_, _, h => by rw [toks, toks, if_neg (by omega)]
  | f + 1, g + 1, at_, hf, hg => by
    rw [toks, toks]
    split
    · rw [toks_fuel B f g _ (by omega) (by omega)]
    · rfl
/-- the cells of tokens -/
def tkv (l : List (Int × Nat × Nat)) : List Value := l.flatMap fun t => [.int .u8 t.1, .int .i64 t.2.1, .int .i64 t.2.2]
theorem tkv_app (l : List (Int × Nat × Nat)) (t : Int × Nat × Nat) : tkv (l ++ [t]) = tkv l ++ [.int .u8 t.1, .int .i64 t.2.1, .int .i64 t.2.2] := by
  unfold tkv; simp
theorem tkv_len (l : List (Int × Nat × Nat)) : (tkv l).length = l.length * 3 := by
  unfold tkv
  induction l with
  | nil => rfl
  | cons t l ih => rw [List.flatMap_cons, List.length_append, ih]; simp; omega
end Go.Proofs.Ytakgoflfcgofdaa

namespace Sx
open Go
/-- block b holds a map -/
@[irreducible] def mapA (b : Nat) (es : Array MapEntry) (clock : Nat) : Asn where
  holds w fp := fp = [b] ∧ w.heap[b]? = some (.map es clock)
  frame w w' fp h hk := ⟨h.1, by rw [hk b (by simp [h.1])]; exact h.2⟩
  live w fp h b' hb := by
    obtain ⟨rfl, hT⟩ := h
    simp at hb; subst hb
    exact (Array.getElem?_eq_some_iff.1 hT).1
theorem mapA_holds {b es clock w fp} : (mapA b es clock).holds w fp ↔ fp = [b] ∧ w.heap[b]? = some (.map es clock) := by unfold mapA; exact Iff.rfl
theorem St.newMap {w0 H w} (h : St w0 H w) : St w0 (mapA w.heap.size #[] 0 :: H) (w.alloc (.map #[] 0)) := by
  refine St.step («as» := []) (bs := [mapA w.heap.size #[] 0]) h rfl rfl rfl (by simp) ?_
  intro f1 hf _ _
  simp [All] at hf
  subst hf
  refine ⟨fun b hb _ => heap_alloc_old w _ hb, [w.heap.size], by simp, by simp, [w.heap.size], [], by simp, mapA_holds.2 ⟨rfl, heap_alloc_new w _⟩, rfl⟩
section
variable {P : Program} {f n : Nat} {R : Ending → World → Prop} {D : List Deferred} {w0 : World} {k : List Item} {ov : Ov} {H : List Asn}
  {ops : Array Oper} {l : List Oper} {d : Option Nat} {T : Nat} {pos : String} {af : Array Edge} {g : Option (Nat × Bool)}
theorem kMm {t : Nat} {r : Option Operand} (h : JO P f n R D w0 ops ⟨d, .makeMap t r, T, pos, af, g⟩ l k ov H) : JO P f n R D w0 ops ⟨d, .makeMap t r, T, pos, af, g⟩ l k ov H := h
theorem JO_makeMap {t : Nat} (hd : dOk d n = true) (hn : ∀ b, JR P f n R D w0 ops l k (put d (.map (some b)) ov) (mapA b #[] 0 :: H)) : JO P f n R D w0 ops ⟨d, .makeMap t none, T, pos, af, g⟩ l k ov H :=
  JO_step fun a w ha hw => ⟨.map (some w.heap.size), w.alloc (.map #[] 0), by simp [execOp, RowKit.run_makeMap], hd, _, hw.newMap, hn w.heap.size⟩
end
end Sx

set_option linter.unusedVariables false
set_option linter.unusedSimpArgs false
namespace Sx
open Go
/-! maps: entries in a list, in the order in which they came -/
def isKey (P : Program) (k : TypeId) (v : Value) : Prop := ∃ l, keyOf P k v = some l
/-- what the operations need of a key's type -/
structure KeyT (P : Program) (k : TypeId) : Prop where
  check : ∀ (w : World) (em : Bool) {v : Value}, isKey P k v → (Instr.checkKey em 10000 k v).run P w = .ok () w
  find : ∀ (w : World) {x : Value}, isKey P k x → ∀ es : List MapEntry, (∀ e ∈ es, isKey P k e.key) →
    ((Instr.findKey k x es).run P w = .ok none w ∧ ∀ e ∈ es, e.key ≠ x) ∨ ∃ j e, (Instr.findKey k x es).run P w = .ok (some (j, e.val)) w ∧ es[j]? = some e ∧ e.key = x
  stays : ∀ (w : World) {v : Value}, isKey P k v → (Instr.keyThatStays v v).run P w = .ok v w
theorem KeyT.of {P : Program} {k : TypeId} (K : Maps.Keyed P k) : KeyT P k :=
  ⟨fun w em _ ⟨_, h⟩ => K.check w em h, fun w _ ⟨_, h⟩ es hes => K.find w h es hes, fun w _ ⟨_, h⟩ => K.stays w h⟩
structure MOk (P : Program) (k : TypeId) (es : List MapEntry) (clock : Nat) : Prop where
  key : ∀ e ∈ es, isKey P k e.key
  nodup : (es.map (·.key)).Nodup
  lt : ∀ e ∈ es, e.born < clock
  born : (es.map (·.born)).Nodup
theorem MOk.nil {P : Program} {k : TypeId} {clock : Nat} : MOk P k [] clock := ⟨by simp, by simp, by simp, by simp⟩
theorem MOk.push {P : Program} {k : TypeId} {es : List MapEntry} {clock : Nat} (h : MOk P k es clock) {key v : Value} (hk : isKey P k key) (hn : ∀ e ∈ es, e.key ≠ key) : MOk P k (es ++ [⟨key, v, clock⟩]) (clock + 1) := by
  refine ⟨?_, ?_, ?_, ?_⟩
  · intro e he
    rcases List.mem_append.1 he with he | he
    · exact h.key e he
    · simp at he; subst he; exact hk
  · rw [List.map_append, List.map_cons, List.map_nil]
    refine List.nodup_append.2 ⟨h.nodup, by simp, fun a ha b hb e => ?_⟩
    simp only [List.mem_singleton] at hb
    obtain ⟨x, hx, rfl⟩ := List.mem_map.1 ha
    exact hn x hx (e.trans hb)
  · intro e he
    rcases List.mem_append.1 he with he | he
    · have := h.lt e he; omega
    · simp at he; subst he; simp
  · rw [List.map_append, List.map_cons, List.map_nil]
    refine List.nodup_append.2 ⟨h.born, by simp, fun a ha b hb e => ?_⟩
    simp only [List.mem_singleton] at hb
    obtain ⟨x, hx, rfl⟩ := List.mem_map.1 ha
    have := h.lt x hx
    omega
theorem MOk.setv {P : Program} {k : TypeId} {A B : List MapEntry} {e : MapEntry} {clock : Nat} (h : MOk P k (A ++ e :: B) clock) (v : Value) : MOk P k (A ++ { e with val := v } :: B) clock := by
  refine ⟨?_, ?_, ?_, ?_⟩
  · intro x hx
    rcases List.mem_append.1 hx with hx | hx
    · exact h.key x (List.mem_append_left _ hx)
    · rcases List.mem_cons.1 hx with rfl | hx
      · exact h.key e (by simp)
      · exact h.key x (by simp [hx])
  · have := h.nodup
    simpa using this
  · intro x hx
    rcases List.mem_append.1 hx with hx | hx
    · exact h.lt x (List.mem_append_left _ hx)
    · rcases List.mem_cons.1 hx with rfl | hx
      · exact h.lt e (by simp)
      · exact h.lt x (by simp [hx])
  · have := h.born
    simpa using this
theorem key_inj : ∀ {es : List MapEntry}, (es.map (·.key)).Nodup → ∀ {x y : MapEntry}, x ∈ es → y ∈ es → x.key = y.key → x = y
  | [], _, _, _, hx, _, _ => absurd hx (by simp)
  | e :: r, h, x, y, hx, hy, hk => by
    rw [List.map_cons, List.nodup_cons] at h
    rcases List.mem_cons.1 hx with hx | hx <;> rcases List.mem_cons.1 hy with hy | hy
    · rw [hx, hy]
    · rw [hx] at hk; exact absurd (List.mem_map.2 ⟨y, hy, hk.symm⟩) h.1
    · rw [hy] at hk; exact absurd (List.mem_map.2 ⟨x, hx, hk⟩) h.1
    · exact key_inj h.2 hx hy hk
/-- a block holds a map of these entries -/
abbrev mapL (b : Nat) (es : List MapEntry) (clock : Nat) : Asn := mapA b es.toArray clock
theorem St.map_get {w0 H w b es clock} (h : St w0 H w) (hm : mapL b es clock ∈ H) : w.heap[b]? = some (.map es.toArray clock) := by
  obtain ⟨f, hf⟩ := h.mem hm
  exact (mapA_holds.1 hf).2
theorem St.map_put {w0 H w b es clock} {F : Asn → List Asn} (es' : List MapEntry) (clock' : Nat) (h : St w0 H w) (hu : Sel H (mapL b es clock) F) : St w0 (F (mapL b es' clock')) { w with heap := w.heap.setIfInBounds b (.map es'.toArray clock') } := by
  refine h.upd (hu.upd _) rfl rfl rfl (by simp) ?_
  intro f1 hf
  obtain ⟨rfl, hb⟩ := mapA_holds.1 hf
  have hs := MapKept.heap_set (o' := .map es'.toArray clock') hb
  exact ⟨fun b' _ hb' => hs.2 b' (by simpa using hb'), [b], by simp, by simp, mapA_holds.2 ⟨rfl, hs.1⟩⟩
section
variable {P : Program} {n : Nat} {D : List Deferred} {w0 : World} {ov : Ov} {H : List Asn}
  {d : Option Nat} {T : Nat} {pos : String} {af : Array Edge} {g : Option (Nat × Bool)} {x y y2 : Operand} {tb : Tb P} {t k e : TypeId} {s1 b1 : Nat} {z1 : Option (List Value)} {b clock : Nat} {es : List MapEntry} {key v : Value}
theorem KeyT.found (K : KeyT P k) (w : World) (hM : MOk P k es clock) {e0 : MapEntry} (he : e0 ∈ es) : ∃ j, (Instr.findKey k e0.key es).run P w = .ok (some (j, e0.val)) w ∧ es[j]? = some e0 := by
  rcases K.find w (hM.key e0 he) es hM.key with ⟨_, h⟩ | ⟨j, e1, h1, h2, h3⟩
  · exact absurd rfl (h e0 he)
  · have : e1 = e0 := key_inj hM.nodup (List.mem_of_getElem? h2) he h3
    subst this
    exact ⟨j, h1, h2⟩
theorem KeyT.missed (K : KeyT P k) (w : World) (hM : MOk P k es clock) (hk : isKey P k key) (hn : ∀ e ∈ es, e.key ≠ key) : (Instr.findKey k key es).run P w = .ok none w := by
  rcases K.find w hk es hM.key with ⟨h, _⟩ | ⟨j, e1, h1, h2, h3⟩
  · exact h
  · exact absurd h3 (hn e1 (List.mem_of_getElem? h2))
theorem V_lookupT (K : KeyT P k) (h : tlook tb.l t = some ⟨.map k e, s1, b1, z1⟩) (hx : ev ov x = some (.map (some b))) (hy : ev ov y = some key) (hb : mapL b es clock ∈ H) (hM : MOk P k es clock) {e0 : MapEntry} (he : e0 ∈ es) (hk : e0.key = key) (hd : dOk d n = true) :
    OpV P n D w0 ov H ⟨d, .lookup t x y false, T, pos, af, g⟩ e0.val := by
  unfold OpV
  refine ⟨hd, fun a w ha hw => ?_⟩
  subst hk
  obtain ⟨j, h1, h2⟩ := K.found w hM he
  simp [execOp, ha.ev hx, ha.ev hy, Instr.lookup, run_underlying (und_map h), MapKept.run_getObj_map (hw.map_get hb), K.check w _ (hM.key e0 he), h1]
theorem V_lookupF (K : KeyT P k) (h : tlook tb.l t = some ⟨.map k e, s1, b1, z1⟩) (hx : ev ov x = some (.map (some b))) (hy : ev ov y = some key) (hb : mapL b es clock ∈ H) (hM : MOk P k es clock) (hkey : isKey P k key) (hn : ∀ e ∈ es, e.key ≠ key) (hz : ∀ w, (zeroValue e).run P w = .ok v w) (hd : dOk d n = true) :
    OpV P n D w0 ov H ⟨d, .lookup t x y false, T, pos, af, g⟩ v := by
  unfold OpV
  refine ⟨hd, fun a w ha hw => ?_⟩
  have h1 := K.missed w hM hkey hn
  simp [execOp, ha.ev hx, ha.ev hy, Instr.lookup, run_underlying (und_map h), MapKept.run_getObj_map (hw.map_get hb), K.check w _ hkey, h1, hz]
theorem V_lookupTk (K : KeyT P k) (h : tlook tb.l t = some ⟨.map k e, s1, b1, z1⟩) (hx : ev ov x = some (.map (some b))) (hy : ev ov y = some key) (hb : mapL b es clock ∈ H) (hM : MOk P k es clock) {e0 : MapEntry} (he : e0 ∈ es) (hk : e0.key = key) (hd : dOk d n = true) :
    OpV P n D w0 ov H ⟨d, .lookup t x y true, T, pos, af, g⟩ (.tuple #[e0.val, .bool true]) := by
  unfold OpV
  refine ⟨hd, fun a w ha hw => ?_⟩
  subst hk
  obtain ⟨j, h1, h2⟩ := K.found w hM he
  simp [execOp, ha.ev hx, ha.ev hy, Instr.lookup, run_underlying (und_map h), MapKept.run_getObj_map (hw.map_get hb), K.check w _ (hM.key e0 he), h1]
theorem V_lookupFk (K : KeyT P k) (h : tlook tb.l t = some ⟨.map k e, s1, b1, z1⟩) (hx : ev ov x = some (.map (some b))) (hy : ev ov y = some key) (hb : mapL b es clock ∈ H) (hM : MOk P k es clock) (hkey : isKey P k key) (hn : ∀ e ∈ es, e.key ≠ key) (hz : ∀ w, (zeroValue e).run P w = .ok v w) (hd : dOk d n = true) :
    OpV P n D w0 ov H ⟨d, .lookup t x y true, T, pos, af, g⟩ (.tuple #[v, .bool false]) := by
  unfold OpV
  refine ⟨hd, fun a w ha hw => ?_⟩
  have h1 := K.missed w hM hkey hn
  simp [execOp, ha.ev hx, ha.ev hy, Instr.lookup, run_underlying (und_map h), MapKept.run_getObj_map (hw.map_get hb), K.check w _ hkey, h1, hz]
theorem setIf_same {w : World} {o : Obj} (hb : w.heap[b]? = some o) : { w with heap := w.heap.setIfInBounds b o } = w := by
  have hlt := (Array.getElem?_eq_some_iff.1 hb).1
  have : w.heap.setIfInBounds b o = w.heap := by
    apply Array.ext_getElem?
    intro i
    by_cases hi : b = i
    · subst hi
      rw [Array.getElem?_setIfInBounds_self_of_lt hlt, hb]
    · rw [Array.getElem?_setIfInBounds_ne hi]
  rw [this]
/-- an entry that is there: nothing changes -/
theorem E_entryT (K : KeyT P k) (h : tlook tb.l t = some ⟨.map k e, s1, b1, z1⟩) (hx : ev ov x = some (.map (some b))) (hy : ev ov y = some key) (hb : mapL b es clock ∈ H) (hM : MOk P k es clock) {e0 : MapEntry} (he : e0 ∈ es) (hk : e0.key = key) (hd : dOk d n = true) :
    OpE (ι := Unit) P n D w0 ov H ⟨d, .mapEntry t x y, T, pos, af, g⟩ (fun _ => .tuple #[e0.val, .int .i64 e0.born]) (fun _ => H) := by
  unfold OpE
  refine ⟨hd, fun a w ha hw => ?_⟩
  subst hk
  obtain ⟨j, h1, h2⟩ := K.found w hM he
  have hg := hw.map_get hb
  have hj : es.toArray[j]? = some e0 := by simpa using h2
  have hsame : es.modify j (fun e => { e with key := e0.key }) = es := by
    rw [ChangeMaps.modify_eq_set _ _ _ _ h2]
    exact WideElems.set_self _ _ _ h2
  refine ⟨(), w, ?_, hw⟩
  have hs := setIf_same hg
  simp [execOp, ha.ev hx, ha.ev hy, Instr.mapEntry, run_underlying (und_map h), MapKept.run_getObj_map hg, K.check w _ (hM.key e0 he), h1, hj, h2, K.stays w (hM.key e0 he), MapKept.run_setObj_map _ hg, goInt]
  rw [hsame] ; exact hs
/-- a new entry -/
theorem E_entryF {F : Asn → List Asn} (K : KeyT P k) (h : tlook tb.l t = some ⟨.map k e, s1, b1, z1⟩) (hx : ev ov x = some (.map (some b))) (hy : ev ov y = some key) (hu : Sel H (mapL b es clock) F) (hM : MOk P k es clock) (hkey : isKey P k key) (hn : ∀ e ∈ es, e.key ≠ key) (hz : ∀ w, (zeroValue e).run P w = .ok v w) (hd : dOk d n = true) :
    OpE (ι := Unit) P n D w0 ov H ⟨d, .mapEntry t x y, T, pos, af, g⟩ (fun _ => .tuple #[v, .int .i64 clock]) (fun _ => F (mapL b (es ++ [⟨key, v, clock⟩]) (clock + 1))) := by
  unfold OpE
  refine ⟨hd, fun a w ha hw => ?_⟩
  have h1 := K.missed w hM hkey hn
  have hg := hw.map_get hu.mem
  refine ⟨(), _, ?_, hw.map_put (es ++ [⟨key, v, clock⟩]) (clock + 1) hu⟩
  simp [execOp, ha.ev hx, ha.ev hy, Instr.mapEntry, run_underlying (und_map h), MapKept.run_getObj_map hg, K.check w _ hkey, h1, hz, MapKept.run_setObj_map _ hg, goInt]
/-- the value of an entry is set -/
theorem K_entryStore {F : Asn → List Asn} {A B : List MapEntry} {e0 : MapEntry} (hx : ev ov x = some (.map (some b))) (hy : ev ov y = some (.int .i64 e0.born)) (hv : ev ov y2 = some v) (hu : Sel H (mapL b (A ++ e0 :: B) clock) F) (hM : MOk P k (A ++ e0 :: B) clock) (hd : dOk d n = true) :
    OpK P n D w0 ov H ⟨d, .entryStore t x y y2, T, pos, af, g⟩ (F (mapL b (A ++ { e0 with val := v } :: B) clock)) := by
  unfold OpK
  refine ⟨hd, fun a w ha hw => ?_⟩
  have hg := hw.map_get hu.mem
  refine ⟨_, ?_, hw.map_put (A ++ { e0 with val := v } :: B) clock hu⟩
  have hj : (A ++ e0 :: B)[A.length]? = some e0 := by simp
  have hidx : (A ++ e0 :: B).toArray.findIdx? (fun e => ((e.born : Nat) : Int) == ((e0.born : Nat) : Int)) = some A.length := by
    rw [WideElems.findIdx_arr]
    exact WideElems.findIdx_born hM.born hj
  have hmod : (A ++ e0 :: B).toArray.modify A.length (fun e => { e with val := v }) = (A ++ { e0 with val := v } :: B).toArray := by
    apply Array.ext'
    rw [Array.toList_modify, ChangeMaps.modify_eq_set _ _ _ _ hj]
    simp
  simp [execOp, ha.ev hx, ha.ev hy, ha.ev hv, Instr.entryStore, MapKept.run_getObj_map hg, asInt, asIntOf, hidx, hmod, MapKept.run_setObj_map _ hg]
/-- m[key] = v, key there -/
theorem K_mapUpdateT {F : Asn → List Asn} {A B : List MapEntry} {e0 : MapEntry} (K : KeyT P k) (h : tlook tb.l t = some ⟨.map k e, s1, b1, z1⟩) (hx : ev ov x = some (.map (some b))) (hy : ev ov y = some e0.key) (hv : ev ov y2 = some v) (hu : Sel H (mapL b (A ++ e0 :: B) clock) F) (hM : MOk P k (A ++ e0 :: B) clock) (hd : dOk d n = true) :
    OpK P n D w0 ov H ⟨d, .mapUpdate t x y y2, T, pos, af, g⟩ (F (mapL b (A ++ { e0 with val := v } :: B) clock)) := by
  unfold OpK
  refine ⟨hd, fun a w ha hw => ?_⟩
  have hg := hw.map_get hu.mem
  have he : e0 ∈ A ++ e0 :: B := by simp
  obtain ⟨j, h1, h2⟩ := K.found w hM he
  refine ⟨_, ?_, hw.map_put (A ++ { e0 with val := v } :: B) clock hu⟩
  have hj : (A ++ e0 :: B).toArray[j]? = some e0 := by simpa using h2
  have hjA : j = A.length := by
    have hn := hM.born
    have hA : (A ++ e0 :: B)[A.length]? = some e0 := by simp
    have i1 := WideElems.findIdx_born hn h2
    have i2 := WideElems.findIdx_born hn hA
    rw [i1] at i2
    simpa using i2
  have hmod : (A ++ e0 :: B).modify j (fun e => { e with key := e0.key, val := v }) = A ++ { e0 with val := v } :: B := by
    rw [ChangeMaps.modify_eq_set _ _ _ _ h2, hjA]
    simp
  have hj' : (A ++ e0 :: B)[j]? = some e0 := h2
  simp [-List.append_toArray, -List.push_append_toArray, execOp, ha.ev hx, ha.ev hy, ha.ev hv, Instr.mapUpdate, run_underlying (und_map h), MapKept.run_getObj_map hg, K.check w _ (hM.key e0 he), h1, hj', K.stays w (hM.key e0 he), MapKept.run_setObj_map _ hg]
  rw [hmod]
theorem K_mapUpdateF {F : Asn → List Asn} (K : KeyT P k) (h : tlook tb.l t = some ⟨.map k e, s1, b1, z1⟩) (hx : ev ov x = some (.map (some b))) (hy : ev ov y = some key) (hv : ev ov y2 = some v) (hu : Sel H (mapL b es clock) F) (hM : MOk P k es clock) (hkey : isKey P k key) (hn : ∀ e ∈ es, e.key ≠ key) (hd : dOk d n = true) :
    OpK P n D w0 ov H ⟨d, .mapUpdate t x y y2, T, pos, af, g⟩ (F (mapL b (es ++ [⟨key, v, clock⟩]) (clock + 1))) := by
  unfold OpK
  refine ⟨hd, fun a w ha hw => ?_⟩
  have h1 := K.missed w hM hkey hn
  have hg := hw.map_get hu.mem
  refine ⟨_, ?_, hw.map_put (es ++ [⟨key, v, clock⟩]) (clock + 1) hu⟩
  simp [execOp, ha.ev hx, ha.ev hy, ha.ev hv, Instr.mapUpdate, run_underlying (und_map h), MapKept.run_getObj_map hg, K.check w _ hkey, h1, MapKept.run_setObj_map _ hg]
/-- a slice's cells as an array behind a pointer -/
theorem V_arrayAt {a : Option Addr} {m c q e : Nat} (hx : ev ov x = some (.slice a m c)) (h : tlook tb.l t = some ⟨.arr q e, s1, b1, z1⟩) (hq : q ≤ m) (hd : dOk d n = true) :
    OpV P n D w0 ov H ⟨d, .sliceToArrayPointer t x, T, pos, af, g⟩ (.pointer a) := by
  unfold OpV
  refine ⟨hd, fun A w ha hw => ?_⟩
  simp [execOp, ha.ev hx, Instr.arrayAt, run_underlying (und_arr h), Nat.not_lt.2 hq]
end
/-! many assertions as one -/
@[irreducible] def bigA (l : List Asn) : Asn where
  holds w fp := All l w fp ∧ fp.Nodup
  frame w w' fp h hk := ⟨h.1.frame hk, h.2⟩
  live w fp h := h.1.live
theorem bigA_holds {l w fp} : (bigA l).holds w fp ↔ All l w fp ∧ fp.Nodup := by unfold bigA; exact Iff.rfl
theorem All_append {w : World} : ∀ {A B : List Asn} {fp}, All (A ++ B) w fp ↔ ∃ f1 f2, fp = f1 ++ f2 ∧ All A w f1 ∧ All B w f2
  | [], B, fp => by
    constructor
    · intro h; exact ⟨[], fp, rfl, rfl, h⟩
    · rintro ⟨f1, f2, rfl, h1, h2⟩; simp [All] at h1; subst h1; exact h2
  | a :: A, B, fp => by
    constructor
    · rintro ⟨f1, f2, rfl, h1, h2⟩
      obtain ⟨g1, g2, rfl, h3, h4⟩ := All_append.1 h2
      exact ⟨f1 ++ g1, g2, by simp, ⟨f1, g1, rfl, h1, h3⟩, h4⟩
    · rintro ⟨f1, f2, rfl, ⟨g1, g2, rfl, h1, h2⟩, h3⟩
      exact ⟨g1, g2 ++ f2, by simp, h1, All_append.2 ⟨g2, f2, rfl, h2, h3⟩⟩
theorem St.unbig {w0 : World} {l H : List Asn} {w : World} (h : St w0 (bigA l :: H) w) : St w0 (l ++ H) w := by
  refine h.step («as» := [bigA l]) (bs := l) rfl rfl rfl (Nat.le_refl _) fun f1 hf hn _ => ?_
  obtain ⟨g1, g2, rfl, hg, hnil⟩ := hf
  simp [All] at hnil
  subst hnil
  rw [List.append_nil] at hn ⊢
  exact ⟨fun _ _ _ => rfl, g1, hn, fun _ hb => .inl hb, (bigA_holds.1 hg).1⟩
theorem St.big {w0 : World} {l H : List Asn} {w : World} (h : St w0 (l ++ H) w) : St w0 (bigA l :: H) w := by
  refine h.step («as» := l) (bs := [bigA l]) rfl rfl rfl (Nat.le_refl _) fun f1 hf hn _ => ?_
  exact ⟨fun _ _ _ => rfl, f1, hn, fun _ hb => .inl hb, f1, [], by simp, bigA_holds.2 ⟨hf, hn⟩, rfl⟩
/-- one of many is taken out, and put back -/
theorem St.big_out {w0 : World} {A B H : List Asn} {a : Asn} {w : World} (h : St w0 (bigA (A ++ a :: B) :: H) w) : St w0 (a :: bigA (A ++ B) :: H) w := by
  have h1 := h.unbig
  have h2 : St w0 ((A ++ B) ++ (a :: H)) w := h1.perm (by
    simp only [List.append_assoc, List.cons_append]
    exact List.Perm.append_left A (List.perm_middle.symm))
  exact h2.big.perm (List.Perm.swap _ _ _)
theorem St.big_in {w0 : World} {A B H : List Asn} {a : Asn} {w : World} (h : St w0 (a :: bigA (A ++ B) :: H) w) : St w0 (bigA (A ++ a :: B) :: H) w := by
  have h1 : St w0 (bigA (A ++ B) :: a :: H) w := h.perm (List.Perm.swap _ _ _)
  have h2 := h1.unbig
  refine St.big (h2.perm ?_)
  simp only [List.append_assoc, List.cons_append]
  exact List.Perm.append_left A (List.perm_middle)
theorem St.big_nil {w0 : World} {H : List Asn} {w : World} (h : St w0 H w) : St w0 (bigA [] :: H) w := St.big (l := []) h
end Sx
namespace Sx
open Go
section
variable {P : Program} {n : Nat} {D : List Deferred} {w0 : World} {ov : Ov} {H : List Asn}
  {d : Option Nat} {T : Nat} {pos : String} {af : Array Edge} {g : Option (Nat × Bool)} {x y : Operand} {tb : Tb P} {op : Op} {v : Value}
theorem OpE_ofV (h : OpV P n D w0 ov H ⟨d, op, T, pos, af, g⟩ v) : OpE (ι := Unit) P n D w0 ov H ⟨d, op, T, pos, af, g⟩ (fun _ => v) (fun _ => H) :=
  by
  unfold OpV at h
  unfold OpE
  exact ⟨h.1, fun a w ha hw => ⟨(), w, h.2 a w ha hw, hw⟩⟩
/-- an array that lies within a slice -/
theorem V_loadSub {t m c lo q sz sz1 by' : Nat} {ty : Ty} {z : Option (List Value)} {p : Option Addr} {cs vs : List Value} (hx : ev ov x = some (.pointer (subB p lo c sz1))) (hr : Rd w0 H (.slice p m c) m cs) (h : tlook tb.l t = some ⟨ty, sz, by', z⟩) (ha : aggT ty = true)
    (hq : lo + q ≤ m) (hsz : q * sz1 = sz) (hp : 0 < sz) (hl : vs.length = sz) (hv : (cs.drop (lo * sz1)).take sz = vs) (hd : dOk d n = true) : OpV P n D w0 ov H ⟨d, .load t x, T, pos, af, g⟩ (.agg vs.toArray) :=
  by
    unfold OpV
    refine ⟨hd, fun A w haa hw => ?_⟩
    have hs := Rd_sub (lo := lo) (hi := lo + q) (sz := sz1) hr (by omega) hq
    rw [Nat.add_sub_cancel_left, hsz, hv] at hs
    have hq0 : 0 < q := by
      rcases Nat.eq_zero_or_pos q with h | h
      · rw [h, Nat.zero_mul] at hsz; omega
      · exact h
    have hx' : ev ov x = some (cellPtr (.slice (subB p lo c sz1) q (c - lo)) 0) := by
      rw [hx]
      have hc := (hr.lcap hw).1
      cases p with
      | none => have := Rd.nil hr hw rfl; omega
      | some a =>
        rw [cellPtr_sub (by omega), subB, if_neg (by omega), Option.map_some, Nat.add_zero]
    have hv := V_loadCA (tb := tb) (T := T) (pos := pos) (af := af) (g := g) (n := n) (D := D) hx' hs h ha hl hp (by rw [List.drop_zero, ← hl, List.take_length]) hd
    unfold OpV at hv
    exact hv.2 A w haa hw
end
end Sx
namespace Sx
open Go
/-- a walk stops in front of a region -/
def Hold (p : Prop) : Prop := p
theorem Hold.go {p : Prop} (h : p) : Hold p := h
theorem hIx {P : Program} {f n : Nat} {R : Ending → World → Prop} {D : List Deferred} {w0 : World} {k : List Item} {ov : Ov} {H : List Asn} (i : Nat) {l : Array Oper} {b : Bool} {y : Code} (h : Hold (JS P f n R D w0 (.code (.seq (.region i l b) y) :: k) ov H)) : JS P f n R D w0 (.code (.seq (.region i l b) y) :: k) ov H := h
theorem hIx' {P : Program} {f n : Nat} {R : Ending → World → Prop} {D : List Deferred} {w0 : World} {k : List Item} {ov : Ov} {H : List Asn} (i : Nat) {l : Array Oper} {b : Bool} (h : Hold (JS P f n R D w0 (.code (.region i l b) :: k) ov H)) : JS P f n R D w0 (.code (.region i l b) :: k) ov H := h
attribute [irreducible] Hold
end Sx

set_option linter.unusedVariables false
set_option linter.unusedSimpArgs false
namespace Go.Proofs.Ytakgoflfcgofdaa
open Sx Go
section
variable {w0 : World} {H : List Asn}
set_option maxRecDepth 10000 in
set_option maxHeartbeats 2000000 in
/-- how many bytes are the same from two places on -/
theorem Same_c (b : Nat) (u : Value) (p : Option Addr) (c m : Nat) (B : List Int) (hr : Rd w0 H (.slice p m c) m (ints .u8 B)) (hb : blk b [.slice p m c, u] ∈ H) (hm : B.length = m) (i k : Nat) (hik : i < k) (hk : k ≤ m) (h4 : m ≤ 100000) (w : World) (hw : St w0 H w) :
    Calls Try.prog 92 #[.pointer (some ⟨b, 0, none⟩), .int .i64 i, .int .i64 k] w fun e w' => e = .returned (.int .i64 (sam B i k 258)) ∧ St w0 H w' := by
  refine enter (vs := [.pointer (some ⟨b, 0, none⟩), .int .i64 i, .int .i64 k]) Try.func92 rfl rfl rfl hw ?_
  repeat (first | (apply gJO; first | (apply kS; refine aK ?_) | (apply kX; refine JO_box rfl rfl rfl ?_; intro _) | (apply kA; refine JO_alloc (tb := tb) rfl rfl ?_; intro _) | (apply kBs; refine JO_buildSlice (tb := tb) rfl rfl rfl rfl rfl rfl rfl rfl rfl ?_; intro _) | (apply kM; refine JO_make (tb := tb) rfl rfl rfl rfl rfl rfl (by omega) rfl ?_; intro _) | refine aO ?_) | (apply gJR; first | apply JR_un | apply JR_nil | refine JR_yes rfl rfl ?_ | refine JR_no rfl rfl rfl rfl ?_ | refine JR_noU rfl rfl rfl ?_) | (apply gJS; first | apply JS_seq | apply JS_region | apply JS_skip | apply JS_block | apply JS_inBlock | apply JS_label | refine JS_exit rfl ?_ | refine JS_condT rfl ?_ | refine JS_condF rfl ?_ | refine JS_draw [0] (by kernel_rfl) (by kernel_rfl) (by decide +kernel) ?_ | refine JS_draw [] (by kernel_rfl) (by kernel_rfl) (by decide +kernel) ?_ | refine JS_cond_T rfl (by omega) ?_ | refine JS_cond_F rfl (by omega) ?_) | (apply gQR; first | apply QR_un | apply QR_nil | refine QR_yes rfl rfl ?_ | refine QR_no rfl rfl rfl rfl ?_ | refine QR_noU rfl rfl rfl ?_) | (apply gQO; first | refine aQ ?_ | refine aQK rfl ?_))
  refine JS_loop1 (fun (n : Nat) => [(0, .pointer (some ⟨b, 0, none⟩)), (1, .int .i64 i), (2, .int .i64 k), (7, .int .i64 n)]) (fun _ => H) (fun n => n ≤ 258 ∧ k + n ≤ m ∧ sam B i k 258 = n + sam B (i + n) (k + n) (258 - n)) (fun n => 258 - n) 0 ⟨by omega, by omega, by simp⟩ (by repeat (first | exact trivial | refine ⟨rfl, ?_⟩ | refine ⟨lookI rfl (by omega), ?_⟩)) (fun _ h => h) ?_
  intro n ⟨hn, hkn, he⟩ again
  by_cases h258 : n = 258
  case' pos =>
    clear again
    repeat (first | (apply gQO; refine QO_v rfl (oL (V_load (tb := tb) rfl hb rfl rfl rfl rfl)) ?_) | (first | (apply gJO; first | (apply kS; refine aK ?_) | (apply kX; refine JO_box rfl rfl rfl ?_; intro _) | (apply kA; refine JO_alloc (tb := tb) rfl rfl ?_; intro _) | (apply kBs; refine JO_buildSlice (tb := tb) rfl rfl rfl rfl rfl rfl rfl rfl rfl ?_; intro _) | (apply kM; refine JO_make (tb := tb) rfl rfl rfl rfl rfl rfl (by omega) rfl ?_; intro _) | refine aO ?_) | (apply gJR; first | apply JR_un | apply JR_nil | refine JR_yes rfl rfl ?_ | refine JR_no rfl rfl rfl rfl ?_ | refine JR_noU rfl rfl rfl ?_) | (apply gJS; first | apply JS_seq | apply JS_region | apply JS_skip | apply JS_block | apply JS_inBlock | apply JS_label | refine JS_exit rfl ?_ | refine JS_condT rfl ?_ | refine JS_condF rfl ?_ | refine JS_draw [0] (by kernel_rfl) (by kernel_rfl) (by decide +kernel) ?_ | refine JS_draw [] (by kernel_rfl) (by kernel_rfl) (by decide +kernel) ?_ | refine JS_cond_T rfl (by omega) ?_ | refine JS_cond_F rfl (by omega) ?_) | (apply gQR; first | apply QR_un | apply QR_nil | refine QR_yes rfl rfl ?_ | refine QR_no rfl rfl rfl rfl ?_ | refine QR_noU rfl rfl rfl ?_) | (apply gQO; first | refine aQ ?_ | refine aQK rfl ?_)))
    have hfin : sam B i k 258 = n := by rw [he, h258]; rfl
  case' neg =>
    by_cases hkm : k + n = m
    case' pos =>
      clear again
      repeat (first | (apply gQO; refine QO_v rfl (oL (V_load (tb := tb) rfl hb rfl rfl rfl rfl)) ?_) | (first | (apply gJO; first | (apply kS; refine aK ?_) | (apply kX; refine JO_box rfl rfl rfl ?_; intro _) | (apply kA; refine JO_alloc (tb := tb) rfl rfl ?_; intro _) | (apply kBs; refine JO_buildSlice (tb := tb) rfl rfl rfl rfl rfl rfl rfl rfl rfl ?_; intro _) | (apply kM; refine JO_make (tb := tb) rfl rfl rfl rfl rfl rfl (by omega) rfl ?_; intro _) | refine aO ?_) | (apply gJR; first | apply JR_un | apply JR_nil | refine JR_yes rfl rfl ?_ | refine JR_no rfl rfl rfl rfl ?_ | refine JR_noU rfl rfl rfl ?_) | (apply gJS; first | apply JS_seq | apply JS_region | apply JS_skip | apply JS_block | apply JS_inBlock | apply JS_label | refine JS_exit rfl ?_ | refine JS_condT rfl ?_ | refine JS_condF rfl ?_ | refine JS_draw [0] (by kernel_rfl) (by kernel_rfl) (by decide +kernel) ?_ | refine JS_draw [] (by kernel_rfl) (by kernel_rfl) (by decide +kernel) ?_ | refine JS_cond_T rfl (by omega) ?_ | refine JS_cond_F rfl (by omega) ?_) | (apply gQR; first | apply QR_un | apply QR_nil | refine QR_yes rfl rfl ?_ | refine QR_no rfl rfl rfl rfl ?_ | refine QR_noU rfl rfl rfl ?_) | (apply gQO; first | refine aQ ?_ | refine aQK rfl ?_)))
      have hfin : sam B i k 258 = n := by
        rw [he, show 258 - n = (257 - n) + 1 by omega, sam, if_neg (by omega)]; rfl
    case' neg =>
      have g1 : (ints .u8 B)[i + n]? = some (.int .u8 (B.getD (i + n) 0)) := ints_get (by omega)
      have g2 : (ints .u8 B)[k + n]? = some (.int .u8 (B.getD (k + n) 0)) := ints_get (by omega)
      by_cases heq : B.getD (i + n) 0 = B.getD (k + n) 0
      case' neg =>
        clear again
        repeat (first | (apply gQO; refine QO_v rfl (oL (V_load (tb := tb) rfl hb rfl rfl rfl rfl)) ?_) | (apply gQO; refine QO_v rfl (oL (V_loadC (tb := tb) rfl hr rfl rfl g1 rfl)) ?_) | (apply gQO; refine QO_v rfl (oL (V_loadC (tb := tb) rfl hr rfl rfl g2 rfl)) ?_) | (first | (apply gJO; first | (apply kS; refine aK ?_) | (apply kX; refine JO_box rfl rfl rfl ?_; intro _) | (apply kA; refine JO_alloc (tb := tb) rfl rfl ?_; intro _) | (apply kBs; refine JO_buildSlice (tb := tb) rfl rfl rfl rfl rfl rfl rfl rfl rfl ?_; intro _) | (apply kM; refine JO_make (tb := tb) rfl rfl rfl rfl rfl rfl (by omega) rfl ?_; intro _) | refine aO ?_) | (apply gJR; first | apply JR_un | apply JR_nil | refine JR_yes rfl rfl ?_ | refine JR_no rfl rfl rfl rfl ?_ | refine JR_noU rfl rfl rfl ?_) | (apply gJS; first | apply JS_seq | apply JS_region | apply JS_skip | apply JS_block | apply JS_inBlock | apply JS_label | refine JS_exit rfl ?_ | refine JS_condT rfl ?_ | refine JS_condF rfl ?_ | refine JS_draw [0] (by kernel_rfl) (by kernel_rfl) (by decide +kernel) ?_ | refine JS_draw [] (by kernel_rfl) (by kernel_rfl) (by decide +kernel) ?_ | refine JS_cond_T rfl (by omega) ?_ | refine JS_cond_F rfl (by omega) ?_) | (apply gQR; first | apply QR_un | apply QR_nil | refine QR_yes rfl rfl ?_ | refine QR_no rfl rfl rfl rfl ?_ | refine QR_noU rfl rfl rfl ?_) | (apply gQO; first | refine aQ ?_ | refine aQK rfl ?_)))
        have hfin : sam B i k 258 = n := by
          rw [he, show 258 - n = (257 - n) + 1 by omega, sam, if_neg (fun h => heq h.2)]; rfl
      case' pos =>
        repeat (first | (apply gQO; refine QO_v rfl (oL (V_load (tb := tb) rfl hb rfl rfl rfl rfl)) ?_) | (apply gQO; refine QO_v rfl (oL (V_loadC (tb := tb) rfl hr rfl rfl g1 rfl)) ?_) | (apply gQO; refine QO_v rfl (oL (V_loadC (tb := tb) rfl hr rfl rfl g2 rfl)) ?_) | (first | (apply gJO; first | (apply kS; refine aK ?_) | (apply kX; refine JO_box rfl rfl rfl ?_; intro _) | (apply kA; refine JO_alloc (tb := tb) rfl rfl ?_; intro _) | (apply kBs; refine JO_buildSlice (tb := tb) rfl rfl rfl rfl rfl rfl rfl rfl rfl ?_; intro _) | (apply kM; refine JO_make (tb := tb) rfl rfl rfl rfl rfl rfl (by omega) rfl ?_; intro _) | refine aO ?_) | (apply gJR; first | apply JR_un | apply JR_nil | refine JR_yes rfl rfl ?_ | refine JR_no rfl rfl rfl rfl ?_ | refine JR_noU rfl rfl rfl ?_) | (apply gJS; first | apply JS_seq | apply JS_region | apply JS_skip | apply JS_block | apply JS_inBlock | apply JS_label | refine JS_exit rfl ?_ | refine JS_condT rfl ?_ | refine JS_condF rfl ?_ | refine JS_draw [0] (by kernel_rfl) (by kernel_rfl) (by decide +kernel) ?_ | refine JS_draw [] (by kernel_rfl) (by kernel_rfl) (by decide +kernel) ?_ | refine JS_cond_T rfl (by omega) ?_ | refine JS_cond_F rfl (by omega) ?_) | (apply gQR; first | apply QR_un | apply QR_nil | refine QR_yes rfl rfl ?_ | refine QR_no rfl rfl rfl rfl ?_ | refine QR_noU rfl rfl rfl ?_) | (apply gQO; first | refine aQ ?_ | refine aQK rfl ?_)))
        exact JS_again1 again (n + 1) ⟨by omega, by omega, by rw [he, show 258 - n = (258 - (n + 1)) + 1 by omega, sam, if_pos ⟨by omega, heq⟩, show i + n + 1 = i + (n + 1) by omega, show k + n + 1 = k + (n + 1) by omega]; omega⟩ (by omega) (by repeat (first | exact trivial | refine ⟨rfl, ?_⟩ | refine ⟨lookI rfl (by omega), ?_⟩)) (fun w hw => hw)
  all_goals
    refine JS_ret Try.func92 rfl rfl fun w hw => ⟨?_, hw⟩
    rw [hfin]
    rfl
end
/-! the places: entries of the map with the slices that they hold -/
abbrev PX := MapEntry × List Nat
def vx (x : PX) : Asn := vec 3 1 x.1.val x.2.length (ints .i64 (x.2.map Int.ofNat))
def kv (x : K3) : Value := .agg #[.int .u8 x.1, .int .u8 x.2.1, .int .u8 x.2.2]
theorem kv_inj {x y : K3} (h : kv x = kv y) : x = y := by
  obtain ⟨x1, x2, x3⟩ := x
  obtain ⟨y1, y2, y3⟩ := y
  simp [kv] at h
  simp [h]
abbrev plA (bp bm : Nat) (p : Option Addr) (c m : Nat) (X : List PX) (clock : Nat) (H : List Asn) : List Asn := blk bp [.slice p m c, .map (some bm)] :: mapL bm (X.map Prod.fst) clock :: bigA (X.map vx) :: H
structure PI (B : List Int) (at_ : Nat) (X : List PX) (clock : Nat) : Prop where
  ok : MOk Try.prog 124 (X.map Prod.fst) clock
  key : ∀ x ∈ X, ∃ i, i + 3 ≤ B.length ∧ i < at_ ∧ x.1.key = kv (k3 B i) ∧ x.2 = plc B at_ (k3 B i) ∧ ∃ q d, x.1.val = .slice q x.2.length d
  all : ∀ i, i < at_ → i + 3 ≤ B.length → ∃ x ∈ X, x.1.key = kv (k3 B i)
theorem PI.nil (B : List Int) (clock : Nat) : PI B 0 [] clock := ⟨MOk.nil, by simp, by simp⟩
theorem kund : Try.prog.underlying 124 = some (.array 3 5) := by kernel_rfl
theorem kundb : Try.prog.underlying 5 = some (.int .u8) := by kernel_rfl
theorem kcell : Try.prog.cellsOf 124 = 3 := by kernel_rfl
theorem kcellb : Try.prog.cellsOf 5 = 1 := by kernel_rfl
theorem ktype : Try.prog.keyType 124 = true := by kernel_rfl
theorem klaw : WideMaps.KeyLaw Try.prog 124 := deep_law_laid (by kernel_rfl) (m := 2) (by omega) (by decide +kernel) (by kernel_rfl) (by kernel_rfl)
theorem kkt : KeyT Try.prog 124 := KeyT.of (Maps.Keyed.of_law klaw)
theorem okb_wf {a : Int} (h : 0 ≤ a ∧ a < 256) : (Lit.int .u8 a).wf = true := by
  simp [Lit.wf, IntKind.min, IntKind.max, IntKind.bits, IntKind.signed]; omega
theorem kv_key {x : K3} (h1 : 0 ≤ x.1 ∧ x.1 < 256) (h2 : 0 ≤ x.2.1 ∧ x.2.1 < 256) (h3 : 0 ≤ x.2.2 ∧ x.2.2 < 256) : isKey Try.prog 124 (kv x) := by
  unfold isKey keyOf
  obtain ⟨n, hn⟩ : ∃ n, Try.prog.types.size = n := ⟨_, rfl⟩
  have w1 := okb_wf h1
  have w2 := okb_wf h2
  have w3 := okb_wf h3
  have hk := ktype
  have hf : (kv x).formed Try.prog 124 = true := by
    unfold kv Value.formed
    simp [kund, kcell]
  have hc : (kv x).cells.toList = [.int .u8 x.1, .int .u8 x.2.1, .int .u8 x.2.2] := rfl
  have hn1 : 1 ≤ n := by rw [← hn]; decide +kernel
  obtain ⟨n', rfl⟩ : ∃ n', n = n' + 1 := ⟨n - 1, by omega⟩
  simp only [kund]
  rw [hk, hf, hn, hc]
  have kl' : ∀ a : Int, (Lit.int .u8 a).wf = true → Try.prog.keyLits (n' + 1) 5 [.int .u8 a] = some [.int .u8 a] := fun a h => by
    simp [Program.keyLits, kundb, h]
  have kl3' : Try.prog.keyLits (n' + 1 + 1) 124 [.int .u8 x.1, .int .u8 x.2.1, .int .u8 x.2.2] = some [.int .u8 x.1, .int .u8 x.2.1, .int .u8 x.2.2] := by
    rw [Program.keyLits.eq_def]
    simp only [kund, kcell, kcellb]
    simp [kl' _ w1, kl' _ w2, kl' _ w3, List.range, List.range.loop]
  rw [kl3']
  exact ⟨_, rfl⟩
end Go.Proofs.Ytakgoflfcgofdaa

set_option linter.unusedVariables false
set_option linter.unusedSimpArgs false
namespace Go.Proofs.Ytakgoflfcgofdaa
open Sx Go
theorem kzero (w : World) : (zeroValue 108).run Try.prog w = .ok (.slice none 0 0) w := by
  have h : (Try.prog.info? 108).bind (·.zero) = some (.slice none 0 0) := by kernel_rfl
  obtain ⟨x, h1, h2⟩ := Option.bind_eq_some_iff.1 h
  simp [zeroValue, typeInfo, h1, h2]
theorem ints_i64 (l : List Nat) (j : Nat) (h : j < l.length) : (ints .i64 (l.map Int.ofNat))[j]? = some (.int .i64 (l.getD j 0 : Nat)) := by
  unfold ints
  rw [List.getElem?_map, List.getElem?_map, List.getElem?_eq_getElem h]
  simp [List.getD_eq_getElem?_getD, h]
theorem drop3 (B : List Int) (i : Nat) (h : i + 3 ≤ B.length) : ((ints .u8 B).drop (i * 1)).take 3 = [.int .u8 (k3 B i).1, .int .u8 (k3 B i).2.1, .int .u8 (k3 B i).2.2] := by
  unfold k3
  have e : B.drop i = B.getD i 0 :: B.getD (i + 1) 0 :: B.getD (i + 2) 0 :: B.drop (i + 3) := by
    rw [List.drop_eq_getElem_cons (by omega), List.drop_eq_getElem_cons (by omega), List.drop_eq_getElem_cons (by omega)]
    simp [List.getD_eq_getElem?_getD, List.getElem?_eq_getElem (show i < B.length by omega), List.getElem?_eq_getElem (show i + 1 < B.length by omega), List.getElem?_eq_getElem (show i + 2 < B.length by omega)]
  unfold ints
  rw [Nat.mul_one, ← List.map_drop, e]
  rfl
/-- the byte of a token's cells -/
def tkx (B : List Int) (at_ n : Nat) : Int := if n = 0 then B.getD at_ 0 else 0
section
variable {w0 : World} {H : List Asn}
attribute [local irreducible] pst plc sam
set_option maxRecDepth 10000 in
set_option maxHeartbeats 4000000 in
/-- the places, from the newest on -/
theorem Best_t {R : Ending → World → Prop} (bp bt br : Nat) (u : Value) (p : Option Addr) (c m : Nat) (B : List Int) (i : Nat) (L : List Nat) (q : Option Addr) (dd : Nat)
    (hr : Rd w0 H (.slice p m c) m (ints .u8 B)) (hb : blk bp [.slice p m c, u] ∈ H) (hm : B.length = m) (hl : Rd w0 H (.slice q L.length dd) L.length (ints .i64 (L.map Int.ofNat))) (hi : i < m) (hL : ∀ j, j < L.length → L.getD j 0 < i) (h4 : m ≤ 100000) (hLl : L.length ≤ 100000)
    (hR : ∀ w s, s = pst B i L.reverse (0, 0) → (s = (0, 0) ∨ 0 < s.1) → St w0 H w → R (.returned (.agg #[.int .u8 (tkx B i s.1), .int .i64 s.1, .int .i64 s.2])) w) :
    JS Try.prog 68 Try.f68.ntmps R [] w0 (todo Try.f68 [.b, .b, .b, .b, .a]) [(0, .pointer (some ⟨bp, 0, none⟩)), (1, .int .i64 i), (4, .pointer (some ⟨br, 0, none⟩)), (5, .pointer (some ⟨bt, 0, none⟩)), (6, .slice q L.length dd)]
      (blk bt [.int .u8 (B.getD i 0), .int .i64 0, .int .i64 0] :: blk br [.int .u8 0, .int .i64 0, .int .i64 0] :: H) := by
  refine JS_at rfl ?_
  repeat (first | (apply gJO; first | (apply kS; refine aK ?_) | (apply kX; refine JO_box rfl rfl rfl ?_; intro _) | (apply kA; refine JO_alloc (tb := tb) rfl rfl ?_; intro _) | (apply kBs; refine JO_buildSlice (tb := tb) rfl rfl rfl rfl rfl rfl rfl rfl rfl ?_; intro _) | (apply kM; refine JO_make (tb := tb) rfl rfl rfl rfl rfl rfl (by omega) rfl ?_; intro _) | refine aO ?_) | (apply gJR; first | apply JR_un | apply JR_nil | refine JR_yes rfl rfl ?_ | refine JR_no rfl rfl rfl rfl ?_ | refine JR_noU rfl rfl rfl ?_) | (apply gJS; first | apply JS_seq | apply JS_region | apply JS_skip | apply JS_block | apply JS_inBlock | apply JS_label | refine JS_exit rfl ?_ | refine JS_condT rfl ?_ | refine JS_condF rfl ?_ | refine JS_draw [0] (by kernel_rfl) (by kernel_rfl) (by decide +kernel) ?_ | refine JS_draw [] (by kernel_rfl) (by kernel_rfl) (by decide +kernel) ?_ | refine JS_cond_T rfl (by omega) ?_ | refine JS_cond_F rfl (by omega) ?_) | (apply gQR; first | apply QR_un | apply QR_nil | refine QR_yes rfl rfl ?_ | refine QR_no rfl rfl rfl rfl ?_ | refine QR_noU rfl rfl rfl ?_) | (apply gQO; first | refine aQ ?_ | refine aQK rfl ?_))
  refine JS_loop3 (fun (k n d : Nat) => [(0, .pointer (some ⟨bp, 0, none⟩)), (1, .int .i64 i), (4, .pointer (some ⟨br, 0, none⟩)), (5, .pointer (some ⟨bt, 0, none⟩)), (6, .slice q L.length dd), (7, .int .i64 (k - 1 : Int))])
    (fun k n d => blk bt [.int .u8 (tkx B i n), .int .i64 n, .int .i64 d] :: blk br [.int .u8 0, .int .i64 0, .int .i64 0] :: H)
    (fun k n d => k ≤ L.length ∧ n ≠ 258 ∧ ((n, d) = (0, 0) ∨ 0 < n) ∧ pst B i L.reverse (0, 0) = pst B i (L.take k).reverse (n, d)) (fun k _ _ => k) L.length 0 0 ⟨Nat.le_refl _, by omega, .inl rfl, by rw [List.take_length]⟩ (by repeat (first | exact trivial | refine ⟨rfl, ?_⟩ | refine ⟨lookI rfl (by omega), ?_⟩)) (fun w h => by rw [show tkx B i 0 = B.getD i 0 from rfl]; exact h) ?_
  intro k n d ⟨hk, hn, hnd, he⟩ again
  have hfinal : ∀ (n d : Nat), pst B i L.reverse (0, 0) = (n, d) → ((n, d) = (0, 0) ∨ 0 < n) → ∀ w, St w0 (blk bt [.int .u8 (tkx B i n), .int .i64 n, .int .i64 d] :: blk br [.int .u8 (tkx B i n), .int .i64 n, .int .i64 d] :: H) w → R (.returned (.agg #[.int .u8 (tkx B i n), .int .i64 n, .int .i64 d])) w :=
    fun n d h1 h2 w hw => hR w (n, d) h1.symm h2 hw.drop.drop
  cases k with
  | zero =>
    clear again
    rw [show ((0 : Nat) : Int) - 1 = -1 from rfl]
    have hf := hfinal n d (by rw [he]; unfold pst; rfl) hnd
    repeat (first | (apply gJO; first | (apply kS; refine aK ?_) | (apply kX; refine JO_box rfl rfl rfl ?_; intro _) | (apply kA; refine JO_alloc (tb := tb) rfl rfl ?_; intro _) | (apply kBs; refine JO_buildSlice (tb := tb) rfl rfl rfl rfl rfl rfl rfl rfl rfl ?_; intro _) | (apply kM; refine JO_make (tb := tb) rfl rfl rfl rfl rfl rfl (by omega) rfl ?_; intro _) | refine aO ?_) | (apply gJR; first | apply JR_un | apply JR_nil | refine JR_yes rfl rfl ?_ | refine JR_no rfl rfl rfl rfl ?_ | refine JR_noU rfl rfl rfl ?_) | (apply gJS; first | apply JS_seq | apply JS_region | apply JS_skip | apply JS_block | apply JS_inBlock | apply JS_label | refine JS_exit rfl ?_ | refine JS_condT rfl ?_ | refine JS_condF rfl ?_ | refine JS_draw [0] (by kernel_rfl) (by kernel_rfl) (by decide +kernel) ?_ | refine JS_draw [] (by kernel_rfl) (by kernel_rfl) (by decide +kernel) ?_ | refine JS_cond_T rfl (by omega) ?_ | refine JS_cond_F rfl (by omega) ?_) | (apply gQR; first | apply QR_un | apply QR_nil | refine QR_yes rfl rfl ?_ | refine QR_no rfl rfl rfl rfl ?_ | refine QR_noU rfl rfl rfl ?_) | (apply gQO; first | refine aQ ?_ | refine aQK rfl ?_))
    refine JS_retC (tb := tb) (vs := [.agg #[.int .u8 (tkx B i n), .int .i64 n, .int .i64 d]]) Try.func68 rfl (by first | exact ResV.agg (tb := tb) rfl (by repeat (first | apply List.Mem.head | apply List.Mem.tail)) rfl rfl rfl ResV.nil | exact ResV.agg (tb := tb) rfl (by repeat (first | apply List.Mem.head | apply List.Mem.tail)) rfl rfl rfl (ResV.tmp rfl ResV.nil) | exact ResV.agg (tb := tb) rfl (by repeat (first | apply List.Mem.head | apply List.Mem.tail)) rfl rfl rfl (ResV.tmp rfl (ResV.tmp rfl ResV.nil)) | exact ResV.one (tb := tb) rfl (by repeat (first | apply List.Mem.head | apply List.Mem.tail)) rfl rfl rfl ResV.nil | exact ResV.one (tb := tb) rfl (by repeat (first | apply List.Mem.head | apply List.Mem.tail)) rfl rfl rfl (ResV.tmp rfl ResV.nil) | exact ResV.one (tb := tb) rfl (by repeat (first | apply List.Mem.head | apply List.Mem.tail)) rfl rfl rfl (ResV.one (tb := tb) rfl (by repeat (first | apply List.Mem.head | apply List.Mem.tail)) rfl rfl rfl ResV.nil) | exact ResV.tmp rfl (ResV.agg (tb := tb) rfl (by repeat (first | apply List.Mem.head | apply List.Mem.tail)) rfl rfl rfl ResV.nil) | exact ResV.tmp rfl (ResV.one (tb := tb) rfl (by repeat (first | apply List.Mem.head | apply List.Mem.tail)) rfl rfl rfl ResV.nil)) hf
  | succ k =>
    rw [show ((k + 1 : Nat) : Int) - 1 = (k : Int) by omega]
    have gL := ints_i64 L k (by omega)
    have hjl := hL k (by omega)
    obtain ⟨j, hj⟩ : ∃ j, L.getD k 0 = j := ⟨_, rfl⟩
    rw [hj] at gL hjl
    have htk : (L.take (k + 1)).reverse = j :: (L.take k).reverse := by
      rw [List.take_add_one, List.reverse_append, List.getElem?_eq_getElem (by omega)]
      rw [List.getD_eq_getElem?_getD, List.getElem?_eq_getElem (by omega)] at hj
      simp only [Option.getD_some] at hj
      rw [hj]; rfl
    rw [htk] at he
    by_cases hfar : 32768 < i - j
    · clear again
      have hf := hfinal n d (by rw [he]; unfold pst; rw [if_pos hfar]) hnd
      repeat (first | (apply gJO; refine JO_v (oL (V_loadC (tb := tb) rfl (Rd_weak hl fun w hw => St.sub (by repeat (first | exact List.Sublist.refl _ | apply List.Sublist.cons_cons | apply List.Sublist.cons)) hw) rfl rfl gL rfl)) ?_) | (first | (apply gJO; first | (apply kS; refine aK ?_) | (apply kX; refine JO_box rfl rfl rfl ?_; intro _) | (apply kA; refine JO_alloc (tb := tb) rfl rfl ?_; intro _) | (apply kBs; refine JO_buildSlice (tb := tb) rfl rfl rfl rfl rfl rfl rfl rfl rfl ?_; intro _) | (apply kM; refine JO_make (tb := tb) rfl rfl rfl rfl rfl rfl (by omega) rfl ?_; intro _) | refine aO ?_) | (apply gJR; first | apply JR_un | apply JR_nil | refine JR_yes rfl rfl ?_ | refine JR_no rfl rfl rfl rfl ?_ | refine JR_noU rfl rfl rfl ?_) | (apply gJS; first | apply JS_seq | apply JS_region | apply JS_skip | apply JS_block | apply JS_inBlock | apply JS_label | refine JS_exit rfl ?_ | refine JS_condT rfl ?_ | refine JS_condF rfl ?_ | refine JS_draw [0] (by kernel_rfl) (by kernel_rfl) (by decide +kernel) ?_ | refine JS_draw [] (by kernel_rfl) (by kernel_rfl) (by decide +kernel) ?_ | refine JS_cond_T rfl (by omega) ?_ | refine JS_cond_F rfl (by omega) ?_) | (apply gQR; first | apply QR_un | apply QR_nil | refine QR_yes rfl rfl ?_ | refine QR_no rfl rfl rfl rfl ?_ | refine QR_noU rfl rfl rfl ?_) | (apply gQO; first | refine aQ ?_ | refine aQK rfl ?_)))
      refine JS_retC (tb := tb) (vs := [.agg #[.int .u8 (tkx B i n), .int .i64 n, .int .i64 d]]) Try.func68 rfl (by first | exact ResV.agg (tb := tb) rfl (by repeat (first | apply List.Mem.head | apply List.Mem.tail)) rfl rfl rfl ResV.nil | exact ResV.agg (tb := tb) rfl (by repeat (first | apply List.Mem.head | apply List.Mem.tail)) rfl rfl rfl (ResV.tmp rfl ResV.nil) | exact ResV.agg (tb := tb) rfl (by repeat (first | apply List.Mem.head | apply List.Mem.tail)) rfl rfl rfl (ResV.tmp rfl (ResV.tmp rfl ResV.nil)) | exact ResV.one (tb := tb) rfl (by repeat (first | apply List.Mem.head | apply List.Mem.tail)) rfl rfl rfl ResV.nil | exact ResV.one (tb := tb) rfl (by repeat (first | apply List.Mem.head | apply List.Mem.tail)) rfl rfl rfl (ResV.tmp rfl ResV.nil) | exact ResV.one (tb := tb) rfl (by repeat (first | apply List.Mem.head | apply List.Mem.tail)) rfl rfl rfl (ResV.one (tb := tb) rfl (by repeat (first | apply List.Mem.head | apply List.Mem.tail)) rfl rfl rfl ResV.nil) | exact ResV.tmp rfl (ResV.agg (tb := tb) rfl (by repeat (first | apply List.Mem.head | apply List.Mem.tail)) rfl rfl rfl ResV.nil) | exact ResV.tmp rfl (ResV.one (tb := tb) rfl (by repeat (first | apply List.Mem.head | apply List.Mem.tail)) rfl rfl rfl ResV.nil)) hf
    · have hs := sam_le B 258 j i
      repeat (first | (apply gJO; refine JO_v (oL (V_loadC (tb := tb) rfl (Rd_weak hl fun w hw => St.sub (by repeat (first | exact List.Sublist.refl _ | apply List.Sublist.cons_cons | apply List.Sublist.cons)) hw) rfl rfl gL rfl)) ?_) | (first | (apply gJO; first | (apply kS; refine aK ?_) | (apply kX; refine JO_box rfl rfl rfl ?_; intro _) | (apply kA; refine JO_alloc (tb := tb) rfl rfl ?_; intro _) | (apply kBs; refine JO_buildSlice (tb := tb) rfl rfl rfl rfl rfl rfl rfl rfl rfl ?_; intro _) | (apply kM; refine JO_make (tb := tb) rfl rfl rfl rfl rfl rfl (by omega) rfl ?_; intro _) | refine aO ?_) | (apply gJR; first | apply JR_un | apply JR_nil | refine JR_yes rfl rfl ?_ | refine JR_no rfl rfl rfl rfl ?_ | refine JR_noU rfl rfl rfl ?_) | (apply gJS; first | apply JS_seq | apply JS_region | apply JS_skip | apply JS_block | apply JS_inBlock | apply JS_label | refine JS_exit rfl ?_ | refine JS_condT rfl ?_ | refine JS_condF rfl ?_ | refine JS_draw [0] (by kernel_rfl) (by kernel_rfl) (by decide +kernel) ?_ | refine JS_draw [] (by kernel_rfl) (by kernel_rfl) (by decide +kernel) ?_ | refine JS_cond_T rfl (by omega) ?_ | refine JS_cond_F rfl (by omega) ?_) | (apply gQR; first | apply QR_un | apply QR_nil | refine QR_yes rfl rfl ?_ | refine QR_no rfl rfl rfl rfl ?_ | refine QR_noU rfl rfl rfl ?_) | (apply gQO; first | refine aQ ?_ | refine aQK rfl ?_)))
      refine JO_call Try.call92 rfl rfl fun w hw => (Same_c bp u p c m B (Rd_weak hr fun w hw => St.sub (by repeat (first | exact List.Sublist.refl _ | apply List.Sublist.cons_cons | apply List.Sublist.cons)) hw) (List.Mem.tail _ (List.Mem.tail _ hb)) hm j i hjl (by omega) (by omega) w hw).mono ?_
      rintro e w' ⟨rfl, hw'⟩
      refine ⟨_, rfl, _, hw', ?_⟩
      clear hw' hw w w'
      have hpst : pst B i (j :: (L.take k).reverse) (n, d) = if (if n < sam B j i 258 then (sam B j i 258, i - j) else (n, d)).1 = 258 then (if n < sam B j i 258 then (sam B j i 258, i - j) else (n, d)) else pst B i (L.take k).reverse (if n < sam B j i 258 then (sam B j i 258, i - j) else (n, d)) := by
        rw [pst.eq_def]; simp only []; rw [if_neg hfar]
      rw [hpst] at he
      clear hpst htk
      obtain ⟨s, hse⟩ : ∃ s, sam B j i 258 = s := ⟨_, rfl⟩
      rw [hse] at he hs ⊢
      have hij : ((i : Int) - (j : Int)) = ((i - j : Nat) : Int) := by omega
      by_cases hlt : n < s
      · rw [if_pos hlt] at he
        have hx0 : tkx B i s = 0 := by unfold tkx; rw [if_neg (by omega)]
        repeat (first | (apply gJO; refine JO_v (oL (V_loadC (tb := tb) rfl (Rd_weak hl fun w hw => St.sub (by repeat (first | exact List.Sublist.refl _ | apply List.Sublist.cons_cons | apply List.Sublist.cons)) hw) rfl rfl gL rfl)) ?_) | (first | (apply gJO; first | (apply kS; refine aK ?_) | (apply kX; refine JO_box rfl rfl rfl ?_; intro _) | (apply kA; refine JO_alloc (tb := tb) rfl rfl ?_; intro _) | (apply kBs; refine JO_buildSlice (tb := tb) rfl rfl rfl rfl rfl rfl rfl rfl rfl ?_; intro _) | (apply kM; refine JO_make (tb := tb) rfl rfl rfl rfl rfl rfl (by omega) rfl ?_; intro _) | refine aO ?_) | (apply gJR; first | apply JR_un | apply JR_nil | refine JR_yes rfl rfl ?_ | refine JR_no rfl rfl rfl rfl ?_ | refine JR_noU rfl rfl rfl ?_) | (apply gJS; first | apply JS_seq | apply JS_region | apply JS_skip | apply JS_block | apply JS_inBlock | apply JS_label | refine JS_exit rfl ?_ | refine JS_condT rfl ?_ | refine JS_condF rfl ?_ | refine JS_draw [0] (by kernel_rfl) (by kernel_rfl) (by decide +kernel) ?_ | refine JS_draw [] (by kernel_rfl) (by kernel_rfl) (by decide +kernel) ?_ | refine JS_cond_T rfl (by omega) ?_ | refine JS_cond_F rfl (by omega) ?_) | (apply gQR; first | apply QR_un | apply QR_nil | refine QR_yes rfl rfl ?_ | refine QR_no rfl rfl rfl rfl ?_ | refine QR_noU rfl rfl rfl ?_) | (apply gQO; first | refine aQ ?_ | refine aQK rfl ?_)))
        rw [hij, show (Value.int .u8 0) = .int .u8 (tkx B i s) by rw [hx0]]
        by_cases h258 : s = 258
        · rw [if_pos h258] at he
          have hf := hfinal s (i - j) he (.inr (by omega))
          clear again
          repeat (first | (apply gJO; first | (apply kS; refine aK ?_) | (apply kX; refine JO_box rfl rfl rfl ?_; intro _) | (apply kA; refine JO_alloc (tb := tb) rfl rfl ?_; intro _) | (apply kBs; refine JO_buildSlice (tb := tb) rfl rfl rfl rfl rfl rfl rfl rfl rfl ?_; intro _) | (apply kM; refine JO_make (tb := tb) rfl rfl rfl rfl rfl rfl (by omega) rfl ?_; intro _) | refine aO ?_) | (apply gJR; first | apply JR_un | apply JR_nil | refine JR_yes rfl rfl ?_ | refine JR_no rfl rfl rfl rfl ?_ | refine JR_noU rfl rfl rfl ?_) | (apply gJS; first | apply JS_seq | apply JS_region | apply JS_skip | apply JS_block | apply JS_inBlock | apply JS_label | refine JS_exit rfl ?_ | refine JS_condT rfl ?_ | refine JS_condF rfl ?_ | refine JS_draw [0] (by kernel_rfl) (by kernel_rfl) (by decide +kernel) ?_ | refine JS_draw [] (by kernel_rfl) (by kernel_rfl) (by decide +kernel) ?_ | refine JS_cond_T rfl (by omega) ?_ | refine JS_cond_F rfl (by omega) ?_) | (apply gQR; first | apply QR_un | apply QR_nil | refine QR_yes rfl rfl ?_ | refine QR_no rfl rfl rfl rfl ?_ | refine QR_noU rfl rfl rfl ?_) | (apply gQO; first | refine aQ ?_ | refine aQK rfl ?_))
          refine JS_retC (tb := tb) (vs := [.agg #[.int .u8 (tkx B i s), .int .i64 s, .int .i64 (i - j : Nat)]]) Try.func68 rfl (by first | exact ResV.agg (tb := tb) rfl (by repeat (first | apply List.Mem.head | apply List.Mem.tail)) rfl rfl rfl ResV.nil | exact ResV.agg (tb := tb) rfl (by repeat (first | apply List.Mem.head | apply List.Mem.tail)) rfl rfl rfl (ResV.tmp rfl ResV.nil) | exact ResV.agg (tb := tb) rfl (by repeat (first | apply List.Mem.head | apply List.Mem.tail)) rfl rfl rfl (ResV.tmp rfl (ResV.tmp rfl ResV.nil)) | exact ResV.one (tb := tb) rfl (by repeat (first | apply List.Mem.head | apply List.Mem.tail)) rfl rfl rfl ResV.nil | exact ResV.one (tb := tb) rfl (by repeat (first | apply List.Mem.head | apply List.Mem.tail)) rfl rfl rfl (ResV.tmp rfl ResV.nil) | exact ResV.one (tb := tb) rfl (by repeat (first | apply List.Mem.head | apply List.Mem.tail)) rfl rfl rfl (ResV.one (tb := tb) rfl (by repeat (first | apply List.Mem.head | apply List.Mem.tail)) rfl rfl rfl ResV.nil) | exact ResV.tmp rfl (ResV.agg (tb := tb) rfl (by repeat (first | apply List.Mem.head | apply List.Mem.tail)) rfl rfl rfl ResV.nil) | exact ResV.tmp rfl (ResV.one (tb := tb) rfl (by repeat (first | apply List.Mem.head | apply List.Mem.tail)) rfl rfl rfl ResV.nil)) hf
        · rw [if_neg h258] at he
          repeat (first | (apply gJO; first | (apply kS; refine aK ?_) | (apply kX; refine JO_box rfl rfl rfl ?_; intro _) | (apply kA; refine JO_alloc (tb := tb) rfl rfl ?_; intro _) | (apply kBs; refine JO_buildSlice (tb := tb) rfl rfl rfl rfl rfl rfl rfl rfl rfl ?_; intro _) | (apply kM; refine JO_make (tb := tb) rfl rfl rfl rfl rfl rfl (by omega) rfl ?_; intro _) | refine aO ?_) | (apply gJR; first | apply JR_un | apply JR_nil | refine JR_yes rfl rfl ?_ | refine JR_no rfl rfl rfl rfl ?_ | refine JR_noU rfl rfl rfl ?_) | (apply gJS; first | apply JS_seq | apply JS_region | apply JS_skip | apply JS_block | apply JS_inBlock | apply JS_label | refine JS_exit rfl ?_ | refine JS_condT rfl ?_ | refine JS_condF rfl ?_ | refine JS_draw [0] (by kernel_rfl) (by kernel_rfl) (by decide +kernel) ?_ | refine JS_draw [] (by kernel_rfl) (by kernel_rfl) (by decide +kernel) ?_ | refine JS_cond_T rfl (by omega) ?_ | refine JS_cond_F rfl (by omega) ?_) | (apply gQR; first | apply QR_un | apply QR_nil | refine QR_yes rfl rfl ?_ | refine QR_no rfl rfl rfl rfl ?_ | refine QR_noU rfl rfl rfl ?_) | (apply gQO; first | refine aQ ?_ | refine aQK rfl ?_))
          exact JS_again3 again k s (i - j) ⟨by omega, h258, .inr (by omega), he⟩ (by omega) (by repeat (first | exact trivial | refine ⟨rfl, ?_⟩ | refine ⟨lookI rfl (by omega), ?_⟩)) (fun w hw => by rw [hx0] at hw ⊢; exact hw)
      · rw [if_neg hlt] at he
        rw [if_neg hn] at he
        repeat (first | (apply gJO; first | (apply kS; refine aK ?_) | (apply kX; refine JO_box rfl rfl rfl ?_; intro _) | (apply kA; refine JO_alloc (tb := tb) rfl rfl ?_; intro _) | (apply kBs; refine JO_buildSlice (tb := tb) rfl rfl rfl rfl rfl rfl rfl rfl rfl ?_; intro _) | (apply kM; refine JO_make (tb := tb) rfl rfl rfl rfl rfl rfl (by omega) rfl ?_; intro _) | refine aO ?_) | (apply gJR; first | apply JR_un | apply JR_nil | refine JR_yes rfl rfl ?_ | refine JR_no rfl rfl rfl rfl ?_ | refine JR_noU rfl rfl rfl ?_) | (apply gJS; first | apply JS_seq | apply JS_region | apply JS_skip | apply JS_block | apply JS_inBlock | apply JS_label | refine JS_exit rfl ?_ | refine JS_condT rfl ?_ | refine JS_condF rfl ?_ | refine JS_draw [0] (by kernel_rfl) (by kernel_rfl) (by decide +kernel) ?_ | refine JS_draw [] (by kernel_rfl) (by kernel_rfl) (by decide +kernel) ?_ | refine JS_cond_T rfl (by omega) ?_ | refine JS_cond_F rfl (by omega) ?_) | (apply gQR; first | apply QR_un | apply QR_nil | refine QR_yes rfl rfl ?_ | refine QR_no rfl rfl rfl rfl ?_ | refine QR_noU rfl rfl rfl ?_) | (apply gQO; first | refine aQ ?_ | refine aQK rfl ?_))
        exact JS_again3 again k n d ⟨by omega, hn, hnd, he⟩ (by omega) (by repeat (first | exact trivial | refine ⟨rfl, ?_⟩ | refine ⟨lookI rfl (by omega), ?_⟩)) (fun w hw => hw)
attribute [local irreducible] tok k3
theorem kk3 {B : List Int} (hB : OKB B) (i : Nat) : isKey Try.prog 124 (kv (k3 B i)) := by
  unfold k3
  exact kv_key (hB i) (hB (i + 1)) (hB (i + 2))
theorem tok_pst {B : List Int} {i : Nat} (h3 : i + 3 ≤ B.length) {s : Nat × Nat} (hs : s = pst B i (plc B i (k3 B i)).reverse (0, 0)) (h0 : s = (0, 0) ∨ 0 < s.1) : tok B i = (tkx B i s.1, s.1, s.2) := by
  rw [tok_far B i h3, ← hs]
  unfold tkx
  rcases h0 with rfl | h0
  · rfl
  · rw [if_neg (fun h => by rw [h] at h0; simp at h0), if_neg (by omega)]
theorem plc_getD {B : List Int} {i : Nat} {x : K3} : ∀ j, j < (plc B i x).length → (plc B i x).getD j 0 < i := fun j hj => by
  rw [List.getD_eq_getElem?_getD, List.getElem?_eq_getElem hj]
  exact plc_lt (List.getElem_mem hj)
theorem plc_len {B : List Int} {i : Nat} {x : K3} : (plc B i x).length ≤ i := by
  have := List.length_filter_le (fun i => decide (i + 3 ≤ B.length ∧ k3 B i = x)) (List.range i)
  rw [List.length_range] at this
  unfold plc; exact this
theorem Rd_nil : Rd w0 H (.slice none 0 0) 0 [] := by
  unfold Rd
  exact fun w hw => ⟨⟨_, _, rfl, fun _ => rfl, Nat.le_refl _⟩, fun j v hv => by simp at hv⟩
/-- one entry's slice taken out -/
abbrev plO (bp bm : Nat) (p : Option Addr) (c m : Nat) (es : List MapEntry) (A C : List PX) (x : PX) (clock : Nat) (H : List Asn) : List Asn := vx x :: blk bp [.slice p m c, .map (some bm)] :: mapL bm es clock :: bigA (A.map vx ++ C.map vx) :: H
theorem plA_out0 {bp bm : Nat} {p : Option Addr} {c m : Nat} {X A C : List PX} {x : PX} {clock : Nat} (hAC : X = A ++ x :: C) {w : World} (h : St w0 (plA bp bm p c m X clock H) w) : St w0 (plO bp bm p c m (X.map Prod.fst) A C x clock H) w := by
  have hbig : X.map vx = A.map vx ++ vx x :: C.map vx := by rw [hAC, List.map_append, List.map_cons]
  unfold plA at h
  rw [hbig] at h
  have h1 := (h.perm (List.perm_middle (l₁ := [_, _]))).big_out
  exact h1.perm (List.Perm.cons _ (List.perm_middle (l₁ := [_, _])).symm)
theorem plA_in {bp bm : Nat} {p : Option Addr} {c m : Nat} {X A C : List PX} {x : PX} {clock : Nat} (hAC : X = A ++ x :: C) {w : World} (h : St w0 (plO bp bm p c m (X.map Prod.fst) A C x clock H) w) : St w0 (plA bp bm p c m X clock H) w := by
  have hbig : X.map vx = A.map vx ++ vx x :: C.map vx := by rw [hAC, List.map_append, List.map_cons]
  unfold plA
  rw [hbig]
  have h1 : St w0 (vx x :: bigA (A.map vx ++ C.map vx) :: ([blk bp [.slice p m c, .map (some bm)], mapL bm (X.map Prod.fst) clock] ++ H)) w := h.perm (List.Perm.cons _ (List.perm_middle (l₁ := [_, _])))
  exact h1.big_in.perm (List.perm_middle (l₁ := [_, _])).symm
theorem plA_out {a1 a2 : Asn} {bp bm : Nat} {p : Option Addr} {c m : Nat} {X A C : List PX} {x : PX} {clock : Nat} (hAC : X = A ++ x :: C) {w : World} (h : St w0 (a1 :: a2 :: plA bp bm p c m X clock H) w) : St w0 (a1 :: a2 :: plO bp bm p c m (X.map Prod.fst) A C x clock H) w := by
  have h1 : St w0 (plA bp bm p c m X clock (a1 :: a2 :: H)) w := h.perm ((List.perm_append_comm (l₁ := [a1, a2]) (l₂ := [_, _, _])).append_right H)
  exact (plA_out0 hAC h1).perm ((List.perm_append_comm (l₁ := [_, _, _, _]) (l₂ := [a1, a2])).append_right H)
set_option maxRecDepth 10000 in
set_option maxHeartbeats 4000000 in
/-- the token at a place -/
theorem Best_c (bp bm : Nat) (p : Option Addr) (c m : Nat) (X : List PX) (clock : Nat) (B : List Int) (i : Nat) (hr : Rd w0 H (.slice p m c) m (ints .u8 B)) (hm : B.length = m) (hB : OKB B) (hX : PI B i X clock) (hi : i < m) (h4 : m ≤ 100000) (w : World) (hw : St w0 (plA bp bm p c m X clock H) w) :
    Calls Try.prog 68 #[.pointer (some ⟨bp, 0, none⟩), .int .i64 i] w fun e w' => e = .returned (.agg #[.int .u8 (tok B i).1, .int .i64 (tok B i).2.1, .int .i64 (tok B i).2.2]) ∧ St w0 (plA bp bm p c m X clock H) w' := by
  refine enter (vs := [.pointer (some ⟨bp, 0, none⟩), .int .i64 i]) Try.func68 rfl rfl rfl hw ?_
  have gB : (ints .u8 B)[i]? = some (.int .u8 (B.getD i 0)) := ints_get (by omega)
  have hmc : m ≤ c := (hr.lcap hw.drop.drop.drop).1
  clear hw w
  by_cases h3 : m < i + 3
  · rw [tok_near B i (by omega)]
    repeat (first | (apply gJO; refine JO_v (oL (V_loadC (tb := tb) rfl (Rd_weak hr fun w hw => St.sub (by repeat (first | exact List.Sublist.refl _ | apply List.Sublist.cons_cons | apply List.Sublist.cons)) hw) rfl rfl gB rfl)) ?_) | (first | (apply gJO; first | (apply kS; refine aK ?_) | (apply kX; refine JO_box rfl rfl rfl ?_; intro _) | (apply kA; refine JO_alloc (tb := tb) rfl rfl ?_; intro _) | (apply kBs; refine JO_buildSlice (tb := tb) rfl rfl rfl rfl rfl rfl rfl rfl rfl ?_; intro _) | (apply kM; refine JO_make (tb := tb) rfl rfl rfl rfl rfl rfl (by omega) rfl ?_; intro _) | refine aO ?_) | (apply gJR; first | apply JR_un | apply JR_nil | refine JR_yes rfl rfl ?_ | refine JR_no rfl rfl rfl rfl ?_ | refine JR_noU rfl rfl rfl ?_) | (apply gJS; first | apply JS_seq | apply JS_region | apply JS_skip | apply JS_block | apply JS_inBlock | apply JS_label | refine JS_exit rfl ?_ | refine JS_condT rfl ?_ | refine JS_condF rfl ?_ | refine JS_draw [0] (by kernel_rfl) (by kernel_rfl) (by decide +kernel) ?_ | refine JS_draw [] (by kernel_rfl) (by kernel_rfl) (by decide +kernel) ?_ | refine JS_cond_T rfl (by omega) ?_ | refine JS_cond_F rfl (by omega) ?_) | (apply gQR; first | apply QR_un | apply QR_nil | refine QR_yes rfl rfl ?_ | refine QR_no rfl rfl rfl rfl ?_ | refine QR_noU rfl rfl rfl ?_) | (apply gQO; first | refine aQ ?_ | refine aQK rfl ?_)))
    refine JS_retC (tb := tb) (vs := [.agg #[.int .u8 (B.getD i 0), .int .i64 0, .int .i64 0]]) Try.func68 rfl (by first | exact ResV.agg (tb := tb) rfl (by repeat (first | apply List.Mem.head | apply List.Mem.tail)) rfl rfl rfl ResV.nil | exact ResV.agg (tb := tb) rfl (by repeat (first | apply List.Mem.head | apply List.Mem.tail)) rfl rfl rfl (ResV.tmp rfl ResV.nil) | exact ResV.agg (tb := tb) rfl (by repeat (first | apply List.Mem.head | apply List.Mem.tail)) rfl rfl rfl (ResV.tmp rfl (ResV.tmp rfl ResV.nil)) | exact ResV.one (tb := tb) rfl (by repeat (first | apply List.Mem.head | apply List.Mem.tail)) rfl rfl rfl ResV.nil | exact ResV.one (tb := tb) rfl (by repeat (first | apply List.Mem.head | apply List.Mem.tail)) rfl rfl rfl (ResV.tmp rfl ResV.nil) | exact ResV.one (tb := tb) rfl (by repeat (first | apply List.Mem.head | apply List.Mem.tail)) rfl rfl rfl (ResV.one (tb := tb) rfl (by repeat (first | apply List.Mem.head | apply List.Mem.tail)) rfl rfl rfl ResV.nil) | exact ResV.tmp rfl (ResV.agg (tb := tb) rfl (by repeat (first | apply List.Mem.head | apply List.Mem.tail)) rfl rfl rfl ResV.nil) | exact ResV.tmp rfl (ResV.one (tb := tb) rfl (by repeat (first | apply List.Mem.head | apply List.Mem.tail)) rfl rfl rfl ResV.nil)) ?_
    intro w hw
    exact ⟨rfl, hw.drop.drop⟩
  · have hd3 := drop3 B i (by omega)
    have hkey := kk3 hB i
    repeat (first | (apply gJO; refine JO_v (oL (V_loadC (tb := tb) rfl (Rd_weak hr fun w hw => St.sub (by repeat (first | exact List.Sublist.refl _ | apply List.Sublist.cons_cons | apply List.Sublist.cons)) hw) rfl rfl gB rfl)) ?_) | (apply gJS; apply JS_seq) | (apply gJS; apply JS_region) | (apply gJS; refine JS_cond_F rfl (by omega) ?_) | (apply gJS; apply JS_skip) | (apply gJS; apply JS_block) | (apply gJO; first | (apply gJO; first | (apply kS; refine aK ?_) | (apply kX; refine JO_box rfl rfl rfl ?_; intro _) | (apply kA; refine JO_alloc (tb := tb) rfl rfl ?_; intro _) | (apply kBs; refine JO_buildSlice (tb := tb) rfl rfl rfl rfl rfl rfl rfl rfl rfl ?_; intro _) | (apply kM; refine JO_make (tb := tb) rfl rfl rfl rfl rfl rfl (by omega) rfl ?_; intro _) | refine aO ?_) | (apply gJR; first | apply JR_un | apply JR_nil | refine JR_yes rfl rfl ?_ | refine JR_no rfl rfl rfl rfl ?_ | refine JR_noU rfl rfl rfl ?_) | (apply gJS; first | apply JS_seq | apply JS_region | apply JS_skip | apply JS_block | apply JS_inBlock | apply JS_label | refine JS_exit rfl ?_ | refine JS_condT rfl ?_ | refine JS_condF rfl ?_ | refine JS_draw [0] (by kernel_rfl) (by kernel_rfl) (by decide +kernel) ?_ | refine JS_draw [] (by kernel_rfl) (by kernel_rfl) (by decide +kernel) ?_ | refine JS_cond_T rfl (by omega) ?_ | refine JS_cond_F rfl (by omega) ?_) | (apply gQR; first | apply QR_un | apply QR_nil | refine QR_yes rfl rfl ?_ | refine QR_no rfl rfl rfl rfl ?_ | refine QR_noU rfl rfl rfl ?_) | (apply gQO; first | refine aQ ?_ | refine aQK rfl ?_)) | (apply gJR; first | (apply gJO; first | (apply kS; refine aK ?_) | (apply kX; refine JO_box rfl rfl rfl ?_; intro _) | (apply kA; refine JO_alloc (tb := tb) rfl rfl ?_; intro _) | (apply kBs; refine JO_buildSlice (tb := tb) rfl rfl rfl rfl rfl rfl rfl rfl rfl ?_; intro _) | (apply kM; refine JO_make (tb := tb) rfl rfl rfl rfl rfl rfl (by omega) rfl ?_; intro _) | refine aO ?_) | (apply gJR; first | apply JR_un | apply JR_nil | refine JR_yes rfl rfl ?_ | refine JR_no rfl rfl rfl rfl ?_ | refine JR_noU rfl rfl rfl ?_) | (apply gJS; first | apply JS_seq | apply JS_region | apply JS_skip | apply JS_block | apply JS_inBlock | apply JS_label | refine JS_exit rfl ?_ | refine JS_condT rfl ?_ | refine JS_condF rfl ?_ | refine JS_draw [0] (by kernel_rfl) (by kernel_rfl) (by decide +kernel) ?_ | refine JS_draw [] (by kernel_rfl) (by kernel_rfl) (by decide +kernel) ?_ | refine JS_cond_T rfl (by omega) ?_ | refine JS_cond_F rfl (by omega) ?_) | (apply gQR; first | apply QR_un | apply QR_nil | refine QR_yes rfl rfl ?_ | refine QR_no rfl rfl rfl rfl ?_ | refine QR_noU rfl rfl rfl ?_) | (apply gQO; first | refine aQ ?_ | refine aQK rfl ?_)))
    by_cases hf : ∃ x ∈ X, x.1.key = kv (k3 B i)
    · obtain ⟨x, hx, hxk⟩ := hf
      obtain ⟨i', _, _, hk', hp', q, dd, hv⟩ := hX.key x hx
      have : k3 B i' = k3 B i := kv_inj (hk'.symm.trans hxk)
      rw [this] at hp'
      rw [hp'] at hv
      have hxm : x.1 ∈ X.map Prod.fst := List.mem_map.2 ⟨x, hx, rfl⟩
      obtain ⟨A, C, hAC⟩ := List.append_of_mem hx
      have hrx : Rd w0 (plO bp bm p c m (X.map Prod.fst) A C x clock H) (.slice q (plc B i (k3 B i)).length dd) (plc B i (k3 B i)).length (ints .i64 ((plc B i (k3 B i)).map Int.ofNat)) := by
        have := vec_rd (w0 := w0) (H := plO bp bm p c m (X.map Prod.fst) A C x clock H) (v := x.1.val) (n := x.2.length) (cs := ints .i64 (x.2.map Int.ofNat)) (e := 3) (size := 1) (List.Mem.head _)
        rw [hv, hp'] at this
        exact this
      repeat (first | (apply gQO; refine QO_v rfl (V_loadSub (tb := tb) (lo := i) (q := 3) rfl (Rd_weak hr fun w hw => St.sub (by repeat (first | exact List.Sublist.refl _ | apply List.Sublist.cons_cons | apply List.Sublist.cons)) hw) rfl rfl (by omega) rfl (by decide) rfl hd3 rfl) ?_) | (apply gQO; refine QO_v rfl (V_slice (tb := tb) (lo := i) (hi := i + 3) rfl rfl rfl rfl rfl rfl (by omega) (fun w hw => ⟨by omega, by omega⟩) rfl) ?_) | (apply gQO; refine QO_v rfl (V_arrayAt (tb := tb) rfl rfl (by omega) rfl) ?_) | (apply gQO; refine QO_e (OpE_ofV (V_lookupT (tb := tb) kkt rfl rfl rfl (by repeat (first | apply List.Mem.head | apply List.Mem.tail)) hX.ok hxm hxk rfl)) rfl (.inr fun _ w hw => hw) ?_; intro _) | (apply hIx 5) | (first | (apply gJO; first | (apply kS; refine aK ?_) | (apply kX; refine JO_box rfl rfl rfl ?_; intro _) | (apply kA; refine JO_alloc (tb := tb) rfl rfl ?_; intro _) | (apply kBs; refine JO_buildSlice (tb := tb) rfl rfl rfl rfl rfl rfl rfl rfl rfl ?_; intro _) | (apply kM; refine JO_make (tb := tb) rfl rfl rfl rfl rfl rfl (by omega) rfl ?_; intro _) | refine aO ?_) | (apply gJR; first | apply JR_un | apply JR_nil | refine JR_yes rfl rfl ?_ | refine JR_no rfl rfl rfl rfl ?_ | refine JR_noU rfl rfl rfl ?_) | (apply gJS; first | apply JS_seq | apply JS_region | apply JS_skip | apply JS_block | apply JS_inBlock | apply JS_label | refine JS_exit rfl ?_ | refine JS_condT rfl ?_ | refine JS_condF rfl ?_ | refine JS_draw [0] (by kernel_rfl) (by kernel_rfl) (by decide +kernel) ?_ | refine JS_draw [] (by kernel_rfl) (by kernel_rfl) (by decide +kernel) ?_ | refine JS_cond_T rfl (by omega) ?_ | refine JS_cond_F rfl (by omega) ?_) | (apply gQR; first | apply QR_un | apply QR_nil | refine QR_yes rfl rfl ?_ | refine QR_no rfl rfl rfl rfl ?_ | refine QR_noU rfl rfl rfl ?_) | (apply gQO; first | refine aQ ?_ | refine aQK rfl ?_)))
      refine Hold.go ?_
      rw [hv]
      refine JS_H (fun w hw => plA_out hAC hw) ?_
      exact JS_of_at (fn := Try.f68) (p := [.b, .b, .b, .b, .a]) (JS_ov (by repeat (first | exact trivial | refine ⟨rfl, ?_⟩ | refine ⟨lookI rfl (by omega), ?_⟩)) (Best_t bp _ _ _ p c m B i (plc B i (k3 B i)) q dd (Rd_weak hr fun w hw => St.sub (by repeat (first | exact List.Sublist.refl _ | apply List.Sublist.cons_cons | apply List.Sublist.cons)) hw) (by repeat (first | apply List.Mem.head | apply List.Mem.tail)) hm hrx hi plc_getD h4 (Nat.le_trans plc_len (by omega)) fun w s h1 h2 hw => ⟨by rw [tok_pst (by omega) h1 h2], plA_in hAC hw⟩)) rfl
    · have hnil : plc B i (k3 B i) = [] := by
        cases hp : plc B i (k3 B i) with
        | nil => rfl
        | cons j r =>
          have hj : j ∈ plc B i (k3 B i) := by rw [hp]; simp
          have hlt := plc_lt hj
          have hjk : j + 3 ≤ B.length ∧ k3 B j = k3 B i := by
            have : j ∈ (List.range i).filter fun i' => decide (i' + 3 ≤ B.length ∧ k3 B i' = k3 B i) := by unfold plc at hj; exact hj
            simpa using (List.mem_filter.1 this).2
          obtain ⟨x, hx, hxk⟩ := hX.all j hlt hjk.1
          exact absurd ⟨x, hx, by rw [hxk, hjk.2]⟩ hf
      have hmiss : ∀ e ∈ X.map Prod.fst, e.key ≠ kv (k3 B i) := fun e he hk => by
        obtain ⟨x, hx, rfl⟩ := List.mem_map.1 he
        exact hf ⟨x, hx, hk⟩
      have hrn : Rd w0 (plA bp bm p c m X clock H) (.slice none ([] : List Nat).length 0) ([] : List Nat).length (ints .i64 (([] : List Nat).map Int.ofNat)) := Rd_nil
      repeat (first | (apply gQO; refine QO_v rfl (V_loadSub (tb := tb) (lo := i) (q := 3) rfl (Rd_weak hr fun w hw => St.sub (by repeat (first | exact List.Sublist.refl _ | apply List.Sublist.cons_cons | apply List.Sublist.cons)) hw) rfl rfl (by omega) rfl (by decide) rfl hd3 rfl) ?_) | (apply gQO; refine QO_v rfl (V_slice (tb := tb) (lo := i) (hi := i + 3) rfl rfl rfl rfl rfl rfl (by omega) (fun w hw => ⟨by omega, by omega⟩) rfl) ?_) | (apply gQO; refine QO_v rfl (V_arrayAt (tb := tb) rfl rfl (by omega) rfl) ?_) | (apply gQO; refine QO_e (OpE_ofV (V_lookupF (tb := tb) kkt rfl rfl rfl (by repeat (first | apply List.Mem.head | apply List.Mem.tail)) hX.ok hkey hmiss kzero rfl)) rfl (.inr fun _ w hw => hw) ?_; intro _) | (apply hIx 5) | (first | (apply gJO; first | (apply kS; refine aK ?_) | (apply kX; refine JO_box rfl rfl rfl ?_; intro _) | (apply kA; refine JO_alloc (tb := tb) rfl rfl ?_; intro _) | (apply kBs; refine JO_buildSlice (tb := tb) rfl rfl rfl rfl rfl rfl rfl rfl rfl ?_; intro _) | (apply kM; refine JO_make (tb := tb) rfl rfl rfl rfl rfl rfl (by omega) rfl ?_; intro _) | refine aO ?_) | (apply gJR; first | apply JR_un | apply JR_nil | refine JR_yes rfl rfl ?_ | refine JR_no rfl rfl rfl rfl ?_ | refine JR_noU rfl rfl rfl ?_) | (apply gJS; first | apply JS_seq | apply JS_region | apply JS_skip | apply JS_block | apply JS_inBlock | apply JS_label | refine JS_exit rfl ?_ | refine JS_condT rfl ?_ | refine JS_condF rfl ?_ | refine JS_draw [0] (by kernel_rfl) (by kernel_rfl) (by decide +kernel) ?_ | refine JS_draw [] (by kernel_rfl) (by kernel_rfl) (by decide +kernel) ?_ | refine JS_cond_T rfl (by omega) ?_ | refine JS_cond_F rfl (by omega) ?_) | (apply gQR; first | apply QR_un | apply QR_nil | refine QR_yes rfl rfl ?_ | refine QR_no rfl rfl rfl rfl ?_ | refine QR_noU rfl rfl rfl ?_) | (apply gQO; first | refine aQ ?_ | refine aQK rfl ?_)))
      refine Hold.go ?_
      exact JS_of_at (fn := Try.f68) (p := [.b, .b, .b, .b, .a]) (JS_ov (by repeat (first | exact trivial | refine ⟨rfl, ?_⟩ | refine ⟨lookI rfl (by omega), ?_⟩)) (Best_t bp _ _ _ p c m B i [] none 0 (Rd_weak hr fun w hw => St.sub (by repeat (first | exact List.Sublist.refl _ | apply List.Sublist.cons_cons | apply List.Sublist.cons)) hw) (by repeat (first | apply List.Mem.head | apply List.Mem.tail)) hm hrn hi (fun j hj => absurd hj (by simp)) h4 (by simp) fun w s h1 h2 hw => ⟨by rw [tok_pst (by omega) (by rw [hnil]; exact h1) h2], hw⟩)) rfl
end
end Go.Proofs.Ytakgoflfcgofdaa

set_option linter.unusedVariables false
set_option linter.unusedSimpArgs false
namespace Go.Proofs.Ytakgoflfcgofdaa
open Sx Go
section
variable {w0 : World} {H : List Asn}
attribute [local irreducible] pst plc sam k3
theorem plc_id {B : List Int} {i : Nat} {x : K3} (h : k3 B i ≠ x) : plc B (i + 1) x = plc B i x := by rw [plc_s, if_neg (fun h' => h h'.2)]
theorem PI.near {B : List Int} {i : Nat} {X : List PX} {clock : Nat} (h : PI B i X clock) (h3 : B.length < i + 3) : PI B (i + 1) X clock := by
  refine ⟨h.ok, fun x hx => ?_, fun j hj hj3 => h.all j (by omega) hj3⟩
  obtain ⟨i', h1, h2, h3', h4, h5⟩ := h.key x hx
  exact ⟨i', h1, by omega, h3', by rw [h4, plc_s, if_neg (by omega)], h5⟩
theorem PI.more {B : List Int} {i : Nat} {A C : List PX} {x : PX} {clock : Nat} (h : PI B i (A ++ x :: C) clock) (h3 : i + 3 ≤ B.length) (hk : x.1.key = kv (k3 B i)) (p : Option Addr) (c : Nat) :
    PI B (i + 1) (A ++ ({ x.1 with val := .slice p (x.2.length + 1) c }, x.2 ++ [i]) :: C) clock := by
  have hother : ∀ y ∈ A ++ C, ∃ j, j + 3 ≤ B.length ∧ j < i + 1 ∧ y.1.key = kv (k3 B j) ∧ y.2 = plc B (i + 1) (k3 B j) ∧ ∃ q d, y.1.val = .slice q y.2.length d := fun y hy => by
    have hyX : y ∈ A ++ x :: C := by
      rcases List.mem_append.1 hy with hy | hy
      · exact List.mem_append_left _ hy
      · exact List.mem_append_right _ (List.mem_cons_of_mem _ hy)
    obtain ⟨j, h1, h2, h4, h5, h6⟩ := h.key y hyX
    have hne : y.1.key ≠ x.1.key := by
      have hn := h.ok.nodup
      rw [List.map_map, List.map_append, List.map_cons] at hn
      have hn2 := (List.perm_middle.nodup_iff).1 hn
      rw [List.nodup_cons, ← List.map_append] at hn2
      exact fun e => hn2.1 (List.mem_map.2 ⟨y, hy, e⟩)
    exact ⟨j, h1, by omega, h4, by rw [h5, plc_id (fun e => hne (by rw [h4, hk, e]))], h6⟩
  refine ⟨?_, fun y hy => ?_, fun j hj hj3 => ?_⟩
  · have := h.ok
    rw [List.map_append, List.map_cons] at this ⊢
    exact this.setv _
  · rcases List.mem_append.1 hy with hy | hy
    · exact hother y (List.mem_append_left _ hy)
    · rcases List.mem_cons.1 hy with rfl | hy
      · obtain ⟨j, h1, h2, h4, h5, h6⟩ := h.key x (by simp)
        refine ⟨i, h3, by omega, hk, ?_, p, c, ?_⟩
        · have : k3 B j = k3 B i := kv_inj (h4.symm.trans hk)
          show x.2 ++ [i] = _
          rw [plc_s, if_pos ⟨h3, rfl⟩, h5, this]
        · simp
      · exact hother y (List.mem_append_right _ hy)
  · rcases Nat.lt_or_ge j i with hji | hji
    · obtain ⟨y, hy, hyk⟩ := h.all j hji hj3
      rcases List.mem_append.1 hy with hy | hy
      · exact ⟨y, List.mem_append_left _ hy, hyk⟩
      · rcases List.mem_cons.1 hy with rfl | hy
        · exact ⟨_, List.mem_append_right _ (List.mem_cons_self ..), hyk⟩
        · exact ⟨y, List.mem_append_right _ (List.mem_cons_of_mem _ hy), hyk⟩
    · obtain rfl : j = i := by omega
      exact ⟨_, List.mem_append_right _ (List.mem_cons_self ..), hk⟩
theorem PI.new {B : List Int} {i : Nat} {X : List PX} {clock : Nat} (h : PI B i X clock) (hB : OKB B) (h3 : i + 3 ≤ B.length) (hn : ¬ ∃ x ∈ X, x.1.key = kv (k3 B i)) (hp : plc B i (k3 B i) = []) (p : Option Addr) (c : Nat) :
    PI B (i + 1) (X ++ (⟨kv (k3 B i), .slice p 1 c, clock⟩, [i]) :: []) (clock + 1) := by
  refine ⟨?_, fun y hy => ?_, fun j hj hj3 => ?_⟩
  · rw [List.map_append, List.map_cons, List.map_nil]
    refine h.ok.push (kk3 hB i) fun e he hk => ?_
    obtain ⟨x, hx, rfl⟩ := List.mem_map.1 he
    exact hn ⟨x, hx, hk⟩
  · rcases List.mem_append.1 hy with hy | hy
    · obtain ⟨j, h1, h2, h4, h5, h6⟩ := h.key y hy
      exact ⟨j, h1, by omega, h4, by rw [h5, plc_id (fun e => hn ⟨y, hy, by rw [h4, e]⟩)], h6⟩
    · simp at hy
      subst hy
      exact ⟨i, h3, by omega, rfl, by rw [plc_s, if_pos ⟨h3, rfl⟩, hp]; rfl, p, c, rfl⟩
  · rcases Nat.lt_or_ge j i with hji | hji
    · obtain ⟨y, hy, hyk⟩ := h.all j hji hj3
      exact ⟨y, List.mem_append_left _ hy, hyk⟩
    · obtain rfl : j = i := by omega
      exact ⟨_, List.mem_append_right _ (List.mem_cons_self ..), rfl⟩
theorem plc_nil {B : List Int} {i : Nat} {X : List PX} {clock : Nat} (hX : PI B i X clock) (hf : ¬ ∃ x ∈ X, x.1.key = kv (k3 B i)) : plc B i (k3 B i) = [] := by
  cases hp : plc B i (k3 B i) with
  | nil => rfl
  | cons j r =>
    have hj : j ∈ plc B i (k3 B i) := by rw [hp]; simp
    have hlt := plc_lt hj
    have hjk : j + 3 ≤ B.length ∧ k3 B j = k3 B i := by
      have : j ∈ (List.range i).filter fun i' => decide (i' + 3 ≤ B.length ∧ k3 B i' = k3 B i) := by unfold plc at hj; exact hj
      simpa using (List.mem_filter.1 this).2
    obtain ⟨x, hx, hxk⟩ := hX.all j hlt hjk.1
    exact absurd ⟨x, hx, by rw [hxk, hjk.2]⟩ hf
set_option maxRecDepth 10000 in
set_option maxHeartbeats 4000000 in
/-- a place is noted -/
theorem Note_c (bp bm : Nat) (p : Option Addr) (c m : Nat) (X : List PX) (clock : Nat) (B : List Int) (i : Nat) (hr : Rd w0 H (.slice p m c) m (ints .u8 B)) (hm : B.length = m) (hB : OKB B) (hX : PI B i X clock) (hi : i < m) (h4 : m ≤ 100000) (w : World) (hw : St w0 (plA bp bm p c m X clock H) w) :
    Calls Try.prog 69 #[.pointer (some ⟨bp, 0, none⟩), .int .i64 i] w fun e w' => e = .returned (.tuple #[]) ∧ ∃ X clock, PI B (i + 1) X clock ∧ St w0 (plA bp bm p c m X clock H) w' := by
  refine enter (vs := [.pointer (some ⟨bp, 0, none⟩), .int .i64 i]) Try.func69 rfl rfl rfl hw ?_
  have hmc : m ≤ c := (hr.lcap hw.drop.drop.drop).1
  clear hw w
  by_cases h3 : m < i + 3
  · repeat (first | (apply gJO; first | (apply kS; refine aK ?_) | (apply kX; refine JO_box rfl rfl rfl ?_; intro _) | (apply kA; refine JO_alloc (tb := tb) rfl rfl ?_; intro _) | (apply kBs; refine JO_buildSlice (tb := tb) rfl rfl rfl rfl rfl rfl rfl rfl rfl ?_; intro _) | (apply kM; refine JO_make (tb := tb) rfl rfl rfl rfl rfl rfl (by omega) rfl ?_; intro _) | refine aO ?_) | (apply gJR; first | apply JR_un | apply JR_nil | refine JR_yes rfl rfl ?_ | refine JR_no rfl rfl rfl rfl ?_ | refine JR_noU rfl rfl rfl ?_) | (apply gJS; first | apply JS_seq | apply JS_region | apply JS_skip | apply JS_block | apply JS_inBlock | apply JS_label | refine JS_exit rfl ?_ | refine JS_condT rfl ?_ | refine JS_condF rfl ?_ | refine JS_draw [0] (by kernel_rfl) (by kernel_rfl) (by decide +kernel) ?_ | refine JS_draw [] (by kernel_rfl) (by kernel_rfl) (by decide +kernel) ?_ | refine JS_cond_T rfl (by omega) ?_ | refine JS_cond_F rfl (by omega) ?_) | (apply gQR; first | apply QR_un | apply QR_nil | refine QR_yes rfl rfl ?_ | refine QR_no rfl rfl rfl rfl ?_ | refine QR_noU rfl rfl rfl ?_) | (apply gQO; first | refine aQ ?_ | refine aQK rfl ?_))
    refine JS_fin Try.func69 rfl rfl (vs := []) ?_
    intro w hw
    exact ⟨rfl, X, clock, hX.near (by omega), hw⟩
  · have hd3 := drop3 B i (by omega)
    have hkey := kk3 hB i
    repeat (first | (apply gJO; refine JO_v (V_loadSub (tb := tb) (lo := i) (q := 3) rfl (Rd_weak hr fun w hw => St.sub (by repeat (first | exact List.Sublist.refl _ | apply List.Sublist.cons_cons | apply List.Sublist.cons)) hw) rfl rfl (by omega) rfl (by decide) rfl hd3 rfl) ?_) | (apply gJO; refine JO_v (V_slice (tb := tb) (lo := i) (hi := i + 3) rfl rfl rfl rfl rfl rfl (by omega) (fun w hw => ⟨by omega, by omega⟩) rfl) ?_) | (apply gJO; refine JO_v (V_arrayAt (tb := tb) rfl rfl (by omega) rfl) ?_) | (apply hIx' 2) | (first | (apply gJO; first | (apply kS; refine aK ?_) | (apply kX; refine JO_box rfl rfl rfl ?_; intro _) | (apply kA; refine JO_alloc (tb := tb) rfl rfl ?_; intro _) | (apply kBs; refine JO_buildSlice (tb := tb) rfl rfl rfl rfl rfl rfl rfl rfl rfl ?_; intro _) | (apply kM; refine JO_make (tb := tb) rfl rfl rfl rfl rfl rfl (by omega) rfl ?_; intro _) | refine aO ?_) | (apply gJR; first | apply JR_un | apply JR_nil | refine JR_yes rfl rfl ?_ | refine JR_no rfl rfl rfl rfl ?_ | refine JR_noU rfl rfl rfl ?_) | (apply gJS; first | apply JS_seq | apply JS_region | apply JS_skip | apply JS_block | apply JS_inBlock | apply JS_label | refine JS_exit rfl ?_ | refine JS_condT rfl ?_ | refine JS_condF rfl ?_ | refine JS_draw [0] (by kernel_rfl) (by kernel_rfl) (by decide +kernel) ?_ | refine JS_draw [] (by kernel_rfl) (by kernel_rfl) (by decide +kernel) ?_ | refine JS_cond_T rfl (by omega) ?_ | refine JS_cond_F rfl (by omega) ?_) | (apply gQR; first | apply QR_un | apply QR_nil | refine QR_yes rfl rfl ?_ | refine QR_no rfl rfl rfl rfl ?_ | refine QR_noU rfl rfl rfl ?_) | (apply gQO; first | refine aQ ?_ | refine aQK rfl ?_)))
    refine Hold.go ?_
    rename_i b4
    by_cases hf : ∃ x ∈ X, x.1.key = kv (k3 B i)
    · obtain ⟨x, hx, hxk⟩ := hf
      obtain ⟨i', _, _, hk', hp', q, dd, hv⟩ := hX.key x hx
      obtain ⟨A, C, hAC⟩ := List.append_of_mem hx
      have hX2 : X.map Prod.fst = A.map Prod.fst ++ x.1 :: C.map Prod.fst := by rw [hAC, List.map_append, List.map_cons]
      have hok := hX.ok
      rw [hX2] at hok
      have hvx : vx x = vec 3 1 (.slice q x.2.length dd) x.2.length (ints .i64 (x.2.map Int.ofNat)) := by unfold vx; rw [hv]
      have hln : x.2.length ≤ i := by rw [hp']; exact plc_len
      refine JS_H (H' := blk b4 [.int .u8 (k3 B i).1, .int .u8 (k3 B i).2.1, .int .u8 (k3 B i).2.2] :: vec 3 1 (.slice q x.2.length dd) x.2.length (ints .i64 (x.2.map Int.ofNat)) :: blk bp [.slice p m c, .map (some bm)] :: mapL bm (A.map Prod.fst ++ x.1 :: C.map Prod.fst) clock :: bigA (A.map vx ++ C.map vx) :: H) (fun w hw => by
        rw [← hX2, ← hvx]
        exact (plA_out0 hAC (hw.perm ((List.perm_append_comm (l₁ := [_]) (l₂ := [_, _, _])).append_right H))).perm ((List.perm_append_comm (l₁ := [_, _, _, _]) (l₂ := [_])).append_right H)) ?_
      have hxm : x.1 ∈ A.map Prod.fst ++ x.1 :: C.map Prod.fst := by simp
      obtain ⟨l, hl⟩ : ∃ l, x.2 = l := ⟨_, rfl⟩
      rw [hl] at hln hv ⊢
      refine JS_order [0, 1, 2, 3, 4, 5, 6, 7, 8, 10, 9, 11] [4, 0] (Picks.cons rfl (Picks.cons rfl (Picks.cons rfl (Picks.cons rfl (Picks.cons rfl (Picks.cons rfl (Picks.cons rfl (Picks.cons rfl (Picks.cons rfl (Picks.cons rfl (Picks.cons rfl (Picks.cons rfl (Picks.nil))))))))))))) (by kernel_rfl) (by kernel_rfl) rfl (by decide +kernel) ?_
      repeat (first | (apply gQO; (refine QO_e (E_buildSlice (tb := tb) rfl rfl rfl rfl rfl rfl rfl rfl rfl) rfl (.inr fun _ _ hw => St.sub (by repeat (first | exact List.Sublist.refl _ | apply List.Sublist.cons_cons | apply List.Sublist.cons)) hw) ?_; intro _)) | (apply gQO; refine QO_e (E_entryT (tb := tb) kkt rfl rfl rfl (by repeat (first | apply List.Mem.head | apply List.Mem.tail)) hok hxm hxk rfl) rfl (.inr fun _ w hw => hw) ?_; intro _) | (apply gQO; (refine QO_e (E_appendB (tb := tb) rfl rfl rfl rfl rfl rfl (by repeat (first | exact Sel.here _ _ | apply Sel.there)) (by first | exact vec_rd (by repeat (first | apply List.Mem.head | apply List.Mem.tail)) | assumption | exact ArgRd.rd (by assumption) _ | (apply Rd_weak; assumption; intro _ hx; exact St.sub (by repeat (first | exact List.Sublist.refl _ | apply List.Sublist.cons_cons | apply List.Sublist.cons)) hx)) (by simp only [ints_len, List.length_cons, List.length_nil]; first | omega | rfl) (by first | exact ints_one | (repeat (first | exact trivial | refine ⟨rfl, ?_⟩))) (by omega) (by omega) rfl) rfl (.inr fun _ _ hw => vecB_back (by repeat (first | exact Sel.here _ _ | apply Sel.there)) hw) ?_; intro _)) | (apply gQO; refine QO_k rfl (K_entryStore rfl rfl rfl (by repeat (first | exact Sel.here _ _ | apply Sel.there)) hok rfl) rfl ?_) | (first | (apply gJO; first | (apply kS; refine aK ?_) | (apply kX; refine JO_box rfl rfl rfl ?_; intro _) | (apply kA; refine JO_alloc (tb := tb) rfl rfl ?_; intro _) | (apply kBs; refine JO_buildSlice (tb := tb) rfl rfl rfl rfl rfl rfl rfl rfl rfl ?_; intro _) | (apply kM; refine JO_make (tb := tb) rfl rfl rfl rfl rfl rfl (by omega) rfl ?_; intro _) | refine aO ?_) | (apply gJR; first | apply JR_un | apply JR_nil | refine JR_yes rfl rfl ?_ | refine JR_no rfl rfl rfl rfl ?_ | refine JR_noU rfl rfl rfl ?_) | (apply gJS; first | apply JS_seq | apply JS_region | apply JS_skip | apply JS_block | apply JS_inBlock | apply JS_label | refine JS_exit rfl ?_ | refine JS_condT rfl ?_ | refine JS_condF rfl ?_ | refine JS_draw [0] (by kernel_rfl) (by kernel_rfl) (by decide +kernel) ?_ | refine JS_draw [] (by kernel_rfl) (by kernel_rfl) (by decide +kernel) ?_ | refine JS_cond_T rfl (by omega) ?_ | refine JS_cond_F rfl (by omega) ?_) | (apply gQR; first | apply QR_un | apply QR_nil | refine QR_yes rfl rfl ?_ | refine QR_no rfl rfl rfl rfl ?_ | refine QR_noU rfl rfl rfl ?_) | (apply gQO; first | refine aQ ?_ | refine aQK rfl ?_)))
      rw [hv]
      repeat (first | (apply gQO; (refine QO_e (E_appendB (tb := tb) rfl rfl rfl rfl rfl rfl (by repeat (first | exact Sel.here _ _ | apply Sel.there)) (by first | exact vec_rd (by repeat (first | apply List.Mem.head | apply List.Mem.tail)) | assumption | exact ArgRd.rd (by assumption) _ | (apply Rd_weak; assumption; intro _ hx; exact St.sub (by repeat (first | exact List.Sublist.refl _ | apply List.Sublist.cons_cons | apply List.Sublist.cons)) hx)) (by simp only [ints_len, List.length_cons, List.length_nil]; first | omega | rfl) (by first | exact ints_one | (repeat (first | exact trivial | refine ⟨rfl, ?_⟩))) (by omega) (by omega) rfl) rfl (.inr fun _ _ hw => vecB_back (by repeat (first | exact Sel.here _ _ | apply Sel.there)) hw) ?_; intro _)) | (apply gQO; refine QO_k rfl (K_entryStore rfl rfl rfl (by repeat (first | exact Sel.here _ _ | apply Sel.there)) hok rfl) rfl ?_) | (first | (apply gJO; first | (apply kS; refine aK ?_) | (apply kX; refine JO_box rfl rfl rfl ?_; intro _) | (apply kA; refine JO_alloc (tb := tb) rfl rfl ?_; intro _) | (apply kBs; refine JO_buildSlice (tb := tb) rfl rfl rfl rfl rfl rfl rfl rfl rfl ?_; intro _) | (apply kM; refine JO_make (tb := tb) rfl rfl rfl rfl rfl rfl (by omega) rfl ?_; intro _) | refine aO ?_) | (apply gJR; first | apply JR_un | apply JR_nil | refine JR_yes rfl rfl ?_ | refine JR_no rfl rfl rfl rfl ?_ | refine JR_noU rfl rfl rfl ?_) | (apply gJS; first | apply JS_seq | apply JS_region | apply JS_skip | apply JS_block | apply JS_inBlock | apply JS_label | refine JS_exit rfl ?_ | refine JS_condT rfl ?_ | refine JS_condF rfl ?_ | refine JS_draw [0] (by kernel_rfl) (by kernel_rfl) (by decide +kernel) ?_ | refine JS_draw [] (by kernel_rfl) (by kernel_rfl) (by decide +kernel) ?_ | refine JS_cond_T rfl (by omega) ?_ | refine JS_cond_F rfl (by omega) ?_) | (apply gQR; first | apply QR_un | apply QR_nil | refine QR_yes rfl rfl ?_ | refine QR_no rfl rfl rfl rfl ?_ | refine QR_noU rfl rfl rfl ?_) | (apply gQO; first | refine aQ ?_ | refine aQK rfl ?_)))
      rename_i pc
      refine JS_fin Try.func69 rfl rfl (vs := []) ?_
      intro w hw
      have hmore := (by rw [← hAC]; exact hX : PI B i (A ++ x :: C) clock).more (by omega) hxk pc.1 pc.2
      rw [hl] at hmore
      refine ⟨rfl, _, _, hmore, plA_in rfl ?_⟩
      rw [List.map_append, List.map_cons]
      have hv2 : vx ({ x.1 with val := .slice pc.1 (l.length + 1) pc.2 }, l ++ [i]) = vec 3 1 (.slice pc.1 (l.length + 1) pc.2) (l.length + 1) (ints .i64 (l.map Int.ofNat) ++ [.int .i64 i]) := by
        unfold vx
        simp only [List.map_append, List.map_cons, List.map_nil, List.length_append, List.length_cons, List.length_nil]
        rw [← ints_app]
        rfl
      unfold plO
      rw [hv2]
      exact vecB_fwd (Sel.here _ _) (hw.drop.drop)
    · have hnil := plc_nil hX hf
      have hmiss : ∀ e ∈ X.map Prod.fst, e.key ≠ kv (k3 B i) := fun e he hk => by
        obtain ⟨x, hx, rfl⟩ := List.mem_map.1 he
        exact hf ⟨x, hx, hk⟩
      have hok : MOk Try.prog 124 (X.map Prod.fst ++ (⟨kv (k3 B i), .slice none 0 0, clock⟩ : MapEntry) :: []) (clock + 1) := hX.ok.push hkey hmiss
      refine JS_H (H' := vec 3 1 (.slice none 0 0) 0 [] :: blk b4 [.int .u8 (k3 B i).1, .int .u8 (k3 B i).2.1, .int .u8 (k3 B i).2.2] :: plA bp bm p c m X clock H) (fun w hw => St.nilvec hw) ?_
      refine JS_order [0, 1, 2, 3, 4, 5, 6, 7, 8, 10, 9, 11] [4, 0] (Picks.cons rfl (Picks.cons rfl (Picks.cons rfl (Picks.cons rfl (Picks.cons rfl (Picks.cons rfl (Picks.cons rfl (Picks.cons rfl (Picks.cons rfl (Picks.cons rfl (Picks.cons rfl (Picks.cons rfl (Picks.nil))))))))))))) (by kernel_rfl) (by kernel_rfl) rfl (by decide +kernel) ?_
      repeat (first | (apply gQO; (refine QO_e (E_buildSlice (tb := tb) rfl rfl rfl rfl rfl rfl rfl rfl rfl) rfl (.inr fun _ _ hw => St.sub (by repeat (first | exact List.Sublist.refl _ | apply List.Sublist.cons_cons | apply List.Sublist.cons)) hw) ?_; intro _)) | (apply gQO; refine QO_e (E_entryF (tb := tb) kkt rfl rfl rfl (by repeat (first | exact Sel.here _ _ | apply Sel.there)) hX.ok hkey hmiss kzero rfl) rfl (.inl rfl) ?_; intro _) | (apply gQO; (refine QO_e (E_appendB (tb := tb) rfl rfl rfl rfl rfl rfl (by repeat (first | exact Sel.here _ _ | apply Sel.there)) (by first | exact vec_rd (by repeat (first | apply List.Mem.head | apply List.Mem.tail)) | assumption | exact ArgRd.rd (by assumption) _ | (apply Rd_weak; assumption; intro _ hx; exact St.sub (by repeat (first | exact List.Sublist.refl _ | apply List.Sublist.cons_cons | apply List.Sublist.cons)) hx)) (by simp only [ints_len, List.length_cons, List.length_nil]; first | omega | rfl) (by first | exact ints_one | (repeat (first | exact trivial | refine ⟨rfl, ?_⟩))) (by omega) (by omega) rfl) rfl (.inr fun _ _ hw => vecB_back (by repeat (first | exact Sel.here _ _ | apply Sel.there)) hw) ?_; intro _)) | (apply gQO; refine QO_k rfl (K_entryStore rfl rfl rfl (by repeat (first | exact Sel.here _ _ | apply Sel.there)) hok rfl) rfl ?_) | (first | (apply gJO; first | (apply kS; refine aK ?_) | (apply kX; refine JO_box rfl rfl rfl ?_; intro _) | (apply kA; refine JO_alloc (tb := tb) rfl rfl ?_; intro _) | (apply kBs; refine JO_buildSlice (tb := tb) rfl rfl rfl rfl rfl rfl rfl rfl rfl ?_; intro _) | (apply kM; refine JO_make (tb := tb) rfl rfl rfl rfl rfl rfl (by omega) rfl ?_; intro _) | refine aO ?_) | (apply gJR; first | apply JR_un | apply JR_nil | refine JR_yes rfl rfl ?_ | refine JR_no rfl rfl rfl rfl ?_ | refine JR_noU rfl rfl rfl ?_) | (apply gJS; first | apply JS_seq | apply JS_region | apply JS_skip | apply JS_block | apply JS_inBlock | apply JS_label | refine JS_exit rfl ?_ | refine JS_condT rfl ?_ | refine JS_condF rfl ?_ | refine JS_draw [0] (by kernel_rfl) (by kernel_rfl) (by decide +kernel) ?_ | refine JS_draw [] (by kernel_rfl) (by kernel_rfl) (by decide +kernel) ?_ | refine JS_cond_T rfl (by omega) ?_ | refine JS_cond_F rfl (by omega) ?_) | (apply gQR; first | apply QR_un | apply QR_nil | refine QR_yes rfl rfl ?_ | refine QR_no rfl rfl rfl rfl ?_ | refine QR_noU rfl rfl rfl ?_) | (apply gQO; first | refine aQ ?_ | refine aQK rfl ?_)))
      rename_i pc
      refine JS_fin Try.func69 rfl rfl (vs := []) ?_
      intro w hw
      refine ⟨rfl, _, _, hX.new hB (by omega) hf hnil pc.1 pc.2, plA_in rfl ?_⟩
      rw [List.map_append, List.map_cons]
      have hv2 : vx (⟨kv (k3 B i), .slice pc.1 1 pc.2, clock⟩, [i]) = vec 3 1 (.slice pc.1 (0 + 1) pc.2) (0 + 1) ([] ++ [.int .i64 i]) := by
        unfold vx; rfl
      unfold plO
      rw [hv2, List.map_nil, List.map_nil, List.append_nil]
      exact St.sub (by repeat (first | exact List.Sublist.refl _ | apply List.Sublist.cons_cons | apply List.Sublist.cons)) (vecB_fwd (Sel.there _ _ _ _ (Sel.here _ _)) hw)
end
end Go.Proofs.Ytakgoflfcgofdaa

set_option linter.unusedVariables false
set_option linter.unusedSimpArgs false
namespace Go.Proofs.Ytakgoflfcgofdaa
open Sx Go
section
variable {w0 : World} {H : List Asn}
attribute [local irreducible] pst plc sam k3 tok toks tkv
theorem toks_s {B : List Int} {i : Nat} (h : i < B.length) : toks B (B.length - i) i = tok B i :: toks B (B.length - (i + max 1 (tok B i).2.1)) (i + max 1 (tok B i).2.1) := by
  obtain ⟨f, hf⟩ : ∃ f, B.length - i = f + 1 := ⟨B.length - i - 1, by omega⟩
  rw [hf]
  have e : toks B (f + 1) i = tok B i :: toks B f (i + max 1 (tok B i).2.1) := by rw [toks.eq_def]; simp only []; rw [if_pos h]
  rw [e, toks_fuel B f (B.length - (i + max 1 (tok B i).2.1)) _ (by omega) (by omega)]
theorem toks_end {B : List Int} : toks B (B.length - B.length) B.length = [] := by
  rw [Nat.sub_self]; unfold toks; rfl
theorem toks_len {B : List Int} : ∀ f i, (toks B f i).length ≤ f
  | 0, i => by unfold toks; simp
  | f + 1, i => by
    unfold toks
    split
    · have := toks_len (B := B) f (i + max 1 (tok B i).2.1); simp; omega
    · simp
set_option maxRecDepth 10000 in
set_option maxHeartbeats 4000000 in
/-- all tokens of a text -/
theorem Find_c (p : Option Addr) (c m : Nat) (B : List Int) (hr : Rd w0 H (.slice p m c) m (ints .u8 B)) (hm : B.length = m) (hB : OKB B) (h4 : m ≤ 100000) (w : World) (hw : St w0 H w) :
    Calls Try.prog 36 #[.slice p m c] w fun e w' => ∃ q d, e = .returned (.slice q (toks B m 0).length d) ∧ St w0 (vec 60 3 (.slice q (toks B m 0).length d) (toks B m 0).length (tkv (toks B m 0)) :: H) w' := by
  have hmc : m ≤ c := (hr.lcap hw).1
  refine enter (vs := [.slice p m c]) Try.func36 rfl rfl rfl hw ?_
  clear hw w
  repeat (first | (apply gJO; apply kMm; refine JO_makeMap rfl ?_; intro _) | (first | (apply gJO; first | (apply kS; refine aK ?_) | (apply kX; refine JO_box rfl rfl rfl ?_; intro _) | (apply kA; refine JO_alloc (tb := tb) rfl rfl ?_; intro _) | (apply kBs; refine JO_buildSlice (tb := tb) rfl rfl rfl rfl rfl rfl rfl rfl rfl ?_; intro _) | (apply kM; refine JO_make (tb := tb) rfl rfl rfl rfl rfl rfl (by omega) rfl ?_; intro _) | refine aO ?_) | (apply gJR; first | apply JR_un | apply JR_nil | refine JR_yes rfl rfl ?_ | refine JR_no rfl rfl rfl rfl ?_ | refine JR_noU rfl rfl rfl ?_) | (apply gJS; first | apply JS_seq | apply JS_region | apply JS_skip | apply JS_block | apply JS_inBlock | apply JS_label | refine JS_exit rfl ?_ | refine JS_condT rfl ?_ | refine JS_condF rfl ?_ | refine JS_draw [0] (by kernel_rfl) (by kernel_rfl) (by decide +kernel) ?_ | refine JS_draw [] (by kernel_rfl) (by kernel_rfl) (by decide +kernel) ?_ | refine JS_cond_T rfl (by omega) ?_ | refine JS_cond_F rfl (by omega) ?_) | (apply gQR; first | apply QR_un | apply QR_nil | refine QR_yes rfl rfl ?_ | refine QR_no rfl rfl rfl rfl ?_ | refine QR_noU rfl rfl rfl ?_) | (apply gQO; first | refine aQ ?_ | refine aQK rfl ?_)))
  rename_i bm bp
  refine JS_loop6 (fun (i : Nat) (X : List PX) (clock : Nat) (q : Option Addr) (d : Nat) (L : List (Int × Nat × Nat)) => [(0, .slice p m c), (3, .pointer (some ⟨bp, 0, none⟩)), (4, .slice q L.length d), (5, .int .i64 i)])
    (fun i X clock q d L => vec 60 3 (.slice q L.length d) L.length (tkv L) :: plA bp bm p c m X clock H) (fun i X clock q d L => i ≤ m ∧ PI B i X clock ∧ L.length ≤ i ∧ toks B m 0 = L ++ toks B (m - i) i) (fun i _ _ _ _ _ => m - i) 0 [] 0 none 0 [] ⟨Nat.zero_le _, PI.nil B 0, Nat.le_refl _, by rw [Nat.sub_zero, List.nil_append]⟩ (by repeat (first | exact trivial | refine ⟨rfl, ?_⟩ | refine ⟨lookI rfl (by omega), ?_⟩))
    (fun w h => by
      have h1 := St.big_nil h
      have h2 := h1.perm (List.perm_append_comm (l₁ := [_]) (l₂ := [_, _]) |>.append_right H)
      have : tkv [] = [] := by unfold tkv; rfl
      rw [this]
      exact St.nilvec h2) ?_
  intro i X clock q d L ⟨hi, hX, hLl, hL⟩ again
  by_cases him : i < m
  · have hts := toks_s (B := B) (i := i) (by omega)
    have hbd := tok_bd B i (by omega)
    repeat (first | (apply gJO; first | (apply kS; refine aK ?_) | (apply kX; refine JO_box rfl rfl rfl ?_; intro _) | (apply kA; refine JO_alloc (tb := tb) rfl rfl ?_; intro _) | (apply kBs; refine JO_buildSlice (tb := tb) rfl rfl rfl rfl rfl rfl rfl rfl rfl ?_; intro _) | (apply kM; refine JO_make (tb := tb) rfl rfl rfl rfl rfl rfl (by omega) rfl ?_; intro _) | refine aO ?_) | (apply gJR; first | apply JR_un | apply JR_nil | refine JR_yes rfl rfl ?_ | refine JR_no rfl rfl rfl rfl ?_ | refine JR_noU rfl rfl rfl ?_) | (apply gJS; first | apply JS_seq | apply JS_region | apply JS_skip | apply JS_block | apply JS_inBlock | apply JS_label | refine JS_exit rfl ?_ | refine JS_condT rfl ?_ | refine JS_condF rfl ?_ | refine JS_draw [0] (by kernel_rfl) (by kernel_rfl) (by decide +kernel) ?_ | refine JS_draw [] (by kernel_rfl) (by kernel_rfl) (by decide +kernel) ?_ | refine JS_cond_T rfl (by omega) ?_ | refine JS_cond_F rfl (by omega) ?_) | (apply gQR; first | apply QR_un | apply QR_nil | refine QR_yes rfl rfl ?_ | refine QR_no rfl rfl rfl rfl ?_ | refine QR_noU rfl rfl rfl ?_) | (apply gQO; first | refine aQ ?_ | refine aQK rfl ?_))
    refine JO_call Try.call68 rfl rfl fun w hw => (Best_c (H := vec 60 3 (.slice q L.length d) L.length (tkv L) :: H) bp bm p c m X clock B i (Rd_weak hr fun w hw => St.sub (by repeat (first | exact List.Sublist.refl _ | apply List.Sublist.cons_cons | apply List.Sublist.cons)) hw) hm hB hX him h4 w (hw.perm (List.perm_append_comm (l₁ := [_]) (l₂ := [_, _, _]) |>.append_right H))).mono ?_
    rintro e w' ⟨rfl, hw'⟩
    refine ⟨_, rfl, vec 60 3 (.slice q L.length d) L.length (tkv L) :: plA bp bm p c m X clock H, hw'.perm (List.perm_append_comm (l₁ := [_, _, _]) (l₂ := [_]) |>.append_right H), ?_⟩
    clear hw' hw w w'
    rw [hm] at hts
    obtain ⟨⟨x, n, k⟩, ht⟩ : ∃ t, tok B i = t := ⟨_, rfl⟩
    rw [ht] at hts hbd ⊢
    simp only [] at hts ⊢
    have hn258 : i + max 1 n ≤ m := by
      rcases hbd with h | ⟨n', d', h, _⟩
      · have : n = 0 := (Prod.mk.inj (Prod.mk.inj h).2).1
        omega
      · have : n = n' := (Prod.mk.inj (Prod.mk.inj h).2).1
        omega
    clear hbd
    have hmx : max (1 : Int) (n : Int) = ((max 1 n : Nat) : Int) := by omega
    have htv := tkv_app L (x, n, k)
    have hll : (L ++ [(x, n, k)]).length = L.length + 1 := by simp
    repeat (first | (apply gJO; (refine JO_app (tb := tb) rfl rfl rfl rfl rfl rfl (by repeat (first | exact Sel.here _ _ | apply Sel.there)) (by first | exact vec_rd (by repeat (first | apply List.Mem.head | apply List.Mem.tail)) | assumption | exact ArgRd.rd (by assumption) _ | (apply Rd_weak; assumption; intro _ hx; exact St.sub (by repeat (first | exact List.Sublist.refl _ | apply List.Sublist.cons_cons | apply List.Sublist.cons)) hx)) (by simp only [ints_len, List.length_cons, List.length_nil]; first | omega | rfl) (by first | exact ints_one | (repeat (first | exact trivial | refine ⟨rfl, ?_⟩))) (by omega) rfl ?_; intro _ _)) | (apply gJO; refine JO_v (oc_max (V_max rfl rfl hmx rfl)) ?_) | (apply gJO; refine JO_v (V_max rfl rfl hmx rfl) ?_) | (first | (apply gJO; first | (apply kS; refine aK ?_) | (apply kX; refine JO_box rfl rfl rfl ?_; intro _) | (apply kA; refine JO_alloc (tb := tb) rfl rfl ?_; intro _) | (apply kBs; refine JO_buildSlice (tb := tb) rfl rfl rfl rfl rfl rfl rfl rfl rfl ?_; intro _) | (apply kM; refine JO_make (tb := tb) rfl rfl rfl rfl rfl rfl (by omega) rfl ?_; intro _) | refine aO ?_) | (apply gJR; first | apply JR_un | apply JR_nil | refine JR_yes rfl rfl ?_ | refine JR_no rfl rfl rfl rfl ?_ | refine JR_noU rfl rfl rfl ?_) | (apply gJS; first | apply JS_seq | apply JS_region | apply JS_skip | apply JS_block | apply JS_inBlock | apply JS_label | refine JS_exit rfl ?_ | refine JS_condT rfl ?_ | refine JS_condF rfl ?_ | refine JS_draw [0] (by kernel_rfl) (by kernel_rfl) (by decide +kernel) ?_ | refine JS_draw [] (by kernel_rfl) (by kernel_rfl) (by decide +kernel) ?_ | refine JS_cond_T rfl (by omega) ?_ | refine JS_cond_F rfl (by omega) ?_) | (apply gQR; first | apply QR_un | apply QR_nil | refine QR_yes rfl rfl ?_ | refine QR_no rfl rfl rfl rfl ?_ | refine QR_noU rfl rfl rfl ?_) | (apply gQO; first | refine aQ ?_ | refine aQK rfl ?_)))
    rename_i bt ps q2 d2
    refine JS_loop3 (fun (j : Nat) (X : List PX) (clock : Nat) => [(0, .slice p m c), (3, .pointer (some ⟨bp, 0, none⟩)), (4, .slice q2 (L.length + 1) d2), (5, .int .i64 ((i + j : Nat) : Int)), (24, .int .i64 ((max 1 n : Nat) : Int)), (25, .int .i64 j)])
      (fun j X clock => plA bp bm p c m X clock (vec 60 3 (.slice q2 (L ++ [(x, n, k)]).length d2) (L ++ [(x, n, k)]).length (tkv (L ++ [(x, n, k)])) :: H)) (fun j X clock => j ≤ max 1 n ∧ PI B (i + j) X clock) (fun j _ _ => max 1 n - j) 0 X clock ⟨Nat.zero_le _, hX⟩ (by repeat (first | exact trivial | refine ⟨rfl, ?_⟩ | refine ⟨lookI rfl (by omega), ?_⟩))
      (fun w hw => by
        rw [htv, hll]
        have h1 := (fun h => St.sub (H' := vec 60 3 (.slice q2 (L.length + 1) d2) (L.length + 1) (tkv L ++ [.int .u8 x, .int .i64 n, .int .i64 k]) :: plA bp bm p c m X clock H) ((List.Sublist.refl _).cons _ |>.cons _) h) hw
        exact h1.perm (List.perm_append_comm (l₁ := [_]) (l₂ := [_, _, _]) |>.append_right H)) ?_
    intro j X2 clock2 ⟨hj, hX2⟩ again2
    by_cases hjn : j < max 1 n
    · repeat (first | (apply gJO; first | (apply kS; refine aK ?_) | (apply kX; refine JO_box rfl rfl rfl ?_; intro _) | (apply kA; refine JO_alloc (tb := tb) rfl rfl ?_; intro _) | (apply kBs; refine JO_buildSlice (tb := tb) rfl rfl rfl rfl rfl rfl rfl rfl rfl ?_; intro _) | (apply kM; refine JO_make (tb := tb) rfl rfl rfl rfl rfl rfl (by omega) rfl ?_; intro _) | refine aO ?_) | (apply gJR; first | apply JR_un | apply JR_nil | refine JR_yes rfl rfl ?_ | refine JR_no rfl rfl rfl rfl ?_ | refine JR_noU rfl rfl rfl ?_) | (apply gJS; first | apply JS_seq | apply JS_region | apply JS_skip | apply JS_block | apply JS_inBlock | apply JS_label | refine JS_exit rfl ?_ | refine JS_condT rfl ?_ | refine JS_condF rfl ?_ | refine JS_draw [0] (by kernel_rfl) (by kernel_rfl) (by decide +kernel) ?_ | refine JS_draw [] (by kernel_rfl) (by kernel_rfl) (by decide +kernel) ?_ | refine JS_cond_T rfl (by omega) ?_ | refine JS_cond_F rfl (by omega) ?_) | (apply gQR; first | apply QR_un | apply QR_nil | refine QR_yes rfl rfl ?_ | refine QR_no rfl rfl rfl rfl ?_ | refine QR_noU rfl rfl rfl ?_) | (apply gQO; first | refine aQ ?_ | refine aQK rfl ?_))
      refine JO_call Try.call69 rfl rfl fun w hw => (Note_c bp bm p c m X2 clock2 B (i + j) (Rd_weak hr fun w hw => St.sub (by repeat (first | exact List.Sublist.refl _ | apply List.Sublist.cons_cons | apply List.Sublist.cons)) hw) hm hB hX2 (by omega) h4 w hw).mono ?_
      rintro e w' ⟨rfl, X3, clock3, hX3, hw'⟩
      refine ⟨_, rfl, _, hw', ?_⟩
      clear hw' hw w w'
      repeat (first | (apply gJO; first | (apply kS; refine aK ?_) | (apply kX; refine JO_box rfl rfl rfl ?_; intro _) | (apply kA; refine JO_alloc (tb := tb) rfl rfl ?_; intro _) | (apply kBs; refine JO_buildSlice (tb := tb) rfl rfl rfl rfl rfl rfl rfl rfl rfl ?_; intro _) | (apply kM; refine JO_make (tb := tb) rfl rfl rfl rfl rfl rfl (by omega) rfl ?_; intro _) | refine aO ?_) | (apply gJR; first | apply JR_un | apply JR_nil | refine JR_yes rfl rfl ?_ | refine JR_no rfl rfl rfl rfl ?_ | refine JR_noU rfl rfl rfl ?_) | (apply gJS; first | apply JS_seq | apply JS_region | apply JS_skip | apply JS_block | apply JS_inBlock | apply JS_label | refine JS_exit rfl ?_ | refine JS_condT rfl ?_ | refine JS_condF rfl ?_ | refine JS_draw [0] (by kernel_rfl) (by kernel_rfl) (by decide +kernel) ?_ | refine JS_draw [] (by kernel_rfl) (by kernel_rfl) (by decide +kernel) ?_ | refine JS_cond_T rfl (by omega) ?_ | refine JS_cond_F rfl (by omega) ?_) | (apply gQR; first | apply QR_un | apply QR_nil | refine QR_yes rfl rfl ?_ | refine QR_no rfl rfl rfl rfl ?_ | refine QR_noU rfl rfl rfl ?_) | (apply gQO; first | refine aQ ?_ | refine aQK rfl ?_))
      exact JS_again3 again2 (j + 1) X3 clock3 ⟨by omega, hX3⟩ (by omega) (by repeat (first | exact trivial | refine ⟨rfl, ?_⟩ | refine ⟨lookI rfl (by omega), ?_⟩)) (fun w hw => hw)
    · obtain rfl : j = max 1 n := by omega
      clear again2
      repeat (first | (apply gJO; first | (apply kS; refine aK ?_) | (apply kX; refine JO_box rfl rfl rfl ?_; intro _) | (apply kA; refine JO_alloc (tb := tb) rfl rfl ?_; intro _) | (apply kBs; refine JO_buildSlice (tb := tb) rfl rfl rfl rfl rfl rfl rfl rfl rfl ?_; intro _) | (apply kM; refine JO_make (tb := tb) rfl rfl rfl rfl rfl rfl (by omega) rfl ?_; intro _) | refine aO ?_) | (apply gJR; first | apply JR_un | apply JR_nil | refine JR_yes rfl rfl ?_ | refine JR_no rfl rfl rfl rfl ?_ | refine JR_noU rfl rfl rfl ?_) | (apply gJS; first | apply JS_seq | apply JS_region | apply JS_skip | apply JS_block | apply JS_inBlock | apply JS_label | refine JS_exit rfl ?_ | refine JS_condT rfl ?_ | refine JS_condF rfl ?_ | refine JS_draw [0] (by kernel_rfl) (by kernel_rfl) (by decide +kernel) ?_ | refine JS_draw [] (by kernel_rfl) (by kernel_rfl) (by decide +kernel) ?_ | refine JS_cond_T rfl (by omega) ?_ | refine JS_cond_F rfl (by omega) ?_) | (apply gQR; first | apply QR_un | apply QR_nil | refine QR_yes rfl rfl ?_ | refine QR_no rfl rfl rfl rfl ?_ | refine QR_noU rfl rfl rfl ?_) | (apply gQO; first | refine aQ ?_ | refine aQK rfl ?_))
      exact JS_again6 again (i + max 1 n) X2 clock2 q2 d2 (L ++ [(x, n, k)]) ⟨hn258, hX2, by rw [hll]; omega, by rw [hL, hts, List.append_assoc]; rfl⟩ (by omega) (by rw [hll]; exact (by repeat (first | exact trivial | refine ⟨rfl, ?_⟩ | refine ⟨lookI rfl (by omega), ?_⟩))) (fun w hw => hw.perm (List.perm_append_comm (l₁ := [_, _, _]) (l₂ := [_]) |>.append_right H))
  · obtain rfl : i = m := by omega
    clear again
    have hend : toks B i 0 = L := by rw [hL, ← hm, toks_end, List.append_nil]
    rw [hend]
    repeat (first | (apply gJO; first | (apply kS; refine aK ?_) | (apply kX; refine JO_box rfl rfl rfl ?_; intro _) | (apply kA; refine JO_alloc (tb := tb) rfl rfl ?_; intro _) | (apply kBs; refine JO_buildSlice (tb := tb) rfl rfl rfl rfl rfl rfl rfl rfl rfl ?_; intro _) | (apply kM; refine JO_make (tb := tb) rfl rfl rfl rfl rfl rfl (by omega) rfl ?_; intro _) | refine aO ?_) | (apply gJR; first | apply JR_un | apply JR_nil | refine JR_yes rfl rfl ?_ | refine JR_no rfl rfl rfl rfl ?_ | refine JR_noU rfl rfl rfl ?_) | (apply gJS; first | apply JS_seq | apply JS_region | apply JS_skip | apply JS_block | apply JS_inBlock | apply JS_label | refine JS_exit rfl ?_ | refine JS_condT rfl ?_ | refine JS_condF rfl ?_ | refine JS_draw [0] (by kernel_rfl) (by kernel_rfl) (by decide +kernel) ?_ | refine JS_draw [] (by kernel_rfl) (by kernel_rfl) (by decide +kernel) ?_ | refine JS_cond_T rfl (by omega) ?_ | refine JS_cond_F rfl (by omega) ?_) | (apply gQR; first | apply QR_un | apply QR_nil | refine QR_yes rfl rfl ?_ | refine QR_no rfl rfl rfl rfl ?_ | refine QR_noU rfl rfl rfl ?_) | (apply gQO; first | refine aQ ?_ | refine aQK rfl ?_))
    refine JS_ret Try.func36 rfl rfl fun w hw => ⟨q, d, rfl, St.sub (by repeat (first | exact List.Sublist.refl _ | apply List.Sublist.cons_cons | apply List.Sublist.cons)) hw⟩
end
end Go.Proofs.Ytakgoflfcgofdaa

set_option linter.unusedVariables false
set_option linter.unusedSimpArgs false
namespace Go.Proofs.Ytakgoflfcgofdaa
open Sx Go
/-! lengths' and distances' symbols: bounds -/
theorem pk_next (f : Int → Int × Int) (a n : Int) : ∀ k : Nat, ∀ i : Nat, i < k → pk f a n k < a + i → n < (f (a + i)).1
  | 0, i, h, _ => absurd h (by omega)
  | k + 1, i, h, hp => by
    unfold pk at hp
    split at hp
    · omega
    · rename_i hn
      rcases Nat.lt_or_ge i k with hik | hik
      · exact pk_next f a n k i hik hp
      · obtain rfl : i = k := by omega
        omega
theorem lbase_next : ∀ j : Fin 28, (lbase (257 + (j.val : Int) + 1)).1 ≤ (lbase (257 + (j.val : Int))).1 + 2 ^ (lbase (257 + (j.val : Int))).2.toNat := by decide +kernel
theorem lfar_next : ∀ j : Fin 29, (lfar (0 + (j.val : Int) + 1)).1 ≤ (lfar (0 + (j.val : Int))).1 + 2 ^ (lfar (0 + (j.val : Int))).2.toNat := by decide +kernel
theorem lbase_tab : ∀ j : Fin 29, 0 ≤ (lbase (257 + (j.val : Int))).2 ∧ (lbase (257 + (j.val : Int))).2 ≤ 5 ∧ (j.val = 28 → lbase (257 + (j.val : Int)) = (258, 0)) := by decide +kernel
theorem lfar_tab : ∀ j : Fin 30, 0 ≤ (lfar (0 + (j.val : Int))).2 ∧ (lfar (0 + (j.val : Int))).2 ≤ 13 ∧ (j.val = 29 → lfar (0 + (j.val : Int)) = (24577, 13)) := by decide +kernel
theorem lenS_bd (n : Int) (h3 : 3 ≤ n) (h258 : n ≤ 258) : ∃ s b : Nat, ∃ r : Int, lenS n = ((s : Int), (b : Int), r) ∧ 257 ≤ s ∧ s ≤ 285 ∧ b ≤ 5 ∧ 0 ≤ r ∧ r < 2 ^ b ∧ lbase s = (n - r, (b : Int)) := by
  have e := grt_pk lbase 257 n (by show (3 : Int) ≤ n; omega) 28
  have hb := pk_bd lbase 257 n 29
  have hle := pk_le lbase 257 n (by show (3 : Int) ≤ n; omega) 29
  have hnx := pk_next lbase 257 n 29
  unfold lenS
  rw [if_neg (by omega), e]
  obtain ⟨x, hx⟩ : ∃ x, pk lbase 257 n 29 = x := ⟨_, rfl⟩
  rw [hx] at hb hle hnx
  rw [show pk lbase 257 n (28 + 1) = x from hx]
  obtain ⟨j, rfl⟩ : ∃ j : Nat, x = 257 + (j : Int) := ⟨(x - 257).toNat, by omega⟩
  have hj : j < 29 := by omega
  obtain ⟨t1, t2, t3⟩ := lbase_tab ⟨j, hj⟩
  simp only [] at t1 t2 t3
  refine ⟨257 + j, (lbase (257 + (j : Int))).2.toNat, n - (lbase (257 + (j : Int))).1, ?_, by omega, by omega, by omega, by omega, ?_, ?_⟩
  · rw [Int.toNat_of_nonneg t1]; rfl
  · rcases Nat.lt_or_ge j 28 with h | h
    · have h1 := hnx (j + 1) (by omega) (by omega)
      have h2 := lbase_next ⟨j, h⟩
      simp only [] at h2
      have e2 : (257 : Int) + ((j + 1 : Nat) : Int) = 257 + (j : Int) + 1 := by omega
      rw [e2] at h1
      omega
    · rw [t3 (by omega)]; show n - 258 < 2 ^ 0; omega
  · rw [Int.toNat_of_nonneg t1, show (((257 + j : Nat) : Int)) = 257 + (j : Int) by omega]
    have : n - (n - (lbase (257 + (j : Int))).1) = (lbase (257 + (j : Int))).1 := by omega
    rw [this]
theorem spanS_bd (n : Int) (h1 : 1 ≤ n) (h32 : n ≤ 32768) : ∃ s b : Nat, ∃ r : Int, spanS n = ((s : Int), (b : Int), r) ∧ s ≤ 29 ∧ b ≤ 13 ∧ 0 ≤ r ∧ r < 2 ^ b ∧ lfar s = (n - r, (b : Int)) := by
  have e := grt_pk lfar 0 n (by show (1 : Int) ≤ n; omega) 29
  have hb := pk_bd lfar 0 n 30
  have hle := pk_le lfar 0 n (by show (1 : Int) ≤ n; omega) 30
  have hnx := pk_next lfar 0 n 30
  unfold spanS
  rw [if_neg (by omega), e]
  obtain ⟨x, hx⟩ : ∃ x, pk lfar 0 n 30 = x := ⟨_, rfl⟩
  rw [hx] at hb hle hnx
  rw [show pk lfar 0 n (29 + 1) = x from hx]
  obtain ⟨j, rfl⟩ : ∃ j : Nat, x = 0 + (j : Int) := ⟨x.toNat, by omega⟩
  have hj : j < 30 := by omega
  obtain ⟨t1, t2, t3⟩ := lfar_tab ⟨j, hj⟩
  simp only [] at t1 t2 t3
  refine ⟨j, (lfar (0 + (j : Int))).2.toNat, n - (lfar (0 + (j : Int))).1, ?_, by omega, by omega, by omega, ?_, ?_⟩
  · rw [Int.toNat_of_nonneg t1, Int.zero_add]
  · rcases Nat.lt_or_ge j 29 with h | h
    · have h1 := hnx (j + 1) (by omega) (by omega)
      have h2 := lfar_next ⟨j, h⟩
      simp only [] at h2
      have e2 : (0 : Int) + ((j + 1 : Nat) : Int) = 0 + (j : Int) + 1 := by omega
      rw [e2] at h1
      omega
    · rw [t3 (by omega)]; show n - 24577 < 2 ^ 13; omega
  · rw [Int.toNat_of_nonneg t1, Int.zero_add]
    have : n - (n - (lfar (j : Int)).1) = (lfar (j : Int)).1 := by omega
    rw [this]
/-- a token's bits -/
def tkb (t : Int × Nat × Nat) : List Int :=
  if t.2.2 = 0 then fxS t.1.toNat
  else fxS (lenS t.2.1).1.toNat ++ grp (lenS t.2.1).2.2 (lenS t.2.1).2.1.toNat ++ spS (spanS t.2.2).1.toNat ++ grp (spanS t.2.2).2.2 (spanS t.2.2).2.1.toNat
/-- a token as it may be -/
def TOK (t : Int × Nat × Nat) : Prop := (0 ≤ t.1 ∧ t.1 < 256 ∧ t.2.1 = 0 ∧ t.2.2 = 0) ∨ (t.1 = 0 ∧ 3 ≤ t.2.1 ∧ t.2.1 ≤ 258 ∧ 1 ≤ t.2.2 ∧ t.2.2 ≤ 32768)
theorem bms_ln (x : Int) (k : Nat) : (bms x k).length = k := by unfold bms; rw [List.length_map, List.length_range]
theorem bms_01' (x : Int) (k j : Nat) : (bms x k).getD j 0 = 0 ∨ (bms x k).getD j 0 = 1 := bms_01 x k j
theorem fxS_01 (k j : Nat) : (fxS k).getD j 0 = 0 ∨ (fxS k).getD j 0 = 1 := bms_01 _ _ j
theorem spS_01 (k j : Nat) : (spS k).getD j 0 = 0 ∨ (spS k).getD j 0 = 1 := bms_01 _ _ j
theorem spS_len (k : Nat) : (spS k).length = 5 := bms_ln _ _
theorem tkb_01 (t : Int × Nat × Nat) (j : Nat) : (tkb t).getD j 0 = 0 ∨ (tkb t).getD j 0 = 1 := by
  unfold tkb
  split
  · exact fxS_01 _ j
  · exact app_01 (app_01 (app_01 (fxS_01 _) (grp_01 _ _)) (spS_01 _)) (grp_01 _ _) j
theorem tkb_len {t : Int × Nat × Nat} (h : TOK t) : (tkb t).length ≤ 32 := by
  unfold tkb
  rcases h with ⟨h1, h2, h3, h4⟩ | ⟨h1, h2, h3, h4, h5⟩
  · rw [if_pos h4]
    have := fxS_len t.1.toNat (by omega); omega
  · rw [if_neg (by omega)]
    obtain ⟨s, b, r, e, a1, a2, a3, _⟩ := lenS_bd t.2.1 (by omega) (by omega)
    obtain ⟨s', b', r', e', a1', a3', _⟩ := spanS_bd t.2.2 (by omega) (by omega)
    rw [e, e']
    have := fxS_len s (by omega)
    simp only [List.length_append, Int.toNat_natCast, grp_len, spS_len]
    omega
section
attribute [local irreducible] grp fxS spS lenS spanS
variable {w0 : World} {H : List Asn} {b : Nat} {L : List Int} {q : Option Addr} {d : Nat} {pl ps pa pb : Option Addr} {cl cs ca cb : Nat}
set_option maxRecDepth 10000 in
set_option maxHeartbeats 4000000 in
/-- a token is written -/
theorem Tok_c (t : Int × Nat × Nat) (ht : TOK t) (hL : ∀ j, L.getD j 0 = 0 ∨ L.getD j 0 = 1) (hl : L.length ≤ 70368744177000) (w : World) (hw : St w0 (fwL b L q d pl ps pa pb cl cs ca cb H) w) :
    Calls Try.prog 37 #[.pointer (some ⟨b, 0, none⟩), .agg #[.int .u8 t.1, .int .i64 t.2.1, .int .i64 t.2.2]] w fun e w' => e = .returned (.tuple #[]) ∧ ∃ q d, St w0 (fwL b (L ++ tkb t) q d pl ps pa pb cl cs ca cb H) w' := by
  have hlen := tkb_len ht
  obtain ⟨x, n, k⟩ := t
  rcases ht with ⟨h1, h2, h3, h4⟩ | ⟨h1, h2, h3, h4, h5⟩
  · simp only [] at h1 h2 h3 h4
    subst h3; subst h4
    obtain ⟨x', rfl⟩ : ∃ x' : Nat, x = x' := ⟨x.toNat, by omega⟩
    exact Tok0_c x' (by omega) hL (by omega) w hw
  · simp only [] at h1 h2 h3 h4 h5 hlen ⊢
    obtain ⟨s, nb, r, e1, a1, a2, a3, a4, a5, _⟩ := lenS_bd n (by omega) (by omega)
    obtain ⟨s', nb', r', e2, c1, c3, c4, c5, _⟩ := spanS_bd k (by omega) (by omega)
    have htk : tkb (x, n, k) = fxS s ++ grp r nb ++ spS s' ++ grp r' nb' := by
      unfold tkb
      simp only []
      rw [if_neg (by omega), e1, e2]
      simp only [Int.toNat_natCast]
    rw [htk] at hlen ⊢
    simp only [List.length_append] at hlen
    have p5 : ∀ k : Fin 14, (2 : Int) ^ k.val ≤ 8192 := by decide
    have q1 := p5 ⟨nb, by omega⟩
    have q2 := p5 ⟨nb', by omega⟩
    simp only [] at q1 q2
    have f1 : nb ≤ 32 := by omega
    have f2 : r < 4294967296 := by omega
    have f3 : (L ++ fxS s).length ≤ 70368744177600 := by rw [List.length_append]; omega
    have f4 := app_01 hL (fxS_01 s)
    have f5 := app_01 f4 (grp_01 r nb)
    have f6 : (L ++ fxS s ++ grp r nb).length ≤ 70368744177600 := by rw [List.length_append, List.length_append]; omega
    have f7 := app_01 f5 (spS_01 s')
    have f8 : (L ++ fxS s ++ grp r nb ++ spS s').length ≤ 70368744177600 := by rw [List.length_append, List.length_append, List.length_append]; omega
    have f9 : nb' ≤ 32 := by omega
    have f10 : r' < 4294967296 := by omega
    have f11 : s < 288 := by omega
    have f12 : s' < 32 := by omega
    have f13 : L.length ≤ 70368744177600 := by omega
    refine enter (vs := [.pointer (some ⟨b, 0, none⟩), .agg #[.int .u8 x, .int .i64 n, .int .i64 k]]) Try.func37 rfl rfl rfl hw ?_
    clear hw w
    repeat (first | apply hIx 3 | (first | (apply gJO; first | (apply kS; refine aK ?_) | (apply kX; refine JO_box rfl rfl rfl ?_; intro _) | (apply kA; refine JO_alloc (tb := tb) rfl rfl ?_; intro _) | (apply kBs; refine JO_buildSlice (tb := tb) rfl rfl rfl rfl rfl rfl rfl rfl rfl ?_; intro _) | (apply kM; refine JO_make (tb := tb) rfl rfl rfl rfl rfl rfl (by omega) rfl ?_; intro _) | refine aO ?_) | (apply gJR; first | apply JR_un | apply JR_nil | refine JR_yes rfl rfl ?_ | refine JR_no rfl rfl rfl rfl ?_ | refine JR_noU rfl rfl rfl ?_) | (apply gJS; first | apply JS_seq | apply JS_region | apply JS_skip | apply JS_block | apply JS_inBlock | apply JS_label | refine JS_exit rfl ?_ | refine JS_condT rfl ?_ | refine JS_condF rfl ?_ | refine JS_draw [0] (by kernel_rfl) (by kernel_rfl) (by decide +kernel) ?_ | refine JS_draw [] (by kernel_rfl) (by kernel_rfl) (by decide +kernel) ?_ | refine JS_cond_T rfl (by omega) ?_ | refine JS_cond_F rfl (by omega) ?_) | (apply gQR; first | apply QR_un | apply QR_nil | refine QR_yes rfl rfl ?_ | refine QR_no rfl rfl rfl rfl ?_ | refine QR_noU rfl rfl rfl ?_) | (apply gQO; first | refine aQ ?_ | refine aQK rfl ?_)))
    refine Hold.go ?_
    rename_i bx
    refine JS_H (H' := fwL b L q d pl ps pa pb cl cs ca cb (blk bx [.int .u8 x, .int .i64 n, .int .i64 k] :: H)) (fun w hw => hw.perm (by (repeat (first | exact List.Perm.refl _ | refine List.Perm.cons _ ?_ | refine (List.perm_middle (l₁ := [_])).trans (List.Perm.cons _ ?_) | refine (List.perm_middle (l₁ := [_, _])).trans (List.Perm.cons _ ?_) | refine (List.perm_middle (l₁ := [_, _, _])).trans (List.Perm.cons _ ?_) | refine (List.perm_middle (l₁ := [_, _, _, _])).trans (List.Perm.cons _ ?_) | refine (List.perm_middle (l₁ := [_, _, _, _, _])).trans (List.Perm.cons _ ?_) | refine (List.perm_middle (l₁ := [_, _, _, _, _, _])).trans (List.Perm.cons _ ?_) | refine (List.perm_middle (l₁ := [_, _, _, _, _, _, _])).trans (List.Perm.cons _ ?_) | refine (List.perm_middle (l₁ := [_, _, _, _, _, _, _, _])).trans (List.Perm.cons _ ?_))))) ?_
    repeat (first | (apply gJO; first | (apply kS; refine aK ?_) | (apply kX; refine JO_box rfl rfl rfl ?_; intro _) | (apply kA; refine JO_alloc (tb := tb) rfl rfl ?_; intro _) | (apply kBs; refine JO_buildSlice (tb := tb) rfl rfl rfl rfl rfl rfl rfl rfl rfl ?_; intro _) | (apply kM; refine JO_make (tb := tb) rfl rfl rfl rfl rfl rfl (by omega) rfl ?_; intro _) | refine aO ?_) | (apply gJR; first | apply JR_un | apply JR_nil | refine JR_yes rfl rfl ?_ | refine JR_no rfl rfl rfl rfl ?_ | refine JR_noU rfl rfl rfl ?_) | (apply gJS; first | apply JS_seq | apply JS_region | apply JS_skip | apply JS_block | apply JS_inBlock | apply JS_label | refine JS_exit rfl ?_ | refine JS_condT rfl ?_ | refine JS_condF rfl ?_ | refine JS_draw [0] (by kernel_rfl) (by kernel_rfl) (by decide +kernel) ?_ | refine JS_draw [] (by kernel_rfl) (by kernel_rfl) (by decide +kernel) ?_ | refine JS_cond_T rfl (by omega) ?_ | refine JS_cond_F rfl (by omega) ?_) | (apply gQR; first | apply QR_un | apply QR_nil | refine QR_yes rfl rfl ?_ | refine QR_no rfl rfl rfl rfl ?_ | refine QR_noU rfl rfl rfl ?_) | (apply gQO; first | refine aQ ?_ | refine aQK rfl ?_))
    refine JO_call Try.call21 rfl rfl fun w hw => (Length_c n w hw).mono ?_
    rintro e w' ⟨rfl, hw'⟩
    rw [e1]; dsimp only
    refine ⟨_, rfl, _, hw', ?_⟩
    clear hw' hw w w'
    repeat (first | (apply gJO; first | (apply kS; refine aK ?_) | (apply kX; refine JO_box rfl rfl rfl ?_; intro _) | (apply kA; refine JO_alloc (tb := tb) rfl rfl ?_; intro _) | (apply kBs; refine JO_buildSlice (tb := tb) rfl rfl rfl rfl rfl rfl rfl rfl rfl ?_; intro _) | (apply kM; refine JO_make (tb := tb) rfl rfl rfl rfl rfl rfl (by omega) rfl ?_; intro _) | refine aO ?_) | (apply gJR; first | apply JR_un | apply JR_nil | refine JR_yes rfl rfl ?_ | refine JR_no rfl rfl rfl rfl ?_ | refine JR_noU rfl rfl rfl ?_) | (apply gJS; first | apply JS_seq | apply JS_region | apply JS_skip | apply JS_block | apply JS_inBlock | apply JS_label | refine JS_exit rfl ?_ | refine JS_condT rfl ?_ | refine JS_condF rfl ?_ | refine JS_draw [0] (by kernel_rfl) (by kernel_rfl) (by decide +kernel) ?_ | refine JS_draw [] (by kernel_rfl) (by kernel_rfl) (by decide +kernel) ?_ | refine JS_cond_T rfl (by omega) ?_ | refine JS_cond_F rfl (by omega) ?_) | (apply gQR; first | apply QR_un | apply QR_nil | refine QR_yes rfl rfl ?_ | refine QR_no rfl rfl rfl rfl ?_ | refine QR_noU rfl rfl rfl ?_) | (apply gQO; first | refine aQ ?_ | refine aQK rfl ?_))
    refine JO_call Try.call38 rfl rfl fun w hw => (FLit_c (H := blk bx [.int .u8 x, .int .i64 n, .int .i64 k] :: H) s f11 hL f13 w hw).mono ?_
    rintro e w' ⟨rfl, q2, d2, hw'⟩
    refine ⟨_, rfl, _, hw', ?_⟩
    clear hw' hw w w'
    repeat (first | (apply gJO; first | (apply kS; refine aK ?_) | (apply kX; refine JO_box rfl rfl rfl ?_; intro _) | (apply kA; refine JO_alloc (tb := tb) rfl rfl ?_; intro _) | (apply kBs; refine JO_buildSlice (tb := tb) rfl rfl rfl rfl rfl rfl rfl rfl rfl ?_; intro _) | (apply kM; refine JO_make (tb := tb) rfl rfl rfl rfl rfl rfl (by omega) rfl ?_; intro _) | refine aO ?_) | (apply gJR; first | apply JR_un | apply JR_nil | refine JR_yes rfl rfl ?_ | refine JR_no rfl rfl rfl rfl ?_ | refine JR_noU rfl rfl rfl ?_) | (apply gJS; first | apply JS_seq | apply JS_region | apply JS_skip | apply JS_block | apply JS_inBlock | apply JS_label | refine JS_exit rfl ?_ | refine JS_condT rfl ?_ | refine JS_condF rfl ?_ | refine JS_draw [0] (by kernel_rfl) (by kernel_rfl) (by decide +kernel) ?_ | refine JS_draw [] (by kernel_rfl) (by kernel_rfl) (by decide +kernel) ?_ | refine JS_cond_T rfl (by omega) ?_ | refine JS_cond_F rfl (by omega) ?_) | (apply gQR; first | apply QR_un | apply QR_nil | refine QR_yes rfl rfl ?_ | refine QR_no rfl rfl rfl rfl ?_ | refine QR_noU rfl rfl rfl ?_) | (apply gQO; first | refine aQ ?_ | refine aQK rfl ?_))
    refine JO_call Try.call35 rfl rfl fun w hw => (WGroupT_c b (L ++ fxS s) q2 d2 r nb f1 ⟨a4, a5⟩ f2 f4 f3 w hw).mono ?_
    rintro e w' ⟨rfl, q3, d3, hw'⟩
    refine ⟨_, rfl, _, hw', ?_⟩
    clear hw' hw w w'
    repeat (first | (apply gJO; first | (apply kS; refine aK ?_) | (apply kX; refine JO_box rfl rfl rfl ?_; intro _) | (apply kA; refine JO_alloc (tb := tb) rfl rfl ?_; intro _) | (apply kBs; refine JO_buildSlice (tb := tb) rfl rfl rfl rfl rfl rfl rfl rfl rfl ?_; intro _) | (apply kM; refine JO_make (tb := tb) rfl rfl rfl rfl rfl rfl (by omega) rfl ?_; intro _) | refine aO ?_) | (apply gJR; first | apply JR_un | apply JR_nil | refine JR_yes rfl rfl ?_ | refine JR_no rfl rfl rfl rfl ?_ | refine JR_noU rfl rfl rfl ?_) | (apply gJS; first | apply JS_seq | apply JS_region | apply JS_skip | apply JS_block | apply JS_inBlock | apply JS_label | refine JS_exit rfl ?_ | refine JS_condT rfl ?_ | refine JS_condF rfl ?_ | refine JS_draw [0] (by kernel_rfl) (by kernel_rfl) (by decide +kernel) ?_ | refine JS_draw [] (by kernel_rfl) (by kernel_rfl) (by decide +kernel) ?_ | refine JS_cond_T rfl (by omega) ?_ | refine JS_cond_F rfl (by omega) ?_) | (apply gQR; first | apply QR_un | apply QR_nil | refine QR_yes rfl rfl ?_ | refine QR_no rfl rfl rfl rfl ?_ | refine QR_noU rfl rfl rfl ?_) | (apply gQO; first | refine aQ ?_ | refine aQK rfl ?_))
    refine JO_call Try.call23 rfl rfl fun w hw => (Span_c k w hw).mono ?_
    rintro e w' ⟨rfl, hw'⟩
    rw [e2]; dsimp only
    refine ⟨_, rfl, _, hw', ?_⟩
    clear hw' hw w w'
    repeat (first | (apply gJO; first | (apply kS; refine aK ?_) | (apply kX; refine JO_box rfl rfl rfl ?_; intro _) | (apply kA; refine JO_alloc (tb := tb) rfl rfl ?_; intro _) | (apply kBs; refine JO_buildSlice (tb := tb) rfl rfl rfl rfl rfl rfl rfl rfl rfl ?_; intro _) | (apply kM; refine JO_make (tb := tb) rfl rfl rfl rfl rfl rfl (by omega) rfl ?_; intro _) | refine aO ?_) | (apply gJR; first | apply JR_un | apply JR_nil | refine JR_yes rfl rfl ?_ | refine JR_no rfl rfl rfl rfl ?_ | refine JR_noU rfl rfl rfl ?_) | (apply gJS; first | apply JS_seq | apply JS_region | apply JS_skip | apply JS_block | apply JS_inBlock | apply JS_label | refine JS_exit rfl ?_ | refine JS_condT rfl ?_ | refine JS_condF rfl ?_ | refine JS_draw [0] (by kernel_rfl) (by kernel_rfl) (by decide +kernel) ?_ | refine JS_draw [] (by kernel_rfl) (by kernel_rfl) (by decide +kernel) ?_ | refine JS_cond_T rfl (by omega) ?_ | refine JS_cond_F rfl (by omega) ?_) | (apply gQR; first | apply QR_un | apply QR_nil | refine QR_yes rfl rfl ?_ | refine QR_no rfl rfl rfl rfl ?_ | refine QR_noU rfl rfl rfl ?_) | (apply gQO; first | refine aQ ?_ | refine aQK rfl ?_))
    refine JO_call Try.call70 rfl rfl fun w hw => (FSpan_c (L := L ++ fxS s ++ grp r nb) (q := q3) (d := d3) (H := blk bx [.int .u8 x, .int .i64 n, .int .i64 k] :: H) s' f12 f5 f6 w hw).mono ?_
    rintro e w' ⟨rfl, q4, d4, hw'⟩
    refine ⟨_, rfl, _, hw', ?_⟩
    clear hw' hw w w'
    repeat (first | (apply gJO; first | (apply kS; refine aK ?_) | (apply kX; refine JO_box rfl rfl rfl ?_; intro _) | (apply kA; refine JO_alloc (tb := tb) rfl rfl ?_; intro _) | (apply kBs; refine JO_buildSlice (tb := tb) rfl rfl rfl rfl rfl rfl rfl rfl rfl ?_; intro _) | (apply kM; refine JO_make (tb := tb) rfl rfl rfl rfl rfl rfl (by omega) rfl ?_; intro _) | refine aO ?_) | (apply gJR; first | apply JR_un | apply JR_nil | refine JR_yes rfl rfl ?_ | refine JR_no rfl rfl rfl rfl ?_ | refine JR_noU rfl rfl rfl ?_) | (apply gJS; first | apply JS_seq | apply JS_region | apply JS_skip | apply JS_block | apply JS_inBlock | apply JS_label | refine JS_exit rfl ?_ | refine JS_condT rfl ?_ | refine JS_condF rfl ?_ | refine JS_draw [0] (by kernel_rfl) (by kernel_rfl) (by decide +kernel) ?_ | refine JS_draw [] (by kernel_rfl) (by kernel_rfl) (by decide +kernel) ?_ | refine JS_cond_T rfl (by omega) ?_ | refine JS_cond_F rfl (by omega) ?_) | (apply gQR; first | apply QR_un | apply QR_nil | refine QR_yes rfl rfl ?_ | refine QR_no rfl rfl rfl rfl ?_ | refine QR_noU rfl rfl rfl ?_) | (apply gQO; first | refine aQ ?_ | refine aQK rfl ?_))
    refine JO_call Try.call35 rfl rfl fun w hw => (WGroupT_c b (L ++ fxS s ++ grp r nb ++ spS s') q4 d4 r' nb' f9 ⟨c4, c5⟩ f10 f7 f8 w hw).mono ?_
    rintro e w' ⟨rfl, q5, d5, hw'⟩
    refine ⟨_, rfl, _, hw', ?_⟩
    clear hw' hw w w'
    repeat (first | (apply gJO; first | (apply kS; refine aK ?_) | (apply kX; refine JO_box rfl rfl rfl ?_; intro _) | (apply kA; refine JO_alloc (tb := tb) rfl rfl ?_; intro _) | (apply kBs; refine JO_buildSlice (tb := tb) rfl rfl rfl rfl rfl rfl rfl rfl rfl ?_; intro _) | (apply kM; refine JO_make (tb := tb) rfl rfl rfl rfl rfl rfl (by omega) rfl ?_; intro _) | refine aO ?_) | (apply gJR; first | apply JR_un | apply JR_nil | refine JR_yes rfl rfl ?_ | refine JR_no rfl rfl rfl rfl ?_ | refine JR_noU rfl rfl rfl ?_) | (apply gJS; first | apply JS_seq | apply JS_region | apply JS_skip | apply JS_block | apply JS_inBlock | apply JS_label | refine JS_exit rfl ?_ | refine JS_condT rfl ?_ | refine JS_condF rfl ?_ | refine JS_draw [0] (by kernel_rfl) (by kernel_rfl) (by decide +kernel) ?_ | refine JS_draw [] (by kernel_rfl) (by kernel_rfl) (by decide +kernel) ?_ | refine JS_cond_T rfl (by omega) ?_ | refine JS_cond_F rfl (by omega) ?_) | (apply gQR; first | apply QR_un | apply QR_nil | refine QR_yes rfl rfl ?_ | refine QR_no rfl rfl rfl rfl ?_ | refine QR_noU rfl rfl rfl ?_) | (apply gQO; first | refine aQ ?_ | refine aQK rfl ?_))
    refine JS_fin Try.func37 rfl rfl (vs := []) ?_
    intro w hw
    refine ⟨rfl, q5, d5, ?_⟩
    have : L ++ (fxS s ++ grp r nb ++ spS s' ++ grp r' nb') = L ++ fxS s ++ grp r nb ++ spS s' ++ grp r' nb' := by simp only [List.append_assoc]
    rw [this]
    exact St.sub (by repeat (first | exact List.Sublist.refl _ | apply List.Sublist.cons_cons | apply List.Sublist.cons)) hw
end
end Go.Proofs.Ytakgoflfcgofdaa

set_option linter.unusedVariables false
set_option linter.unusedSimpArgs false
namespace Go.Proofs.Ytakgoflfcgofdaa
open Sx Go
/-- the bits of a fixed block -/
def fixL (B : List Int) : List Int := grp 1 1 ++ grp 1 2 ++ (toks B B.length 0).flatMap tkb ++ fxS 256
theorem tok_TOK {B : List Int} (hB : OKB B) (i : Nat) (hi : i < B.length) : TOK (tok B i) := by
  rcases tok_bd B i hi with h | ⟨n, d, h, h1, h2, h3, h4, h5, h6⟩
  · rw [h]; exact .inl ⟨(hB i).1, (hB i).2, rfl, rfl⟩
  · rw [h]; exact .inr ⟨rfl, h1, h2, h4, h6⟩
theorem toks_TOK {B : List Int} (hB : OKB B) : ∀ f i, ∀ t ∈ toks B f i, TOK t
  | 0, i, t, h => by rw [toks] at h; simp at h
  | f + 1, i, t, h => by
    rw [toks] at h
    split at h
    · rename_i hi
      rcases List.mem_cons.1 h with rfl | h
      · exact tok_TOK hB i hi
      · exact toks_TOK hB f _ t h
    · simp at h
theorem tkbs_len {l : List (Int × Nat × Nat)} (h : ∀ t ∈ l, TOK t) : (l.flatMap tkb).length ≤ 32 * l.length := by
  induction l with
  | nil => simp
  | cons t l ih =>
    rw [List.flatMap_cons, List.length_append, List.length_cons]
    have := tkb_len (h t (by simp))
    have := ih fun t ht => h t (by simp [ht])
    omega
theorem tkbs_01 : ∀ (l : List (Int × Nat × Nat)) (j : Nat), (l.flatMap tkb).getD j 0 = 0 ∨ (l.flatMap tkb).getD j 0 = 1
  | [], j => .inl (by simp)
  | t :: l, j => by rw [List.flatMap_cons]; exact app_01 (tkb_01 t) (tkbs_01 l) j
theorem tkbs_take {l : List (Int × Nat × Nat)} {i : Nat} (h : i < l.length) : (l.take (i + 1)).flatMap tkb = (l.take i).flatMap tkb ++ tkb (l[i]'h) := by
  rw [List.take_add_one, List.getElem?_eq_getElem h, List.flatMap_append]; simp
theorem tkv_at {l : List (Int × Nat × Nat)} {i : Nat} (h : i < l.length) : ((tkv l).drop (i * 3)).take 3 = [.int .u8 (l[i]'h).1, .int .i64 (l[i]'h).2.1, .int .i64 (l[i]'h).2.2] := by
  have e : l = l.take i ++ l[i] :: l.drop (i + 1) := by rw [List.getElem_cons_drop, List.take_append_drop]
  have e2 : tkv l = tkv (l.take i) ++ ([.int .u8 (l[i]'h).1, .int .i64 (l[i]'h).2.1, .int .i64 (l[i]'h).2.2] ++ tkv (l.drop (i + 1))) := by
    conv => lhs; rw [e]
    unfold tkv
    rw [List.flatMap_append, List.flatMap_cons]
  rw [e2, List.drop_append_of_le_length (by rw [tkv_len, List.length_take]; omega), List.drop_of_length_le (by rw [tkv_len, List.length_take]; omega)]
  rfl
theorem nil_01' (j : Nat) : ([] : List Int).getD j 0 = 0 ∨ ([] : List Int).getD j 0 = 1 := .inl (by simp)
theorem fixL_01 (B : List Int) (j : Nat) : (fixL B).getD j 0 = 0 ∨ (fixL B).getD j 0 = 1 :=
  app_01 (app_01 (app_01 (grp_01 1 1) (grp_01 1 2)) (tkbs_01 _)) (fxS_01 256) j
theorem fixL_len {B : List Int} (hB : OKB B) : (fixL B).length ≤ 32 * B.length + 12 := by
  unfold fixL
  have h1 := tkbs_len (toks_TOK hB B.length 0)
  have h2 := toks_len (B := B) B.length 0
  have h3 := fxS_len 256 (by omega)
  simp only [List.length_append, grp_len]
  omega
theorem fxB_okb : OKB fxB := by unfold fxB; exact fix_okb
theorem fxB_okl : OKL fxB := by unfold fxB; exact fix_okl
theorem spB_okb : OKB spB := by unfold spB; exact spans_okb
theorem spB_okl : OKL spB := by unfold spB; exact spans_okl
theorem fxB_eq : tab 288 fixF = fxB := by unfold fxB; rfl
theorem spB_eq : List.replicate 32 5 = spB := by unfold spB; rfl
theorem fxC_eq : cds fxB 16 0 = fxC := by unfold fxC; rfl
theorem spC_eq : cds spB 16 0 = spC := by unfold spC; rfl
section
attribute [local irreducible] grp fxS spS lenS spanS toks tkv tkb cds pack
variable {w0 : World} {H : List Asn}
set_option maxRecDepth 10000 in
set_option maxHeartbeats 4000000 in
/-- the fixed block of a text -/
theorem DFixed_c (p : Option Addr) (c m : Nat) (B : List Int) (hr : Rd w0 H (.slice p m c) m (ints .u8 B)) (hm : B.length = m) (hB : OKB B) (h4 : m ≤ 100000) (w : World) (hw : St w0 H w) :
    Calls Try.prog 15 #[.slice p m c] w fun e w' => ∃ q d, e = .returned (.slice q (pack (fixL B)).length d) ∧ St w0 (vec 5 1 (.slice q (pack (fixL B)).length d) (pack (fixL B)).length (ints .u8 (pack (fixL B))) :: H) w' := by
  refine enter (vs := [.slice p m c]) Try.func15 rfl rfl rfl hw ?_
  clear hw w
  repeat (first | (apply gJO; first | (apply kS; refine aK ?_) | (apply kX; refine JO_box rfl rfl rfl ?_; intro _) | (apply kA; refine JO_alloc (tb := tb) rfl rfl ?_; intro _) | (apply kBs; refine JO_buildSlice (tb := tb) rfl rfl rfl rfl rfl rfl rfl rfl rfl ?_; intro _) | (apply kM; refine JO_make (tb := tb) rfl rfl rfl rfl rfl rfl (by omega) rfl ?_; intro _) | refine aO ?_) | (apply gJR; first | apply JR_un | apply JR_nil | refine JR_yes rfl rfl ?_ | refine JR_no rfl rfl rfl rfl ?_ | refine JR_noU rfl rfl rfl ?_) | (apply gJS; first | apply JS_seq | apply JS_region | apply JS_skip | apply JS_block | apply JS_inBlock | apply JS_label | refine JS_exit rfl ?_ | refine JS_condT rfl ?_ | refine JS_condF rfl ?_ | refine JS_draw [0] (by kernel_rfl) (by kernel_rfl) (by decide +kernel) ?_ | refine JS_draw [] (by kernel_rfl) (by kernel_rfl) (by decide +kernel) ?_ | refine JS_cond_T rfl (by omega) ?_ | refine JS_cond_F rfl (by omega) ?_) | (apply gQR; first | apply QR_un | apply QR_nil | refine QR_yes rfl rfl ?_ | refine QR_no rfl rfl rfl rfl ?_ | refine QR_noU rfl rfl rfl ?_) | (apply gQO; first | refine aQ ?_ | refine aQK rfl ?_))
  refine JO_call Try.call32 rfl rfl fun w hw => (Fixed_c w hw).mono ?_
  rintro e w' ⟨pl, cl, rfl, hw'⟩
  rw [fxB_eq] at hw'
  refine ⟨_, rfl, _, hw', ?_⟩
  clear hw' hw w w'
  repeat (first | (apply gJO; first | (apply kS; refine aK ?_) | (apply kX; refine JO_box rfl rfl rfl ?_; intro _) | (apply kA; refine JO_alloc (tb := tb) rfl rfl ?_; intro _) | (apply kBs; refine JO_buildSlice (tb := tb) rfl rfl rfl rfl rfl rfl rfl rfl rfl ?_; intro _) | (apply kM; refine JO_make (tb := tb) rfl rfl rfl rfl rfl rfl (by omega) rfl ?_; intro _) | refine aO ?_) | (apply gJR; first | apply JR_un | apply JR_nil | refine JR_yes rfl rfl ?_ | refine JR_no rfl rfl rfl rfl ?_ | refine JR_noU rfl rfl rfl ?_) | (apply gJS; first | apply JS_seq | apply JS_region | apply JS_skip | apply JS_block | apply JS_inBlock | apply JS_label | refine JS_exit rfl ?_ | refine JS_condT rfl ?_ | refine JS_condF rfl ?_ | refine JS_draw [0] (by kernel_rfl) (by kernel_rfl) (by decide +kernel) ?_ | refine JS_draw [] (by kernel_rfl) (by kernel_rfl) (by decide +kernel) ?_ | refine JS_cond_T rfl (by omega) ?_ | refine JS_cond_F rfl (by omega) ?_) | (apply gQR; first | apply QR_un | apply QR_nil | refine QR_yes rfl rfl ?_ | refine QR_no rfl rfl rfl rfl ?_ | refine QR_noU rfl rfl rfl ?_) | (apply gQO; first | refine aQ ?_ | refine aQK rfl ?_))
  refine JO_call Try.call33 rfl rfl fun w hw => (Spans_c w hw).mono ?_
  rintro e w' ⟨ps, cs, rfl, hw'⟩
  rw [spB_eq] at hw'
  refine ⟨_, rfl, _, hw', ?_⟩
  clear hw' hw w w'
  repeat (first | apply hIx 2 | (first | (apply gJO; first | (apply kS; refine aK ?_) | (apply kX; refine JO_box rfl rfl rfl ?_; intro _) | (apply kA; refine JO_alloc (tb := tb) rfl rfl ?_; intro _) | (apply kBs; refine JO_buildSlice (tb := tb) rfl rfl rfl rfl rfl rfl rfl rfl rfl ?_; intro _) | (apply kM; refine JO_make (tb := tb) rfl rfl rfl rfl rfl rfl (by omega) rfl ?_; intro _) | refine aO ?_) | (apply gJR; first | apply JR_un | apply JR_nil | refine JR_yes rfl rfl ?_ | refine JR_no rfl rfl rfl rfl ?_ | refine JR_noU rfl rfl rfl ?_) | (apply gJS; first | apply JS_seq | apply JS_region | apply JS_skip | apply JS_block | apply JS_inBlock | apply JS_label | refine JS_exit rfl ?_ | refine JS_condT rfl ?_ | refine JS_condF rfl ?_ | refine JS_draw [0] (by kernel_rfl) (by kernel_rfl) (by decide +kernel) ?_ | refine JS_draw [] (by kernel_rfl) (by kernel_rfl) (by decide +kernel) ?_ | refine JS_cond_T rfl (by omega) ?_ | refine JS_cond_F rfl (by omega) ?_) | (apply gQR; first | apply QR_un | apply QR_nil | refine QR_yes rfl rfl ?_ | refine QR_no rfl rfl rfl rfl ?_ | refine QR_noU rfl rfl rfl ?_) | (apply gQO; first | refine aQ ?_ | refine aQK rfl ?_)))
  refine Hold.go ?_
  rename_i b
  refine JS_H (H' := blk b [.slice none 0 0, .int .i64 0, .slice pl 288 cl, .slice ps 32 cs, .slice none 0 0, .slice none 0 0] :: vec 5 1 (.slice ps 32 cs) 32 (ints .u8 spB) :: vec 5 1 (.slice pl 288 cl) 288 (ints .u8 fxB) :: H) (fun w hw => hw) ?_
  refine JS_seq ?_
  refine JS_order [0, 1, 2, 3, 4, 5, 7, 8, 9, 10, 6, 11, 12, 13, 14, 15, 16, 17] [3, 0] (Picks.cons rfl (Picks.cons rfl (Picks.cons rfl (Picks.cons rfl (Picks.cons rfl (Picks.cons rfl (Picks.cons rfl (Picks.cons rfl (Picks.cons rfl (Picks.cons rfl (Picks.cons rfl (Picks.cons rfl (Picks.cons rfl (Picks.cons rfl (Picks.cons rfl (Picks.cons rfl (Picks.cons rfl (Picks.cons rfl (Picks.nil))))))))))))))))))) (by kernel_rfl) (by kernel_rfl) rfl (by decide +kernel) ?_
  repeat (first | (apply gJO; first | (apply kS; refine aK ?_) | (apply kX; refine JO_box rfl rfl rfl ?_; intro _) | (apply kA; refine JO_alloc (tb := tb) rfl rfl ?_; intro _) | (apply kBs; refine JO_buildSlice (tb := tb) rfl rfl rfl rfl rfl rfl rfl rfl rfl ?_; intro _) | (apply kM; refine JO_make (tb := tb) rfl rfl rfl rfl rfl rfl (by omega) rfl ?_; intro _) | refine aO ?_) | (apply gJR; first | apply JR_un | apply JR_nil | refine JR_yes rfl rfl ?_ | refine JR_no rfl rfl rfl rfl ?_ | refine JR_noU rfl rfl rfl ?_) | (apply gJS; first | apply JS_seq | apply JS_region | apply JS_skip | apply JS_block | apply JS_inBlock | apply JS_label | refine JS_exit rfl ?_ | refine JS_condT rfl ?_ | refine JS_condF rfl ?_ | refine JS_draw [0] (by kernel_rfl) (by kernel_rfl) (by decide +kernel) ?_ | refine JS_draw [] (by kernel_rfl) (by kernel_rfl) (by decide +kernel) ?_ | refine JS_cond_T rfl (by omega) ?_ | refine JS_cond_F rfl (by omega) ?_) | (apply gQR; first | apply QR_un | apply QR_nil | refine QR_yes rfl rfl ?_ | refine QR_no rfl rfl rfl rfl ?_ | refine QR_noU rfl rfl rfl ?_) | (apply gQO; first | refine aQ ?_ | refine aQK rfl ?_))
  refine QO_call Try.call34 rfl rfl fun w hw => (FCodes_c pl cl 288 fxB (vec_rd (e := 5) (size := 1) (by repeat (first | apply List.Mem.head | apply List.Mem.tail))) fxB_len fxB_okb fxB_okl (Rd.nil (vec_rd (e := 5) (size := 1) (n := 288) (cs := ints .u8 fxB) (by repeat (first | apply List.Mem.head | apply List.Mem.tail))) hw) w hw).mono ?_
  rintro e w' ⟨pa, ca, rfl, hw'⟩
  rw [fxC_eq] at hw'
  refine ⟨_, rfl, _, hw', .inl fun w hw => St.sub (by repeat (first | exact List.Sublist.refl _ | apply List.Sublist.cons_cons | apply List.Sublist.cons)) hw, ?_⟩
  clear hw' hw w w'
  repeat (first | (apply gJO; first | (apply kS; refine aK ?_) | (apply kX; refine JO_box rfl rfl rfl ?_; intro _) | (apply kA; refine JO_alloc (tb := tb) rfl rfl ?_; intro _) | (apply kBs; refine JO_buildSlice (tb := tb) rfl rfl rfl rfl rfl rfl rfl rfl rfl ?_; intro _) | (apply kM; refine JO_make (tb := tb) rfl rfl rfl rfl rfl rfl (by omega) rfl ?_; intro _) | refine aO ?_) | (apply gJR; first | apply JR_un | apply JR_nil | refine JR_yes rfl rfl ?_ | refine JR_no rfl rfl rfl rfl ?_ | refine JR_noU rfl rfl rfl ?_) | (apply gJS; first | apply JS_seq | apply JS_region | apply JS_skip | apply JS_block | apply JS_inBlock | apply JS_label | refine JS_exit rfl ?_ | refine JS_condT rfl ?_ | refine JS_condF rfl ?_ | refine JS_draw [0] (by kernel_rfl) (by kernel_rfl) (by decide +kernel) ?_ | refine JS_draw [] (by kernel_rfl) (by kernel_rfl) (by decide +kernel) ?_ | refine JS_cond_T rfl (by omega) ?_ | refine JS_cond_F rfl (by omega) ?_) | (apply gQR; first | apply QR_un | apply QR_nil | refine QR_yes rfl rfl ?_ | refine QR_no rfl rfl rfl rfl ?_ | refine QR_noU rfl rfl rfl ?_) | (apply gQO; first | refine aQ ?_ | refine aQK rfl ?_))
  refine QO_call Try.call34 rfl rfl fun w hw => (FCodes_c ps cs 32 spB (vec_rd (e := 5) (size := 1) (by repeat (first | apply List.Mem.head | apply List.Mem.tail))) spB_len spB_okb spB_okl (Rd.nil (vec_rd (e := 5) (size := 1) (n := 32) (cs := ints .u8 spB) (by repeat (first | apply List.Mem.head | apply List.Mem.tail))) hw) w hw).mono ?_
  rintro e w' ⟨pb, cb, rfl, hw'⟩
  rw [spC_eq] at hw'
  refine ⟨_, rfl, _, hw', .inl fun w hw => St.sub (by repeat (first | exact List.Sublist.refl _ | apply List.Sublist.cons_cons | apply List.Sublist.cons)) hw, ?_⟩
  clear hw' hw w w'
  repeat (first | apply hIx 3 | (first | (apply gJO; first | (apply kS; refine aK ?_) | (apply kX; refine JO_box rfl rfl rfl ?_; intro _) | (apply kA; refine JO_alloc (tb := tb) rfl rfl ?_; intro _) | (apply kBs; refine JO_buildSlice (tb := tb) rfl rfl rfl rfl rfl rfl rfl rfl rfl ?_; intro _) | (apply kM; refine JO_make (tb := tb) rfl rfl rfl rfl rfl rfl (by omega) rfl ?_; intro _) | refine aO ?_) | (apply gJR; first | apply JR_un | apply JR_nil | refine JR_yes rfl rfl ?_ | refine JR_no rfl rfl rfl rfl ?_ | refine JR_noU rfl rfl rfl ?_) | (apply gJS; first | apply JS_seq | apply JS_region | apply JS_skip | apply JS_block | apply JS_inBlock | apply JS_label | refine JS_exit rfl ?_ | refine JS_condT rfl ?_ | refine JS_condF rfl ?_ | refine JS_draw [0] (by kernel_rfl) (by kernel_rfl) (by decide +kernel) ?_ | refine JS_draw [] (by kernel_rfl) (by kernel_rfl) (by decide +kernel) ?_ | refine JS_cond_T rfl (by omega) ?_ | refine JS_cond_F rfl (by omega) ?_) | (apply gQR; first | apply QR_un | apply QR_nil | refine QR_yes rfl rfl ?_ | refine QR_no rfl rfl rfl rfl ?_ | refine QR_noU rfl rfl rfl ?_) | (apply gQO; first | refine aQ ?_ | refine aQK rfl ?_)))
  refine Hold.go ?_
  refine JS_H (H' := fwL b [] none 0 pl ps pa pb cl cs ca cb H) (fun w hw => by
    have h1 := St.nilvec (e := 5) (sz := 1) (base := none) hw
    show St w0 (blk b [.slice none 0 0, .int .i64 0, .slice pl 288 cl, .slice ps 32 cs, .slice pa 288 ca, .slice pb 32 cb] :: vec 5 1 (.slice none 0 0) 0 (ints .u8 (pack [])) :: vec 5 1 (.slice pl 288 cl) 288 (ints .u8 fxB) :: vec 5 1 (.slice ps 32 cs) 32 (ints .u8 spB) ::
      vec 46 1 (.slice pa 288 ca) 288 (ints .u32 fxC) :: vec 46 1 (.slice pb 32 cb) 32 (ints .u32 spC) :: H) w
    have hp : pack [] = [] := by unfold pack; rfl
    rw [hp]
    exact h1.perm (by (repeat (first | exact List.Perm.refl _ | refine List.Perm.cons _ ?_ | refine (List.perm_middle (l₁ := [_])).trans (List.Perm.cons _ ?_) | refine (List.perm_middle (l₁ := [_, _])).trans (List.Perm.cons _ ?_) | refine (List.perm_middle (l₁ := [_, _, _])).trans (List.Perm.cons _ ?_) | refine (List.perm_middle (l₁ := [_, _, _, _])).trans (List.Perm.cons _ ?_) | refine (List.perm_middle (l₁ := [_, _, _, _, _])).trans (List.Perm.cons _ ?_) | refine (List.perm_middle (l₁ := [_, _, _, _, _, _])).trans (List.Perm.cons _ ?_) | refine (List.perm_middle (l₁ := [_, _, _, _, _, _, _])).trans (List.Perm.cons _ ?_) | refine (List.perm_middle (l₁ := [_, _, _, _, _, _, _, _])).trans (List.Perm.cons _ ?_))))) ?_
  repeat (first | (apply gJO; first | (apply kS; refine aK ?_) | (apply kX; refine JO_box rfl rfl rfl ?_; intro _) | (apply kA; refine JO_alloc (tb := tb) rfl rfl ?_; intro _) | (apply kBs; refine JO_buildSlice (tb := tb) rfl rfl rfl rfl rfl rfl rfl rfl rfl ?_; intro _) | (apply kM; refine JO_make (tb := tb) rfl rfl rfl rfl rfl rfl (by omega) rfl ?_; intro _) | refine aO ?_) | (apply gJR; first | apply JR_un | apply JR_nil | refine JR_yes rfl rfl ?_ | refine JR_no rfl rfl rfl rfl ?_ | refine JR_noU rfl rfl rfl ?_) | (apply gJS; first | apply JS_seq | apply JS_region | apply JS_skip | apply JS_block | apply JS_inBlock | apply JS_label | refine JS_exit rfl ?_ | refine JS_condT rfl ?_ | refine JS_condF rfl ?_ | refine JS_draw [0] (by kernel_rfl) (by kernel_rfl) (by decide +kernel) ?_ | refine JS_draw [] (by kernel_rfl) (by kernel_rfl) (by decide +kernel) ?_ | refine JS_cond_T rfl (by omega) ?_ | refine JS_cond_F rfl (by omega) ?_) | (apply gQR; first | apply QR_un | apply QR_nil | refine QR_yes rfl rfl ?_ | refine QR_no rfl rfl rfl rfl ?_ | refine QR_noU rfl rfl rfl ?_) | (apply gQO; first | refine aQ ?_ | refine aQK rfl ?_))
  refine JO_call Try.call35 rfl rfl fun w hw => (WGroupT_c b [] none 0 1 1 (by omega) ⟨by decide, by decide⟩ (by decide) nil_01' (by simp) w hw).mono ?_
  rintro e w' ⟨rfl, q1, d1, hw'⟩
  refine ⟨_, rfl, _, hw', ?_⟩
  clear hw' hw w w'
  repeat (first | (apply gJO; first | (apply kS; refine aK ?_) | (apply kX; refine JO_box rfl rfl rfl ?_; intro _) | (apply kA; refine JO_alloc (tb := tb) rfl rfl ?_; intro _) | (apply kBs; refine JO_buildSlice (tb := tb) rfl rfl rfl rfl rfl rfl rfl rfl rfl ?_; intro _) | (apply kM; refine JO_make (tb := tb) rfl rfl rfl rfl rfl rfl (by omega) rfl ?_; intro _) | refine aO ?_) | (apply gJR; first | apply JR_un | apply JR_nil | refine JR_yes rfl rfl ?_ | refine JR_no rfl rfl rfl rfl ?_ | refine JR_noU rfl rfl rfl ?_) | (apply gJS; first | apply JS_seq | apply JS_region | apply JS_skip | apply JS_block | apply JS_inBlock | apply JS_label | refine JS_exit rfl ?_ | refine JS_condT rfl ?_ | refine JS_condF rfl ?_ | refine JS_draw [0] (by kernel_rfl) (by kernel_rfl) (by decide +kernel) ?_ | refine JS_draw [] (by kernel_rfl) (by kernel_rfl) (by decide +kernel) ?_ | refine JS_cond_T rfl (by omega) ?_ | refine JS_cond_F rfl (by omega) ?_) | (apply gQR; first | apply QR_un | apply QR_nil | refine QR_yes rfl rfl ?_ | refine QR_no rfl rfl rfl rfl ?_ | refine QR_noU rfl rfl rfl ?_) | (apply gQO; first | refine aQ ?_ | refine aQK rfl ?_))
  have o1 := app_01 nil_01' (grp_01 1 1)
  have l1 : (([] : List Int) ++ grp 1 1).length = 1 := by rw [List.nil_append, grp_len]
  refine JO_call Try.call35 rfl rfl fun w hw => (WGroupT_c b _ q1 d1 1 2 (by omega) ⟨by decide, by decide⟩ (by decide) o1 (by rw [l1]; omega) w hw).mono ?_
  rintro e w' ⟨rfl, q2, d2, hw'⟩
  rw [show ([] : List Int) ++ grp 1 1 ++ grp 1 2 = grp 1 1 ++ grp 1 2 by rw [List.nil_append]] at hw'
  refine ⟨_, rfl, _, hw', ?_⟩
  clear hw' hw w w' o1 l1
  repeat (first | (apply gJO; first | (apply kS; refine aK ?_) | (apply kX; refine JO_box rfl rfl rfl ?_; intro _) | (apply kA; refine JO_alloc (tb := tb) rfl rfl ?_; intro _) | (apply kBs; refine JO_buildSlice (tb := tb) rfl rfl rfl rfl rfl rfl rfl rfl rfl ?_; intro _) | (apply kM; refine JO_make (tb := tb) rfl rfl rfl rfl rfl rfl (by omega) rfl ?_; intro _) | refine aO ?_) | (apply gJR; first | apply JR_un | apply JR_nil | refine JR_yes rfl rfl ?_ | refine JR_no rfl rfl rfl rfl ?_ | refine JR_noU rfl rfl rfl ?_) | (apply gJS; first | apply JS_seq | apply JS_region | apply JS_skip | apply JS_block | apply JS_inBlock | apply JS_label | refine JS_exit rfl ?_ | refine JS_condT rfl ?_ | refine JS_condF rfl ?_ | refine JS_draw [0] (by kernel_rfl) (by kernel_rfl) (by decide +kernel) ?_ | refine JS_draw [] (by kernel_rfl) (by kernel_rfl) (by decide +kernel) ?_ | refine JS_cond_T rfl (by omega) ?_ | refine JS_cond_F rfl (by omega) ?_) | (apply gQR; first | apply QR_un | apply QR_nil | refine QR_yes rfl rfl ?_ | refine QR_no rfl rfl rfl rfl ?_ | refine QR_noU rfl rfl rfl ?_) | (apply gQO; first | refine aQ ?_ | refine aQK rfl ?_))
  refine JO_call Try.call36 rfl rfl fun w hw => (Find_c p c m B (Rd_weak hr fun w hw => St.sub (by repeat (first | exact List.Sublist.refl _ | apply List.Sublist.cons_cons | apply List.Sublist.cons)) hw) hm hB h4 w hw).mono ?_
  rintro e w' ⟨qt, dt, rfl, hw'⟩
  have hT := toks_TOK hB m 0
  have hTl := toks_len (B := B) m 0
  have hfix : fixL B = grp 1 1 ++ grp 1 2 ++ (toks B m 0).flatMap tkb ++ fxS 256 := by unfold fixL; rw [hm]
  obtain ⟨l, hl⟩ : ∃ l, toks B m 0 = l := ⟨_, rfl⟩
  rw [hl] at hT hTl hfix hw' ⊢
  refine ⟨_, rfl, _, hw', ?_⟩
  clear hw' hw w w'
  repeat (first | (apply gJO; first | (apply kS; refine aK ?_) | (apply kX; refine JO_box rfl rfl rfl ?_; intro _) | (apply kA; refine JO_alloc (tb := tb) rfl rfl ?_; intro _) | (apply kBs; refine JO_buildSlice (tb := tb) rfl rfl rfl rfl rfl rfl rfl rfl rfl ?_; intro _) | (apply kM; refine JO_make (tb := tb) rfl rfl rfl rfl rfl rfl (by omega) rfl ?_; intro _) | refine aO ?_) | (apply gJR; first | apply JR_un | apply JR_nil | refine JR_yes rfl rfl ?_ | refine JR_no rfl rfl rfl rfl ?_ | refine JR_noU rfl rfl rfl ?_) | (apply gJS; first | apply JS_seq | apply JS_region | apply JS_skip | apply JS_block | apply JS_inBlock | apply JS_label | refine JS_exit rfl ?_ | refine JS_condT rfl ?_ | refine JS_condF rfl ?_ | refine JS_draw [0] (by kernel_rfl) (by kernel_rfl) (by decide +kernel) ?_ | refine JS_draw [] (by kernel_rfl) (by kernel_rfl) (by decide +kernel) ?_ | refine JS_cond_T rfl (by omega) ?_ | refine JS_cond_F rfl (by omega) ?_) | (apply gQR; first | apply QR_un | apply QR_nil | refine QR_yes rfl rfl ?_ | refine QR_no rfl rfl rfl rfl ?_ | refine QR_noU rfl rfl rfl ?_) | (apply gQO; first | refine aQ ?_ | refine aQK rfl ?_))
  have h0 : grp 1 1 ++ grp 1 2 ++ (l.take 0).flatMap tkb = grp 1 1 ++ grp 1 2 := by rw [List.take_zero, List.flatMap_nil, List.append_nil]
  refine JS_loop3 (fun (i : Nat) (q : Option Addr) (d : Nat) => [(0, .slice p m c), (3, .pointer (some ⟨b, 0, none⟩)), (35, .slice qt l.length dt), (36, .int .i64 l.length), (37, .int .i64 i)])
    (fun i q d => fwL b (grp 1 1 ++ grp 1 2 ++ (l.take i).flatMap tkb) q d pl ps pa pb cl cs ca cb (vec 60 3 (.slice qt l.length dt) l.length (tkv l) :: H)) (fun i _ _ => i ≤ l.length) (fun i _ _ => l.length - i) 0 q2 d2 (Nat.zero_le _) (by repeat (first | exact trivial | refine ⟨rfl, ?_⟩ | refine ⟨lookI rfl (by omega), ?_⟩))
    (fun w hw => by rw [h0]; exact hw.perm (by (repeat (first | exact List.Perm.refl _ | refine List.Perm.cons _ ?_ | refine (List.perm_middle (l₁ := [_])).trans (List.Perm.cons _ ?_) | refine (List.perm_middle (l₁ := [_, _])).trans (List.Perm.cons _ ?_) | refine (List.perm_middle (l₁ := [_, _, _])).trans (List.Perm.cons _ ?_) | refine (List.perm_middle (l₁ := [_, _, _, _])).trans (List.Perm.cons _ ?_) | refine (List.perm_middle (l₁ := [_, _, _, _, _])).trans (List.Perm.cons _ ?_) | refine (List.perm_middle (l₁ := [_, _, _, _, _, _])).trans (List.Perm.cons _ ?_) | refine (List.perm_middle (l₁ := [_, _, _, _, _, _, _])).trans (List.Perm.cons _ ?_) | refine (List.perm_middle (l₁ := [_, _, _, _, _, _, _, _])).trans (List.Perm.cons _ ?_))))) ?_
  intro i q d hi again
  have o3 := app_01 (app_01 (grp_01 1 1) (grp_01 1 2)) (tkbs_01 (l.take i))
  have hl3 : (grp 1 1 ++ grp 1 2 ++ (l.take i).flatMap tkb).length ≤ 32 * l.length + 3 := by
    have := tkbs_len (l := l.take i) fun t ht => hT t (List.mem_of_mem_take ht)
    rw [List.length_take] at this
    simp only [List.length_append, grp_len]
    omega
  by_cases hil : i < l.length
  · have hat := tkv_at hil
    have htk := tkbs_take hil
    have hTi := hT _ (List.getElem_mem hil)
    obtain ⟨t, ht⟩ : ∃ t, l[i] = t := ⟨_, rfl⟩
    rw [ht] at hat htk hTi
    repeat (first | (apply gJO; refine JO_v (oL (V_loadCA (tb := tb) rfl (vec_rd (by repeat (first | apply List.Mem.head | apply List.Mem.tail))) rfl rfl rfl (by decide) hat rfl)) ?_) | (first | (apply gJO; first | (apply kS; refine aK ?_) | (apply kX; refine JO_box rfl rfl rfl ?_; intro _) | (apply kA; refine JO_alloc (tb := tb) rfl rfl ?_; intro _) | (apply kBs; refine JO_buildSlice (tb := tb) rfl rfl rfl rfl rfl rfl rfl rfl rfl ?_; intro _) | (apply kM; refine JO_make (tb := tb) rfl rfl rfl rfl rfl rfl (by omega) rfl ?_; intro _) | refine aO ?_) | (apply gJR; first | apply JR_un | apply JR_nil | refine JR_yes rfl rfl ?_ | refine JR_no rfl rfl rfl rfl ?_ | refine JR_noU rfl rfl rfl ?_) | (apply gJS; first | apply JS_seq | apply JS_region | apply JS_skip | apply JS_block | apply JS_inBlock | apply JS_label | refine JS_exit rfl ?_ | refine JS_condT rfl ?_ | refine JS_condF rfl ?_ | refine JS_draw [0] (by kernel_rfl) (by kernel_rfl) (by decide +kernel) ?_ | refine JS_draw [] (by kernel_rfl) (by kernel_rfl) (by decide +kernel) ?_ | refine JS_cond_T rfl (by omega) ?_ | refine JS_cond_F rfl (by omega) ?_) | (apply gQR; first | apply QR_un | apply QR_nil | refine QR_yes rfl rfl ?_ | refine QR_no rfl rfl rfl rfl ?_ | refine QR_noU rfl rfl rfl ?_) | (apply gQO; first | refine aQ ?_ | refine aQK rfl ?_)))
    rename_i bt
    have e8 : (.agg [.int .u8 t.1, .int .i64 t.2.1, .int .i64 t.2.2].toArray : Value) = .agg #[.int .u8 t.1, .int .i64 t.2.1, .int .i64 t.2.2] := rfl
    have hlx : (grp 1 1 ++ grp 1 2 ++ (l.take i).flatMap tkb).length ≤ 70368744177000 := by omega
    refine JO_call Try.call37 rfl rfl fun w hw => (Tok_c (H := blk bt [.int .u8 t.1, .int .i64 t.2.1, .int .i64 t.2.2] :: vec 60 3 (.slice qt l.length dt) l.length (tkv l) :: H) (L := grp 1 1 ++ grp 1 2 ++ (l.take i).flatMap tkb) (q := q) (d := d) t hTi o3 hlx w (hw.perm (by (repeat (first | exact List.Perm.refl _ | refine List.Perm.cons _ ?_ | refine (List.perm_middle (l₁ := [_])).trans (List.Perm.cons _ ?_) | refine (List.perm_middle (l₁ := [_, _])).trans (List.Perm.cons _ ?_) | refine (List.perm_middle (l₁ := [_, _, _])).trans (List.Perm.cons _ ?_) | refine (List.perm_middle (l₁ := [_, _, _, _])).trans (List.Perm.cons _ ?_) | refine (List.perm_middle (l₁ := [_, _, _, _, _])).trans (List.Perm.cons _ ?_) | refine (List.perm_middle (l₁ := [_, _, _, _, _, _])).trans (List.Perm.cons _ ?_) | refine (List.perm_middle (l₁ := [_, _, _, _, _, _, _])).trans (List.Perm.cons _ ?_) | refine (List.perm_middle (l₁ := [_, _, _, _, _, _, _, _])).trans (List.Perm.cons _ ?_)))))).mono ?_
    rintro e w' ⟨rfl, q3, d3, hw'⟩
    refine ⟨_, rfl, _, hw', ?_⟩
    clear hw' hw w w'
    repeat (first | (apply gJO; first | (apply kS; refine aK ?_) | (apply kX; refine JO_box rfl rfl rfl ?_; intro _) | (apply kA; refine JO_alloc (tb := tb) rfl rfl ?_; intro _) | (apply kBs; refine JO_buildSlice (tb := tb) rfl rfl rfl rfl rfl rfl rfl rfl rfl ?_; intro _) | (apply kM; refine JO_make (tb := tb) rfl rfl rfl rfl rfl rfl (by omega) rfl ?_; intro _) | refine aO ?_) | (apply gJR; first | apply JR_un | apply JR_nil | refine JR_yes rfl rfl ?_ | refine JR_no rfl rfl rfl rfl ?_ | refine JR_noU rfl rfl rfl ?_) | (apply gJS; first | apply JS_seq | apply JS_region | apply JS_skip | apply JS_block | apply JS_inBlock | apply JS_label | refine JS_exit rfl ?_ | refine JS_condT rfl ?_ | refine JS_condF rfl ?_ | refine JS_draw [0] (by kernel_rfl) (by kernel_rfl) (by decide +kernel) ?_ | refine JS_draw [] (by kernel_rfl) (by kernel_rfl) (by decide +kernel) ?_ | refine JS_cond_T rfl (by omega) ?_ | refine JS_cond_F rfl (by omega) ?_) | (apply gQR; first | apply QR_un | apply QR_nil | refine QR_yes rfl rfl ?_ | refine QR_no rfl rfl rfl rfl ?_ | refine QR_noU rfl rfl rfl ?_) | (apply gQO; first | refine aQ ?_ | refine aQK rfl ?_))
    refine JS_again3 again (i + 1) q3 d3 (by omega) (by omega) (by repeat (first | exact trivial | refine ⟨rfl, ?_⟩ | refine ⟨lookI rfl (by omega), ?_⟩)) (fun w hw => ?_)
    rw [htk, ← List.append_assoc]
    exact St.sub (by repeat (first | exact List.Sublist.refl _ | apply List.Sublist.cons_cons | apply List.Sublist.cons)) hw
  · obtain rfl : i = l.length := by omega
    clear again
    rw [List.take_length] at o3 hl3 ⊢
    have hl9 := fxS_len 256 (by omega)
    have hlx : (grp 1 1 ++ grp 1 2 ++ l.flatMap tkb).length ≤ 70368744177600 := by omega
    repeat (first | (apply gJO; first | (apply kS; refine aK ?_) | (apply kX; refine JO_box rfl rfl rfl ?_; intro _) | (apply kA; refine JO_alloc (tb := tb) rfl rfl ?_; intro _) | (apply kBs; refine JO_buildSlice (tb := tb) rfl rfl rfl rfl rfl rfl rfl rfl rfl ?_; intro _) | (apply kM; refine JO_make (tb := tb) rfl rfl rfl rfl rfl rfl (by omega) rfl ?_; intro _) | refine aO ?_) | (apply gJR; first | apply JR_un | apply JR_nil | refine JR_yes rfl rfl ?_ | refine JR_no rfl rfl rfl rfl ?_ | refine JR_noU rfl rfl rfl ?_) | (apply gJS; first | apply JS_seq | apply JS_region | apply JS_skip | apply JS_block | apply JS_inBlock | apply JS_label | refine JS_exit rfl ?_ | refine JS_condT rfl ?_ | refine JS_condF rfl ?_ | refine JS_draw [0] (by kernel_rfl) (by kernel_rfl) (by decide +kernel) ?_ | refine JS_draw [] (by kernel_rfl) (by kernel_rfl) (by decide +kernel) ?_ | refine JS_cond_T rfl (by omega) ?_ | refine JS_cond_F rfl (by omega) ?_) | (apply gQR; first | apply QR_un | apply QR_nil | refine QR_yes rfl rfl ?_ | refine QR_no rfl rfl rfl rfl ?_ | refine QR_noU rfl rfl rfl ?_) | (apply gQO; first | refine aQ ?_ | refine aQK rfl ?_))
    refine JO_call Try.call38 rfl rfl fun w hw => (FLit_c (H := vec 60 3 (.slice qt l.length dt) l.length (tkv l) :: H) (L := grp 1 1 ++ grp 1 2 ++ l.flatMap tkb) (q := q) (d := d) 256 (by omega) o3 hlx w hw).mono ?_
    rintro e w' ⟨rfl, q3, d3, hw'⟩
    rw [← hfix] at hw'
    refine ⟨_, rfl, _, hw', ?_⟩
    clear hw' hw w w'
    repeat (first | (apply gJO; first | (apply kS; refine aK ?_) | (apply kX; refine JO_box rfl rfl rfl ?_; intro _) | (apply kA; refine JO_alloc (tb := tb) rfl rfl ?_; intro _) | (apply kBs; refine JO_buildSlice (tb := tb) rfl rfl rfl rfl rfl rfl rfl rfl rfl ?_; intro _) | (apply kM; refine JO_make (tb := tb) rfl rfl rfl rfl rfl rfl (by omega) rfl ?_; intro _) | refine aO ?_) | (apply gJR; first | apply JR_un | apply JR_nil | refine JR_yes rfl rfl ?_ | refine JR_no rfl rfl rfl rfl ?_ | refine JR_noU rfl rfl rfl ?_) | (apply gJS; first | apply JS_seq | apply JS_region | apply JS_skip | apply JS_block | apply JS_inBlock | apply JS_label | refine JS_exit rfl ?_ | refine JS_condT rfl ?_ | refine JS_condF rfl ?_ | refine JS_draw [0] (by kernel_rfl) (by kernel_rfl) (by decide +kernel) ?_ | refine JS_draw [] (by kernel_rfl) (by kernel_rfl) (by decide +kernel) ?_ | refine JS_cond_T rfl (by omega) ?_ | refine JS_cond_F rfl (by omega) ?_) | (apply gQR; first | apply QR_un | apply QR_nil | refine QR_yes rfl rfl ?_ | refine QR_no rfl rfl rfl rfl ?_ | refine QR_noU rfl rfl rfl ?_) | (apply gQO; first | refine aQ ?_ | refine aQK rfl ?_))
    have o4 := fixL_01 B
    have hl4 : (fixL B).length ≤ 70368744177664 := by rw [hfix, List.length_append]; omega
    refine JO_call Try.call39 rfl rfl fun w hw => (WBytesT_c b (pack (fixL B)).length (fixL B) q3 d3 o4 hl4 (pack_len _).symm w hw).mono ?_
    rintro e w' ⟨q4, d4, rfl, hw'⟩
    refine ⟨_, rfl, _, hw', ?_⟩
    clear hw' hw w w'
    repeat (first | (apply gJO; first | (apply kS; refine aK ?_) | (apply kX; refine JO_box rfl rfl rfl ?_; intro _) | (apply kA; refine JO_alloc (tb := tb) rfl rfl ?_; intro _) | (apply kBs; refine JO_buildSlice (tb := tb) rfl rfl rfl rfl rfl rfl rfl rfl rfl ?_; intro _) | (apply kM; refine JO_make (tb := tb) rfl rfl rfl rfl rfl rfl (by omega) rfl ?_; intro _) | refine aO ?_) | (apply gJR; first | apply JR_un | apply JR_nil | refine JR_yes rfl rfl ?_ | refine JR_no rfl rfl rfl rfl ?_ | refine JR_noU rfl rfl rfl ?_) | (apply gJS; first | apply JS_seq | apply JS_region | apply JS_skip | apply JS_block | apply JS_inBlock | apply JS_label | refine JS_exit rfl ?_ | refine JS_condT rfl ?_ | refine JS_condF rfl ?_ | refine JS_draw [0] (by kernel_rfl) (by kernel_rfl) (by decide +kernel) ?_ | refine JS_draw [] (by kernel_rfl) (by kernel_rfl) (by decide +kernel) ?_ | refine JS_cond_T rfl (by omega) ?_ | refine JS_cond_F rfl (by omega) ?_) | (apply gQR; first | apply QR_un | apply QR_nil | refine QR_yes rfl rfl ?_ | refine QR_no rfl rfl rfl rfl ?_ | refine QR_noU rfl rfl rfl ?_) | (apply gQO; first | refine aQ ?_ | refine aQK rfl ?_))
    refine JS_ret Try.func15 rfl rfl fun w hw => ⟨q4, d4, rfl, St.sub (by repeat (first | exact List.Sublist.refl _ | apply List.Sublist.cons_cons | apply List.Sublist.cons)) hw⟩
end
end Go.Proofs.Ytakgoflfcgofdaa

namespace Go.Proofs.Ytakgoflfcgofdaa
open Sx Go
set_option linter.unusedVariables false
set_option linter.unusedSimpArgs false
/-! the writer's Align -/
def padL (L : List Int) : List Int := L ++ List.replicate (8 * ((L.length + 7) / 8) - L.length) 0
theorem padL_len (L : List Int) : (padL L).length = 8 * ((L.length + 7) / 8) := by
  unfold padL; rw [List.length_append, List.length_replicate]; omega
theorem padL_get (L : List Int) (i : Nat) : (padL L).getD i 0 = L.getD i 0 := by
  unfold padL
  rw [List.getD_eq_getElem?_getD, List.getD_eq_getElem?_getD]
  rcases Nat.lt_or_ge i L.length with h | h
  · rw [List.getElem?_append_left h]
  · rw [List.getElem?_append_right h, List.getElem?_replicate, List.getElem?_eq_none (l := L) (by omega)]
    split <;> rfl
theorem padL_01 {L : List Int} (hL : ∀ j, L.getD j 0 = 0 ∨ L.getD j 0 = 1) (j : Nat) : (padL L).getD j 0 = 0 ∨ (padL L).getD j 0 = 1 := by
  rw [padL_get]; exact hL j
theorem padL_pack (L : List Int) : pack (padL L) = pack L := by
  unfold pack
  rw [padL_len, show (8 * ((L.length + 7) / 8) + 7) / 8 = (L.length + 7) / 8 by omega]
  apply tab_congr
  intro j hj
  unfold byteAt
  exact num_congr 8 fun t _ => padL_get L _
set_option maxRecDepth 10000 in
theorem WAlign_c {w0 : World} {H : List Asn} (b : Nat) (L : List Int) (q : Option Addr) (d : Nat) (hl : L.length ≤ 70368744177664) (w : World) (hw : St w0 (wrA b L q d :: wrV L q d :: H) w) :
    Calls Try.prog 46 #[.pointer (some ⟨b, 0, none⟩)] w fun e w' => e = .returned (.tuple #[]) ∧ St w0 (wrA b (padL L) q d :: wrV (padL L) q d :: H) w' := by
  have hlen := padL_len L
  have e1 : ((padL L).length + 7) / 8 = (L.length + 7) / 8 := by rw [hlen]; omega
  unfold wrA wrV at hw ⊢
  rw [e1, padL_pack, hlen]
  refine enter (vs := [.pointer (some ⟨b, 0, none⟩)]) Try.func46 rfl rfl rfl hw ?_
  have hcast : (8 : Int) * (((L.length + 7) / 8 : Nat) : Int) = ((8 * ((L.length + 7) / 8) : Nat) : Int) := by omega
  obtain ⟨k, hk⟩ : ∃ k, (L.length + 7) / 8 = k := ⟨_, rfl⟩
  rw [hk] at hcast ⊢
  have hmul : IntKind.i64.wrap ((8 : Int) * (k : Int)) = ((8 * k : Nat) : Int) := (wi64 (by omega)).trans hcast
  clear hw
  repeat (first | (apply gJO; refine JO_v (V_mul rfl rfl hmul rfl) ?_) | first | (apply gJO; first | (apply kS; refine aK ?_) | (apply kX; refine JO_box rfl rfl rfl ?_; intro _) | (apply kA; refine JO_alloc (tb := tb) rfl rfl ?_; intro _) | (apply kBs; refine JO_buildSlice (tb := tb) rfl rfl rfl rfl rfl rfl rfl rfl rfl ?_; intro _) | (apply kM; refine JO_make (tb := tb) rfl rfl rfl rfl rfl rfl (by omega) rfl ?_; intro _) | refine aO ?_) | (apply gJR; first | apply JR_un | apply JR_nil | refine JR_yes rfl rfl ?_ | refine JR_no rfl rfl rfl rfl ?_ | refine JR_noU rfl rfl rfl ?_) | (apply gJS; first | apply JS_seq | apply JS_region | apply JS_skip | apply JS_block | apply JS_inBlock | apply JS_label | refine JS_exit rfl ?_ | refine JS_condT rfl ?_ | refine JS_condF rfl ?_ | refine JS_draw [0] (by kernel_rfl) (by kernel_rfl) (by decide +kernel) ?_ | refine JS_draw [] (by kernel_rfl) (by kernel_rfl) (by decide +kernel) ?_ | refine JS_cond_T rfl (by omega) ?_ | refine JS_cond_F rfl (by omega) ?_) | (apply gQR; first | apply QR_un | apply QR_nil | refine QR_yes rfl rfl ?_ | refine QR_no rfl rfl rfl rfl ?_ | refine QR_noU rfl rfl rfl ?_) | (apply gQO; first | refine aQ ?_ | refine aQK rfl ?_))
  refine JS_fin Try.func46 rfl rfl (vs := []) ?_
  intro w hw
  exact ⟨rfl, hw⟩
set_option maxRecDepth 10000 in
theorem WAlignR_c {w0 : World} {H : List Asn} (b k : Nat) (q : Option Addr) (d : Nat) (x : Int) (hk : k ≤ 70368744177664) (w : World) (hw : St w0 (blk b [.slice q k d, .int .i64 x] :: H) w) :
    Calls Try.prog 46 #[.pointer (some ⟨b, 0, none⟩)] w fun e w' => e = .returned (.tuple #[]) ∧ St w0 (blk b [.slice q k d, .int .i64 ((8 * k : Nat) : Int)] :: H) w' := by
  refine enter (vs := [.pointer (some ⟨b, 0, none⟩)]) Try.func46 rfl rfl rfl hw ?_
  have hmul : IntKind.i64.wrap ((8 : Int) * (k : Int)) = ((8 * k : Nat) : Int) := (wi64 (by omega)).trans (by omega)
  clear hw
  repeat (first | (apply gJO; refine JO_v (V_mul rfl rfl hmul rfl) ?_) | first | (apply gJO; first | (apply kS; refine aK ?_) | (apply kX; refine JO_box rfl rfl rfl ?_; intro _) | (apply kA; refine JO_alloc (tb := tb) rfl rfl ?_; intro _) | (apply kBs; refine JO_buildSlice (tb := tb) rfl rfl rfl rfl rfl rfl rfl rfl rfl ?_; intro _) | (apply kM; refine JO_make (tb := tb) rfl rfl rfl rfl rfl rfl (by omega) rfl ?_; intro _) | refine aO ?_) | (apply gJR; first | apply JR_un | apply JR_nil | refine JR_yes rfl rfl ?_ | refine JR_no rfl rfl rfl rfl ?_ | refine JR_noU rfl rfl rfl ?_) | (apply gJS; first | apply JS_seq | apply JS_region | apply JS_skip | apply JS_block | apply JS_inBlock | apply JS_label | refine JS_exit rfl ?_ | refine JS_condT rfl ?_ | refine JS_condF rfl ?_ | refine JS_draw [0] (by kernel_rfl) (by kernel_rfl) (by decide +kernel) ?_ | refine JS_draw [] (by kernel_rfl) (by kernel_rfl) (by decide +kernel) ?_ | refine JS_cond_T rfl (by omega) ?_ | refine JS_cond_F rfl (by omega) ?_) | (apply gQR; first | apply QR_un | apply QR_nil | refine QR_yes rfl rfl ?_ | refine QR_no rfl rfl rfl rfl ?_ | refine QR_noU rfl rfl rfl ?_) | (apply gQO; first | refine aQ ?_ | refine aQK rfl ?_))
  refine JS_fin Try.func46 rfl rfl (vs := []) ?_
  intro w hw
  exact ⟨rfl, hw⟩
set_option maxRecDepth 10000 in
theorem WText_c {w0 : World} {H : List Asn} (b : Nat) (L : List Int) (q : Option Addr) (d : Nat) (p : Option Addr) (c m : Nat) (X : List Int) (hr : Rd w0 H (.slice p m c) m (ints .u8 X)) (hm : X.length = m) (hl : L.length ≤ 8388608) (hmx : m ≤ 8388608) (w : World) (hw : St w0 (wrA b L q d :: wrV L q d :: H) w) :
    Calls Try.prog 47 #[.pointer (some ⟨b, 0, none⟩), .slice p m c] w fun e w' => e = .returned (.tuple #[]) ∧ ∃ q d, St w0 (blk b [.slice q ((L.length + 7) / 8 + m) d, .int .i64 ((8 * ((L.length + 7) / 8 + m) : Nat) : Int)] ::
      vec 5 1 (.slice q ((L.length + 7) / 8 + m) d) ((L.length + 7) / 8 + m) (ints .u8 (pack L ++ X)) :: H) w' := by
  have hpl := pack_len L
  unfold wrA wrV at hw
  obtain ⟨k, hk⟩ : ∃ k, (L.length + 7) / 8 = k := ⟨_, rfl⟩
  rw [hk] at hw hpl ⊢
  refine enter (vs := [.pointer (some ⟨b, 0, none⟩), .slice p m c]) Try.func47 rfl rfl rfl hw ?_
  clear hw
  repeat (first | (apply gJO; first | (apply kS; refine aK ?_) | (apply kX; refine JO_box rfl rfl rfl ?_; intro _) | (apply kA; refine JO_alloc (tb := tb) rfl rfl ?_; intro _) | (apply kBs; refine JO_buildSlice (tb := tb) rfl rfl rfl rfl rfl rfl rfl rfl rfl ?_; intro _) | (apply kM; refine JO_make (tb := tb) rfl rfl rfl rfl rfl rfl (by omega) rfl ?_; intro _) | refine aO ?_) | (apply gJR; first | apply JR_un | apply JR_nil | refine JR_yes rfl rfl ?_ | refine JR_no rfl rfl rfl rfl ?_ | refine JR_noU rfl rfl rfl ?_) | (apply gJS; first | apply JS_seq | apply JS_region | apply JS_skip | apply JS_block | apply JS_inBlock | apply JS_label | refine JS_exit rfl ?_ | refine JS_condT rfl ?_ | refine JS_condF rfl ?_ | refine JS_draw [0] (by kernel_rfl) (by kernel_rfl) (by decide +kernel) ?_ | refine JS_draw [] (by kernel_rfl) (by kernel_rfl) (by decide +kernel) ?_ | refine JS_cond_T rfl (by omega) ?_ | refine JS_cond_F rfl (by omega) ?_) | (apply gQR; first | apply QR_un | apply QR_nil | refine QR_yes rfl rfl ?_ | refine QR_no rfl rfl rfl rfl ?_ | refine QR_noU rfl rfl rfl ?_) | (apply gQO; first | refine aQ ?_ | refine aQK rfl ?_))
  (refine JO_app (tb := tb) rfl rfl rfl rfl rfl rfl (by repeat (first | exact Sel.here _ _ | apply Sel.there)) (by first | exact vec_rd (by repeat (first | apply List.Mem.head | apply List.Mem.tail)) | assumption | exact ArgRd.rd (by assumption) _ | (apply Rd_weak; assumption; intro _ hx; exact St.sub (by repeat (first | exact List.Sublist.refl _ | apply List.Sublist.cons_cons | apply List.Sublist.cons)) hx)) (by simp only [ints_len, List.length_cons, List.length_nil]; first | omega | rfl) (by first | exact ints_one | (repeat (first | exact trivial | refine ⟨rfl, ?_⟩))) (by omega) rfl ?_; intro _ _)
  rename_i q2 d2
  rw [ints_app]
  repeat (first | (apply gJO; first | (apply kS; refine aK ?_) | (apply kX; refine JO_box rfl rfl rfl ?_; intro _) | (apply kA; refine JO_alloc (tb := tb) rfl rfl ?_; intro _) | (apply kBs; refine JO_buildSlice (tb := tb) rfl rfl rfl rfl rfl rfl rfl rfl rfl ?_; intro _) | (apply kM; refine JO_make (tb := tb) rfl rfl rfl rfl rfl rfl (by omega) rfl ?_; intro _) | refine aO ?_) | (apply gJR; first | apply JR_un | apply JR_nil | refine JR_yes rfl rfl ?_ | refine JR_no rfl rfl rfl rfl ?_ | refine JR_noU rfl rfl rfl ?_) | (apply gJS; first | apply JS_seq | apply JS_region | apply JS_skip | apply JS_block | apply JS_inBlock | apply JS_label | refine JS_exit rfl ?_ | refine JS_condT rfl ?_ | refine JS_condF rfl ?_ | refine JS_draw [0] (by kernel_rfl) (by kernel_rfl) (by decide +kernel) ?_ | refine JS_draw [] (by kernel_rfl) (by kernel_rfl) (by decide +kernel) ?_ | refine JS_cond_T rfl (by omega) ?_ | refine JS_cond_F rfl (by omega) ?_) | (apply gQR; first | apply QR_un | apply QR_nil | refine QR_yes rfl rfl ?_ | refine QR_no rfl rfl rfl rfl ?_ | refine QR_noU rfl rfl rfl ?_) | (apply gQO; first | refine aQ ?_ | refine aQK rfl ?_))
  refine JO_call Try.call46 rfl rfl fun w hw => (WAlignR_c b (k + m) q2 d2 _ (by omega) w hw).mono ?_
  rintro e w' ⟨rfl, hw'⟩
  refine ⟨_, rfl, _, hw', ?_⟩
  clear hw' hw w w'
  repeat (first | (apply gJO; first | (apply kS; refine aK ?_) | (apply kX; refine JO_box rfl rfl rfl ?_; intro _) | (apply kA; refine JO_alloc (tb := tb) rfl rfl ?_; intro _) | (apply kBs; refine JO_buildSlice (tb := tb) rfl rfl rfl rfl rfl rfl rfl rfl rfl ?_; intro _) | (apply kM; refine JO_make (tb := tb) rfl rfl rfl rfl rfl rfl (by omega) rfl ?_; intro _) | refine aO ?_) | (apply gJR; first | apply JR_un | apply JR_nil | refine JR_yes rfl rfl ?_ | refine JR_no rfl rfl rfl rfl ?_ | refine JR_noU rfl rfl rfl ?_) | (apply gJS; first | apply JS_seq | apply JS_region | apply JS_skip | apply JS_block | apply JS_inBlock | apply JS_label | refine JS_exit rfl ?_ | refine JS_condT rfl ?_ | refine JS_condF rfl ?_ | refine JS_draw [0] (by kernel_rfl) (by kernel_rfl) (by decide +kernel) ?_ | refine JS_draw [] (by kernel_rfl) (by kernel_rfl) (by decide +kernel) ?_ | refine JS_cond_T rfl (by omega) ?_ | refine JS_cond_F rfl (by omega) ?_) | (apply gQR; first | apply QR_un | apply QR_nil | refine QR_yes rfl rfl ?_ | refine QR_no rfl rfl rfl rfl ?_ | refine QR_noU rfl rfl rfl ?_) | (apply gQO; first | refine aQ ?_ | refine aQK rfl ?_))
  refine JS_fin Try.func47 rfl rfl (vs := []) ?_
  intro w hw
  exact ⟨rfl, q2, d2, hw⟩
end Go.Proofs.Ytakgoflfcgofdaa
