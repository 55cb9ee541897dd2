import Derived.Test.YtjgjppgocheklaaX25
import Derived.Test.YtjgjppgocheklaaX23
import Derived.Test.YtjgjppgocheklaaX20
namespace Go.Proofs.Ytjgjppgocheklaa
open Sx Go
set_option linter.unusedVariables false
set_option linter.unusedSimpArgs false
/-! bits in bytes -/
def bnum (f : Nat → Int) : Nat → Int
  | 0 => 0
  | k + 1 => bnum f k + f k * 2 ^ k
theorem num_add (f g : Nat → Int) : ∀ k, bnum (fun t => f t + g t) k = bnum f k + bnum g k
  | 0 => rfl
  | k + 1 => by simp only [bnum, num_add f g k, Int.add_mul]; omega
theorem num_congr {f g : Nat → Int} : ∀ k, (∀ t, t < k → f t = g t) → bnum f k = bnum g k
  | 0, _ => rfl
  | k + 1, h => by simp only [bnum]; rw [num_congr k (fun t ht => h t (by omega)), h k (by omega)]
theorem num_zero : ∀ k, bnum (fun _ => 0) k = 0
  | 0 => rfl
  | k + 1 => by simp only [bnum, num_zero k]; omega
theorem num_one (x : Int) (i : Nat) : ∀ k, bnum (fun t => if t = i then x else 0) k = if i < k then x * 2 ^ i else 0
  | 0 => by simp [bnum]
  | k + 1 => by
    simp only [bnum, num_one x i k]
    by_cases h : k = i
    · subst h; rw [if_neg (by omega), if_pos rfl, if_pos (by omega)]; omega
    · rw [if_neg h]
      by_cases h2 : i < k
      · rw [if_pos h2, if_pos (by omega)]; omega
      · rw [if_neg h2, if_neg (by omega)]; omega
theorem num_bd (f : Nat → Int) (hf : ∀ t, f t = 0 ∨ f t = 1) : ∀ k, 0 ≤ bnum f k ∧ bnum f k < 2 ^ k
  | 0 => ⟨Int.le_refl _, by show (0 : Int) < 1; decide⟩
  | k + 1 => by
    have h := num_bd f hf k
    simp only [bnum, Int.pow_succ]
    rcases hf k with h1 | h1 <;> rw [h1] <;> omega
/-- the byte at a place, of bits -/
def byteAt (L : List Int) (j : Nat) : Int := bnum (fun t => L.getD (8 * j + t) 0) 8
def pack (L : List Int) : List Int := tab ((L.length + 7) / 8) (byteAt L)
theorem pack_len (L : List Int) : (pack L).length = (L.length + 7) / 8 := tab_len _ _
theorem getD_app1 (L : List Int) (x : Int) (i : Nat) : (L ++ [x]).getD i 0 = L.getD i 0 + if i = L.length then x else 0 := by
  rw [List.getD_eq_getElem?_getD, List.getD_eq_getElem?_getD]
  rcases Nat.lt_trichotomy i L.length with h | h | h
  · rw [List.getElem?_append_left h, if_neg (by omega)]; omega
  · subst h; simp
  · rw [List.getElem?_append_right (by omega), if_neg (by omega), List.getElem?_eq_none (by simp; omega), List.getElem?_eq_none (by omega)]; rfl
theorem byteAt_app (L : List Int) (x : Int) (j : Nat) : byteAt (L ++ [x]) j = byteAt L j + if j = L.length / 8 then x * 2 ^ (L.length % 8) else 0 := by
  unfold byteAt
  rw [num_congr (g := fun t => L.getD (8 * j + t) 0 + if 8 * j + t = L.length then x else 0) 8 (fun t _ => getD_app1 L x _), num_add]
  congr 1
  by_cases h : j = L.length / 8
  · rw [if_pos h, num_congr (g := fun t => if t = L.length % 8 then x else 0) 8 (fun t ht => by
      by_cases h2 : t = L.length % 8
      · rw [if_pos h2, if_pos (by omega)]
      · rw [if_neg h2, if_neg (by omega)]), num_one, if_pos (by omega)]
  · rw [if_neg h, num_congr (g := fun _ => 0) 8 (fun t ht => if_neg (by omega)), num_zero]
theorem byteAt_bd (L : List Int) (hL : ∀ j, L.getD j 0 = 0 ∨ L.getD j 0 = 1) (j : Nat) : 0 ≤ byteAt L j ∧ byteAt L j < 256 := num_bd _ (fun t => hL _) 8
theorem byteAt_last (L : List Int) (hL : ∀ j, L.getD j 0 = 0 ∨ L.getD j 0 = 1) : byteAt L (L.length / 8) < 2 ^ (L.length % 8) := by
  have h : ∀ d, bnum (fun t => L.getD (8 * (L.length / 8) + t) 0) (L.length % 8 + d) = bnum (fun t => L.getD (8 * (L.length / 8) + t) 0) (L.length % 8) := by
    intro d
    induction d with
    | zero => rfl
    | succ d ih =>
      rw [← Nat.add_assoc]
      simp only [bnum]
      rw [ih, List.getD_eq_getElem?_getD, List.getElem?_eq_none (by omega)]; simp
  have h2 := h (8 - L.length % 8)
  rw [show L.length % 8 + (8 - L.length % 8) = 8 by omega] at h2
  unfold byteAt
  rw [h2]
  exact (num_bd _ (fun t => hL _) _).2
theorem pack_grow (L : List Int) (h : L.length % 8 = 0) : pack L ++ [0] = tab ((L.length + 8) / 8) (byteAt L) := by
  unfold pack
  rw [show (L.length + 8) / 8 = (L.length + 7) / 8 + 1 by omega, tab_succ]
  congr 2
  unfold byteAt
  rw [num_congr (g := fun _ => 0) 8 (fun t _ => by rw [List.getD_eq_getElem?_getD, List.getElem?_eq_none (by omega)]; rfl), num_zero]
theorem pack_same (L : List Int) (h : ¬ L.length % 8 = 0) : pack L = tab ((L.length + 8) / 8) (byteAt L) := by
  unfold pack
  rw [show (L.length + 8) / 8 = (L.length + 7) / 8 by omega]
theorem pack_put (L : List Int) (x : Int) : (tab ((L.length + 8) / 8) (byteAt L)).set (L.length / 8) (byteAt L (L.length / 8) + x * 2 ^ (L.length % 8)) = pack (L ++ [x]) := by
  rw [tab_set]
  unfold pack
  rw [show (L ++ [x]).length + 7 = L.length + 8 by simp]
  apply tab_congr
  intro j hj
  rw [byteAt_app]
  by_cases h : j = L.length / 8
  · rw [if_pos h, if_pos h, h]
  · rw [if_neg h, if_neg h]; omega
theorem mask1_u32 {a : Int} (ha : 0 ≤ a ∧ a < 4294967296) : IntKind.u32.wrap ((BitVec.ofInt IntKind.u32.bits a &&& BitVec.ofInt IntKind.u32.bits 1).toNat) = a % 2 := by
  rw [and_nat .u32 ⟨ha.1, ha.2⟩ ⟨by omega, by decide⟩, show (1 : Int).toNat = 1 from rfl, Nat.and_one_is_mod]
  exact (wu32 (by omega)).trans (by omega)
theorem or_add_u8 {a y : Int} {s : Nat} (hs : s < 8) (ha : 0 ≤ a ∧ a < 2 ^ s) (hy : y = 0 ∨ y = 1) : IntKind.u8.wrap ((BitVec.ofInt IntKind.u8.bits a ||| BitVec.ofInt IntKind.u8.bits (y * 2 ^ s)).toNat) = a + y * 2 ^ s := by
  have hp : (2 : Int) ^ s ≤ 128 := by
    have : ∀ k : Fin 8, (2 : Int) ^ k.val ≤ 128 := by decide
    exact this ⟨s, hs⟩
  have hyb : 0 ≤ y * 2 ^ s ∧ y * 2 ^ s ≤ 128 := by rcases hy with rfl | rfl <;> omega
  rw [or_nat .u8 ⟨ha.1, by show a < 256; omega⟩ ⟨hyb.1, by show y * 2 ^ s < 256; omega⟩]
  obtain ⟨m, rfl⟩ := Int.eq_ofNat_of_zero_le ha.1
  have hpn : ((2 ^ s : Nat) : Int) = 2 ^ s := by simp
  rcases hy with rfl | rfl
  · simp only [Int.zero_mul, Int.toNat_natCast, Int.toNat_zero, Nat.or_zero, Int.add_zero]
    exact wu8 (by omega)
  · have h := Nat.two_pow_add_eq_or_of_lt (i := s) (b := m) (by have := ha.2; rw [← hpn] at this; omega) 1
    rw [Nat.mul_one] at h
    rw [Int.one_mul, Int.toNat_natCast, show ((2 : Int) ^ s).toNat = 2 ^ s by rw [← hpn]; rfl, Nat.or_comm, ← h]
    refine (wu8 (by omega)).trans (by omega)
abbrev wrA (b : Nat) (L : List Int) (q : Option Addr) (d : Nat) : Asn := blk b [.slice q ((L.length + 7) / 8) d, .int .i64 L.length]
abbrev wrV (L : List Int) (q : Option Addr) (d : Nat) : Asn := vec 5 1 (.slice q ((L.length + 7) / 8) d) ((L.length + 7) / 8) (ints .u8 (pack L))
set_option maxHeartbeats 4000000 in
/-- one bit is put -/
theorem Put_c {w0 : World} {H : List Asn} (b : Nat) (L : List Int) (q : Option Addr) (d : Nat) (x : Int) (hx : 0 ≤ x ∧ x < 4294967296) (hL : ∀ j, L.getD j 0 = 0 ∨ L.getD j 0 = 1) (hl : L.length ≤ 70368744177664) (w : World) (hw : St w0 (wrA b L q d :: wrV L q d :: H) w) :
    Calls Try.prog 76 #[.pointer (some ⟨b, 0, none⟩), .int .u32 x] w fun e w' => e = .returned (.tuple #[]) ∧ ∃ q d, St w0 (wrA b (L ++ [x % 2]) q d :: wrV (L ++ [x % 2]) q d :: H) w' := by
  unfold wrA wrV at hw ⊢
  refine enter (vs := [.pointer (some ⟨b, 0, none⟩), .int .u32 x]) Try.func76 rfl rfl rfl hw ?_
  have hlast := byteAt_last L hL
  have hbd := byteAt_bd L hL (L.length / 8)
  have hput := pack_put L (x % 2)
  have hx2 : x % 2 = 0 ∨ x % 2 = 1 := by omega
  have hor := or_add_u8 (a := byteAt L (L.length / 8)) (y := x % 2) (s := L.length % 8) (by omega) ⟨hbd.1, hlast⟩ hx2
  have hms : min ((L.length : Int) % 8).toNat IntKind.u8.bits = L.length % 8 := by show min _ 8 = _; omega
  have hpw : 0 ≤ x % 2 * 2 ^ (L.length % 8) ∧ x % 2 * 2 ^ (L.length % 8) < 256 := by
    have : ∀ k : Fin 8, (1 : Int) ≤ 2 ^ k.val ∧ (2 : Int) ^ k.val ≤ 128 := by decide
    have := this ⟨L.length % 8, by omega⟩
    simp only [] at this
    rcases hx2 with h | h <;> rw [h] <;> omega
  have hl1 : (L ++ [x % 2]).length = L.length + 1 := by simp
  have hk : ((L ++ [x % 2]).length + 7) / 8 = (L.length + 8) / 8 := by rw [hl1]
  rw [hl1] at hk ⊢
  rw [hk]
  have htl := tab_len ((L.length + 8) / 8) (byteAt L)
  have g0 : (ints .u8 (tab ((L.length + 8) / 8) (byteAt L)))[L.length / 8]? = some (.int .u8 (byteAt L (L.length / 8))) := by
    rw [ints_get (by omega)]
    congr 2
    unfold tab
    rw [List.getD_eq_getElem?_getD, List.getElem?_map, List.getElem?_range (by omega)]; rfl
  clear hw
  by_cases h8 : L.length % 8 = 0
  case' pos =>
    have hg := pack_grow L h8
    have hpl := pack_len L
    have hk2 : (L.length + 7) / 8 + 1 = (L.length + 8) / 8 := by omega
    repeat (first | (apply gJO; first | (apply kS; refine aK ?_) | (apply kX; refine JO_box rfl rfl rfl ?_; intro _) | (apply kA; refine JO_alloc (tb := tb) rfl rfl ?_; intro _) | (apply kBs; refine JO_buildSlice (tb := tb) rfl rfl rfl rfl rfl rfl rfl rfl rfl ?_; intro _) | (apply kM; refine JO_make (tb := tb) rfl rfl rfl rfl rfl rfl (by omega) rfl ?_; intro _) | refine aO ?_) | (apply gJR; first | apply JR_un | apply JR_nil | refine JR_yes rfl rfl ?_ | refine JR_no rfl rfl rfl rfl ?_ | refine JR_noU rfl rfl rfl ?_) | (apply gJS; first | apply JS_seq | apply JS_region | apply JS_skip | apply JS_block | apply JS_inBlock | apply JS_label | refine JS_exit rfl ?_ | refine JS_condT rfl ?_ | refine JS_condF rfl ?_ | refine JS_draw [0] (by kernel_rfl) (by kernel_rfl) (by decide +kernel) ?_ | refine JS_draw [] (by kernel_rfl) (by kernel_rfl) (by decide +kernel) ?_ | refine JS_cond_T rfl (by omega) ?_ | refine JS_cond_F rfl (by omega) ?_) | (apply gQR; first | apply QR_un | apply QR_nil | refine QR_yes rfl rfl ?_ | refine QR_no rfl rfl rfl rfl ?_ | refine QR_noU rfl rfl rfl ?_) | (apply gQO; first | refine aQ ?_ | refine aQK rfl ?_))
    (refine JO_app (tb := tb) rfl rfl rfl rfl rfl rfl (by repeat (first | exact Sel.here _ _ | apply Sel.there)) (by first | exact vec_rd (by repeat (first | apply List.Mem.head | apply List.Mem.tail)) | assumption | exact ArgRd.rd (by assumption) _ | (apply Rd_weak; assumption; intro _ hx; exact St.sub (by repeat (first | exact List.Sublist.refl _ | apply List.Sublist.cons_cons | apply List.Sublist.cons)) hx)) (by simp only [ints_len, List.length_cons, List.length_nil]; first | omega | rfl) (by first | exact ints_one | (repeat (first | exact trivial | refine ⟨rfl, ?_⟩))) (by omega) rfl ?_; intro _ _)
    rename_i q2 d2
    rw [show ([] : List Value).append (rep 0 [Value.int IntKind.u8 0]) = [] from rfl, hk2, ints_app1, hg]
    repeat (first | (apply gJR; first | (apply gJO; first | (apply kS; refine aK ?_) | (apply kX; refine JO_box rfl rfl rfl ?_; intro _) | (apply kA; refine JO_alloc (tb := tb) rfl rfl ?_; intro _) | (apply kBs; refine JO_buildSlice (tb := tb) rfl rfl rfl rfl rfl rfl rfl rfl rfl ?_; intro _) | (apply kM; refine JO_make (tb := tb) rfl rfl rfl rfl rfl rfl (by omega) rfl ?_; intro _) | refine aO ?_) | (apply gJR; first | apply JR_un | apply JR_nil | refine JR_yes rfl rfl ?_ | refine JR_no rfl rfl rfl rfl ?_ | refine JR_noU rfl rfl rfl ?_) | (apply gJS; first | apply JS_seq | apply JS_region | apply JS_skip | apply JS_block | apply JS_inBlock | apply JS_label | refine JS_exit rfl ?_ | refine JS_condT rfl ?_ | refine JS_condF rfl ?_ | refine JS_draw [0] (by kernel_rfl) (by kernel_rfl) (by decide +kernel) ?_ | refine JS_draw [] (by kernel_rfl) (by kernel_rfl) (by decide +kernel) ?_ | refine JS_cond_T rfl (by omega) ?_ | refine JS_cond_F rfl (by omega) ?_) | (apply gQR; first | apply QR_un | apply QR_nil | refine QR_yes rfl rfl ?_ | refine QR_no rfl rfl rfl rfl ?_ | refine QR_noU rfl rfl rfl ?_) | (apply gQO; first | refine aQ ?_ | refine aQK rfl ?_)) | (apply gJO; first | (apply gJO; first | (apply kS; refine aK ?_) | (apply kX; refine JO_box rfl rfl rfl ?_; intro _) | (apply kA; refine JO_alloc (tb := tb) rfl rfl ?_; intro _) | (apply kBs; refine JO_buildSlice (tb := tb) rfl rfl rfl rfl rfl rfl rfl rfl rfl ?_; intro _) | (apply kM; refine JO_make (tb := tb) rfl rfl rfl rfl rfl rfl (by omega) rfl ?_; intro _) | refine aO ?_) | (apply gJR; first | apply JR_un | apply JR_nil | refine JR_yes rfl rfl ?_ | refine JR_no rfl rfl rfl rfl ?_ | refine JR_noU rfl rfl rfl ?_) | (apply gJS; first | apply JS_seq | apply JS_region | apply JS_skip | apply JS_block | apply JS_inBlock | apply JS_label | refine JS_exit rfl ?_ | refine JS_condT rfl ?_ | refine JS_condF rfl ?_ | refine JS_draw [0] (by kernel_rfl) (by kernel_rfl) (by decide +kernel) ?_ | refine JS_draw [] (by kernel_rfl) (by kernel_rfl) (by decide +kernel) ?_ | refine JS_cond_T rfl (by omega) ?_ | refine JS_cond_F rfl (by omega) ?_) | (apply gQR; first | apply QR_un | apply QR_nil | refine QR_yes rfl rfl ?_ | refine QR_no rfl rfl rfl rfl ?_ | refine QR_noU rfl rfl rfl ?_) | (apply gQO; first | refine aQ ?_ | refine aQK rfl ?_)) | (apply gJS; apply JS_seq))
  case' neg =>
    rw [pack_same L h8, show (L.length + 7) / 8 = (L.length + 8) / 8 by omega]
    repeat (first | (apply gJR; first | (apply gJO; first | (apply kS; refine aK ?_) | (apply kX; refine JO_box rfl rfl rfl ?_; intro _) | (apply kA; refine JO_alloc (tb := tb) rfl rfl ?_; intro _) | (apply kBs; refine JO_buildSlice (tb := tb) rfl rfl rfl rfl rfl rfl rfl rfl rfl ?_; intro _) | (apply kM; refine JO_make (tb := tb) rfl rfl rfl rfl rfl rfl (by omega) rfl ?_; intro _) | refine aO ?_) | (apply gJR; first | apply JR_un | apply JR_nil | refine JR_yes rfl rfl ?_ | refine JR_no rfl rfl rfl rfl ?_ | refine JR_noU rfl rfl rfl ?_) | (apply gJS; first | apply JS_seq | apply JS_region | apply JS_skip | apply JS_block | apply JS_inBlock | apply JS_label | refine JS_exit rfl ?_ | refine JS_condT rfl ?_ | refine JS_condF rfl ?_ | refine JS_draw [0] (by kernel_rfl) (by kernel_rfl) (by decide +kernel) ?_ | refine JS_draw [] (by kernel_rfl) (by kernel_rfl) (by decide +kernel) ?_ | refine JS_cond_T rfl (by omega) ?_ | refine JS_cond_F rfl (by omega) ?_) | (apply gQR; first | apply QR_un | apply QR_nil | refine QR_yes rfl rfl ?_ | refine QR_no rfl rfl rfl rfl ?_ | refine QR_noU rfl rfl rfl ?_) | (apply gQO; first | refine aQ ?_ | refine aQK rfl ?_)) | (apply gJO; first | (apply gJO; first | (apply kS; refine aK ?_) | (apply kX; refine JO_box rfl rfl rfl ?_; intro _) | (apply kA; refine JO_alloc (tb := tb) rfl rfl ?_; intro _) | (apply kBs; refine JO_buildSlice (tb := tb) rfl rfl rfl rfl rfl rfl rfl rfl rfl ?_; intro _) | (apply kM; refine JO_make (tb := tb) rfl rfl rfl rfl rfl rfl (by omega) rfl ?_; intro _) | refine aO ?_) | (apply gJR; first | apply JR_un | apply JR_nil | refine JR_yes rfl rfl ?_ | refine JR_no rfl rfl rfl rfl ?_ | refine JR_noU rfl rfl rfl ?_) | (apply gJS; first | apply JS_seq | apply JS_region | apply JS_skip | apply JS_block | apply JS_inBlock | apply JS_label | refine JS_exit rfl ?_ | refine JS_condT rfl ?_ | refine JS_condF rfl ?_ | refine JS_draw [0] (by kernel_rfl) (by kernel_rfl) (by decide +kernel) ?_ | refine JS_draw [] (by kernel_rfl) (by kernel_rfl) (by decide +kernel) ?_ | refine JS_cond_T rfl (by omega) ?_ | refine JS_cond_F rfl (by omega) ?_) | (apply gQR; first | apply QR_un | apply QR_nil | refine QR_yes rfl rfl ?_ | refine QR_no rfl rfl rfl rfl ?_ | refine QR_noU rfl rfl rfl ?_) | (apply gQO; first | refine aQ ?_ | refine aQK rfl ?_)) | apply JS_seq | apply JS_region | refine JS_cond_F rfl (by omega) ?_ | apply JS_skip)
  all_goals repeat (first | (apply gQO; first | refine QO_v rfl (V_loadC (tb := tb) rfl (vec_rd (by repeat (first | apply List.Mem.head | apply List.Mem.tail))) rfl rfl g0 rfl) ?_ | refine QO_v rfl (V_and rfl rfl (mask1_u32 hx) rfl) ?_ | refine QO_v rfl (V_shl (m := L.length % 8) rfl rfl (by omega) hms (wu8 hpw) rfl) ?_ | refine QO_v rfl (V_or rfl rfl hor rfl) ?_) | (first | (apply gJO; first | (apply kS; refine aK ?_) | (apply kX; refine JO_box rfl rfl rfl ?_; intro _) | (apply kA; refine JO_alloc (tb := tb) rfl rfl ?_; intro _) | (apply kBs; refine JO_buildSlice (tb := tb) rfl rfl rfl rfl rfl rfl rfl rfl rfl ?_; intro _) | (apply kM; refine JO_make (tb := tb) rfl rfl rfl rfl rfl rfl (by omega) rfl ?_; intro _) | refine aO ?_) | (apply gJR; first | apply JR_un | apply JR_nil | refine JR_yes rfl rfl ?_ | refine JR_no rfl rfl rfl rfl ?_ | refine JR_noU rfl rfl rfl ?_) | (apply gJS; first | apply JS_seq | apply JS_region | apply JS_skip | apply JS_block | apply JS_inBlock | apply JS_label | refine JS_exit rfl ?_ | refine JS_condT rfl ?_ | refine JS_condF rfl ?_ | refine JS_draw [0] (by kernel_rfl) (by kernel_rfl) (by decide +kernel) ?_ | refine JS_draw [] (by kernel_rfl) (by kernel_rfl) (by decide +kernel) ?_ | refine JS_cond_T rfl (by omega) ?_ | refine JS_cond_F rfl (by omega) ?_) | (apply gQR; first | apply QR_un | apply QR_nil | refine QR_yes rfl rfl ?_ | refine QR_no rfl rfl rfl rfl ?_ | refine QR_noU rfl rfl rfl ?_) | (apply gQO; first | refine aQ ?_ | refine aQK rfl ?_)))
  all_goals refine JS_fin Try.func76 rfl rfl (vs := []) ?_
  all_goals intro w hw
  all_goals rw [hput] at hw
  all_goals exact ⟨rfl, _, _, St.sub (by repeat (first | exact List.Sublist.refl _ | apply List.Sublist.cons_cons | apply List.Sublist.cons)) hw⟩
theorem Fits_c {w0 : World} {H : List Asn} (n : Int) (k : Nat) (hk : k ≤ 32) (hn : 0 ≤ n ∧ n < 2 ^ k) (hn2 : n < 4294967296) (w : World) (hw : St w0 H w) :
    Calls Try.prog 70 #[.int .u32 n, .int .i64 k] w fun e w' => e = .returned (.bool true) ∧ St w0 H w' := by
  refine enter (vs := [.int .u32 n, .int .i64 k]) Try.func70 rfl rfl rfl hw ?_
  have hm : min ((k : Int)).toNat IntKind.u64.bits = k := by show min _ 64 = _; omega
  have h0 : n / 2 ^ k = 0 := Int.ediv_eq_zero_of_lt hn.1 hn.2
  repeat (first | (apply gJO; refine JO_v (V_shr (m := k) rfl rfl (by omega) hm h0 rfl) ?_) | (first | (apply gJO; first | (apply kS; refine aK ?_) | (apply kX; refine JO_box rfl rfl rfl ?_; intro _) | (apply kA; refine JO_alloc (tb := tb) rfl rfl ?_; intro _) | (apply kBs; refine JO_buildSlice (tb := tb) rfl rfl rfl rfl rfl rfl rfl rfl rfl ?_; intro _) | (apply kM; refine JO_make (tb := tb) rfl rfl rfl rfl rfl rfl (by omega) rfl ?_; intro _) | refine aO ?_) | (apply gJR; first | apply JR_un | apply JR_nil | refine JR_yes rfl rfl ?_ | refine JR_no rfl rfl rfl rfl ?_ | refine JR_noU rfl rfl rfl ?_) | (apply gJS; first | apply JS_seq | apply JS_region | apply JS_skip | apply JS_block | apply JS_inBlock | apply JS_label | refine JS_exit rfl ?_ | refine JS_condT rfl ?_ | refine JS_condF rfl ?_ | refine JS_draw [0] (by kernel_rfl) (by kernel_rfl) (by decide +kernel) ?_ | refine JS_draw [] (by kernel_rfl) (by kernel_rfl) (by decide +kernel) ?_ | refine JS_cond_T rfl (by omega) ?_ | refine JS_cond_F rfl (by omega) ?_) | (apply gQR; first | apply QR_un | apply QR_nil | refine QR_yes rfl rfl ?_ | refine QR_no rfl rfl rfl rfl ?_ | refine QR_noU rfl rfl rfl ?_) | (apply gQO; first | refine aQ ?_ | refine aQK rfl ?_)))
  refine JS_ret Try.func70 rfl rfl ?_
  intro w hw
  exact ⟨rfl, hw⟩
theorem grp_01 (n : Int) (k j : Nat) : (grp n k).getD j 0 = 0 ∨ (grp n k).getD j 0 = 1 := by
  unfold grp
  rcases Nat.lt_or_ge j k with h | h
  · simp only [List.getD_eq_getElem?_getD, List.getElem?_map, List.getElem?_range h, Option.map_some, Option.getD_some]; omega
  · rw [List.getD_eq_getElem?_getD, List.getElem?_eq_none (by simp; omega)]; exact .inl rfl
theorem app_01 {L M : List Int} (hL : ∀ j, L.getD j 0 = 0 ∨ L.getD j 0 = 1) (hM : ∀ j, M.getD j 0 = 0 ∨ M.getD j 0 = 1) (j : Nat) : (L ++ M).getD j 0 = 0 ∨ (L ++ M).getD j 0 = 1 := by
  rw [List.getD_eq_getElem?_getD]
  rcases Nat.lt_or_ge j L.length with h | h
  · rw [List.getElem?_append_left h, ← List.getD_eq_getElem?_getD]; exact hL j
  · rw [List.getElem?_append_right h, ← List.getD_eq_getElem?_getD]; exact hM _
set_option maxHeartbeats 2000000 in
/-- a group of bits -/
theorem WGroup_c {w0 : World} {H : List Asn} (b : Nat) (L : List Int) (q : Option Addr) (d : Nat) (n : Int) (k : Nat) (hk : k ≤ 32) (hn : 0 ≤ n ∧ n < 2 ^ k) (hn2 : n < 4294967296) (hL : ∀ j, L.getD j 0 = 0 ∨ L.getD j 0 = 1) (hl : L.length ≤ 70368744177600) (w : World) (hw : St w0 (wrA b L q d :: wrV L q d :: H) w) :
    Calls Try.prog 71 #[.pointer (some ⟨b, 0, none⟩), .int .u32 n, .int .i64 k] w fun e w' => e = .returned (.int .i64 0) ∧ ∃ q d, St w0 (wrA b (L ++ grp n k) q d :: wrV (L ++ grp n k) q d :: H) w' := by
  refine enter (vs := [.pointer (some ⟨b, 0, none⟩), .int .u32 n, .int .i64 k]) Try.func71 rfl rfl rfl hw ?_
  repeat (first | (apply gJO; first | (apply kS; refine aK ?_) | (apply kX; refine JO_box rfl rfl rfl ?_; intro _) | (apply kA; refine JO_alloc (tb := tb) rfl rfl ?_; intro _) | (apply kBs; refine JO_buildSlice (tb := tb) rfl rfl rfl rfl rfl rfl rfl rfl rfl ?_; intro _) | (apply kM; refine JO_make (tb := tb) rfl rfl rfl rfl rfl rfl (by omega) rfl ?_; intro _) | refine aO ?_) | (apply gJR; first | apply JR_un | apply JR_nil | refine JR_yes rfl rfl ?_ | refine JR_no rfl rfl rfl rfl ?_ | refine JR_noU rfl rfl rfl ?_) | (apply gJS; first | apply JS_seq | apply JS_region | apply JS_skip | apply JS_block | apply JS_inBlock | apply JS_label | refine JS_exit rfl ?_ | refine JS_condT rfl ?_ | refine JS_condF rfl ?_ | refine JS_draw [0] (by kernel_rfl) (by kernel_rfl) (by decide +kernel) ?_ | refine JS_draw [] (by kernel_rfl) (by kernel_rfl) (by decide +kernel) ?_ | refine JS_cond_T rfl (by omega) ?_ | refine JS_cond_F rfl (by omega) ?_) | (apply gQR; first | apply QR_un | apply QR_nil | refine QR_yes rfl rfl ?_ | refine QR_no rfl rfl rfl rfl ?_ | refine QR_noU rfl rfl rfl ?_) | (apply gQO; first | refine aQ ?_ | refine aQK rfl ?_))
  refine JO_call Try.call70 rfl rfl fun w hw => (Fits_c n k hk hn hn2 w hw).mono ?_
  rintro e w' ⟨rfl, hw'⟩
  refine ⟨_, rfl, _, hw', ?_⟩
  clear hw' hw w w'
  repeat (first | (apply gJR; first | (apply gJO; first | (apply kS; refine aK ?_) | (apply kX; refine JO_box rfl rfl rfl ?_; intro _) | (apply kA; refine JO_alloc (tb := tb) rfl rfl ?_; intro _) | (apply kBs; refine JO_buildSlice (tb := tb) rfl rfl rfl rfl rfl rfl rfl rfl rfl ?_; intro _) | (apply kM; refine JO_make (tb := tb) rfl rfl rfl rfl rfl rfl (by omega) rfl ?_; intro _) | refine aO ?_) | (apply gJR; first | apply JR_un | apply JR_nil | refine JR_yes rfl rfl ?_ | refine JR_no rfl rfl rfl rfl ?_ | refine JR_noU rfl rfl rfl ?_) | (apply gJS; first | apply JS_seq | apply JS_region | apply JS_skip | apply JS_block | apply JS_inBlock | apply JS_label | refine JS_exit rfl ?_ | refine JS_condT rfl ?_ | refine JS_condF rfl ?_ | refine JS_draw [0] (by kernel_rfl) (by kernel_rfl) (by decide +kernel) ?_ | refine JS_draw [] (by kernel_rfl) (by kernel_rfl) (by decide +kernel) ?_ | refine JS_cond_T rfl (by omega) ?_ | refine JS_cond_F rfl (by omega) ?_) | (apply gQR; first | apply QR_un | apply QR_nil | refine QR_yes rfl rfl ?_ | refine QR_no rfl rfl rfl rfl ?_ | refine QR_noU rfl rfl rfl ?_) | (apply gQO; first | refine aQ ?_ | refine aQK rfl ?_)) | (apply gJO; first | (apply gJO; first | (apply kS; refine aK ?_) | (apply kX; refine JO_box rfl rfl rfl ?_; intro _) | (apply kA; refine JO_alloc (tb := tb) rfl rfl ?_; intro _) | (apply kBs; refine JO_buildSlice (tb := tb) rfl rfl rfl rfl rfl rfl rfl rfl rfl ?_; intro _) | (apply kM; refine JO_make (tb := tb) rfl rfl rfl rfl rfl rfl (by omega) rfl ?_; intro _) | refine aO ?_) | (apply gJR; first | apply JR_un | apply JR_nil | refine JR_yes rfl rfl ?_ | refine JR_no rfl rfl rfl rfl ?_ | refine JR_noU rfl rfl rfl ?_) | (apply gJS; first | apply JS_seq | apply JS_region | apply JS_skip | apply JS_block | apply JS_inBlock | apply JS_label | refine JS_exit rfl ?_ | refine JS_condT rfl ?_ | refine JS_condF rfl ?_ | refine JS_draw [0] (by kernel_rfl) (by kernel_rfl) (by decide +kernel) ?_ | refine JS_draw [] (by kernel_rfl) (by kernel_rfl) (by decide +kernel) ?_ | refine JS_cond_T rfl (by omega) ?_ | refine JS_cond_F rfl (by omega) ?_) | (apply gQR; first | apply QR_un | apply QR_nil | refine QR_yes rfl rfl ?_ | refine QR_no rfl rfl rfl rfl ?_ | refine QR_noU rfl rfl rfl ?_) | (apply gQO; first | refine aQ ?_ | refine aQK rfl ?_)) | apply JS_seq | apply JS_region | refine JS_condF rfl ?_ | apply JS_skip)
  refine JS_block ?_
  refine JS_loop3 (fun (i : Nat) (q : Option Addr) (d : Nat) => [(1, .int .u32 n), (7, .func (.func 76) #[.pointer (some ⟨b, 0, none⟩)] #[]), (15, .int .i64 k), (16, .int .i64 i)]) (fun i q d => wrA b (L ++ grp n i) q d :: wrV (L ++ grp n i) q d :: H) (fun i _ _ => i ≤ k) (fun i _ _ => k - i) 0 q d (by omega) (by repeat (first | exact trivial | refine ⟨rfl, ?_⟩ | refine ⟨lookI rfl (by omega), ?_⟩)) (fun w hw => by rw [show grp n 0 = [] from rfl, List.append_nil]; exact hw) ?_
  intro i q d hi again
  by_cases hik : i < k
  · have hm : min ((i : Int)).toNat IntKind.u32.bits = i := by show min _ 32 = _; omega
    have hgs := grp_succ n i
    have hgl := grp_len n i
    have hq0 : 0 ≤ n / 2 ^ i ∧ n / 2 ^ i < 4294967296 := by
      have hp : (0 : Int) < 2 ^ i := Int.pow_pos (by decide)
      exact ⟨Int.ediv_nonneg hn.1 (Int.le_of_lt hp), Int.lt_of_le_of_lt (Int.ediv_le_self _ hn.1) hn2⟩
    repeat (first | (apply gJO; refine JO_v (V_shr (m := i) rfl rfl (by omega) hm rfl rfl) ?_) | (first | (apply gJO; first | (apply kS; refine aK ?_) | (apply kX; refine JO_box rfl rfl rfl ?_; intro _) | (apply kA; refine JO_alloc (tb := tb) rfl rfl ?_; intro _) | (apply kBs; refine JO_buildSlice (tb := tb) rfl rfl rfl rfl rfl rfl rfl rfl rfl ?_; intro _) | (apply kM; refine JO_make (tb := tb) rfl rfl rfl rfl rfl rfl (by omega) rfl ?_; intro _) | refine aO ?_) | (apply gJR; first | apply JR_un | apply JR_nil | refine JR_yes rfl rfl ?_ | refine JR_no rfl rfl rfl rfl ?_ | refine JR_noU rfl rfl rfl ?_) | (apply gJS; first | apply JS_seq | apply JS_region | apply JS_skip | apply JS_block | apply JS_inBlock | apply JS_label | refine JS_exit rfl ?_ | refine JS_condT rfl ?_ | refine JS_condF rfl ?_ | refine JS_draw [0] (by kernel_rfl) (by kernel_rfl) (by decide +kernel) ?_ | refine JS_draw [] (by kernel_rfl) (by kernel_rfl) (by decide +kernel) ?_ | refine JS_cond_T rfl (by omega) ?_ | refine JS_cond_F rfl (by omega) ?_) | (apply gQR; first | apply QR_un | apply QR_nil | refine QR_yes rfl rfl ?_ | refine QR_no rfl rfl rfl rfl ?_ | refine QR_noU rfl rfl rfl ?_) | (apply gQO; first | refine aQ ?_ | refine aQK rfl ?_)))
    refine JO_callv (us := [.pointer (some ⟨b, 0, none⟩)]) (cs := []) rfl Try.call76 rfl rfl fun w hw => (Put_c b (L ++ grp n i) q d (n / 2 ^ i) hq0 (app_01 hL (grp_01 n i)) (by rw [List.length_append, hgl]; omega) w hw).mono ?_
    rintro e w' ⟨rfl, q2, d2, hw'⟩
    rw [List.append_assoc, ← hgs] at hw'
    refine ⟨_, rfl, _, hw', ?_⟩
    clear hw' hw w w'
    repeat (first | (apply gJO; first | (apply kS; refine aK ?_) | (apply kX; refine JO_box rfl rfl rfl ?_; intro _) | (apply kA; refine JO_alloc (tb := tb) rfl rfl ?_; intro _) | (apply kBs; refine JO_buildSlice (tb := tb) rfl rfl rfl rfl rfl rfl rfl rfl rfl ?_; intro _) | (apply kM; refine JO_make (tb := tb) rfl rfl rfl rfl rfl rfl (by omega) rfl ?_; intro _) | refine aO ?_) | (apply gJR; first | apply JR_un | apply JR_nil | refine JR_yes rfl rfl ?_ | refine JR_no rfl rfl rfl rfl ?_ | refine JR_noU rfl rfl rfl ?_) | (apply gJS; first | apply JS_seq | apply JS_region | apply JS_skip | apply JS_block | apply JS_inBlock | apply JS_label | refine JS_exit rfl ?_ | refine JS_condT rfl ?_ | refine JS_condF rfl ?_ | refine JS_draw [0] (by kernel_rfl) (by kernel_rfl) (by decide +kernel) ?_ | refine JS_draw [] (by kernel_rfl) (by kernel_rfl) (by decide +kernel) ?_ | refine JS_cond_T rfl (by omega) ?_ | refine JS_cond_F rfl (by omega) ?_) | (apply gQR; first | apply QR_un | apply QR_nil | refine QR_yes rfl rfl ?_ | refine QR_no rfl rfl rfl rfl ?_ | refine QR_noU rfl rfl rfl ?_) | (apply gQO; first | refine aQ ?_ | refine aQK rfl ?_))
    exact JS_again3 again (i + 1) q2 d2 (by omega) (by omega) (by repeat (first | exact trivial | refine ⟨rfl, ?_⟩ | refine ⟨lookI rfl (by omega), ?_⟩)) (fun w hw => hw)
  · obtain rfl : i = k := by omega
    clear again
    repeat (first | (apply gJO; first | (apply kS; refine aK ?_) | (apply kX; refine JO_box rfl rfl rfl ?_; intro _) | (apply kA; refine JO_alloc (tb := tb) rfl rfl ?_; intro _) | (apply kBs; refine JO_buildSlice (tb := tb) rfl rfl rfl rfl rfl rfl rfl rfl rfl ?_; intro _) | (apply kM; refine JO_make (tb := tb) rfl rfl rfl rfl rfl rfl (by omega) rfl ?_; intro _) | refine aO ?_) | (apply gJR; first | apply JR_un | apply JR_nil | refine JR_yes rfl rfl ?_ | refine JR_no rfl rfl rfl rfl ?_ | refine JR_noU rfl rfl rfl ?_) | (apply gJS; first | apply JS_seq | apply JS_region | apply JS_skip | apply JS_block | apply JS_inBlock | apply JS_label | refine JS_exit rfl ?_ | refine JS_condT rfl ?_ | refine JS_condF rfl ?_ | refine JS_draw [0] (by kernel_rfl) (by kernel_rfl) (by decide +kernel) ?_ | refine JS_draw [] (by kernel_rfl) (by kernel_rfl) (by decide +kernel) ?_ | refine JS_cond_T rfl (by omega) ?_ | refine JS_cond_F rfl (by omega) ?_) | (apply gQR; first | apply QR_un | apply QR_nil | refine QR_yes rfl rfl ?_ | refine QR_no rfl rfl rfl rfl ?_ | refine QR_noU rfl rfl rfl ?_) | (apply gQO; first | refine aQ ?_ | refine aQK rfl ?_))
    refine JS_ret Try.func71 rfl rfl ?_
    intro w hw
    exact ⟨rfl, q, d, hw⟩
theorem bit_bv (v : BitVec 32) (j : Nat) : (v.toNat : Int) / 2 ^ j % 2 = if v.getLsbD j then 1 else 0 := by
  have h : ((v.toNat : Int) / 2 ^ j % 2) = ((v.toNat / 2 ^ j % 2 : Nat) : Int) := by simp
  rw [h, BitVec.getLsbD, Nat.testBit_eq_decide_div_mod_eq]
  by_cases h2 : v.toNat / 2 ^ j % 2 = 1
  · simp [h2]
  · have : v.toNat / 2 ^ j % 2 = 0 := by omega
    simp [this]
theorem turn_grp (v : BitVec 32) (k : Nat) (hk : 0 < k ∧ k ≤ 32) : grp ((rev32 v >>> (32 - k)).toNat : Int) k = bms (v.toNat : Int) k ∧ (rev32 v >>> (32 - k)).toNat < 2 ^ k := by
  constructor
  · unfold grp bms
    apply List.map_congr_left
    intro j hj
    simp only [List.mem_range] at hj
    rw [bit_bv, bit_bv, BitVec.getLsbD_ushiftRight, rev32_bit v _ (by omega), show 31 - (32 - k + j) = k - 1 - j by omega]
  · rw [BitVec.toNat_ushiftRight, Nat.shiftRight_eq_div_pow]
    have := (rev32 v).isLt
    rw [Nat.div_lt_iff_lt_mul (Nat.two_pow_pos _), ← Nat.pow_add, show k + (32 - k) = 32 by omega]
    exact this
theorem Turn_c {w0 : World} {H : List Asn} (n : Int) (k : Nat) (hk : k ≤ 32) (hn : 0 ≤ n ∧ n < 2 ^ k) (hn2 : n < 4294967296) (w : World) (hw : St w0 H w) :
    Calls Try.prog 72 #[.int .u32 n, .int .i64 k] w fun e w' => ∃ t, e = .returned (.int .u32 t) ∧ St w0 H w' ∧ 0 ≤ t ∧ t < 2 ^ k ∧ t < 4294967296 ∧ grp t k = bms n k := by
  refine enter (vs := [.int .u32 n, .int .i64 k]) Try.func72 rfl rfl rfl hw ?_
  by_cases hk0 : k = 0
  · subst hk0
    repeat (first | (apply gJO; first | (apply kS; refine aK ?_) | (apply kX; refine JO_box rfl rfl rfl ?_; intro _) | (apply kA; refine JO_alloc (tb := tb) rfl rfl ?_; intro _) | (apply kBs; refine JO_buildSlice (tb := tb) rfl rfl rfl rfl rfl rfl rfl rfl rfl ?_; intro _) | (apply kM; refine JO_make (tb := tb) rfl rfl rfl rfl rfl rfl (by omega) rfl ?_; intro _) | refine aO ?_) | (apply gJR; first | apply JR_un | apply JR_nil | refine JR_yes rfl rfl ?_ | refine JR_no rfl rfl rfl rfl ?_ | refine JR_noU rfl rfl rfl ?_) | (apply gJS; first | apply JS_seq | apply JS_region | apply JS_skip | apply JS_block | apply JS_inBlock | apply JS_label | refine JS_exit rfl ?_ | refine JS_condT rfl ?_ | refine JS_condF rfl ?_ | refine JS_draw [0] (by kernel_rfl) (by kernel_rfl) (by decide +kernel) ?_ | refine JS_draw [] (by kernel_rfl) (by kernel_rfl) (by decide +kernel) ?_ | refine JS_cond_T rfl (by omega) ?_ | refine JS_cond_F rfl (by omega) ?_) | (apply gQR; first | apply QR_un | apply QR_nil | refine QR_yes rfl rfl ?_ | refine QR_no rfl rfl rfl rfl ?_ | refine QR_noU rfl rfl rfl ?_) | (apply gQO; first | refine aQ ?_ | refine aQK rfl ?_))
    refine JS_ret Try.func72 rfl rfl ?_
    intro w hw
    exact ⟨0, rfl, hw, by omega, by decide, by omega, rfl⟩
  · obtain ⟨v, rfl⟩ : ∃ v : BitVec 32, n = (v.toNat : Int) := ⟨BitVec.ofNat 32 n.toNat, by rw [BitVec.toNat_ofNat]; omega⟩
    have hsub : IntKind.i64.wrap ((32 : Int) - (k : Int)) = ((32 - k : Nat) : Int) := (wi64 (by omega)).trans (by omega)
    obtain ⟨ht1, ht2⟩ := turn_grp v k ⟨by omega, hk⟩
    repeat (first | (apply gJO; first | (apply kS; refine aK ?_) | (apply kX; refine JO_box rfl rfl rfl ?_; intro _) | (apply kA; refine JO_alloc (tb := tb) rfl rfl ?_; intro _) | (apply kBs; refine JO_buildSlice (tb := tb) rfl rfl rfl rfl rfl rfl rfl rfl rfl ?_; intro _) | (apply kM; refine JO_make (tb := tb) rfl rfl rfl rfl rfl rfl (by omega) rfl ?_; intro _) | refine aO ?_) | (apply gJR; first | apply JR_un | apply JR_nil | refine JR_yes rfl rfl ?_ | refine JR_no rfl rfl rfl rfl ?_ | refine JR_noU rfl rfl rfl ?_) | (apply gJS; first | apply JS_seq | apply JS_region | apply JS_skip | apply JS_block | apply JS_inBlock | apply JS_label | refine JS_exit rfl ?_ | refine JS_condT rfl ?_ | refine JS_condF rfl ?_ | refine JS_draw [0] (by kernel_rfl) (by kernel_rfl) (by decide +kernel) ?_ | refine JS_draw [] (by kernel_rfl) (by kernel_rfl) (by decide +kernel) ?_ | refine JS_cond_T rfl (by omega) ?_ | refine JS_cond_F rfl (by omega) ?_) | (apply gQR; first | apply QR_un | apply QR_nil | refine QR_yes rfl rfl ?_ | refine QR_no rfl rfl rfl rfl ?_ | refine QR_noU rfl rfl rfl ?_) | (apply gQO; first | refine aQ ?_ | refine aQK rfl ?_))
    refine JO_call (vs := [bv v]) Try.call77 rfl rfl fun w hw => (Rev_c v w hw).mono ?_
    rintro e w' ⟨rfl, hw'⟩
    refine ⟨_, rfl, _, hw', ?_⟩
    clear hw' hw w w'
    repeat (first | (apply gJO; first | refine JO_v (V_sub rfl rfl hsub rfl) ?_ | refine JO_v (VB_shr (s := 32 - k) rfl rfl (by omega) rfl) ?_) | (first | (apply gJO; first | (apply kS; refine aK ?_) | (apply kX; refine JO_box rfl rfl rfl ?_; intro _) | (apply kA; refine JO_alloc (tb := tb) rfl rfl ?_; intro _) | (apply kBs; refine JO_buildSlice (tb := tb) rfl rfl rfl rfl rfl rfl rfl rfl rfl ?_; intro _) | (apply kM; refine JO_make (tb := tb) rfl rfl rfl rfl rfl rfl (by omega) rfl ?_; intro _) | refine aO ?_) | (apply gJR; first | apply JR_un | apply JR_nil | refine JR_yes rfl rfl ?_ | refine JR_no rfl rfl rfl rfl ?_ | refine JR_noU rfl rfl rfl ?_) | (apply gJS; first | apply JS_seq | apply JS_region | apply JS_skip | apply JS_block | apply JS_inBlock | apply JS_label | refine JS_exit rfl ?_ | refine JS_condT rfl ?_ | refine JS_condF rfl ?_ | refine JS_draw [0] (by kernel_rfl) (by kernel_rfl) (by decide +kernel) ?_ | refine JS_draw [] (by kernel_rfl) (by kernel_rfl) (by decide +kernel) ?_ | refine JS_cond_T rfl (by omega) ?_ | refine JS_cond_F rfl (by omega) ?_) | (apply gQR; first | apply QR_un | apply QR_nil | refine QR_yes rfl rfl ?_ | refine QR_no rfl rfl rfl rfl ?_ | refine QR_noU rfl rfl rfl ?_) | (apply gQO; first | refine aQ ?_ | refine aQK rfl ?_)))
    refine JS_ret Try.func72 rfl rfl ?_
    intro w hw
    have hlt := (rev32 v >>> (32 - k)).isLt
    refine ⟨_, rfl, hw, by omega, ?_, by omega, ht1⟩
    have : ((2 ^ k : Nat) : Int) = 2 ^ k := by simp
    rw [← this]; omega
/-- a code: the highest bit first -/
theorem WCode_c {w0 : World} {H : List Asn} (b : Nat) (L : List Int) (q : Option Addr) (d : Nat) (n : Int) (k : Nat) (hk : k ≤ 32) (hn : 0 ≤ n ∧ n < 2 ^ k) (hn2 : n < 4294967296) (hL : ∀ j, L.getD j 0 = 0 ∨ L.getD j 0 = 1) (hl : L.length ≤ 70368744177600) (w : World) (hw : St w0 (wrA b L q d :: wrV L q d :: H) w) :
    Calls Try.prog 64 #[.pointer (some ⟨b, 0, none⟩), .int .u32 n, .int .i64 k] w fun e w' => e = .returned (.int .i64 0) ∧ ∃ q d, St w0 (wrA b (L ++ bms n k) q d :: wrV (L ++ bms n k) q d :: H) w' := by
  refine enter (vs := [.pointer (some ⟨b, 0, none⟩), .int .u32 n, .int .i64 k]) Try.func64 rfl rfl rfl hw ?_
  repeat (first | (apply gJO; first | (apply kS; refine aK ?_) | (apply kX; refine JO_box rfl rfl rfl ?_; intro _) | (apply kA; refine JO_alloc (tb := tb) rfl rfl ?_; intro _) | (apply kBs; refine JO_buildSlice (tb := tb) rfl rfl rfl rfl rfl rfl rfl rfl rfl ?_; intro _) | (apply kM; refine JO_make (tb := tb) rfl rfl rfl rfl rfl rfl (by omega) rfl ?_; intro _) | refine aO ?_) | (apply gJR; first | apply JR_un | apply JR_nil | refine JR_yes rfl rfl ?_ | refine JR_no rfl rfl rfl rfl ?_ | refine JR_noU rfl rfl rfl ?_) | (apply gJS; first | apply JS_seq | apply JS_region | apply JS_skip | apply JS_block | apply JS_inBlock | apply JS_label | refine JS_exit rfl ?_ | refine JS_condT rfl ?_ | refine JS_condF rfl ?_ | refine JS_draw [0] (by kernel_rfl) (by kernel_rfl) (by decide +kernel) ?_ | refine JS_draw [] (by kernel_rfl) (by kernel_rfl) (by decide +kernel) ?_ | refine JS_cond_T rfl (by omega) ?_ | refine JS_cond_F rfl (by omega) ?_) | (apply gQR; first | apply QR_un | apply QR_nil | refine QR_yes rfl rfl ?_ | refine QR_no rfl rfl rfl rfl ?_ | refine QR_noU rfl rfl rfl ?_) | (apply gQO; first | refine aQ ?_ | refine aQK rfl ?_))
  refine JO_call Try.call70 rfl rfl fun w hw => (Fits_c n k hk hn hn2 w hw).mono ?_
  rintro e w' ⟨rfl, hw'⟩
  refine ⟨_, rfl, _, hw', ?_⟩
  clear hw' hw w w'
  repeat (first | (apply gJO; first | (apply kS; refine aK ?_) | (apply kX; refine JO_box rfl rfl rfl ?_; intro _) | (apply kA; refine JO_alloc (tb := tb) rfl rfl ?_; intro _) | (apply kBs; refine JO_buildSlice (tb := tb) rfl rfl rfl rfl rfl rfl rfl rfl rfl ?_; intro _) | (apply kM; refine JO_make (tb := tb) rfl rfl rfl rfl rfl rfl (by omega) rfl ?_; intro _) | refine aO ?_) | (apply gJR; first | apply JR_un | apply JR_nil | refine JR_yes rfl rfl ?_ | refine JR_no rfl rfl rfl rfl ?_ | refine JR_noU rfl rfl rfl ?_) | (apply gJS; first | apply JS_seq | apply JS_region | apply JS_skip | apply JS_block | apply JS_inBlock | apply JS_label | refine JS_exit rfl ?_ | refine JS_condT rfl ?_ | refine JS_condF rfl ?_ | refine JS_draw [0] (by kernel_rfl) (by kernel_rfl) (by decide +kernel) ?_ | refine JS_draw [] (by kernel_rfl) (by kernel_rfl) (by decide +kernel) ?_ | refine JS_cond_T rfl (by omega) ?_ | refine JS_cond_F rfl (by omega) ?_) | (apply gQR; first | apply QR_un | apply QR_nil | refine QR_yes rfl rfl ?_ | refine QR_no rfl rfl rfl rfl ?_ | refine QR_noU rfl rfl rfl ?_) | (apply gQO; first | refine aQ ?_ | refine aQK rfl ?_))
  refine JO_call Try.call72 rfl rfl fun w hw => (Turn_c n k hk hn hn2 w hw).mono ?_
  rintro e w' ⟨t, rfl, hw', h0, h1, h2, h3⟩
  refine ⟨_, rfl, _, hw', ?_⟩
  clear hw' hw w w'
  repeat (first | (apply gJO; first | (apply kS; refine aK ?_) | (apply kX; refine JO_box rfl rfl rfl ?_; intro _) | (apply kA; refine JO_alloc (tb := tb) rfl rfl ?_; intro _) | (apply kBs; refine JO_buildSlice (tb := tb) rfl rfl rfl rfl rfl rfl rfl rfl rfl ?_; intro _) | (apply kM; refine JO_make (tb := tb) rfl rfl rfl rfl rfl rfl (by omega) rfl ?_; intro _) | refine aO ?_) | (apply gJR; first | apply JR_un | apply JR_nil | refine JR_yes rfl rfl ?_ | refine JR_no rfl rfl rfl rfl ?_ | refine JR_noU rfl rfl rfl ?_) | (apply gJS; first | apply JS_seq | apply JS_region | apply JS_skip | apply JS_block | apply JS_inBlock | apply JS_label | refine JS_exit rfl ?_ | refine JS_condT rfl ?_ | refine JS_condF rfl ?_ | refine JS_draw [0] (by kernel_rfl) (by kernel_rfl) (by decide +kernel) ?_ | refine JS_draw [] (by kernel_rfl) (by kernel_rfl) (by decide +kernel) ?_ | refine JS_cond_T rfl (by omega) ?_ | refine JS_cond_F rfl (by omega) ?_) | (apply gQR; first | apply QR_un | apply QR_nil | refine QR_yes rfl rfl ?_ | refine QR_no rfl rfl rfl rfl ?_ | refine QR_noU rfl rfl rfl ?_) | (apply gQO; first | refine aQ ?_ | refine aQK rfl ?_))
  refine JO_call Try.call71 rfl rfl fun w hw => (WGroup_c b L q d t k hk ⟨h0, h1⟩ h2 hL hl w hw).mono ?_
  rintro e w' ⟨rfl, q2, d2, hw'⟩
  rw [h3] at hw'
  refine ⟨_, rfl, _, hw', ?_⟩
  clear hw' hw w w'
  repeat (first | (apply gJO; first | (apply kS; refine aK ?_) | (apply kX; refine JO_box rfl rfl rfl ?_; intro _) | (apply kA; refine JO_alloc (tb := tb) rfl rfl ?_; intro _) | (apply kBs; refine JO_buildSlice (tb := tb) rfl rfl rfl rfl rfl rfl rfl rfl rfl ?_; intro _) | (apply kM; refine JO_make (tb := tb) rfl rfl rfl rfl rfl rfl (by omega) rfl ?_; intro _) | refine aO ?_) | (apply gJR; first | apply JR_un | apply JR_nil | refine JR_yes rfl rfl ?_ | refine JR_no rfl rfl rfl rfl ?_ | refine JR_noU rfl rfl rfl ?_) | (apply gJS; first | apply JS_seq | apply JS_region | apply JS_skip | apply JS_block | apply JS_inBlock | apply JS_label | refine JS_exit rfl ?_ | refine JS_condT rfl ?_ | refine JS_condF rfl ?_ | refine JS_draw [0] (by kernel_rfl) (by kernel_rfl) (by decide +kernel) ?_ | refine JS_draw [] (by kernel_rfl) (by kernel_rfl) (by decide +kernel) ?_ | refine JS_cond_T rfl (by omega) ?_ | refine JS_cond_F rfl (by omega) ?_) | (apply gQR; first | apply QR_un | apply QR_nil | refine QR_yes rfl rfl ?_ | refine QR_no rfl rfl rfl rfl ?_ | refine QR_noU rfl rfl rfl ?_) | (apply gQO; first | refine aQ ?_ | refine aQK rfl ?_))
  refine JS_ret Try.func64 rfl rfl ?_
  intro w hw
  exact ⟨rfl, q2, d2, hw⟩
theorem WLen_c {w0 : World} {H : List Asn} (b : Nat) (u : Value) (n : Int) (hb : blk b [u, .int .i64 n] ∈ H) (w : World) (hw : St w0 H w) :
    Calls Try.prog 39 #[.pointer (some ⟨b, 0, none⟩)] w fun e w' => e = .returned (.int .i64 n) ∧ St w0 H w' := by
  refine enter (vs := [.pointer (some ⟨b, 0, none⟩)]) Try.func39 rfl rfl rfl hw ?_
  repeat (first | (apply gJO; refine JO_v (V_load (tb := tb) rfl hb rfl rfl rfl rfl) ?_) | (first | (apply gJO; first | (apply kS; refine aK ?_) | (apply kX; refine JO_box rfl rfl rfl ?_; intro _) | (apply kA; refine JO_alloc (tb := tb) rfl rfl ?_; intro _) | (apply kBs; refine JO_buildSlice (tb := tb) rfl rfl rfl rfl rfl rfl rfl rfl rfl ?_; intro _) | (apply kM; refine JO_make (tb := tb) rfl rfl rfl rfl rfl rfl (by omega) rfl ?_; intro _) | refine aO ?_) | (apply gJR; first | apply JR_un | apply JR_nil | refine JR_yes rfl rfl ?_ | refine JR_no rfl rfl rfl rfl ?_ | refine JR_noU rfl rfl rfl ?_) | (apply gJS; first | apply JS_seq | apply JS_region | apply JS_skip | apply JS_block | apply JS_inBlock | apply JS_label | refine JS_exit rfl ?_ | refine JS_condT rfl ?_ | refine JS_condF rfl ?_ | refine JS_draw [0] (by kernel_rfl) (by kernel_rfl) (by decide +kernel) ?_ | refine JS_draw [] (by kernel_rfl) (by kernel_rfl) (by decide +kernel) ?_ | refine JS_cond_T rfl (by omega) ?_ | refine JS_cond_F rfl (by omega) ?_) | (apply gQR; first | apply QR_un | apply QR_nil | refine QR_yes rfl rfl ?_ | refine QR_no rfl rfl rfl rfl ?_ | refine QR_noU rfl rfl rfl ?_) | (apply gQO; first | refine aQ ?_ | refine aQK rfl ?_)))
  refine JS_ret Try.func39 rfl rfl ?_
  intro w hw
  exact ⟨rfl, hw⟩
theorem WBytes_c {w0 : World} {H : List Asn} (b m : Nat) (L : List Int) (q : Option Addr) (d : Nat) (hL : ∀ j, L.getD j 0 = 0 ∨ L.getD j 0 = 1) (hl : L.length ≤ 70368744177664) (hm : (L.length + 7) / 8 = m) (w : World) (hw : St w0 (wrA b L q d :: wrV L q d :: H) w) :
    Calls Try.prog 40 #[.pointer (some ⟨b, 0, none⟩)] w fun e w' => ∃ p c, e = .returned (.slice p m c) ∧ St w0 (vec 5 1 (.slice p m c) m (ints .u8 (pack L)) :: wrA b L q d :: wrV L q d :: H) w' := by
  subst hm
  refine enter (vs := [.pointer (some ⟨b, 0, none⟩)]) Try.func40 rfl rfl rfl hw ?_
  repeat (first | (apply gJO; first | (apply kS; refine aK ?_) | (apply kX; refine JO_box rfl rfl rfl ?_; intro _) | (apply kA; refine JO_alloc (tb := tb) rfl rfl ?_; intro _) | (apply kBs; refine JO_buildSlice (tb := tb) rfl rfl rfl rfl rfl rfl rfl rfl rfl ?_; intro _) | (apply kM; refine JO_make (tb := tb) rfl rfl rfl rfl rfl rfl (by omega) rfl ?_; intro _) | refine aO ?_) | (apply gJR; first | apply JR_un | apply JR_nil | refine JR_yes rfl rfl ?_ | refine JR_no rfl rfl rfl rfl ?_ | refine JR_noU rfl rfl rfl ?_) | (apply gJS; first | apply JS_seq | apply JS_region | apply JS_skip | apply JS_block | apply JS_inBlock | apply JS_label | refine JS_exit rfl ?_ | refine JS_condT rfl ?_ | refine JS_condF rfl ?_ | refine JS_draw [0] (by kernel_rfl) (by kernel_rfl) (by decide +kernel) ?_ | refine JS_draw [] (by kernel_rfl) (by kernel_rfl) (by decide +kernel) ?_ | refine JS_cond_T rfl (by omega) ?_ | refine JS_cond_F rfl (by omega) ?_) | (apply gQR; first | apply QR_un | apply QR_nil | refine QR_yes rfl rfl ?_ | refine QR_no rfl rfl rfl rfl ?_ | refine QR_noU rfl rfl rfl ?_) | (apply gQO; first | refine aQ ?_ | refine aQK rfl ?_))
  have hB : OKB (pack L) := by
    intro j
    unfold pack tab
    rcases Nat.lt_or_ge j ((L.length + 7) / 8) with h | h
    · simp only [List.getD_eq_getElem?_getD, List.getElem?_map, List.getElem?_range h, Option.map_some, Option.getD_some]; exact byteAt_bd L hL j
    · rw [List.getD_eq_getElem?_getD, List.getElem?_eq_none (by simp; omega)]; decide
  refine JO_call Try.call54 rfl rfl fun w hw => (Clone_c q d _ (pack L) (vec_rd (List.Mem.tail _ (List.Mem.head _))) (pack_len L) hB (by omega) (Rd.nil (vec_rd (List.Mem.tail _ (List.Mem.head _))) hw) w hw).mono ?_
  rintro e w' ⟨p, c, rfl, hw'⟩
  refine ⟨_, rfl, _, hw', ?_⟩
  clear hw' hw w w'
  repeat (first | (apply gJO; first | (apply kS; refine aK ?_) | (apply kX; refine JO_box rfl rfl rfl ?_; intro _) | (apply kA; refine JO_alloc (tb := tb) rfl rfl ?_; intro _) | (apply kBs; refine JO_buildSlice (tb := tb) rfl rfl rfl rfl rfl rfl rfl rfl rfl ?_; intro _) | (apply kM; refine JO_make (tb := tb) rfl rfl rfl rfl rfl rfl (by omega) rfl ?_; intro _) | refine aO ?_) | (apply gJR; first | apply JR_un | apply JR_nil | refine JR_yes rfl rfl ?_ | refine JR_no rfl rfl rfl rfl ?_ | refine JR_noU rfl rfl rfl ?_) | (apply gJS; first | apply JS_seq | apply JS_region | apply JS_skip | apply JS_block | apply JS_inBlock | apply JS_label | refine JS_exit rfl ?_ | refine JS_condT rfl ?_ | refine JS_condF rfl ?_ | refine JS_draw [0] (by kernel_rfl) (by kernel_rfl) (by decide +kernel) ?_ | refine JS_draw [] (by kernel_rfl) (by kernel_rfl) (by decide +kernel) ?_ | refine JS_cond_T rfl (by omega) ?_ | refine JS_cond_F rfl (by omega) ?_) | (apply gQR; first | apply QR_un | apply QR_nil | refine QR_yes rfl rfl ?_ | refine QR_no rfl rfl rfl rfl ?_ | refine QR_noU rfl rfl rfl ?_) | (apply gQO; first | refine aQ ?_ | refine aQK rfl ?_))
  refine JS_ret Try.func40 rfl rfl ?_
  intro w hw
  exact ⟨_, _, rfl, hw⟩
end Go.Proofs.Ytjgjppgocheklaa
