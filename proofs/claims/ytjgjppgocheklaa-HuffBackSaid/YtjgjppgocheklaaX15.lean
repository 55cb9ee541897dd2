import Derived.Test.YtjgjppgocheklaaX6
import Derived.Test.YtjgjppgocheklaaX14
namespace Go.Proofs.Ytjgjppgocheklaa
open Sx Go
set_option linter.unusedVariables false
set_option linter.unusedSimpArgs false
theorem fc_succ (B : List Int) (n : Nat) : fc B (n + 1) = 2 * (fc B n + cn B n) := rfl
theorem fc_zero (B : List Int) : fc B 0 = 0 := rfl
attribute [local irreducible] syA fc tk
/-- the bits of bytes, from the n-th on -/
def bitB (B : List Int) (n j : Nat) : Int := B.getD ((n + j) / 8) 0 / 2 ^ ((n + j) % 8) % 2
theorem bitB_01 (B : List Int) (n j : Nat) : bitB B n j = 0 ∨ bitB B n j = 1 := by
  unfold bitB; omega
/-- what is read, off so many bits -/
def RD (B : List Int) (bits : Nat → Int) (left : Nat) (i : Int) (used : Nat) (r : Int) : Prop :=
  (∃ j : Nat, i = (j : Int) ∧ r = 0 ∧ DEC B bits left j ∧ B.getD j 0 = (used : Int)) ∨
  ((∀ j, ¬ DEC B bits left j) ∧ i = 0 ∧ ((sm B = 0 ∧ used = 0 ∧ r = 62) ∨ (sm B ≠ 0 ∧ tk B = 32768 ∧ used = left ∧ r = 20) ∨ (sm B ≠ 0 ∧ ¬ tk B = 32768 ∧ ((left = 0 ∧ used = 0 ∧ r = 20) ∨ (0 < left ∧ used = 1 ∧ r = 62)))))
theorem or_even {a x : Int} (ha : 0 ≤ a ∧ a < 65536) (he : a % 2 = 0) (hx : x = 0 ∨ x = 1) : IntKind.i64.wrap ((BitVec.ofInt IntKind.i64.bits a ||| BitVec.ofInt IntKind.i64.bits x).toNat) = a + x := by
  rw [or_nat .i64 ⟨ha.1, Int.lt_trans ha.2 (by decide)⟩ ⟨by omega, by rcases hx with rfl | rfl <;> decide⟩]
  have h := Nat.two_pow_add_eq_or_of_lt (i := 1) (b := x.toNat) (by omega) (a.toNat / 2)
  rw [show 2 ^ 1 * (a.toNat / 2) = a.toNat by omega] at h
  rw [← h]
  exact (wi64 (by omega)).trans (by omega)
theorem bval_lt (b : Nat → Int) (hb : ∀ j, b j = 0 ∨ b j = 1) : ∀ n, 0 ≤ bval b n ∧ bval b n < 2 ^ n
  | 0 => ⟨Int.le_refl _, by show (0 : Int) < 1; decide⟩
  | n + 1 => by
    have h := bval_lt b hb n
    have := hb n
    rw [Int.pow_succ]
    show 0 ≤ 2 * bval b n + b n ∧ 2 * bval b n + b n < _
    omega
/-- nothing with as few bits -/
theorem no_dec (B : List Int) (hB : OKB B) (h15 : ∀ j, B.getD j 0 ≤ 15) (hF : FINE B) (bits : Nat → Int) (hb : ∀ j, bits j = 0 ∨ bits j = 1) (k : Nat) (h : fc B k + cn B k ≤ bval bits k) (j : Nat) : ¬ DEC B bits k j := by
  rintro ⟨n, hi, hn0, hn, hnl, hv⟩
  obtain ⟨c1, c2⟩ := cd_eq B hB h15 hF j n hi hn0 hn
  rcases Nat.eq_or_lt_of_le hnl with h1 | h1
  · subst h1; omega
  · have := val_behind B bits hb n (by omega) (k - n) (by omega)
    rw [show n + (k - n) = k by omega] at this
    have := cn_nonneg B k
    omega
theorem sm0_dec (B : List Int) (h : sm B = 0) (bits : Nat → Int) (left j : Nat) : ¬ DEC B bits left j := by
  rintro ⟨n, hi, hn0, hn, hnl, hv⟩
  unfold sm at h
  rw [List.countP_eq_zero] at h
  have := h (B.getD j 0) (by rw [List.getD_eq_getElem?_getD, List.getElem?_eq_getElem hi]; exact List.getElem_mem hi)
  exact this (decide_eq_true (by omega))
theorem FINE_lone (B : List Int) (hB : OKB B) (h15 : ∀ j, B.getD j 0 ≤ 15) (hF : FINE B) (h1 : ¬ tk B = 32768) (h0 : sm B ≠ 0) : ∀ n, 2 ≤ n → n ≤ 15 → cn B n = 0 := by
  have hs : sm B = 1 ∧ cn B 1 = 1 := by rcases hF with h | h | h <;> first | exact absurd h (by omega) | exact h
  have e := sm_sumc B hB h15 B.length (Nat.le_refl _)
  rw [List.take_length, hs.1] at e
  intro n hn hn15
  have hz := cn_nonneg B
  simp only [sumc, hs.2] at e
  have z2 := hz 2; have z3 := hz 3; have z4 := hz 4; have z5 := hz 5; have z6 := hz 6; have z7 := hz 7; have z8 := hz 8; have z9 := hz 9; have z10 := hz 10; have z11 := hz 11; have z12 := hz 12; have z13 := hz 13; have z14 := hz 14; have z15 := hz 15
  simp only [Nat.zero_add, Nat.reduceAdd, hs.2] at e
  match n, hn, hn15 with
  | 2, _, _ | 3, _, _ | 4, _, _ | 5, _, _ | 6, _, _ | 7, _, _ | 8, _, _ | 9, _, _ | 10, _, _ | 11, _, _ | 12, _, _ | 13, _, _ | 14, _, _ | 15, _, _ => omega
theorem val_b (B2 : List Int) (n k : Nat) : bitB B2 n k = B2.getD ((n + k) / 8) 0 / 2 ^ ((n + k) % 8) % 2 := rfl
set_option maxHeartbeats 4000000 in
/-- a set reads a symbol -/
theorem Read_c {w0 : World} {H : List Asn} (b b2 : Nat) (u : Value) (s q : Option Addr) (d e m2 : Nat) (B B2 : List Int) (hs : blk b (setCells u (cn B) (.slice s (syA B 15).length e) (decide (tk B = 32768))) ∈ H) (hrs : Rd w0 H (.slice s (syA B 15).length e) (syA B 15).length (ints .i64 (syA B 15)))
    (hm : B.length ≤ 320) (hB : OKB B) (h15 : ∀ j, B.getD j 0 ≤ 15) (hF : FINE B) (hr : Rd w0 H (.slice q m2 d) m2 (ints .u8 B2)) (hm2 : B2.length = m2) (hB2 : OKB B2) (hmx : m2 ≤ 140737488355328) (n : Nat) (hn : n ≤ 8 * m2)
    (w : World) (hw : St w0 (blk b2 [.slice q m2 d, .int .i64 n] :: H) w) :
    Calls Try.prog 18 #[.pointer (some ⟨b, 0, none⟩), .pointer (some ⟨b2, 0, none⟩)] w fun en w' => ∃ (i : Int) (used : Nat) (r : Int), en = .returned (.tuple #[.int .i64 i, .int .i64 r]) ∧ St w0 (blk b2 [.slice q m2 d, .int .i64 (n + used : Nat)] :: H) w' ∧ n + used ≤ 8 * m2 ∧ RD B (bitB B2 n) (8 * m2 - n) i used r := by
  refine enter (vs := [.pointer (some ⟨b, 0, none⟩), .pointer (some ⟨b2, 0, none⟩)]) Try.func18 rfl rfl rfl hw ?_
  have hs' : blk b (setCells u (cn B) (.slice s (syA B 15).length e) (decide (tk B = 32768))) ∈ blk b2 [.slice q m2 d, .int .i64 n] :: H := List.Mem.tail _ hs
  have hsl := sm_syA B hB h15
  by_cases h0 : sm B = 0
  · have h0' : (syA B 15).length = 0 := by omega
    repeat (first | (apply gJO; refine JO_v (V_load (tb := tb) rfl hs' rfl rfl rfl rfl) ?_) | (first | (apply gJO; first | (apply kS; refine aK ?_) | (apply kX; refine JO_box rfl rfl rfl ?_; intro _) | (apply kA; refine JO_alloc (tb := tb) rfl rfl ?_; intro _) | (apply kBs; refine JO_buildSlice (tb := tb) rfl rfl rfl rfl rfl rfl rfl rfl rfl ?_; intro _) | (apply kM; refine JO_make (tb := tb) rfl rfl rfl rfl rfl rfl (by omega) rfl ?_; intro _) | refine aO ?_) | (apply gJR; first | apply JR_un | apply JR_nil | refine JR_yes rfl rfl ?_ | refine JR_no rfl rfl rfl rfl ?_ | refine JR_noU rfl rfl rfl ?_) | (apply gJS; first | apply JS_seq | apply JS_region | apply JS_skip | apply JS_block | apply JS_inBlock | apply JS_label | refine JS_exit rfl ?_ | refine JS_condT rfl ?_ | refine JS_condF rfl ?_ | refine JS_draw [0] (by kernel_rfl) (by kernel_rfl) (by decide +kernel) ?_ | refine JS_draw [] (by kernel_rfl) (by kernel_rfl) (by decide +kernel) ?_ | refine JS_cond_T rfl (by omega) ?_ | refine JS_cond_F rfl (by omega) ?_) | (apply gQR; first | apply QR_un | apply QR_nil | refine QR_yes rfl rfl ?_ | refine QR_no rfl rfl rfl rfl ?_ | refine QR_noU rfl rfl rfl ?_) | (apply gQO; first | refine aQ ?_ | refine aQK rfl ?_)))
    refine JS_ret Try.func18 rfl rfl ?_
    intro w hw
    exact ⟨0, 0, 62, rfl, hw, by omega, .inr ⟨sm0_dec B h0 _ _, rfl, .inl ⟨h0, rfl, rfl⟩⟩⟩
  have h0' : ¬ (syA B 15).length = 0 := by omega
  repeat (first | (apply gJO; refine JO_v (V_load (tb := tb) rfl hs' rfl rfl rfl rfl) ?_) | (apply gJR; first | (apply gJO; first | (apply kS; refine aK ?_) | (apply kX; refine JO_box rfl rfl rfl ?_; intro _) | (apply kA; refine JO_alloc (tb := tb) rfl rfl ?_; intro _) | (apply kBs; refine JO_buildSlice (tb := tb) rfl rfl rfl rfl rfl rfl rfl rfl rfl ?_; intro _) | (apply kM; refine JO_make (tb := tb) rfl rfl rfl rfl rfl rfl (by omega) rfl ?_; intro _) | refine aO ?_) | (apply gJR; first | apply JR_un | apply JR_nil | refine JR_yes rfl rfl ?_ | refine JR_no rfl rfl rfl rfl ?_ | refine JR_noU rfl rfl rfl ?_) | (apply gJS; first | apply JS_seq | apply JS_region | apply JS_skip | apply JS_block | apply JS_inBlock | apply JS_label | refine JS_exit rfl ?_ | refine JS_condT rfl ?_ | refine JS_condF rfl ?_ | refine JS_draw [0] (by kernel_rfl) (by kernel_rfl) (by decide +kernel) ?_ | refine JS_draw [] (by kernel_rfl) (by kernel_rfl) (by decide +kernel) ?_ | refine JS_cond_T rfl (by omega) ?_ | refine JS_cond_F rfl (by omega) ?_) | (apply gQR; first | apply QR_un | apply QR_nil | refine QR_yes rfl rfl ?_ | refine QR_no rfl rfl rfl rfl ?_ | refine QR_noU rfl rfl rfl ?_) | (apply gQO; first | refine aQ ?_ | refine aQK rfl ?_)) | (apply gJO; first | (apply gJO; first | (apply kS; refine aK ?_) | (apply kX; refine JO_box rfl rfl rfl ?_; intro _) | (apply kA; refine JO_alloc (tb := tb) rfl rfl ?_; intro _) | (apply kBs; refine JO_buildSlice (tb := tb) rfl rfl rfl rfl rfl rfl rfl rfl rfl ?_; intro _) | (apply kM; refine JO_make (tb := tb) rfl rfl rfl rfl rfl rfl (by omega) rfl ?_; intro _) | refine aO ?_) | (apply gJR; first | apply JR_un | apply JR_nil | refine JR_yes rfl rfl ?_ | refine JR_no rfl rfl rfl rfl ?_ | refine JR_noU rfl rfl rfl ?_) | (apply gJS; first | apply JS_seq | apply JS_region | apply JS_skip | apply JS_block | apply JS_inBlock | apply JS_label | refine JS_exit rfl ?_ | refine JS_condT rfl ?_ | refine JS_condF rfl ?_ | refine JS_draw [0] (by kernel_rfl) (by kernel_rfl) (by decide +kernel) ?_ | refine JS_draw [] (by kernel_rfl) (by kernel_rfl) (by decide +kernel) ?_ | refine JS_cond_T rfl (by omega) ?_ | refine JS_cond_F rfl (by omega) ?_) | (apply gQR; first | apply QR_un | apply QR_nil | refine QR_yes rfl rfl ?_ | refine QR_no rfl rfl rfl rfl ?_ | refine QR_noU rfl rfl rfl ?_) | (apply gQO; first | refine aQ ?_ | refine aQK rfl ?_)) | apply JS_seq | apply JS_region | refine JS_condF rfl ?_ | refine JS_cond_F rfl (by omega) ?_ | apply JS_skip)
  refine JS_block ?_
  refine JS_loop1 (fun (k : Nat) => [(0, .pointer (some ⟨b, 0, none⟩)), (1, .pointer (some ⟨b2, 0, none⟩)), (6, .func (.func 56) #[.pointer (some ⟨b2, 0, none⟩)] #[]), (7, .int .i64 (2 * bval (bitB B2 n) k)), (8, .int .i64 (fc B (k + 1))), (9, .int .i64 (psum B (k + 1))), (10, .int .i64 (k + 1))])
    (fun k => blk b2 [.slice q m2 d, .int .i64 (n + k : Nat)] :: H)
    (fun k => k ≤ 15 ∧ n + k ≤ 8 * m2 ∧ fc B k + cn B k ≤ bval (bitB B2 n) k ∧ (k = 0 ∨ tk B = 32768)) (fun k => 15 - k) 0 ⟨by omega, by omega, by rw [fc_zero]; simp [cn, bval], .inl rfl⟩ (by exact ⟨rfl, rfl, rfl, rfl, lookI rfl (by rw [fc_succ, fc_zero]; simp [cn]), lookI rfl (by simp [psum, cn]), rfl, trivial⟩) (fun _ h => h) ?_
  intro k ⟨hk, hnk, hfv, hful⟩ again
  have hbits := bitB_01 B2 n
  have hv := bval_lt (bitB B2 n) hbits k
  have hp2 := p15 k hk
  have hfull15 : tk B = 32768 → k < 15 := by
    intro h
    rcases Nat.lt_or_ge k 15 with h1 | h1
    · exact h1
    · obtain rfl : k = 15 := by omega
      have := fc_tk B hB h15 B.length (Nat.le_refl _)
      rw [List.take_length] at this; omega
  have hk15 : k < 15 := by
    rcases hful with h | h
    · omega
    · exact hfull15 h
  have hr' : Rd w0 H (.slice q m2 d) m2 (ints .u8 B2) := hr
  repeat (first | (apply gJO; first | (apply kS; refine aK ?_) | (apply kX; refine JO_box rfl rfl rfl ?_; intro _) | (apply kA; refine JO_alloc (tb := tb) rfl rfl ?_; intro _) | (apply kBs; refine JO_buildSlice (tb := tb) rfl rfl rfl rfl rfl rfl rfl rfl rfl ?_; intro _) | (apply kM; refine JO_make (tb := tb) rfl rfl rfl rfl rfl rfl (by omega) rfl ?_; intro _) | refine aO ?_) | (apply gJR; first | apply JR_un | apply JR_nil | refine JR_yes rfl rfl ?_ | refine JR_no rfl rfl rfl rfl ?_ | refine JR_noU rfl rfl rfl ?_) | (apply gJS; first | apply JS_seq | apply JS_region | apply JS_skip | apply JS_block | apply JS_inBlock | apply JS_label | refine JS_exit rfl ?_ | refine JS_condT rfl ?_ | refine JS_condF rfl ?_ | refine JS_draw [0] (by kernel_rfl) (by kernel_rfl) (by decide +kernel) ?_ | refine JS_draw [] (by kernel_rfl) (by kernel_rfl) (by decide +kernel) ?_ | refine JS_cond_T rfl (by omega) ?_ | refine JS_cond_F rfl (by omega) ?_) | (apply gQR; first | apply QR_un | apply QR_nil | refine QR_yes rfl rfl ?_ | refine QR_no rfl rfl rfl rfl ?_ | refine QR_noU rfl rfl rfl ?_) | (apply gQO; first | refine aQ ?_ | refine aQK rfl ?_))
  refine JO_callv (us := [.pointer (some ⟨b2, 0, none⟩)]) (cs := []) rfl Try.call56 rfl rfl fun w hw => (Bit_c b2 q d m2 B2 hr hm2 hB2 hmx (n + k) hnk w hw).mono ?_
  rintro e1 w' ⟨x, r, rfl, hcase⟩
  rcases hcase with ⟨h1, rfl, rfl, hw'⟩ | ⟨h1, rfl, hx, hw'⟩
  · refine ⟨_, rfl, _, hw', ?_⟩
    clear hw' hw w w'
    repeat (first | (apply gJO; first | (apply kS; refine aK ?_) | (apply kX; refine JO_box rfl rfl rfl ?_; intro _) | (apply kA; refine JO_alloc (tb := tb) rfl rfl ?_; intro _) | (apply kBs; refine JO_buildSlice (tb := tb) rfl rfl rfl rfl rfl rfl rfl rfl rfl ?_; intro _) | (apply kM; refine JO_make (tb := tb) rfl rfl rfl rfl rfl rfl (by omega) rfl ?_; intro _) | refine aO ?_) | (apply gJR; first | apply JR_un | apply JR_nil | refine JR_yes rfl rfl ?_ | refine JR_no rfl rfl rfl rfl ?_ | refine JR_noU rfl rfl rfl ?_) | (apply gJS; first | apply JS_seq | apply JS_region | apply JS_skip | apply JS_block | apply JS_inBlock | apply JS_label | refine JS_exit rfl ?_ | refine JS_condT rfl ?_ | refine JS_condF rfl ?_ | refine JS_draw [0] (by kernel_rfl) (by kernel_rfl) (by decide +kernel) ?_ | refine JS_draw [] (by kernel_rfl) (by kernel_rfl) (by decide +kernel) ?_ | refine JS_cond_T rfl (by omega) ?_ | refine JS_cond_F rfl (by omega) ?_) | (apply gQR; first | apply QR_un | apply QR_nil | refine QR_yes rfl rfl ?_ | refine QR_no rfl rfl rfl rfl ?_ | refine QR_noU rfl rfl rfl ?_) | (apply gQO; first | refine aQ ?_ | refine aQK rfl ?_))
    refine JS_ret Try.func18 rfl rfl ?_
    intro w hw
    refine ⟨0, k, 20, rfl, hw, hnk, .inr ⟨?_, rfl, ?_⟩⟩
    · rw [show 8 * m2 - n = k by omega]
      exact no_dec B hB h15 hF _ hbits k hfv
    · rcases hful with h | h
      · subst h
        by_cases ht : tk B = 32768
        · exact .inr (.inl ⟨h0, ht, by omega, rfl⟩)
        · exact .inr (.inr ⟨h0, ht, .inl ⟨by omega, rfl, rfl⟩⟩)
      · exact .inr (.inl ⟨h0, h, by omega, rfl⟩)
  · refine ⟨_, rfl, _, hw', ?_⟩
    clear hw' hw w w'
    rw [← val_b] at hx
    subst hx
    have hvk : bval (bitB B2 n) (k + 1) = 2 * bval (bitB B2 n) k + bitB B2 n k := rfl
    have hb1 := hbits k
    have hor := or_even (a := 2 * bval (bitB B2 n) k) (x := bitB B2 n k) (by omega) (by omega) hb1
    rw [← hvk] at hor
    have hcn0 := cn_nonneg B (k + 1)
    have hfcb := fc_bd B hB h15 hF (k + 1) (by omega)
    have hfc0 := fc_nn B (k + 1)
    have hp3 := p15 (k + 1) (by omega)
    have hfk := fc_succ B k
    have hge : fc B (k + 1) ≤ bval (bitB B2 n) (k + 1) := by omega
    have hv2 := bval_lt (bitB B2 n) hbits (k + 1)
    have hs2 : blk b (setCells u (cn B) (.slice s (syA B 15).length e) (decide (tk B = 32768))) ∈ blk b2 [.slice q m2 d, .int .i64 (n + k + 1 : Nat)] :: H := List.Mem.tail _ hs
    have hidx : ∀ {v : Value}, nth (setCells u (cn B) (.slice s (syA B 15).length e) (decide (tk B = 32768))) (1 + ((k : Int) + 1).toNat * 1) = some v ↔ v = .int .i64 (cn B (k + 1)) := by
      intro v
      rw [show 1 + ((k : Int) + 1).toNat * 1 = 1 + (k + 1) by omega, set_nth (by omega)]
      exact ⟨fun h => (Option.some.inj h).symm, fun h => by rw [h]⟩
    have hnth := hidx.2 rfl
    have hps0 : 0 ≤ psum B (k + 1) := by
      have := psum_mono B 0 (k + 1)
      rw [Nat.zero_add] at this
      exact this
    have hps1 : psum B (k + 1) + cn B (k + 1) ≤ (syA B 15).length := by
      have h1 := psum_syA B hB 15
      have h2 := psum_mono B (k + 2) (16 - (k + 2))
      rw [show k + 2 + (16 - (k + 2)) = 16 by omega] at h2
      have : psum B (k + 2) = psum B (k + 1) + cn B (k + 1) := rfl
      have : psum B (15 + 1) = psum B 16 := rfl
      omega
    have hsL := syA_len B 15
    by_cases hlt : bval (bitB B2 n) (k + 1) - fc B (k + 1) < cn B (k + 1)
    · obtain ⟨kk, hkk⟩ := Int.eq_ofNat_of_zero_le (show 0 ≤ bval (bitB B2 n) (k + 1) - fc B (k + 1) by omega)
      rw [hkk] at hlt
      obtain ⟨i, g1, g2, g3, g4, g5⟩ := sym_at B hB h15 hF (k + 1) (by omega) (by omega) kk hlt
      have hi64 : IntKind.i64.wrap (bval (bitB B2 n) (k + 1) - fc B (k + 1)) = (kk : Int) := by rw [hkk]; exact wi64 (by omega)
      have gs : (ints .i64 (syA B 15))[(psum B (k + 1) + (kk : Int)).toNat]? = some (.int .i64 (i : Int)) := by rw [← g2]; exact ints_get (by omega)
      have hrs' : Rd w0 (blk b2 [.slice q m2 d, .int .i64 (n + k + 1 : Nat)] :: H) (.slice s (syA B 15).length e) (syA B 15).length (ints .i64 (syA B 15)) := Rd_weak hrs fun w hw => St.sub (by repeat (first | exact List.Sublist.refl _ | apply List.Sublist.cons_cons | apply List.Sublist.cons)) hw
      clear hidx
      repeat (first | (apply gJO; first | refine JO_v (V_or rfl rfl hor rfl) ?_ | refine JO_v (V_sub rfl rfl hi64 rfl) ?_ | refine JO_v (V_load (tb := tb) rfl hs2 rfl rfl hnth rfl) ?_ | refine JO_v (V_load (tb := tb) rfl hs2 rfl rfl rfl rfl) ?_ | refine JO_v (V_index (tb := tb) rfl rfl rfl rfl (Rd.sl hrs') (by omega) (Nat.mul_one _) rfl) ?_ | refine JO_v (V_loadC (tb := tb) rfl hrs' rfl rfl gs rfl) ?_) | (first | (apply gJO; first | (apply kS; refine aK ?_) | (apply kX; refine JO_box rfl rfl rfl ?_; intro _) | (apply kA; refine JO_alloc (tb := tb) rfl rfl ?_; intro _) | (apply kBs; refine JO_buildSlice (tb := tb) rfl rfl rfl rfl rfl rfl rfl rfl rfl ?_; intro _) | (apply kM; refine JO_make (tb := tb) rfl rfl rfl rfl rfl rfl (by omega) rfl ?_; intro _) | refine aO ?_) | (apply gJR; first | apply JR_un | apply JR_nil | refine JR_yes rfl rfl ?_ | refine JR_no rfl rfl rfl rfl ?_ | refine JR_noU rfl rfl rfl ?_) | (apply gJS; first | apply JS_seq | apply JS_region | apply JS_skip | apply JS_block | apply JS_inBlock | apply JS_label | refine JS_exit rfl ?_ | refine JS_condT rfl ?_ | refine JS_condF rfl ?_ | refine JS_draw [0] (by kernel_rfl) (by kernel_rfl) (by decide +kernel) ?_ | refine JS_draw [] (by kernel_rfl) (by kernel_rfl) (by decide +kernel) ?_ | refine JS_cond_T rfl (by omega) ?_ | refine JS_cond_F rfl (by omega) ?_) | (apply gQR; first | apply QR_un | apply QR_nil | refine QR_yes rfl rfl ?_ | refine QR_no rfl rfl rfl rfl ?_ | refine QR_noU rfl rfl rfl ?_) | (apply gQO; first | refine aQ ?_ | refine aQK rfl ?_)))
      refine JS_ret Try.func18 rfl rfl ?_
      intro w hw
      exact ⟨i, k + 1, 0, rfl, hw, by omega, .inl ⟨i, rfl, rfl, ⟨k + 1, g3, by omega, g4, by omega, by omega⟩, g4⟩⟩
    · by_cases hfl : tk B = 32768
      · have hk14 : k < 14 := by
          rcases Nat.lt_or_ge k 14 with h1 | h1
          · exact h1
          · obtain rfl : k = 14 := by omega
            have := fc_tk B hB h15 B.length (Nat.le_refl _)
            rw [List.take_length] at this
            have : (2 : Int) ^ (14 + 1) = 32768 := by decide
            simp only [Nat.reduceAdd] at hfcb hlt hge hv2 this
            omega
        have hfl' : decide (tk B = 32768) = true := decide_eq_true hfl
        have hf2 := fc_succ B (k + 1)
        have hp4 : psum B (k + 1 + 1) = psum B (k + 1) + cn B (k + 1) := rfl
        rw [hfl'] at hs2
        clear hidx
        rw [hfl'] at hnth
        repeat (first | (apply gJO; first | refine JO_v (V_or rfl rfl hor rfl) ?_ | refine JO_v (V_load (tb := tb) rfl hs2 rfl rfl hnth rfl) ?_ | refine JO_v (V_load (tb := tb) rfl hs2 rfl rfl rfl rfl) ?_) | (first | (apply gJO; first | (apply kS; refine aK ?_) | (apply kX; refine JO_box rfl rfl rfl ?_; intro _) | (apply kA; refine JO_alloc (tb := tb) rfl rfl ?_; intro _) | (apply kBs; refine JO_buildSlice (tb := tb) rfl rfl rfl rfl rfl rfl rfl rfl rfl ?_; intro _) | (apply kM; refine JO_make (tb := tb) rfl rfl rfl rfl rfl rfl (by omega) rfl ?_; intro _) | refine aO ?_) | (apply gJR; first | apply JR_un | apply JR_nil | refine JR_yes rfl rfl ?_ | refine JR_no rfl rfl rfl rfl ?_ | refine JR_noU rfl rfl rfl ?_) | (apply gJS; first | apply JS_seq | apply JS_region | apply JS_skip | apply JS_block | apply JS_inBlock | apply JS_label | refine JS_exit rfl ?_ | refine JS_condT rfl ?_ | refine JS_condF rfl ?_ | refine JS_draw [0] (by kernel_rfl) (by kernel_rfl) (by decide +kernel) ?_ | refine JS_draw [] (by kernel_rfl) (by kernel_rfl) (by decide +kernel) ?_ | refine JS_cond_T rfl (by omega) ?_ | refine JS_cond_F rfl (by omega) ?_) | (apply gQR; first | apply QR_un | apply QR_nil | refine QR_yes rfl rfl ?_ | refine QR_no rfl rfl rfl rfl ?_ | refine QR_noU rfl rfl rfl ?_) | (apply gQO; first | refine aQ ?_ | refine aQK rfl ?_)))
        refine JS_again1 again (k + 1) ⟨by omega, by omega, by omega, .inr hfl⟩ (by omega) (by repeat (first | exact trivial | refine ⟨rfl, ?_⟩ | refine ⟨lookI rfl (by omega), ?_⟩)) (fun w hw => hw)
      · obtain rfl : k = 0 := by rcases hful with h | h <;> first | exact h | exact absurd h hfl
        have hfl' : decide (tk B = 32768) = false := decide_eq_false hfl
        rw [hfl'] at hs2
        clear hidx
        rw [hfl'] at hnth
        repeat (first | (apply gJO; first | refine JO_v (V_or rfl rfl hor rfl) ?_ | refine JO_v (V_load (tb := tb) rfl hs2 rfl rfl hnth rfl) ?_ | refine JO_v (V_load (tb := tb) rfl hs2 rfl rfl rfl rfl) ?_) | (first | (apply gJO; first | (apply kS; refine aK ?_) | (apply kX; refine JO_box rfl rfl rfl ?_; intro _) | (apply kA; refine JO_alloc (tb := tb) rfl rfl ?_; intro _) | (apply kBs; refine JO_buildSlice (tb := tb) rfl rfl rfl rfl rfl rfl rfl rfl rfl ?_; intro _) | (apply kM; refine JO_make (tb := tb) rfl rfl rfl rfl rfl rfl (by omega) rfl ?_; intro _) | refine aO ?_) | (apply gJR; first | apply JR_un | apply JR_nil | refine JR_yes rfl rfl ?_ | refine JR_no rfl rfl rfl rfl ?_ | refine JR_noU rfl rfl rfl ?_) | (apply gJS; first | apply JS_seq | apply JS_region | apply JS_skip | apply JS_block | apply JS_inBlock | apply JS_label | refine JS_exit rfl ?_ | refine JS_condT rfl ?_ | refine JS_condF rfl ?_ | refine JS_draw [0] (by kernel_rfl) (by kernel_rfl) (by decide +kernel) ?_ | refine JS_draw [] (by kernel_rfl) (by kernel_rfl) (by decide +kernel) ?_ | refine JS_cond_T rfl (by omega) ?_ | refine JS_cond_F rfl (by omega) ?_) | (apply gQR; first | apply QR_un | apply QR_nil | refine QR_yes rfl rfl ?_ | refine QR_no rfl rfl rfl rfl ?_ | refine QR_noU rfl rfl rfl ?_) | (apply gQO; first | refine aQ ?_ | refine aQK rfl ?_)))
        refine JS_ret Try.func18 rfl rfl ?_
        intro w hw
        refine ⟨0, 1, 62, rfl, hw, by omega, .inr ⟨?_, rfl, .inr (.inr ⟨h0, hfl, .inr ⟨by omega, rfl, rfl⟩⟩)⟩⟩
        intro j
        rintro ⟨n', hi, hn0, hn', hnl, hv'⟩
        have h15j := h15 j
        obtain ⟨c1, c2⟩ := cd_eq B hB h15 hF j n' hi hn0 hn'
        have hz := cn_nonneg (B.take j) n'
        by_cases h2 : 2 ≤ n'
        · have := FINE_lone B hB h15 hF hfl h0 n' h2 (by omega); omega
        · obtain rfl : n' = 1 := by omega
          have : bval (bitB B2 n) (0 + 1) = bval (bitB B2 n) 1 := rfl
          have : fc B (0 + 1) = fc B 1 := rfl
          have : cn B (0 + 1) = cn B 1 := rfl
          omega
end Go.Proofs.Ytjgjppgocheklaa
