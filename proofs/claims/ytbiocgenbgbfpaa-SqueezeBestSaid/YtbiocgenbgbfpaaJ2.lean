import Derived.WalkKit
import Derived.ProofKit
import Derived.OpenShut
import Derived.ChangeSlices
import Derived.Test.YtbiocgenbgbfpaaJ1
namespace Go.Proofs.Ytbiocgenbgbfpaa
open Sx Go Pm
set_option linter.unusedVariables false
set_option linter.unusedSimpArgs false
theorem pw15b (L : Nat) (h : L ≤ 15) : (1 : Int) ≤ 2 ^ L ∧ (2 : Int) ^ L ≤ 32768 ∧ ((2 ^ L : Nat) : Int) = 2 ^ L := by
  have : ∀ k : Fin 16, (1 : Int) ≤ 2 ^ k.val ∧ (2 : Int) ^ k.val ≤ 32768 ∧ ((2 ^ k.val : Nat) : Int) = 2 ^ k.val := by decide +kernel
  exact this ⟨L, by omega⟩
theorem take_sg {D : Nat → T} {n : Nat} {l : List T} (h : sg D 0 n = l) {i : Nat} (hi : i < n) : l.take (i + 1) = l.take i ++ [D i] := by
  have hl : l.length = n := by rw [← h, sg_len]
  rw [List.take_succ_eq_append_getElem (by omega)]
  have := sg_get D n 0 i hi
  rw [h, List.getElem?_eq_getElem (by omega)] at this
  simp at this
  rw [this]
section
variable {w0 : World} {H : List Asn}
set_option maxHeartbeats 4000000 in
/-- the lengths of symbols -/
theorem Lengths_c (p : Option Addr) (c n : Nat) (W : List Nat) (hr : Rd w0 H (.slice p n c) n (ints .u64 (nats W))) (hn : W.length = n) (hn1 : n ≤ 140737488355328) (hW : ∀ j, W.getD j 0 < 18446744073709551616) (L : Int) (w : World) (hw : St w0 H w) :
    Calls Try.prog 14 #[.slice p n c, .int .i64 L] w fun e w' => (¬ AskOK W L ∧ e = .returned (.tuple #[.slice none 0 0, .int .i64 1]) ∧ St w0 H w') ∨
      (AskOK W L ∧ ∃ (q : Option Addr) (d : Nat), e = .returned (.tuple #[.slice q n d, .int .i64 0]) ∧ St w0 (vec 5 1 (.slice q n d) n (ints .u8 (tab n fun s => (LL W L.toNat s : Nat))) :: H) w') := by
  refine enter (vs := [.slice p n c, .int .i64 L]) Try.func14 rfl rfl rfl hw ?_
  clear hw w
  by_cases h1 : 320 < n
  · repeat (first | (refine sx ?_; try intro _))
    refine JS_ret Try.func14 rfl rfl ?_
    intro w hw
    exact .inl ⟨fun h => by have := h.1; omega, rfl, hw⟩
  by_cases h2 : L < 1
  · repeat (first | (refine sx ?_; try intro _))
    refine JS_ret Try.func14 rfl rfl ?_
    intro w hw
    exact .inl ⟨fun h => by have := h.2.1; omega, rfl, hw⟩
  by_cases h3 : 15 < L
  · repeat (first | (refine sx ?_; try intro _))
    refine JS_ret Try.func14 rfl rfl ?_
    intro w hw
    exact .inl ⟨fun h => by have := h.2.2.1; omega, rfl, hw⟩
  obtain ⟨L, rfl⟩ := Int.eq_ofNat_of_zero_le (show 0 ≤ L by omega)
  obtain ⟨pw1, pw2, pw3⟩ := pw15b L (by omega)
  repeat (first | (refine sx ?_; try intro _))
  refine JO_call Try.call30 rfl rfl fun w hw => (Symbols_c p c n W hr hn (by omega) hW w hw).mono ?_
  rintro e w' (⟨hs, rfl, hw'⟩ | ⟨hs, PK, D, q, d, rfl, hw', hRp, hsg⟩)
  · refine ⟨_, rfl, _, hw', ?_⟩
    clear hw' hw w w'
    repeat (first | (refine sx ?_; try intro _))
    refine JS_ret Try.func14 rfl rfl ?_
    intro w hw
    exact .inl ⟨fun h => by have := h.2.2.2.1; omega, rfl, hw⟩
  refine ⟨_, rfl, _, hw', ?_⟩
  clear hw' hw w w'
  have hlen1 : (oneW W).length ≤ n := by rw [oneW_len, ← hn]; exact lvf_len_le _ _
  have hsh : min ((L : Int)).toNat IntKind.i64.bits = L := by show min _ 64 = _; omega
  have hwr : IntKind.i64.wrap (1 * 2 ^ L) = ((2 ^ L : Nat) : Int) := by rw [Int.one_mul, pw3]; exact wi64 (by omega)
  by_cases h4 : 2 ^ L < (oneW W).length
  · have h4' : ((2 ^ L : Nat) : Int) < ((oneW W).length : Int) := by omega
    repeat (first | (apply gJO; refine JO_v (V_shl (m := L) rfl rfl (by omega) hsh hwr rfl) ?_) | (first | (refine sx ?_; try intro _)))
    refine JS_ret Try.func14 rfl rfl ?_
    intro w hw
    refine .inl ⟨fun h => by have := h.2.2.2.2; rw [Int.toNat_natCast] at this; omega, rfl, St.sub ((List.sublist_append_right _ _).cons _) hw⟩
  have hA : AskOK W L := ⟨by omega, by omega, by omega, hs, by rw [Int.toNat_natCast]; omega⟩
  have h4' : ¬ ((2 ^ L : Nat) : Int) < ((oneW W).length : Int) := by omega
  have hb2 : (oneW W).length ≤ 2 ^ L := by omega
  have hL1 : 1 ≤ L := by omega
  have hfin : ∀ (q2 : Option Addr) (d2 : Nat) (f : Nat → Int) (HH : List Asn), H.Sublist HH → (∀ s, s < n → f s = (LL W L s : Nat)) → ∀ w, St w0 (vec 5 1 (.slice q2 n d2) n (ints .u8 (tab n f)) :: HH) w →
      St w0 (vec 5 1 (.slice q2 n d2) n (ints .u8 (tab n fun s => (LL W ((L : Int)).toNat s : Nat))) :: H) w := fun q2 d2 f HH hsub hf w hw => by
    rw [Int.toNat_natCast, ← tab_congr hf]
    exact St.sub (hsub.cons_cons _) hw
  have hbd : ∀ s, s < n → LL W L s ≤ L := fun s hs => (LL_bd hL1 hb2 (by omega)).1
  repeat ((fail_if_success (refine gIdR 7 ?_)); first | (apply gJO; refine JO_v (V_shl (m := L) rfl rfl (by omega) hsh hwr rfl) ?_) | (first | (refine sx ?_; try intro _)))
  rename_i pl
  rw [Int.toNat_natCast n, ints_rep, tab_const]
  obtain ⟨m, hm⟩ : ∃ m, (oneW W).length = m := ⟨_, rfl⟩
  rw [hm] at hRp hsg h4 h4' hlen1 hb2 ⊢
  clear h4 h4' hwr hsh
  match m, hm with
  | 0, hm =>
    repeat (first | (refine sx ?_; try intro _))
    refine JS_ret Try.func14 rfl rfl ?_
    intro w hw
    exact .inr ⟨hA, some pl, n, rfl, hfin _ _ _ _ ((List.sublist_append_right _ _).cons _) (fun s hs => by rw [LL_zero s hm]; rfl) w hw⟩
  | 1, hm =>
    obtain ⟨s, hsn, h1w, _⟩ := one_leaf hm
    have hD : (D 0).2 = .leaf (W.getD s 0) s := by
      rw [h1w] at hsg
      simpa [sg] using hsg
    have hR0 := hRp 0 (by omega)
    rw [hD] at hR0
    have hR0' : blk (D 0).1 [.int .u64 (W.getD s 0 : Nat), .int .i64 s, .pointer none, .pointer none] ∈ PK ++ H := List.mem_append_left _ hR0
    have m1 := List.mem_cons_of_mem (vec 5 1 (.slice (some pl) n n) n (ints .u8 (tab n fun _ => 0))) (List.mem_cons_of_mem (vec 55 1 (.slice q 1 d) 1 (vals encP D 1)) hR0')
    have hlen := tab_len n fun _ => 0
    have hsn' : s < n := by omega
    repeat (first | (apply gJO; first | refine JO_v (V_load (tb := tb) rfl m1 rfl rfl rfl rfl) ?_ | refine JO_v (V_loadC (tb := tb) (v := encP (D 0)) rfl (vec_rd (List.Mem.tail _ (List.Mem.head _))) rfl rfl (vals_get encP (show 0 < 1 by omega)) rfl) ?_) | (first | (refine sx ?_; try intro _)))
    refine JS_ret Try.func14 rfl rfl ?_
    intro w hw
    rw [tab_set] at hw
    refine .inr ⟨hA, some pl, n, rfl, hfin _ _ _ _ ((List.sublist_append_right _ _).cons _) (fun j hj => ?_) w hw⟩
    rw [LL_one j hm, sc_leaf h1w]
    by_cases e : j = s
    · subst e; rw [if_pos rfl, if_pos rfl]; rfl
    · rw [if_neg e, if_neg (Ne.symm e)]; rfl
  | m + 2, hm =>
    repeat (first | (apply gJR; first | (refine sx ?_; try intro _)) | (apply gJO; first | (refine sx ?_; try intro _)) | apply JS_seq | apply JS_region | apply JS_skip | (apply gJS; refine JS_condT rfl ?_) | (apply gJS; refine JS_condF rfl ?_) | (apply gJS; refine JS_cond_T rfl (by omega) ?_) | (apply gJS; refine JS_cond_F rfl (by omega) ?_))
    have hs' := oneW_srt W
    have hM2 : 2 ≤ (oneW W).length := by omega
    obtain ⟨M, hMe⟩ : ∃ M, m + 2 = M := ⟨_, rfl⟩
    rw [hMe] at hm hb2 hlen1 hsg hRp ⊢
    have hl0 : (lev (oneW W) 0).length = M := hm
    have hle2 : ∀ k, (lev (oneW W) k).length ≤ 2 * M := fun k => by
      induction k with
      | zero => omega
      | succ k ih => rw [lev_len hs' k, hm]; omega
    have hcn0 : ∀ k, ∀ y ∈ lev (oneW W) k, ∀ s, n ≤ s → cn s y = 0 := fun k y hy s hs => lev_cn hs' (fun y hy => by
      obtain ⟨j, hj, rfl, _⟩ := oneW_mem hy
      show (if j = s then 1 else 0) = 0
      rw [if_neg (by omega)]) k y hy
    have hwt0 : ∀ k, k ≤ 14 → ∀ y ∈ lev (oneW W) k, wt y ≤ 4611686018427387904 := fun k hk y hy => by
      have a1 := lev_wt hs' (B := 4294967296) (fun y hy => Nat.le_trans (sum_wt W 0 y ((oneW_perm W).mem_iff.1 hy)) hs) k y hy
      have a2 : 2 ^ k ≤ 2 ^ 14 := Nat.pow_le_pow_right (by omega) hk
      omega
    refine JS_block ?_
    refine JS_loop5 (fun (k : Nat) (Hk : List Asn) (E : Nat → Nat × T) (qk : Option Addr) (dk : Nat) => [(6, .slice q M d), (8, .slice (some pl) n n), (9, .slice qk (lev (oneW W) k).length dk), (57, .int .i64 (L - 1 : Nat)), (58, .int .i64 k)])
      (fun k Hk E qk dk => vec 5 1 (.slice (some pl) n n) n (ints .u8 (tab n fun _ => 0)) :: Hk)
      (fun k Hk E qk dk => k ≤ L - 1 ∧ H.Sublist Hk ∧ vec 55 1 (.slice q M d) M (vals encP D M) ∈ Hk ∧ vec 55 1 (.slice qk (lev (oneW W) k).length dk) (lev (oneW W) k).length (vals encP E (lev (oneW W) k).length) ∈ Hk ∧
        (∀ j, j < M → Rp Hk (D j).1 (D j).2) ∧ (∀ j, j < (lev (oneW W) k).length → Rp Hk (E j).1 (E j).2) ∧ sg (fun j => (E j).2) 0 (lev (oneW W) k).length = lev (oneW W) k) (fun k _ _ _ _ => L - k)
      0 (vec 55 1 (.slice q M d) M (vals encP D M) :: (PK ++ H)) D q d
      ⟨Nat.zero_le _, (List.sublist_append_right _ _).cons _, List.Mem.head _, by rw [hl0]; exact List.Mem.head _, fun j hj => (hRp j hj).sub fun a ha => List.Mem.tail _ (List.mem_append_left _ ha), fun j hj => (hRp j (by omega)).sub fun a ha => List.Mem.tail _ (List.mem_append_left _ ha), by rw [hl0]; exact hsg⟩
      ⟨rfl, rfl, by rw [hl0]; rfl, lookI rfl (by omega), rfl, trivial⟩ (fun w hw => hw) ?_
    intro k Hk E qk dk ⟨j1, j2, j3, j4, j5, j6, j7⟩ again
    by_cases hlt : k < L - 1
    · have hl1 : (lev (oneW W) (k + 1)).length = M + (lev (oneW W) k).length / 2 := by rw [lev_len hs' k, hm]
      have h2k := hle2 k
      repeat (first | (refine sx ?_; try intro _))
      refine JO_call Try.call31 rfl rfl fun w hw => (Merged_c (K := Hk) (fun a ha => List.Mem.tail _ ha) q qk d dk M _ D E (vec_rd (List.Mem.tail _ j3)) (vec_rd (List.Mem.tail _ j4)) (Rd.nil (vec_rd (List.Mem.tail _ j3)) hw) (by omega) (by omega) j5 j6 (fun i hi => hwt0 k (by omega) _ (by rw [← j7]; have := sg_in (fun j => (E j).2) (a := 0) hi; rwa [Nat.zero_add] at this)) w hw).mono ?_
      rintro e w' ⟨PK2, E2, q2, d2, rfl, hw', g1, g2⟩
      refine ⟨_, rfl, _, hw', ?_⟩
      clear hw' hw w w'
      rw [j7, hsg, lev_next hs' k, ← hl1] at g2
      rw [← hl1] at g1 ⊢
      repeat (first | (refine sx ?_; try intro _))
      refine JS_again5 again (k + 1) (vec 55 1 (.slice q2 (lev (oneW W) (k + 1)).length d2) (lev (oneW W) (k + 1)).length (vals encP E2 (lev (oneW W) (k + 1)).length) :: (PK2 ++ Hk)) E2 q2 d2
        ⟨by omega, (j2.trans (List.sublist_append_right _ _)).cons _, List.Mem.tail _ (List.mem_append_right _ j3), List.Mem.head _, fun j hj => (j5 j hj).sub fun a ha => List.Mem.tail _ (List.mem_append_right _ ha), fun j hj => (g1 j hj).sub fun a ha => List.Mem.tail _ ha, g2⟩ (by omega) (by repeat (first | exact trivial | refine ⟨rfl, ?_⟩ | refine ⟨lookI rfl (by omega), ?_⟩)) (fun w hw => hw.perm (List.perm_middle (l₁ := vec 55 1 _ _ _ :: PK2)))
    · obtain rfl : k = L - 1 := by omega
      clear again hlt
      obtain ⟨hlong, _, _⟩ := lens (L := L) hL1 hM2 (by omega)
      rw [hm] at hlong
      have h2k := hle2 (L - 1)
      have hrd : Rd w0 Hk (.slice qk (lev (oneW W) (L - 1)).length dk) (lev (oneW W) (L - 1)).length (vals encP E (lev (oneW W) (L - 1)).length) := vec_rd j4
      have hrs := Rd_sub (lo := 0) (hi := 2 * M - 2) (sz := 1) hrd (Nat.zero_le _) hlong
      have hget : ∀ i, i < 2 * M - 2 → (((vals encP E (lev (oneW W) (L - 1)).length).drop (0 * 1)).take ((2 * M - 2 - 0) * 1))[i]? = some (encP (E i)) := fun i hi => by
        rw [List.getElem?_take, if_pos (by omega), List.getElem?_drop, Nat.zero_mul, Nat.zero_add]
        exact vals_get encP (by omega)
      generalize ((vals encP E (lev (oneW W) (L - 1)).length).drop (0 * 1)).take ((2 * M - 2 - 0) * 1) = cs2 at hrs hget
      have e1 : IntKind.i64.wrap (2 * (M : Int)) = ((2 * M : Nat) : Int) := (wi64 (by omega)).trans (by omega)
      have e2 : IntKind.i64.wrap (((2 * M : Nat) : Int) - 2) = ((2 * M - 2 : Nat) : Int) := (wi64 (by omega)).trans (by omega)
      repeat (first | (apply gJR; first | (refine sx ?_; try intro _)) | (apply gJO; first | refine JO_v (V_mul rfl rfl e1 rfl) ?_ | refine JO_v (V_sub rfl rfl e2 rfl) ?_ | refine JO_v (V_slice (tb := tb) (lo := 0) (hi := 2 * M - 2) rfl rfl rfl rfl rfl rfl rfl (fun w hw => ⟨Nat.zero_le _, Nat.le_trans hlong (Rd.capU hrd hw.drop)⟩) rfl) ?_ | first | (refine sx ?_; try intro _)) | apply JS_seq | apply JS_region | (apply gJS; refine JS_condF rfl ?_) | (apply gJS; refine JS_cond_F rfl (by omega) ?_) | (apply gJS; refine JS_exit rfl ?_))
      refine JS_block ?_
      rw [Nat.sub_zero] at hrs ⊢
      generalize Sx.subB qk 0 dk 1 = qs at hrs ⊢
      refine JS_loop1 (fun (i : Nat) => [(8, .slice (some pl) n n), (69, .slice qs (2 * M - 2) (dk - 0)), (70, .int .i64 (2 * M - 2 : Nat)), (71, .int .i64 i)])
        (fun i => vec 5 1 (.slice (some pl) n n) n (ints .u8 (tab n fun s => ((sc s ((lev (oneW W) (L - 1)).take i) : Nat) : Int) % 256)) :: Hk) (fun i => i ≤ 2 * M - 2) (fun i => 2 * M - i) 0 (Nat.zero_le _) (by repeat (first | exact trivial | refine ⟨rfl, ?_⟩ | refine ⟨lookI rfl (by omega), ?_⟩)) (fun w hw => by
          rw [tab_congr (g := fun _ => 0) fun s _ => by rw [List.take_zero]; rfl]; exact hw) ?_
      intro i hi again
      by_cases hlt : i < 2 * M - 2
      · have gi := hget i hlt
        repeat (first | (apply gJO; first | refine JO_v (V_loadC (tb := tb) rfl (Rd_weak hrs fun w hw => hw.drop) rfl rfl gi rfl) ?_ | refine JO_v (V_index (tb := tb) rfl rfl rfl rfl (Rd.sl (Rd_weak hrs fun w hw => hw.drop)) (by omega) (by (try simp only [tn, tna, tn1, tn2, tn3, tn4, tnd16, tnd8, Int.reduceToNat]); first | exact Nat.mul_one _ | exact rfl) rfl) ?_) | (first | (refine sx ?_; try intro _)))
        have hin : (E i).2 ∈ lev (oneW W) (L - 1) := by
          rw [← j7]
          have := sg_in (fun j => (E j).2) (a := 0) (show i < (lev (oneW W) (L - 1)).length by omega)
          rwa [Nat.zero_add] at this
        refine JO_call Try.call32 rfl rfl fun w hw => (Count_c (some pl) n n (by omega) (E i).2 (E i).1 _ (j6 i (by omega)) (hcn0 _ _ hin) (fun s => by omega) w hw).mono ?_
        rintro e w' ⟨rfl, hw'⟩
        refine ⟨_, rfl, _, hw', ?_⟩
        clear hw' hw w w'
        repeat (first | (refine sx ?_; try intro _))
        refine JS_again1 again (i + 1) (by omega) (by omega) (by repeat (first | exact trivial | refine ⟨rfl, ?_⟩ | refine ⟨lookI rfl (by omega), ?_⟩)) (fun w hw => ?_)
        rw [tab_congr (g := fun s => (((sc s ((lev (oneW W) (L - 1)).take i) : Nat) : Int) % 256 + cn s (E i).2) % 256) fun s _ => ?_]
        · exact hw
        · have ht := take_sg j7 (i := i) (by omega)
          rw [ht, sc_app]
          have : sc s [(E i).2] = cn s (E i).2 := by simp [sc]
          rw [this]
          omega
      · obtain rfl : i = 2 * M - 2 := by omega
        clear again
        repeat (first | (refine sx ?_; try intro _))
        refine JS_ret Try.func14 rfl rfl ?_
        intro w hw
        refine .inr ⟨hA, some pl, n, rfl, hfin _ _ _ _ j2 (fun s hs => ?_) w hw⟩
        have := hbd s hs
        rw [LL_two s hM2, hm] at this ⊢
        omega
end
end Go.Proofs.Ytbiocgenbgbfpaa

namespace Go.Proofs.Ytbiocgenbgbfpaa
open Sx Go
set_option linter.unusedVariables false
set_option linter.unusedSimpArgs false
/-- bytes -/
def OKB (B : List Int) : Prop := ∀ j, 0 ≤ B.getD j 0 ∧ B.getD j 0 < 256
theorem Big_c {w0 : World} {H : List Asn} (b : Int) (hb : 0 ≤ b ∧ b < 256) (w : World) (hw : St w0 H w) :
    Calls Try.prog 34 #[.int .u8 b] w fun e w' => e = .returned (.bool (decide (15 < b))) ∧ St w0 H w' := by
  refine enter (vs := [.int .u8 b]) Try.func34 rfl rfl rfl hw ?_
  repeat (first | (refine sy ?_; try intro _))
  refine JS_ret Try.func34 rfl rfl ?_
  intro w hw
  exact ⟨rfl, hw⟩
set_option maxHeartbeats 1000000 in
theorem Index_c {w0 : World} {H : List Asn} (p : Option Addr) (c m : Nat) (B : List Int) (hr : Rd w0 H (.slice p m c) m (ints .u8 B)) (hm : B.length = m) (hB : OKB B) (hm1 : m ≤ 4611686018427387904) (w : World) (hw : St w0 H w) :
    Calls Try.prog 56 #[.slice p m c, .func (.func 34) #[] #[]] w fun e w' => ∃ r, e = .returned (.int .i64 r) ∧ St w0 H w' ∧ ((r = -1 ∧ ∀ j, B.getD j 0 ≤ 15) ∨ (0 ≤ r ∧ ∃ j, 15 < B.getD j 0)) := by
  refine enter (vs := [.slice p m c, .func (.func 34) #[] #[]]) Try.func56 rfl rfl rfl hw ?_
  repeat (first | (apply gJR; first | (refine sx ?_; try intro _)) | (apply gJO; first | (refine sx ?_; try intro _)) | apply JS_seq | apply JS_region)
  refine JS_block ?_
  refine JS_loop1 (fun (i : Nat) => [(0, .slice p m c), (1, .func (.func 34) #[] #[]), (7, .int .i64 m), (8, .int .i64 i)]) (fun _ => H) (fun i => i ≤ m ∧ ∀ j, j < i → B.getD j 0 ≤ 15) (fun i => m - i) 0 ⟨by omega, fun j h => by omega⟩ (by repeat (first | exact trivial | refine ⟨rfl, ?_⟩ | refine ⟨lookI rfl (by omega), ?_⟩)) (fun _ h => h) ?_
  intro i ⟨hi, hall⟩ again
  by_cases him : i < m
  · have hb := hB i
    repeat (first | (refine sx ?_; try intro _))
    refine JO_callv (us := []) (cs := []) rfl Try.call34 rfl rfl fun w hw => (Big_c (B.getD i 0) hb w hw).mono ?_
    rintro e w' ⟨rfl, hw'⟩
    refine ⟨_, rfl, _, hw', ?_⟩
    clear hw' hw w w'
    by_cases h15 : 15 < B.getD i 0
    · rw [decide_eq_true h15]
      repeat (first | (refine sx ?_; try intro _))
      refine JS_ret Try.func56 rfl rfl ?_
      intro w hw
      exact ⟨_, rfl, hw, .inr ⟨by omega, i, h15⟩⟩
    · rw [decide_eq_false h15]
      repeat (first | (refine sx ?_; try intro _))
      exact JS_again1 again (i + 1) ⟨by omega, fun j hj => by
        rcases Nat.lt_or_ge j i with h | h
        · exact hall j h
        · obtain rfl : j = i := by omega
          omega⟩ (by omega) (by repeat (first | exact trivial | refine ⟨rfl, ?_⟩ | refine ⟨lookI rfl (by omega), ?_⟩)) (fun _ h => h)
  · repeat (first | (refine sx ?_; try intro _))
    refine JS_ret Try.func56 rfl rfl ?_
    intro w hw
    refine ⟨_, rfl, hw, .inl ⟨rfl, fun j => ?_⟩⟩
    rcases Nat.lt_or_ge j i with h | h
    · exact hall j h
    · rw [List.getD_eq_getElem?_getD, List.getElem?_eq_none (by omega)]; decide
set_option maxHeartbeats 1000000 in
theorem Contains_c {w0 : World} {H : List Asn} (p : Option Addr) (c m : Nat) (B : List Int) (hr : Rd w0 H (.slice p m c) m (ints .u8 B)) (hm : B.length = m) (hB : OKB B) (hm1 : m ≤ 4611686018427387904) (w : World) (hw : St w0 H w) :
    Calls Try.prog 33 #[.slice p m c, .func (.func 34) #[] #[]] w fun e w' => ∃ o, e = .returned (.bool o) ∧ St w0 H w' ∧ ((o = false ∧ ∀ j, B.getD j 0 ≤ 15) ∨ (o = true ∧ ∃ j, 15 < B.getD j 0)) := by
  refine enter (vs := [.slice p m c, .func (.func 34) #[] #[]]) Try.func33 rfl rfl rfl hw ?_
  repeat (first | (refine sx ?_; try intro _))
  refine JO_call Try.call56 rfl rfl fun w hw => (Index_c p c m B hr hm hB hm1 w hw).mono ?_
  rintro e w' ⟨r, rfl, hw', h⟩
  refine ⟨_, rfl, _, hw', ?_⟩
  clear hw' hw w w'
  rcases h with ⟨rfl, h⟩ | ⟨h0, h⟩
  · repeat (first | (refine sx ?_; try intro _))
    refine JS_ret Try.func33 rfl rfl ?_
    intro w hw
    exact ⟨_, rfl, hw, .inl ⟨rfl, h⟩⟩
  · repeat (first | (refine sx ?_; try intro _))
    refine JS_ret Try.func33 rfl rfl ?_
    intro w hw
    exact ⟨_, rfl, hw, .inr ⟨rfl, h⟩⟩
end Go.Proofs.Ytbiocgenbgbfpaa

namespace Go.Proofs.Ytbiocgenbgbfpaa
open Sx Go Pm
set_option linter.unusedVariables false
set_option linter.unusedSimpArgs false
/-! costs, and what may be asked -/
/-- a cost, one by one -/
def costN (W : List Nat) (g : Nat → Nat) (k : Nat) : Nat := rs k fun i => W.getD i 0 * g i
section
variable {w0 : World} {H : List Asn}
theorem mulu (x b : Nat) : IntKind.u64.wrap ((x : Int) * (b : Int)) = ((x * b % 18446744073709551616 : Nat) : Int) := by
  rw [mu64, ← Int.natCast_mul]; rfl
theorem addu (S y : Nat) : IntKind.u64.wrap (((S % 18446744073709551616 : Nat) : Int) + ((y % 18446744073709551616 : Nat) : Int)) = (((S + y) % 18446744073709551616 : Nat) : Int) := by
  rw [mu64]; omega
set_option maxHeartbeats 1000000 in
theorem SCost_c (p q : Option Addr) (c d n m : Nat) (W : List Nat) (B : List Int) (hr : Rd w0 H (.slice p n c) n (ints .u64 (nats W))) (hn : W.length = n) (hr2 : Rd w0 H (.slice q m d) m (ints .u8 B)) (hm : B.length = m) (hB : OKB B) (hn1 : n ≤ 140737488355328) (hm1 : m ≤ 140737488355328) (w : World) (hw : St w0 H w) :
    Calls Try.prog 18 #[.slice p n c, .slice q m d] w fun e w' => e = .returned (.int .u64 (costN W (fun i => (B.getD i 0).toNat) (min n m) % 18446744073709551616 : Nat)) ∧ St w0 H w' := by
  refine enter (vs := [.slice p n c, .slice q m d]) Try.func18 rfl rfl rfl hw ?_
  have hmin : min (n : Int) (m : Int) = ((min n m : Nat) : Int) := by omega
  repeat (first | (apply gJO; refine JO_v (oc_min (V_min rfl rfl hmin rfl)) ?_) | (apply gJR; first | (refine sx ?_; try intro _)) | (apply gJO; first | (refine sx ?_; try intro _)) | apply JS_seq | apply JS_region)
  refine JS_block ?_
  refine JS_loop1 (fun (i : Nat) => [(0, .slice p n c), (1, .slice q m d), (5, .int .u64 (costN W (fun i => (B.getD i 0).toNat) i % 18446744073709551616 : Nat)), (11, .int .i64 (min n m : Nat)), (12, .int .i64 i)]) (fun _ => H) (fun i => i ≤ min n m) (fun i => min n m - i) 0 (Nat.zero_le _) (by repeat (first | exact trivial | refine ⟨rfl, ?_⟩ | refine ⟨lookI rfl (by omega), ?_⟩)) (fun _ h => h) ?_
  intro i hi again
  by_cases hlt : i < min n m
  · have g1 := nats_get (W := W) (j := i) (by omega)
    have g2 : (ints .u8 B)[i]? = some (.int .u8 (B.getD i 0)) := ints_get (by omega)
    have hb := hB i
    have hS : costN W (fun i => (B.getD i 0).toNat) (i + 1) = costN W (fun i => (B.getD i 0).toNat) i + W.getD i 0 * (B.getD i 0).toNat := rfl
    generalize costN W (fun i => (B.getD i 0).toNat) i = S at *
    obtain ⟨b, hbb⟩ := Int.eq_ofNat_of_zero_le hb.1
    rw [hbb] at g2 hb hS
    rw [Int.toNat_natCast] at hS
    have c1 : IntKind.u64.wrap (b : Int) = (b : Int) := wu64 (by omega)
    have c2 := mulu (W.getD i 0) b
    have c3 := addu S (W.getD i 0 * b)
    repeat (first | (apply gQO; first | refine QO_v rfl (V_loadC (tb := tb) rfl hr rfl rfl g1 rfl) ?_ | refine QO_v rfl (V_loadC (tb := tb) rfl hr2 rfl rfl g2 rfl) ?_ | refine QO_v rfl (oCv (V_conv (tb := tb) rfl rfl rfl c1 rfl)) ?_ | refine QO_v rfl (V_mul rfl rfl c2 rfl) ?_ | refine QO_v rfl (V_add rfl rfl c3 rfl) ?_) | (first | (refine sx ?_; try intro _)))
    rw [← hS]
    exact JS_again1 again (i + 1) (by omega) (by omega) ⟨rfl, rfl, rfl, rfl, lookI rfl (by omega), trivial⟩ (fun w hw => hw)
  · obtain rfl : i = min n m := by omega
    clear again
    repeat (first | (refine sx ?_; try intro _))
    exact JS_ret Try.func18 rfl rfl fun w hw => ⟨rfl, hw⟩
set_option maxHeartbeats 1000000 in
theorem RCost_c (p q : Option Addr) (c d n m : Nat) (W : List Nat) (B : List Int) (hr : Rd w0 H (.slice p n c) n (ints .u64 (nats W))) (hn : W.length = n) (hr2 : Rd w0 H (.slice q m d) m (ints .u8 B)) (hm : B.length = m) (hB : OKB B) (hn1 : n ≤ 140737488355328) (hm1 : m ≤ 140737488355328) (w : World) (hw : St w0 H w) :
    Calls Try.prog 16 #[.slice p n c, .slice q m d] w fun e w' => e = .returned (.int .u64 (costN W (fun i => (B.getD i 0).toNat) (min n m) % 18446744073709551616 : Nat)) ∧ St w0 H w' := by
  refine enter (vs := [.slice p n c, .slice q m d]) Try.func16 rfl rfl rfl hw ?_
  repeat (first | (apply gJR; first | (refine sx ?_; try intro _)) | (apply gJO; first | (refine sx ?_; try intro _)) | apply JS_seq | apply JS_region)
  refine JS_block ?_
  refine JS_loop1 (fun (i : Nat) => [(0, .slice p n c), (1, .slice q m d), (5, .int .u64 (costN W (fun i => (B.getD i 0).toNat) i % 18446744073709551616 : Nat)), (6, .int .i64 i)]) (fun _ => H) (fun i => i ≤ min n m) (fun i => min n m - i) 0 (Nat.zero_le _) (by repeat (first | exact trivial | refine ⟨rfl, ?_⟩ | refine ⟨lookI rfl (by omega), ?_⟩)) (fun _ h => h) ?_
  intro i hi again
  by_cases hlt : i < m
  · by_cases hlt2 : i < n
    · have g1 := nats_get (W := W) (j := i) (by omega)
      have g2 : (ints .u8 B)[i]? = some (.int .u8 (B.getD i 0)) := ints_get (by omega)
      have hb := hB i
      have hS : costN W (fun i => (B.getD i 0).toNat) (i + 1) = costN W (fun i => (B.getD i 0).toNat) i + W.getD i 0 * (B.getD i 0).toNat := rfl
      generalize costN W (fun i => (B.getD i 0).toNat) i = S at *
      obtain ⟨b, hbb⟩ := Int.eq_ofNat_of_zero_le hb.1
      rw [hbb] at g2 hb hS
      rw [Int.toNat_natCast] at hS
      have c1 : IntKind.u64.wrap (b : Int) = (b : Int) := wu64 (by omega)
      have c2 := mulu (W.getD i 0) b
      have c3 := addu S (W.getD i 0 * b)
      repeat (first | (apply gQO; first | refine QO_v rfl (V_loadC (tb := tb) rfl hr rfl rfl g1 rfl) ?_ | refine QO_v rfl (V_loadC (tb := tb) rfl hr2 rfl rfl g2 rfl) ?_ | refine QO_v rfl (oCv (V_conv (tb := tb) rfl rfl rfl c1 rfl)) ?_ | refine QO_v rfl (V_mul rfl rfl c2 rfl) ?_ | refine QO_v rfl (V_add rfl rfl c3 rfl) ?_) | (first | (refine sx ?_; try intro _)))
      rw [← hS]
      exact JS_again1 again (i + 1) (by omega) (by omega) ⟨rfl, rfl, rfl, lookI rfl (by omega), trivial⟩ (fun w hw => hw)
    · have hmn : min n m = i := by omega
      clear again
      rw [hmn]
      repeat (first | (refine sx ?_; try intro _))
      exact JS_ret Try.func16 rfl rfl fun w hw => ⟨rfl, hw⟩
  · have hmn : min n m = i := by omega
    clear again
    rw [hmn]
    repeat (first | (refine sx ?_; try intro _))
    exact JS_ret Try.func16 rfl rfl fun w hw => ⟨rfl, hw⟩
end
end Go.Proofs.Ytbiocgenbgbfpaa

namespace Go.Proofs.Ytbiocgenbgbfpaa
open Sx Go Pm
set_option linter.unusedVariables false
set_option linter.unusedSimpArgs false
section
variable {w0 : World} {H : List Asn}
theorem sum_step (W : List Nat) {i : Nat} (h : i < W.length) : (W.take (i + 1)).sum = (W.take i).sum + W.getD i 0 := by
  rw [take_snoc W h, List.sum_append]; simp
theorem lvf_step (W : List Nat) {i : Nat} (h : i < W.length) : lvf 0 (W.take (i + 1)) = lvf 0 (W.take i) ++ (if 0 < W.getD i 0 then [.leaf (W.getD i 0) i] else []) := by
  rw [take_snoc W h, lvf_app, Nat.zero_add, show (W.take i).length = i by rw [List.length_take]; omega, lvf]
  split <;> rfl
set_option maxHeartbeats 2000000 in
/-- may lengths be asked for? -/
theorem Asked_c (p : Option Addr) (c n : Nat) (W : List Nat) (hr : Rd w0 H (.slice p n c) n (ints .u64 (nats W))) (hn : W.length = n) (hn1 : n ≤ 140737488355328) (hW : ∀ j, W.getD j 0 < 18446744073709551616) (L : Int) (w : World) (hw : St w0 H w) :
    Calls Try.prog 13 #[.slice p n c, .int .i64 L] w fun e w' => ∃ (s : Int) (o : Bool), e = .returned (.tuple #[.int .i64 s, .bool o]) ∧ (o = true ↔ AskOK W L) ∧ (o = true → s = ((oneW W).length : Nat)) ∧ St w0 H w' := by
  refine enter (vs := [.slice p n c, .int .i64 L]) Try.func13 rfl rfl rfl hw ?_
  clear hw w
  by_cases h1 : 320 < n
  · repeat (first | (refine sx ?_; try intro _))
    refine JS_ret Try.func13 rfl rfl fun w hw => ⟨0, false, rfl, ⟨fun h => (by cases h), fun h => by have := h.1; omega⟩, fun h => (by cases h), hw⟩
  by_cases h2 : L < 1
  · repeat (first | (refine sx ?_; try intro _))
    refine JS_ret Try.func13 rfl rfl fun w hw => ⟨0, false, rfl, ⟨fun h => (by cases h), fun h => by have := h.2.1; omega⟩, fun h => (by cases h), hw⟩
  by_cases h3 : 15 < L
  · repeat (first | (refine sx ?_; try intro _))
    refine JS_ret Try.func13 rfl rfl fun w hw => ⟨0, false, rfl, ⟨fun h => (by cases h), fun h => by have := h.2.2.1; omega⟩, fun h => (by cases h), hw⟩
  obtain ⟨L, rfl⟩ := Int.eq_ofNat_of_zero_le (show 0 ≤ L by omega)
  repeat (first | (apply gJR; first | (refine sx ?_; try intro _)) | (apply gJO; first | (refine sx ?_; try intro _)) | apply JS_seq | apply JS_region | apply JS_skip | (apply gJS; refine JS_condF rfl ?_) | (apply gJS; refine JS_cond_F rfl (by omega) ?_))
  refine JS_block ?_
  refine JS_loop1 (fun (i : Nat) => [(0, .slice p n c), (1, .int .i64 L), (6, .int .i64 (lvf 0 (W.take i)).length), (7, .int .u64 (W.take i).sum), (8, .int .i64 i)]) (fun _ => H) (fun i => i ≤ n ∧ (W.take i).sum ≤ 4294967296) (fun i => n - i) 0 ⟨Nat.zero_le _, by simp⟩ (by repeat (first | exact trivial | refine ⟨rfl, ?_⟩ | refine ⟨lookI rfl (by omega), ?_⟩)) (fun _ h => h) ?_
  intro i ⟨hi, hs⟩ again
  by_cases hlt : i < n
  · have g := nats_get (W := W) (j := i) (by omega)
    have hwi := hW i
    have s1 := sum_step W (i := i) (by omega)
    have s2 := lvf_step W (i := i) (by omega)
    have hle := sum_take_le W (i + 1)
    have hml : (lvf 0 (W.take i)).length ≤ i := Nat.le_trans (lvf_len_le _ _) (by rw [List.length_take]; omega)
    generalize W.getD i 0 = x at g hwi s1 s2
    have s3 := congrArg List.length s2
    rw [List.length_append] at s3
    generalize (lvf 0 (W.take i)).length = k at s3 hml ⊢
    generalize (W.take i).sum = S at s1 hs ⊢
    by_cases hbig : 4294967296 - S < x
    · repeat (first | (apply gJO; refine JO_v (V_loadC (tb := tb) rfl hr rfl rfl g rfl) ?_) | (first | (refine sx ?_; try intro _)))
      refine JS_ret Try.func13 rfl rfl fun w hw => ⟨0, false, rfl, ⟨fun h => (by cases h), fun h => by have := h.2.2.2.1; omega⟩, fun h => (by cases h), hw⟩
    · by_cases h0 : 0 < x
      · rw [if_pos h0] at s3
        simp only [List.length_singleton] at s3
        repeat (first | (apply gJO; refine JO_v (V_loadC (tb := tb) rfl hr rfl rfl g rfl) ?_) | (first | (refine sx ?_; try intro _)))
        exact JS_again1 again (i + 1) ⟨by omega, by omega⟩ (by omega) ⟨rfl, rfl, lookI rfl (by omega), lookI rfl (by omega), lookI rfl (by omega), trivial⟩ (fun w hw => hw)
      · rw [if_neg h0] at s3
        simp only [List.length_nil] at s3
        repeat (first | (apply gJO; refine JO_v (V_loadC (tb := tb) rfl hr rfl rfl g rfl) ?_) | (first | (refine sx ?_; try intro _)))
        exact JS_again1 again (i + 1) ⟨by omega, by omega⟩ (by omega) ⟨rfl, rfl, lookI rfl (by omega), lookI rfl (by omega), lookI rfl (by omega), trivial⟩ (fun w hw => hw)
  obtain rfl : i = n := by omega
  clear again
  have hWt : W.take i = W := List.take_of_length_le (by omega)
  have hml : (lvf 0 W).length ≤ i := hn ▸ lvf_len_le _ _
  rw [hWt] at hs ⊢
  rw [← oneW_len W] at hml ⊢
  repeat (first | (apply gJR; first | (refine sx ?_; try intro _)) | (apply gJO; first | (refine sx ?_; try intro _)) | apply JS_seq | apply JS_region | apply JS_skip | (apply gJS; refine JS_condF rfl ?_) | (apply gJS; refine JS_cond_F rfl (by omega) ?_) | (apply gJS; refine JS_exit rfl ?_))
  refine JS_block ?_
  refine JS_loop1 (fun (k : Nat) => [(1, .int .i64 L), (6, .int .i64 (oneW W).length), (9, .int .i64 (2 ^ k : Nat)), (10, .int .i64 k)]) (fun _ => H) (fun k => k ≤ L) (fun k => L - k) 0 (Nat.zero_le _) (by repeat (first | exact trivial | refine ⟨rfl, ?_⟩ | refine ⟨lookI rfl (by omega), ?_⟩)) (fun _ h => h) ?_
  intro k hk again
  by_cases hlt : k < L
  · obtain ⟨q1, q2, q3⟩ := pw15b k (by omega)
    have e1 : IntKind.i64.wrap (2 * ((2 ^ k : Nat) : Int)) = ((2 ^ (k + 1) : Nat) : Int) := by rw [Nat.pow_succ]; exact (wi64 (by omega)).trans (by omega)
    repeat (first | (apply gJO; refine JO_v (V_mul rfl rfl e1 rfl) ?_) | (first | (refine sx ?_; try intro _)))
    exact JS_again1 again (k + 1) (by omega) (by omega) ⟨rfl, rfl, rfl, lookI rfl (by omega), trivial⟩ (fun w hw => hw)
  · obtain rfl : k = L := by omega
    clear again
    by_cases h4 : (oneW W).length ≤ 2 ^ k
    · have h4' : ((oneW W).length : Int) ≤ ((2 ^ k : Nat) : Int) := by omega
      repeat (first | (refine sx ?_; try intro _))
      refine JS_ret Try.func13 rfl rfl fun w hw => ⟨_, true, rfl, ⟨fun _ => ⟨by omega, by omega, by omega, hs, by rw [Int.toNat_natCast]; exact h4⟩, fun _ => rfl⟩, fun _ => rfl, hw⟩
    · have h4' : ¬ ((oneW W).length : Int) ≤ ((2 ^ k : Nat) : Int) := by omega
      repeat (first | (refine sx ?_; try intro _))
      refine JS_ret Try.func13 rfl rfl fun w hw => ⟨_, false, rfl, ⟨fun h => (by cases h), fun h => absurd (by have := h.2.2.2.2; rwa [Int.toNat_natCast] at this) h4⟩, fun h => (by cases h), hw⟩
/-- may these lengths be? -/
def FitP (W : List Nat) (B : List Int) (L : Int) : Prop :=
  B.length = W.length ∧ (∀ s, s < W.length → B.getD s 0 ≤ L ∧ (0 < B.getD s 0 ↔ 0 < W.getD s 0)) ∧
  ((lvf 0 W).length = 0 ∨ ((lvf 0 W).length = 1 ∧ tkn W (fun s => (B.getD s 0).toNat) = 16384) ∨ (2 ≤ (lvf 0 W).length ∧ tkn W (fun s => (B.getD s 0).toNat) = 32768))
theorem tkn_step (W : List Nat) (g : Nat → Nat) {i : Nat} (h : i < W.length) : tkn (W.take (i + 1)) g = tkn (W.take i) g + (if 0 < W.getD i 0 then 32768 / 2 ^ g i else 0) := by
  unfold tkn
  rw [lvf_step W h, List.map_append, List.sum_append]
  congr 1
  split <;> simp [Pm.sy]
set_option maxHeartbeats 8000000 in
theorem SqFits_c (p q : Option Addr) (c d n m : Nat) (W : List Nat) (B : List Int) (hr : Rd w0 H (.slice p n c) n (ints .u64 (nats W))) (hn : W.length = n) (hr2 : Rd w0 H (.slice q m d) m (ints .u8 B)) (hm : B.length = m) (hB : OKB B) (hn1 : n ≤ 1000) (hW : ∀ j, W.getD j 0 < 18446744073709551616) (hm1 : m ≤ 140737488355328) (L : Int) (hL : -9223372036854775808 ≤ L ∧ L < 9223372036854775808) (w : World) (hw : St w0 H w) :
    Calls Try.prog 15 #[.slice p n c, .slice q m d, .int .i64 L] w fun e w' => ∃ o : Bool, e = .returned (.bool o) ∧ (o = true ↔ FitP W B L) ∧ St w0 H w' := by
  refine enter (vs := [.slice p n c, .slice q m d, .int .i64 L]) Try.func15 rfl rfl rfl hw ?_
  clear hw w
  by_cases hmn : m = n
  case neg =>
    repeat (first | (refine sx ?_; try intro _))
    exact JS_ret Try.func15 rfl rfl fun w hw => ⟨false, rfl, ⟨fun h => (by cases h), fun h => by have := h.1; omega⟩, hw⟩
  subst hmn
  repeat (first | (apply gJR; first | (refine sx ?_; try intro _)) | (apply gJO; first | (refine sx ?_; try intro _)) | apply JS_seq | apply JS_region | apply JS_skip | (apply gJS; refine JS_condF rfl ?_) | (apply gJS; refine JS_cond_F rfl (by omega) ?_))
  refine JS_block ?_
  have hlt1 : ∀ i, (lvf 0 (W.take i)).length ≤ i := fun i => Nat.le_trans (lvf_len_le _ _) (by rw [List.length_take]; omega)
  refine JS_loop1 (fun (i : Nat) => [(0, .slice p m c), (1, .slice q m d), (2, .int .i64 L), (7, .int .i64 (lvf 0 (W.take i)).length), (8, .int .i64 (tkn (W.take i) fun s => (B.getD s 0).toNat : Nat)), (9, .int .i64 i)]) (fun _ => H)
    (fun i => i ≤ m ∧ (∀ s, s < i → B.getD s 0 ≤ L ∧ (0 < B.getD s 0 ↔ 0 < W.getD s 0)) ∧ tkn (W.take i) (fun s => (B.getD s 0).toNat) ≤ 32768 * i) (fun i => m - i) 0 ⟨Nat.zero_le _, fun s h => absurd h (by omega), Nat.zero_le _⟩ (by repeat (first | exact trivial | refine ⟨rfl, ?_⟩ | refine ⟨lookI rfl (by omega), ?_⟩)) (fun _ h => h) ?_
  intro i ⟨hi, hok, htk⟩ again
  by_cases hlt : i < m
  · have g1 := nats_get (W := W) (j := i) (by omega)
    have g2 : (ints .u8 B)[i]? = some (.int .u8 (B.getD i 0)) := ints_get (by omega)
    have hb := hB i
    have hwi := hW i
    have bad : ¬ (B.getD i 0 ≤ L ∧ (0 < B.getD i 0 ↔ 0 < W.getD i 0)) → ¬ FitP W B L := fun hno h => hno (h.2.1 i (by omega))
    have s2 := lvf_step W (i := i) (by omega)
    have s3 := tkn_step W (fun s => (B.getD s 0).toNat) (i := i) (by omega)
    have s4 := congrArg List.length s2
    rw [List.length_append] at s4
    have hk1 := hlt1 i
    have nxt : (B.getD i 0 ≤ L ∧ (0 < B.getD i 0 ↔ 0 < W.getD i 0)) → ∀ s, s < i + 1 → B.getD s 0 ≤ L ∧ (0 < B.getD s 0 ↔ 0 < W.getD s 0) := fun h s hs => by
      by_cases e : s = i
      · subst e; exact h
      · exact hok s (by omega)
    obtain ⟨b, hbb⟩ := Int.eq_ofNat_of_zero_le hb.1
    rw [hbb] at g2 hb bad nxt
    simp only [hbb, Int.toNat_natCast] at s3
    obtain ⟨x, hx⟩ : ∃ x, W.getD i 0 = x := ⟨_, rfl⟩
    rw [hx] at g1 bad nxt s3 s4 hwi
    generalize (lvf 0 (W.take i)).length = k at s4 hk1 ⊢
    generalize tkn (W.take i) (fun s => (B.getD s 0).toNat) = t at s3 htk ⊢
    have c1 : IntKind.i64.wrap (b : Int) = (b : Int) := wi64 (by omega)
    by_cases hx0 : 0 < x
    · by_cases hb0 : 0 < b
      · by_cases hbL : L < (b : Int)
        · repeat (first | (apply gJO; first | refine JO_v (V_loadC (tb := tb) rfl hr rfl rfl g1 rfl) ?_ | refine JO_v (V_loadC (tb := tb) rfl hr2 rfl rfl g2 rfl) ?_ | refine JO_v (oCv (V_conv (tb := tb) rfl rfl rfl c1 rfl)) ?_) | (first | (refine sx ?_; try intro _)))
          exact JS_ret Try.func15 rfl rfl fun w hw => ⟨false, rfl, ⟨fun h => (by cases h), fun h => absurd h (bad (by omega))⟩, hw⟩
        · rw [if_pos hx0] at s3 s4
          simp only [List.length_singleton] at s4
          repeat (first | (apply gJO; first | refine JO_v (V_loadC (tb := tb) rfl hr rfl rfl g1 rfl) ?_ | refine JO_v (V_loadC (tb := tb) rfl hr2 rfl rfl g2 rfl) ?_ | refine JO_v (oCv (V_conv (tb := tb) rfl rfl rfl c1 rfl)) ?_) | (apply gJR; first | (refine sx ?_; try intro _)) | (apply gJO; first | (refine sx ?_; try intro _)) | apply JS_seq | apply JS_region | apply JS_skip | (apply gJS; refine JS_condF rfl ?_) | (apply gJS; refine JS_condT rfl ?_) | (apply gJS; refine JS_cond_F rfl (by omega) ?_) | (apply gJS; refine JS_cond_T rfl (by omega) ?_))
          refine JS_block ?_
          repeat (first | (apply gJO; first | refine JO_v (V_loadC (tb := tb) rfl hr rfl rfl g1 rfl) ?_ | refine JO_v (V_loadC (tb := tb) rfl hr2 rfl rfl g2 rfl) ?_ | refine JO_v (oCv (V_conv (tb := tb) rfl rfl rfl c1 rfl)) ?_) | (apply gJR; first | (refine sx ?_; try intro _)) | (apply gJO; first | (refine sx ?_; try intro _)) | apply JS_seq | apply JS_region | apply JS_skip | (apply gJS; refine JS_condF rfl ?_) | (apply gJS; refine JS_condT rfl ?_) | (apply gJS; refine JS_cond_F rfl (by omega) ?_) | (apply gJS; refine JS_cond_T rfl (by omega) ?_))
          refine JS_block ?_
          refine JS_loop1 (fun (j : Nat) => [(0, .slice p m c), (1, .slice q m d), (2, .int .i64 L), (7, .int .i64 (k + 1 : Nat)), (8, .int .i64 t), (9, .int .i64 i), (10, .int .i64 (32768 / 2 ^ j : Nat)), (11, .int .u8 j)]) (fun _ => H) (fun j => j ≤ b) (fun j => b - j) 0 (Nat.zero_le _) ⟨rfl, rfl, rfl, lookI rfl (by omega), rfl, rfl, rfl, rfl, trivial⟩ (fun _ h => h) ?_
          intro j hj again2
          by_cases hjb : j < b
          · have e1 : ((32768 / 2 ^ j : Nat) : Int) / 2 = ((32768 / 2 ^ (j + 1) : Nat) : Int) := by
              rw [Nat.pow_succ, ← Nat.div_div_eq_div_mul]; omega
            have hpos : (0 : Int) ≤ ((32768 / 2 ^ j : Nat) : Int) := Int.natCast_nonneg _
            have hpo2 : ((32768 / 2 ^ j : Nat) : Int) ≤ 32768 := by
              have hz := Nat.div_le_self 32768 (2 ^ j)
              generalize 32768 / 2 ^ j = z at hz ⊢
              omega
            generalize ((32768 / 2 ^ j : Nat) : Int) = v at e1 hpos hpo2 ⊢
            repeat (first | (apply gJO; first | refine JO_v (V_loadC (tb := tb) rfl hr2 rfl rfl g2 rfl) ?_) | (first | (refine sx ?_; try intro _)))
            exact JS_again1 again2 (j + 1) (by omega) (by omega) ⟨rfl, rfl, rfl, rfl, rfl, rfl, lookI rfl e1, lookI rfl (by omega), trivial⟩ (fun w hw => hw)
          · obtain rfl : j = b := by omega
            clear again2
            have hv : 32768 / 2 ^ j ≤ 32768 := Nat.div_le_self _ _
            have nx := nxt ⟨by omega, ⟨fun _ => hx0, fun _ => by omega⟩⟩
            generalize 32768 / 2 ^ j = v at s3 hv ⊢
            repeat (first | (apply gJO; first | refine JO_v (V_loadC (tb := tb) rfl hr2 rfl rfl g2 rfl) ?_) | (first | (refine sx ?_; try intro _)))
            exact JS_again1 again (i + 1) ⟨by omega, nx, by omega⟩ (by omega) ⟨rfl, rfl, rfl, lookI rfl (by omega), lookI rfl (by omega), lookI rfl (by omega), trivial⟩ (fun w hw => hw)
      · repeat (first | (apply gJO; first | refine JO_v (V_loadC (tb := tb) rfl hr rfl rfl g1 rfl) ?_ | refine JO_v (V_loadC (tb := tb) rfl hr2 rfl rfl g2 rfl) ?_ | refine JO_v (oCv (V_conv (tb := tb) rfl rfl rfl c1 rfl)) ?_) | (first | (refine sx ?_; try intro _)))
        exact JS_ret Try.func15 rfl rfl fun w hw => ⟨false, rfl, ⟨fun h => (by cases h), fun h => absurd h (bad (by omega))⟩, hw⟩
    · by_cases hb0 : 0 < b
      · repeat (first | (apply gJO; first | refine JO_v (V_loadC (tb := tb) rfl hr rfl rfl g1 rfl) ?_ | refine JO_v (V_loadC (tb := tb) rfl hr2 rfl rfl g2 rfl) ?_ | refine JO_v (oCv (V_conv (tb := tb) rfl rfl rfl c1 rfl)) ?_) | (first | (refine sx ?_; try intro _)))
        exact JS_ret Try.func15 rfl rfl fun w hw => ⟨false, rfl, ⟨fun h => (by cases h), fun h => absurd h (bad (by omega))⟩, hw⟩
      · by_cases hbL : L < (b : Int)
        · repeat (first | (apply gJO; first | refine JO_v (V_loadC (tb := tb) rfl hr rfl rfl g1 rfl) ?_ | refine JO_v (V_loadC (tb := tb) rfl hr2 rfl rfl g2 rfl) ?_ | refine JO_v (oCv (V_conv (tb := tb) rfl rfl rfl c1 rfl)) ?_) | (first | (refine sx ?_; try intro _)))
          exact JS_ret Try.func15 rfl rfl fun w hw => ⟨false, rfl, ⟨fun h => (by cases h), fun h => absurd h (bad (by omega))⟩, hw⟩
        · rw [if_neg hx0] at s3 s4
          simp only [List.length_nil] at s4
          have nx := nxt (by omega)
          repeat (first | (apply gJO; first | refine JO_v (V_loadC (tb := tb) rfl hr rfl rfl g1 rfl) ?_ | refine JO_v (V_loadC (tb := tb) rfl hr2 rfl rfl g2 rfl) ?_ | refine JO_v (oCv (V_conv (tb := tb) rfl rfl rfl c1 rfl)) ?_) | (first | (refine sx ?_; try intro _)))
          exact JS_again1 again (i + 1) ⟨by omega, nx, by omega⟩ (by omega) ⟨rfl, rfl, rfl, lookI rfl (by omega), lookI rfl (by omega), lookI rfl (by omega), trivial⟩ (fun w hw => hw)
  · obtain rfl : i = m := by omega
    clear again
    have hWt : W.take i = W := List.take_of_length_le (by omega)
    have fin : FitP W B L ↔ ((lvf 0 W).length = 0 ∨ ((lvf 0 W).length = 1 ∧ tkn W (fun s => (B.getD s 0).toNat) = 16384) ∨ (2 ≤ (lvf 0 W).length ∧ tkn W (fun s => (B.getD s 0).toNat) = 32768)) := ⟨fun h => h.2.2, fun h => ⟨by omega, fun s hs => hok s (by omega), h⟩⟩
    have hk1 := hlt1 i
    rw [hWt] at hk1 htk ⊢
    generalize (lvf 0 W).length = k at fin hk1 ⊢
    generalize tkn W (fun s => (B.getD s 0).toNat) = t at fin htk ⊢
    by_cases k0 : k = 0
    · repeat (first | (refine sx ?_; try intro _))
      exact JS_ret Try.func15 rfl rfl fun w hw => ⟨true, rfl, ⟨fun _ => fin.2 (.inl k0), fun _ => rfl⟩, hw⟩
    by_cases k1 : k = 1
    · by_cases ht : t = 16384
      · repeat (first | (refine sx ?_; try intro _))
        exact JS_ret Try.func15 rfl rfl fun w hw => ⟨true, rfl, ⟨fun _ => fin.2 (.inr (.inl ⟨k1, ht⟩)), fun _ => rfl⟩, hw⟩
      · repeat (first | (refine sx ?_; try intro _))
        exact JS_ret Try.func15 rfl rfl fun w hw => ⟨false, rfl, ⟨fun h => (by cases h), fun h => by have := fin.1 h; omega⟩, hw⟩
    · by_cases ht : t = 32768
      · repeat (first | (refine sx ?_; try intro _))
        exact JS_ret Try.func15 rfl rfl fun w hw => ⟨true, rfl, ⟨fun _ => fin.2 (.inr (.inr ⟨by omega, ht⟩)), fun _ => rfl⟩, hw⟩
      · repeat (first | (refine sx ?_; try intro _))
        exact JS_ret Try.func15 rfl rfl fun w hw => ⟨false, rfl, ⟨fun h => (by cases h), fun h => by have := fin.1 h; omega⟩, hw⟩
end
end Go.Proofs.Ytbiocgenbgbfpaa

namespace Go.Proofs.Ytbiocgenbgbfpaa
open Sx Go Go.ChangeShapes Go.WideShapes
set_option linter.unusedVariables false
set_option linter.unusedSimpArgs false
theorem cell_lt {w : World} {a : Addr} {v : Value} (h : w.cell? a = some v) : a.block < w.heap.size := by
  rcases Nat.lt_or_ge a.block w.heap.size with h1 | h1
  · exact h1
  · simp [World.cell?, Array.getElem?_eq_none h1] at h
theorem wf64 {a : Int} (h : (Lit.int .i64 a).wf = true) : -9223372036854775808 ≤ a ∧ a < 9223372036854775808 := by
  simp only [Lit.wf, Bool.and_eq_true, decide_eq_true_eq] at h
  have h1 : IntKind.i64.min = -9223372036854775808 := by decide
  have h2 : IntKind.i64.max = 9223372036854775808 - 1 := by decide
  omega
theorem wfu64 {a : Int} (h : (Lit.int .u64 a).wf = true) : 0 ≤ a ∧ a < 18446744073709551616 := by
  simp only [Lit.wf, Bool.and_eq_true, decide_eq_true_eq] at h
  have h1 : IntKind.u64.min = 0 := by decide
  have h2 : IntKind.u64.max = 18446744073709551616 - 1 := by decide
  omega
theorem argRd_mk {w0 : World} {u : Value} {m : Nat} {cs : List Value} (h1 : isSl u m) (h2 : ∀ j v, cs[j]? = some v → ∃ a, cellPtr u j = .pointer (some a) ∧ a.block < w0.heap.size ∧ w0.cell? a = some v) : ArgRd w0 u m cs := by
  unfold ArgRd; exact ⟨h1, h2⟩
def iv : Value → Int
  | .int _ n => n
  | _ => 0
theorem wfu8 {a : Int} (h : (Lit.int .u8 a).wf = true) : 0 ≤ a ∧ a < 256 := by
  simp only [Lit.wf, Bool.and_eq_true, decide_eq_true_eq] at h
  have h1 : IntKind.u8.min = 0 := by decide
  have h2 : IntKind.u8.max = 256 - 1 := by decide
  omega
end Go.Proofs.Ytbiocgenbgbfpaa

namespace Go.Proofs.Ytbiocgenbgbfpaa
open Sx Go Go.ChangeShapes Go.WideShapes
set_option linter.unusedVariables false
set_option linter.unusedSimpArgs false
theorem cells3 : Try.prog.cellsOf 3 = 1 := by kernel_rfl
def OKI (B : List Int) : Prop := ∀ j, -9223372036854775808 ≤ B.getD j 0 ∧ B.getD j 0 < 9223372036854775808
set_option maxRecDepth 100000 in
/-- a slice of numbers that came in -/
theorem open_ints {H : Type} {enc : TypeId × Value → H} {W : World} {base : Nat} {v : Value} {d : DataW H} {p : List MemPlace} (hval : Value.okWide Try.prog W .any base 63 v) (h : DataW.Trod enc Try.prog W 0 (fun _ => true) true 63 v d p) :
    ∃ (b : Option Addr) (c m : Nat) (B : List Int), v = .slice b m c ∧ ArgRd W (.slice b m c) m (ints .i64 B) ∧ B.length = m ∧ (OKI B ∧ (b = none → m = 0)) ∧ (m = 0 ∨ ∃ E S, d = .slice E S ∧ E.length = m) := by
  obtain ⟨b, m, c, rfl⟩ := okWide_slice Try.underlying63 hval
  obtain ⟨fuel, hf⟩ := h
  rcases Go.ChangeShapes.open_ints Try.underlying63 Try.underlying3 cells3 hf with ⟨hcs, _⟩ | ⟨a, len', cap', zs, hcs, _, hl, hm, hz, hx, hcell, hwz⟩
  · simp [Value.cells] at hcs
    obtain ⟨rfl, rfl, rfl⟩ := hcs
    exact ⟨none, 0, 0, [], rfl, argRd_mk ⟨none, 0, rfl, fun _ => rfl, Nat.le_refl _⟩ (fun j v h => by simp [ints] at h), rfl, ⟨fun j => by simp, fun _ => rfl⟩, .inl rfl⟩
  · simp [Value.cells] at hcs
    obtain ⟨rfl, rfl, rfl⟩ := hcs
    simp only [if_true] at hz
    refine ⟨some a, c, m, zs.take m, rfl, argRd_mk ⟨some a, c, rfl, (fun h => by cases h), hl⟩ (fun j v hv => ?_), by simp; omega, ⟨fun j => ?_, fun h => (by cases h)⟩, .inr ⟨_, _, congrArg Prod.fst hx, by simp [lits]; omega⟩⟩
    · have hj : j < m := by
        have := (List.getElem?_eq_some_iff.1 hv).1
        simp [ints] at this; omega
      have e : (ints .i64 (zs.take m))[j]? = some (.int .i64 (zs.getD j 0)) := by
        have := ints_get (K := .i64) (l := zs.take m) (j := j) (by simp; omega)
        rw [this]
        congr 2
        simp [List.getD_eq_getElem?_getD, List.getElem?_take, hj]
      rw [e] at hv
      obtain rfl := Option.some.inj hv
      exact ⟨a.add j, cellPtr_eq a m c j, by simpa using cell_lt (hcell j (by omega)), hcell j (by omega)⟩
    · rcases Nat.lt_or_ge j m with hj | hj
      · have : (zs.take m).getD j 0 = zs[j]'(by omega) := by simp [List.getD_eq_getElem?_getD, List.getElem?_take, hj, show j < zs.length by omega]
        rw [this]
        exact wf64 (hwz _ (List.getElem_mem _))
      · have : (zs.take m).getD j 0 = 0 := by
          rw [List.getD_eq_getElem?_getD, List.getElem?_eq_none (by simp; omega)]; rfl
        rw [this]; decide
end Go.Proofs.Ytbiocgenbgbfpaa

namespace Go.Proofs.Ytbiocgenbgbfpaa
open Sx Go Pm
set_option linter.unusedVariables false
set_option linter.unusedSimpArgs false
theorem getD_lt {W : List Nat} {b : Nat} (hb : 0 < b) (h : W.all (fun x => decide (x < b)) = true) (j : Nat) : W.getD j 0 < b := by
  rw [List.getD_eq_getElem?_getD]
  cases e : W[j]? with
  | none => exact hb
  | some x =>
    rw [List.all_eq_true] at h
    exact of_decide_eq_true (h x (List.mem_of_getElem? e))
/-- numbers brought to where all together are not too many -/
def fewW (W : List Nat) : List Nat := (W.take 320).map fun x => x % 1000000
theorem nats_snoc (W : List Nat) (x : Nat) : nats (W ++ [x]) = nats W ++ [(x : Int)] := by simp [nats]
theorem few_step (W : List Nat) {i : Nat} (h : i < W.length) : nats ((W.take (i + 1)).map fun x => x % 1000000) = nats ((W.take i).map fun x => x % 1000000) ++ [((W.getD i 0 % 1000000 : Nat) : Int)] := by
  rw [take_snoc W h, List.map_append, List.map_cons, List.map_nil, nats_snoc]
theorem fewW_lt (W : List Nat) : ∀ j, (fewW W).getD j 0 < 1000000 := fun j => getD_lt (by omega) (by
  rw [List.all_eq_true]
  intro x hx
  obtain ⟨y, _, rfl⟩ := List.mem_map.1 hx
  exact decide_eq_true (Nat.mod_lt _ (by omega))) j
section
variable {w0 : World} {H : List Asn}
set_option maxHeartbeats 1000000 in
theorem Few_c (p : Option Addr) (c n : Nat) (W : List Nat) (hr : Rd w0 H (.slice p n c) n (ints .u64 (nats W))) (hn : W.length = n) (hn1 : n ≤ 140737488355328) (hW : ∀ j, W.getD j 0 < 18446744073709551616) (w : World) (hw : St w0 H w) :
    Calls Try.prog 12 #[.slice p n c] w fun e w' => ∃ q d, e = .returned (.slice q (fewW W).length d) ∧ St w0 (vec 31 1 (.slice q (fewW W).length d) (fewW W).length (ints .u64 (nats (fewW W))) :: H) w' := by
  refine enter (vs := [.slice p n c]) Try.func12 rfl rfl rfl hw ?_
  repeat (first | (apply gJR; first | (refine sx ?_; try intro _)) | (apply gJO; first | (refine sx ?_; try intro _)) | apply JS_seq | apply JS_region)
  refine JS_block ?_
  refine JS_loop3 (fun (i : Nat) (q : Option Addr) (d : Nat) => [(0, .slice p n c), (3, .slice q i d), (4, .int .i64 i)]) (fun i q d => vec 31 1 (.slice q i d) i (ints .u64 (nats ((W.take i).map fun x => x % 1000000))) :: H) (fun i _ _ => i ≤ n ∧ i ≤ 320) (fun i _ _ => n - i) 0 none 0 ⟨Nat.zero_le _, Nat.zero_le _⟩ (by repeat (first | exact trivial | refine ⟨rfl, ?_⟩ | refine ⟨lookI rfl (by omega), ?_⟩)) (fun w hw => St.nilvec hw) ?_
  intro i q d ⟨hi, hi3⟩ again
  have hend : (fewW W).length = i → nats ((W.take i).map fun x => x % 1000000) = nats (fewW W) := fun h => by
    unfold fewW at h ⊢
    rw [List.length_map, List.length_take] at h
    rcases Nat.lt_or_ge 320 W.length with h' | h'
    · rw [show i = 320 by omega]
    · rw [List.take_of_length_le (l := W) (i := 320) h', List.take_of_length_le (by omega)]
  have hfl : (fewW W).length = min 320 n := by unfold fewW; rw [List.length_map, List.length_take, hn]
  by_cases hlt : i < n
  · by_cases h3 : i < 320
    · have g := nats_get (W := W) (j := i) (by omega)
      have hwi := hW i
      have s := few_step W (i := i) (by omega)
      have hl : (nats ((W.take i).map fun x => x % 1000000)).length = i := by rw [nats_len, List.length_map, List.length_take]; omega
      generalize W.getD i 0 = x at g hwi s
      repeat (first | (apply gJO; first | refine JO_v (V_loadC (tb := tb) rfl (Rd_weak hr fun w hw => hw.drop) rfl rfl g rfl) ?_) | (apply gJO; (refine JO_app (tb := tb) rfl rfl rfl rfl rfl rfl (by repeat (first | exact Sel.here _ _ | apply Sel.there)) (by first | exact vec_rd (by repeat (first | apply List.Mem.head | apply List.Mem.tail)) | assumption | exact ArgRd.rd (by assumption) _ | (apply Rd_weak; assumption; intro _ hx; exact St.sub (by repeat (first | exact List.Sublist.refl _ | apply List.Sublist.cons_cons | apply List.Sublist.cons)) hx)) (by simp only [ints_len, List.length_cons, List.length_nil]; first | omega | rfl) (by first | exact ints_one | (repeat (first | exact trivial | refine ⟨rfl, ?_⟩))) (by omega) rfl ?_; intro _ _)) | (first | (refine sx ?_; try intro _)))
      refine JS_again3 again (i + 1) _ _ ⟨by omega, by omega⟩ (by omega) (by repeat (first | exact trivial | refine ⟨rfl, ?_⟩ | refine ⟨lookI rfl (by omega), ?_⟩)) (fun w hw => ?_)
      rw [s, ← ints_app]
      exact St.sub (by repeat (first | exact List.Sublist.refl _ | apply List.Sublist.cons_cons | apply List.Sublist.cons)) hw
    · clear again
      repeat (first | (refine sx ?_; try intro _))
      refine JS_ret Try.func12 rfl rfl fun w hw => ?_
      have e : (fewW W).length = i := by omega
      rw [hend e] at hw
      rw [e]
      exact ⟨q, d, rfl, hw⟩
  · clear again
    repeat (first | (refine sx ?_; try intro _))
    refine JS_ret Try.func12 rfl rfl fun w hw => ?_
    have e : (fewW W).length = i := by omega
    rw [hend e] at hw
    rw [e]
    exact ⟨q, d, rfl, hw⟩
theorem V_eqStrU {n : Nat} {D : List Deferred} {ov : Ov} {d : Option Nat} {T T1 T2 : Nat} {pos : String} {af : Array Edge} {g : Option (Nat × Bool)} {x y : Operand} {s : ByteArray}
    (hx : ev ov x = some (.string s)) (hy : ev ov y = some (.string s)) (hd : dOk d n = true) : OpV Try.prog n D w0 ov H ⟨d, .binOp .eql T1 x y T2, T, pos, af, g⟩ (.bool true) := by
  unfold OpV
  exact ⟨hd, fun a w ha _ => by simp [execOp, ha.ev hx, ha.ev hy, eqGuard, binOp, Op.stringOp]⟩
theorem exb1 : AskOK [5, 1, 1, 0] 15 ∧ tab 4 (fun s => ((LL [5, 1, 1, 0] 15 s : Nat) : Int)) = [1, 2, 2, 0] := ⟨⟨by decide, by decide, by decide, by decide, by decide +kernel⟩, by decide +kernel⟩
theorem exb2 : AskOK [8, 4, 2, 1] 2 ∧ tab 4 (fun s => ((LL [8, 4, 2, 1] 2 s : Nat) : Int)) = [2, 2, 2, 2] := ⟨⟨by decide, by decide, by decide, by decide, by decide +kernel⟩, by decide +kernel⟩
theorem exb3 : AskOK [3] 1 ∧ tab 1 (fun s => ((LL [3] 1 s : Nat) : Int)) = [1] := ⟨⟨by decide, by decide, by decide, by decide, by decide +kernel⟩, by decide +kernel⟩
theorem exb4 : costN [5, 1, 1] (fun i => (([1, 2, 2] : List Int).getD i 0).toNat) (min 3 3) % 18446744073709551616 = 9 := by decide +kernel
/-- lengths where they are known -/
theorem Lengths_at (p : Option Addr) (c n : Nat) (W : List Nat) (hr : Rd w0 H (.slice p n c) n (ints .u64 (nats W))) (hn : W.length = n) (hn1 : n ≤ 140737488355328) (hW : ∀ j, W.getD j 0 < 18446744073709551616) (L : Int) (B : List Int) (hA : AskOK W L ∧ tab n (fun s => ((LL W L.toNat s : Nat) : Int)) = B) (w : World) (hw : St w0 H w) :
    Calls Try.prog 14 #[.slice p n c, .int .i64 L] w fun e w' => ∃ (q : Option Addr) (d : Nat), e = .returned (.tuple #[.slice q n d, .int .i64 0]) ∧ St w0 (vec 5 1 (.slice q n d) n (ints .u8 B) :: H) w' := by
  refine (Lengths_c p c n W hr hn hn1 hW L w hw).mono ?_
  rintro e w' (⟨h, _⟩ | ⟨_, q, d, h1, h2⟩)
  · exact absurd hA.1 h
  · rw [hA.2] at h2
    exact ⟨q, d, h1, h2⟩
set_option maxRecDepth 10000 in
set_option maxHeartbeats 2000000 in
theorem alive29_c (w : World) (hw : St w0 H w) : Calls Try.prog 11 #[] w fun e w' => e = .returned (.bool true) ∧ St w0 H w' := by
  refine enter (vs := []) Try.func11 rfl rfl rfl hw ?_
  repeat (first | (refine sx ?_; try intro _))
  rename_i p1
  refine JO_call Try.call14 rfl rfl fun w hw => (Lengths_at (some p1) 4 4 [5, 1, 1, 0] (vec_rd (by repeat (first | apply List.Mem.head | apply List.Mem.tail))) rfl (by omega) (getD_lt (by omega) (by decide)) 15 _ exb1 w hw).mono ?_
  rintro e w' ⟨q1, d1, rfl, hw'⟩
  refine ⟨_, rfl, _, hw', ?_⟩
  clear hw' hw w w'
  repeat (first | (refine sx ?_; try intro _))
  rename_i p2
  refine JO_call Try.call14 rfl rfl fun w hw => (Lengths_at (some p2) 4 4 [8, 4, 2, 1] (vec_rd (by repeat (first | apply List.Mem.head | apply List.Mem.tail))) rfl (by omega) (getD_lt (by omega) (by decide)) 2 _ exb2 w hw).mono ?_
  rintro e w' ⟨q2, d2, rfl, hw'⟩
  refine ⟨_, rfl, _, hw', ?_⟩
  clear hw' hw w w'
  repeat (first | (refine sx ?_; try intro _))
  rename_i p3
  refine JO_call Try.call14 rfl rfl fun w hw => (Lengths_at (some p3) 1 1 [3] (vec_rd (by repeat (first | apply List.Mem.head | apply List.Mem.tail))) rfl (by omega) (getD_lt (by omega) (by decide)) 1 _ exb3 w hw).mono ?_
  rintro e w' ⟨q3, d3, rfl, hw'⟩
  refine ⟨_, rfl, _, hw', ?_⟩
  clear hw' hw w w'
  repeat (first | (apply gJO; first | refine JO_v (V_eqStrU (s := bstr [1, 2, 2, 0]) rfl rfl rfl) ?_ | refine JO_v (V_eqStrU (s := bstr [2, 2, 2, 2]) rfl rfl rfl) ?_ | refine JO_v (V_eqStrU (s := bstr [1]) rfl rfl rfl) ?_) | (first | (refine sx ?_; try intro _)))
  rename_i p4 p5
  refine JO_call Try.call18 rfl rfl fun w hw => (SCost_c (some p4) (some p5) 3 3 3 3 [5, 1, 1] [1, 2, 2] (vec_rd (by repeat (first | apply List.Mem.head | apply List.Mem.tail))) rfl (vec_rd (by repeat (first | apply List.Mem.head | apply List.Mem.tail))) rfl (by intro j; match j with | 0 | 1 | 2 => decide | j + 3 => simp) (by omega) (by omega) w hw).mono ?_
  rw [exb4]
  rintro e w' ⟨rfl, hw'⟩
  refine ⟨_, rfl, _, hw', ?_⟩
  clear hw' hw w w'
  repeat (first | (refine sx ?_; try intro _))
  exact JS_ret Try.func11 rfl rfl fun w hw => ⟨rfl, St.sub (by repeat (first | exact List.Sublist.refl _ | apply List.Sublist.cons_cons | apply List.Sublist.cons)) hw⟩
end
end Go.Proofs.Ytbiocgenbgbfpaa

namespace Go.Proofs.Ytbiocgenbgbfpaa
open Sx Go
set_option linter.unusedVariables false
set_option linter.unusedSimpArgs false
set_option maxHeartbeats 1000000 in
/-- a slice, cloned: not the same memory -/
theorem Clone_c {w0 : World} {H : List Asn} (p : Option Addr) (c m : Nat) (B : List Int) (hr : Rd w0 H (.slice p m c) m (ints .u8 B)) (hm : B.length = m) (hB : OKB B) (hm1 : m ≤ 140737488355328) (hpm : p = none → m = 0) (w : World) (hw : St w0 H w) :
    Calls Try.prog 35 #[.slice p m c] w fun e w' => ∃ q d, e = .returned (.slice q m d) ∧ St w0 (vec 5 1 (.slice q m d) m (ints .u8 B) :: H) w' := by
  refine enter (vs := [.slice p m c]) Try.func35 rfl rfl rfl hw ?_
  repeat (first | (apply gJO; refine JO_v (V_eqNil (tb := tb) rfl rfl rfl rfl) ?_) | (apply gJR; first | (refine sx ?_; try intro _)) | (apply gJO; first | (refine sx ?_; try intro _)) | apply JS_seq | apply JS_region)
  cases p with
  | none =>
    obtain rfl : m = 0 := hpm rfl
    obtain rfl : B = [] := List.eq_nil_of_length_eq_zero hm
    repeat (first | (refine sx ?_; try intro _))
    refine JS_ret Try.func35 rfl rfl ?_
    intro w hw
    exact ⟨none, 0, rfl, St.nilvec hw⟩
  | some a =>
    repeat (first | (refine sx ?_; try intro _))
    refine JO_app (tb := tb) rfl rfl rfl rfl rfl rfl (by repeat (first | exact Sel.here _ _ | apply Sel.there)) (Rd_weak hr fun w hw => St.sub (by repeat (first | exact List.Sublist.refl _ | apply List.Sublist.cons_cons | apply List.Sublist.cons)) hw) (by rw [ints_len]; omega) (by first | exact ints_one | (repeat (first | exact trivial | refine ⟨rfl, ?_⟩))) (by omega) rfl ?_
    intro q d
    repeat (first | (refine sx ?_; try intro _))
    refine JS_ret Try.func35 rfl rfl ?_
    intro w hw
    rw [Nat.zero_add] at hw
    exact ⟨q, d, by rw [Nat.zero_add]; rfl, hw⟩
end Go.Proofs.Ytbiocgenbgbfpaa

namespace Go.Proofs.Ytbiocgenbgbfpaa
open Sx Go
set_option linter.unusedVariables false
set_option linter.unusedSimpArgs false
/-- the cells of a set: its lengths, how many codes have each length, its symbols, whether it is full -/
def setCells (pl : Value) (f : Nat → Int) (ps : Value) (full : Bool) : List Value :=
  [pl, .int .i64 (f 0), .int .i64 (f 1), .int .i64 (f 2), .int .i64 (f 3), .int .i64 (f 4), .int .i64 (f 5), .int .i64 (f 6), .int .i64 (f 7), .int .i64 (f 8), .int .i64 (f 9), .int .i64 (f 10), .int .i64 (f 11), .int .i64 (f 12), .int .i64 (f 13), .int .i64 (f 14), .int .i64 (f 15), ps, .bool full]
theorem set_nth {pl : Value} {f : Nat → Int} {ps : Value} {full : Bool} {i : Nat} (h : i < 16) : nth (setCells pl f ps full) (1 + i) = some (.int .i64 (f i)) := by
  match i, h with
  | 0, _ | 1, _ | 2, _ | 3, _ | 4, _ | 5, _ | 6, _ | 7, _ | 8, _ | 9, _ | 10, _ | 11, _ | 12, _ | 13, _ | 14, _ | 15, _ => rfl
  | i + 16, h => exact absurd h (by omega)
theorem Full_c {w0 : World} {H : List Asn} (b : Nat) (pl : Value) (f : Nat → Int) (ps : Value) (full : Bool) (hb : blk b (setCells pl f ps full) ∈ H) (w : World) (hw : St w0 H w) :
    Calls Try.prog 134 #[.pointer (some ⟨b, 0, none⟩)] w fun e w' => e = .returned (.bool full) ∧ St w0 H w' := by
  refine enter (vs := [.pointer (some ⟨b, 0, none⟩)]) Try.func134 rfl rfl rfl hw ?_
  repeat (first | (apply gJO; refine JO_v (V_load (tb := tb) rfl hb rfl rfl rfl rfl) ?_) | (first | (refine sy ?_; try intro _)))
  refine JS_ret Try.func134 rfl rfl ?_
  intro w hw
  exact ⟨rfl, hw⟩
set_option maxHeartbeats 1000000 in
theorem Length_c {w0 : World} {H : List Asn} (b : Nat) (p : Option Addr) (c m : Nat) (B : List Int) (f : Nat → Int) (ps : Value) (full : Bool) (hb : blk b (setCells (.slice p m c) f ps full) ∈ H) (hr : Rd w0 H (.slice p m c) m (ints .u8 B)) (hm : B.length = m) (hB : OKB B) (k : Int) (hk : -9223372036854775808 ≤ k ∧ k < 9223372036854775808) (w : World) (hw : St w0 H w) :
    Calls Try.prog 77 #[.pointer (some ⟨b, 0, none⟩), .int .i64 k] w fun e w' => ∃ r, e = .returned (.int .i64 r) ∧ St w0 H w' ∧ (((k < 0 ∨ m ≤ k) ∧ r = 0) ∨ (0 ≤ k ∧ k < m ∧ r = B.getD k.toNat 0)) := by
  refine enter (vs := [.pointer (some ⟨b, 0, none⟩), .int .i64 k]) Try.func77 rfl rfl rfl hw ?_
  by_cases h0 : k < 0
  · repeat (first | (apply gJO; refine JO_v (V_load (tb := tb) rfl hb rfl rfl rfl rfl) ?_) | (first | (refine sx ?_; try intro _)))
    refine JS_ret Try.func77 rfl rfl ?_
    intro w hw
    exact ⟨_, rfl, hw, .inl ⟨.inl h0, rfl⟩⟩
  by_cases h1 : m ≤ k
  · repeat (first | (apply gJO; refine JO_v (V_load (tb := tb) rfl hb rfl rfl rfl rfl) ?_) | (first | (refine sx ?_; try intro _)))
    refine JS_ret Try.func77 rfl rfl ?_
    intro w hw
    exact ⟨_, rfl, hw, .inl ⟨.inr h1, rfl⟩⟩
  · obtain ⟨i, rfl⟩ := Int.eq_ofNat_of_zero_le (show 0 ≤ k by omega)
    have hb2 := hB i
    repeat (first | (apply gJO; refine JO_v (V_load (tb := tb) rfl hb rfl rfl rfl rfl) ?_) | (first | (refine sx ?_; try intro _)))
    refine JS_ret Try.func77 rfl rfl ?_
    intro w hw
    exact ⟨_, rfl, hw, .inr ⟨by omega, by omega, by simp⟩⟩
/-- a reader -/
theorem New_c {w0 : World} {H : List Asn} (p : Option Addr) (c m : Nat) (B : List Int) (hr : Rd w0 H (.slice p m c) m (ints .u8 B)) (hm : B.length = m) (hB : OKB B) (hm1 : m ≤ 140737488355328) (hpm : p = none → m = 0) (w : World) (hw : St w0 H w) :
    Calls Try.prog 101 #[.slice p m c] w fun e w' => ∃ b q d, e = .returned (.pointer (some ⟨b, 0, none⟩)) ∧ St w0 (blk b [.slice q m d, .int .i64 0] :: vec 5 1 (.slice q m d) m (ints .u8 B) :: H) w' := by
  refine enter (vs := [.slice p m c]) Try.func101 rfl rfl rfl hw ?_
  repeat (first | (refine sy ?_; try intro _))
  refine JO_call Try.call35 rfl rfl fun w hw => (Clone_c p c m B hr hm hB hm1 hpm w hw).mono ?_
  rintro e w' ⟨q, d, rfl, hw'⟩
  refine ⟨_, rfl, _, hw', ?_⟩
  clear hw' hw w w'
  repeat (first | (refine sy ?_; try intro _))
  rename_i b
  refine JS_ret Try.func101 rfl rfl ?_
  intro w hw
  exact ⟨b, q, d, rfl, hw⟩
theorem ReaderAt_c {w0 : World} {H : List Asn} (b : Nat) (u : Value) (n : Int) (hb : blk b [u, .int .i64 n] ∈ H) (w : World) (hw : St w0 H w) :
    Calls Try.prog 107 #[.pointer (some ⟨b, 0, none⟩)] w fun e w' => e = .returned (.int .i64 n) ∧ St w0 H w' := by
  refine enter (vs := [.pointer (some ⟨b, 0, none⟩)]) Try.func107 rfl rfl rfl hw ?_
  repeat (first | (apply gJO; refine JO_v (V_load (tb := tb) rfl hb rfl rfl rfl rfl) ?_) | (first | (refine sy ?_; try intro _)))
  refine JS_ret Try.func107 rfl rfl ?_
  intro w hw
  exact ⟨rfl, hw⟩
end Go.Proofs.Ytbiocgenbgbfpaa

namespace Go.Proofs.Ytbiocgenbgbfpaa
open Sx Go
set_option linter.unusedVariables false
set_option linter.unusedSimpArgs false
theorem set_nth' {pl : Value} {f : Nat → Int} {ps : Value} {full : Bool} {i : Nat} (h : i < 16) : nth (setCells pl f ps full) (0 + 1 + (i : Int).toNat * 1) = some (.int .i64 (f i)) := by
  rw [show 0 + 1 + (i : Int).toNat * 1 = 1 + i by omega]; exact set_nth h
theorem set_upd {pl : Value} {f : Nat → Int} {ps : Value} {full : Bool} {i : Nat} {v : Int} (h : i < 16) : setSeg (setCells pl f ps full) (0 + 1 + (i : Int).toNat * 1) [.int .i64 v] = some (setCells pl (fun j => if j = i then v else f j) ps full) := by
  match i, h with
  | 0, _ | 1, _ | 2, _ | 3, _ | 4, _ | 5, _ | 6, _ | 7, _ | 8, _ | 9, _ | 10, _ | 11, _ | 12, _ | 13, _ | 14, _ | 15, _ => rfl
  | i + 16, h => exact absurd h (by omega)
/-- how many lengths are k -/
def cn (l : List Int) (k : Nat) : Int := if k = 0 then 0 else (l.countP (fun x => x == (k : Int)) : Nat)
/-- what codes take, of 32768 -/
def tk : List Int → Int
  | [] => 0
  | x :: r => (if 0 < x then 2 ^ (15 - x.toNat) else 0) + tk r
theorem tk_app (A B : List Int) : tk (A ++ B) = tk A + tk B := by
  induction A with
  | nil => simp [tk]
  | cons x r ih => simp only [List.cons_append, tk, ih]; omega
theorem btake (B : List Int) (i : Nat) (h : i < B.length) : B.take (i + 1) = B.take i ++ [B.getD i 0] := by
  rw [List.take_succ_eq_append_getElem h]; simp [h]
theorem cn_step (B : List Int) (i : Nat) (h : i < B.length) (n : Nat) (hn : B.getD i 0 = (n : Int)) (h0 : 0 < n) : cn (B.take (i + 1)) = fun j => if j = n then cn (B.take i) n + 1 else cn (B.take i) j := by
  funext j
  unfold cn
  rw [btake B i h, List.countP_append, hn]
  by_cases hj : j = n
  · subst hj
    have : ¬ j = 0 := by omega
    simp [this]
  · rw [if_neg hj]
    have : ¬ ((n : Int) == (j : Int)) = true := by simp; omega
    simp [this]
theorem cn_zero (B : List Int) (i : Nat) (h : i < B.length) (hn : B.getD i 0 = 0) : cn (B.take (i + 1)) = cn (B.take i) := by
  funext j
  unfold cn
  rw [btake B i h, List.countP_append, hn]
  by_cases hj : j = 0
  · simp [hj]
  · have : ¬ ((0 : Int) == (j : Int)) = true := by simp; omega
    simp [hj, this]
theorem p2_bd (n : Nat) (h : n ≤ 15) : (1 : Int) ≤ 2 ^ (15 - n) ∧ (2 : Int) ^ (15 - n) ≤ 32768 := by
  have : ∀ k : Fin 16, (1 : Int) ≤ 2 ^ k.val ∧ (2 : Int) ^ k.val ≤ 32768 := by decide +kernel
  exact this ⟨15 - n, by omega⟩
theorem tk_step (B : List Int) (i : Nat) (h : i < B.length) (n : Nat) (hn : B.getD i 0 = (n : Int)) : tk (B.take (i + 1)) = tk (B.take i) + (if 0 < n then 2 ^ (15 - n) else 0) := by
  rw [btake B i h, tk_app, hn]
  simp only [tk, Int.add_zero, Int.toNat_natCast]
  by_cases h0 : 0 < n
  · simp [h0]
  · have : n = 0 := by omega
    subst this; simp
end Go.Proofs.Ytbiocgenbgbfpaa

namespace Go.Proofs.Ytbiocgenbgbfpaa
open Sx Go
set_option linter.unusedVariables false
set_option linter.unusedSimpArgs false
/-- the first j symbols' places that have the length n -/
def sy1 (B : List Int) (n j : Nat) : List Int := ((List.range j).filter (fun i => B.getD i 0 == (n : Int))).map (fun i : Nat => (i : Int))
theorem sy1_yes {B : List Int} {n j : Nat} (h : B.getD j 0 = (n : Int)) : sy1 B n (j + 1) = sy1 B n j ++ [(j : Int)] := by
  unfold sy1
  have : (B.getD j 0 == (n : Int)) = true := by simpa using h
  rw [List.range_succ, List.filter_append, List.map_append]
  simp only [List.filter_cons, this, if_true, List.filter_nil, List.map_cons, List.map_nil]
theorem sy1_no {B : List Int} {n j : Nat} (h : ¬ B.getD j 0 = (n : Int)) : sy1 B n (j + 1) = sy1 B n j := by
  unfold sy1
  have : (B.getD j 0 == (n : Int)) = false := by simpa using h
  rw [List.range_succ, List.filter_append, List.map_append]
  simp only [List.filter_cons, this, List.filter_nil, Bool.false_eq_true, if_false, List.map_nil, List.append_nil]
theorem sy1_len (B : List Int) (n j : Nat) : (sy1 B n j).length ≤ j := by
  unfold sy1
  rw [List.length_map]
  exact Nat.le_trans (List.length_filter_le _ _) (by simp)
/-- the symbols of the lengths 1 to n -/
def syA (B : List Int) : Nat → List Int
  | 0 => []
  | n + 1 => syA B n ++ sy1 B (n + 1) B.length
theorem syA_len (B : List Int) : ∀ n, (syA B n).length ≤ n * B.length
  | 0 => by simp [syA]
  | n + 1 => by
    have := syA_len B n
    have := sy1_len B (n + 1) B.length
    simp only [syA, List.length_append, Nat.add_mul, Nat.one_mul]; omega
set_option maxHeartbeats 4000000 in
theorem Make_c {w0 : World} {H : List Asn} (p : Option Addr) (c m : Nat) (B : List Int) (hr : Rd w0 H (.slice p m c) m (ints .u8 B)) (hm : B.length = m) (hB : OKB B) (hm1 : m ≤ 140737488355328) (hpm : p = none → m = 0) (w : World) (hw : St w0 H w) :
    Calls Try.prog 17 #[.slice p m c] w fun e w' => ∃ u r, e = .returned (.tuple #[u, .int .i64 r]) ∧
      (((320 < m ∨ ∃ j, 15 < B.getD j 0) ∧ u = .pointer none ∧ r = 1 ∧ St w0 H w') ∨
       (m ≤ 320 ∧ (∀ j, B.getD j 0 ≤ 15) ∧ ¬ (tk B = 32768 ∨ (syA B 15).length = 0 ∨ ((syA B 15).length = 1 ∧ cn B 1 = 1)) ∧ u = .pointer none ∧ r = 62 ∧ St w0 H w') ∨
       (m ≤ 320 ∧ (∀ j, B.getD j 0 ≤ 15) ∧ (tk B = 32768 ∨ (syA B 15).length = 0 ∨ ((syA B 15).length = 1 ∧ cn B 1 = 1)) ∧ r = 0 ∧ ∃ b q d s k, u = .pointer (some ⟨b, 0, none⟩) ∧
        St w0 (vec 3 1 (.slice s (syA B 15).length k) (syA B 15).length (ints .i64 (syA B 15)) :: blk b (setCells (.slice q m d) (cn B) (.slice s (syA B 15).length k) (decide (tk B = 32768))) :: vec 5 1 (.slice q m d) m (ints .u8 B) :: H) w')) := by
  refine enter (vs := [.slice p m c]) Try.func17 rfl rfl rfl hw ?_
  by_cases hbig : 320 < m
  · repeat (first | (refine sx ?_; try intro _))
    refine JS_ret Try.func17 rfl rfl ?_
    intro w hw
    exact ⟨_, _, rfl, .inl ⟨.inl hbig, rfl, rfl, hw⟩⟩
  repeat (first | (refine sx ?_; try intro _))
  refine JO_call Try.call33 rfl rfl fun w hw => (Contains_c p c m B hr hm hB (by omega) w hw).mono ?_
  rintro e w' ⟨o, rfl, hw', h1⟩
  refine ⟨_, rfl, _, hw', ?_⟩
  clear hw' hw w w'
  rcases h1 with ⟨rfl, h15⟩ | ⟨rfl, h15⟩
  case' inr =>
    repeat (first | (refine sx ?_; try intro _))
    refine JS_ret Try.func17 rfl rfl ?_
    intro w hw
    exact ⟨_, _, rfl, .inl ⟨.inr h15, rfl, rfl, hw⟩⟩
  repeat (first | (refine sx ?_; try intro _))
  refine JO_call Try.call35 rfl rfl fun w hw => (Clone_c p c m B hr hm hB hm1 hpm w hw).mono ?_
  rintro e w' ⟨q, d, rfl, hw'⟩
  refine ⟨_, rfl, _, hw', ?_⟩
  clear hw' hw w w'
  repeat (first | (apply gJR; first | (refine sx ?_; try intro _)) | (apply gJO; first | (refine sx ?_; try intro _)) | apply JS_seq | apply JS_region)
  rename_i b
  refine JS_block ?_
  refine JS_loop1 (fun (i : Nat) => [(0, .slice p m c), (4, .pointer (some ⟨b, 0, none⟩)), (5, .int .i64 (tk (B.take i))), (23, .slice p m c), (24, .int .i64 m), (25, .int .i64 i)]) (fun i => blk b (setCells (.slice q m d) (cn (B.take i)) (.slice none 0 0) false) :: vec 5 1 (.slice q m d) m (ints .u8 B) :: H)
    (fun i => i ≤ m ∧ 0 ≤ tk (B.take i) ∧ tk (B.take i) ≤ 32768 * i) (fun i => m - i) 0 ⟨by omega, by simp [tk], by simp [tk]⟩ (by repeat (first | exact trivial | refine ⟨rfl, ?_⟩ | refine ⟨lookI rfl (by omega), ?_⟩)) (fun _ h => h) ?_
  intro i ⟨hi, ht0, ht1⟩ again
  have hr' : Rd w0 (blk b (setCells (.slice q m d) (cn (B.take i)) (.slice none 0 0) false) :: vec 5 1 (.slice q m d) m (ints .u8 B) :: H) (.slice p m c) m (ints .u8 B) := Rd_weak hr fun w hw => St.sub (by repeat (first | exact List.Sublist.refl _ | apply List.Sublist.cons_cons | apply List.Sublist.cons)) hw
  by_cases him : i < m
  · have hb := hB i
    have hb15 := h15 i
    obtain ⟨n, hn⟩ := Int.eq_ofNat_of_zero_le hb.1
    have gi : (ints .u8 B)[i]? = some (.int .u8 (n : Int)) := by rw [← hn]; exact ints_get (by omega)
    have hn15 : n ≤ 15 := by omega
    have hts := tk_step B i (by omega) n hn
    have hp2 := p2_bd n hn15
    have hm2 : min ((15 : Int) - (n : Int)).toNat IntKind.i64.bits = 15 - n := by show min _ 64 = _; omega
    have hq2 : (1 : Int) * 2 ^ (15 - n) = 2 ^ (15 - n) := Int.one_mul _
    by_cases h0 : 0 < n
    · rw [if_pos h0] at hts
      have hcs := cn_step B i (by omega) n hn h0
      obtain ⟨P, hP⟩ : ∃ P, (2 : Int) ^ (15 - n) = P := ⟨_, rfl⟩
      rw [hP] at hts hp2
      have hcn0 : 0 ≤ cn (B.take i) n ∧ cn (B.take i) n ≤ 320 := by
        unfold cn
        split
        · omega
        · have := List.countP_le_length (p := fun x => x == (n : Int)) (l := B.take i)
          have : (B.take i).length ≤ i := by simp; omega
          omega
      clear hb hn hb15
      repeat (first | (apply gJO; refine JO_v (V_loadC (tb := tb) rfl (by first | exact vec_rd (by repeat (first | apply List.Mem.head | apply List.Mem.tail)) | assumption | exact ArgRd.rd (by assumption) _ | (apply Rd_weak; assumption; intro _ hx; exact St.sub (by repeat (first | exact List.Sublist.refl _ | apply List.Sublist.cons_cons | apply List.Sublist.cons)) hx)) rfl rfl gi rfl) ?_) | (apply gJO; refine JO_v (V_shl (m := 15 - n) (c := P) rfl rfl (by omega) hm2 (by rw [hq2, hP]; exact wi64 (by omega)) rfl) ?_) | (apply gQO; refine QO_v rfl (V_load (tb := tb) rfl (List.Mem.head _) rfl rfl (set_nth' (by omega)) rfl) ?_) | (apply gQO; refine QO_k rfl (K_store (tb := tb) rfl rfl (Upd.here _ _ _) rfl rfl rfl (by repeat (first | exact trivial | refine ⟨rfl, ?_⟩)) (set_upd (by omega)) rfl) rfl ?_) | (first | (refine sx ?_; try intro _)))
      exact JS_again1 again (i + 1) ⟨by omega, by omega, by omega⟩ (by omega) (by repeat (first | exact trivial | refine ⟨rfl, ?_⟩ | refine ⟨lookI rfl (by omega), ?_⟩)) (fun w hw => by rw [hcs]; exact hw)
    · obtain rfl : n = 0 := by omega
      rw [if_neg h0] at hts
      have hcs := cn_zero B i (by omega) hn
      clear hb hn hb15
      repeat (first | (apply gJO; refine JO_v (V_loadC (tb := tb) rfl (by first | exact vec_rd (by repeat (first | apply List.Mem.head | apply List.Mem.tail)) | assumption | exact ArgRd.rd (by assumption) _ | (apply Rd_weak; assumption; intro _ hx; exact St.sub (by repeat (first | exact List.Sublist.refl _ | apply List.Sublist.cons_cons | apply List.Sublist.cons)) hx)) rfl rfl gi rfl) ?_) | (first | (refine sx ?_; try intro _)))
      exact JS_again1 again (i + 1) ⟨by omega, by omega, by omega⟩ (by omega) (by repeat (first | exact trivial | refine ⟨rfl, ?_⟩ | refine ⟨lookI rfl (by omega), ?_⟩)) (fun w hw => by rw [hcs]; exact hw)
  obtain rfl : i = m := by omega
  have e1 : B.take i = B := List.take_of_length_le (by omega)
  rw [e1] at ht0 ht1
  rw [e1]
  clear again hr'
  have hsl : ∀ n j, n ≤ 15 → j ≤ i → (syA B n ++ sy1 B (n + 1) j).length ≤ 5120 := fun n j hn hj => by
    have h1 := syA_len B n
    have h2 := sy1_len B (n + 1) j
    have h3 : n * B.length ≤ 15 * 320 := Nat.mul_le_mul hn (by omega)
    rw [List.length_append]; omega
  repeat (first | (apply gJR; first | (refine sx ?_; try intro _)) | (apply gJO; first | (refine sx ?_; try intro _)) | apply JS_seq | apply JS_region | refine JS_condF rfl ?_ | refine JS_exit rfl ?_ | apply JS_skip | (apply gJS; refine JS_inBlock ?_))
  refine JS_block ?_
  refine JS_loop3 (fun (n : Nat) (s : Option Addr) (k : Nat) => [(0, .slice p i c), (4, .pointer (some ⟨b, 0, none⟩)), (5, .int .i64 (tk B)), (8, .int .u8 (n + 1))])
    (fun n s k => vec 3 1 (.slice s (syA B n).length k) (syA B n).length (ints .i64 (syA B n)) :: blk b (setCells (.slice q i d) (cn B) (.slice s (syA B n).length k) false) :: vec 5 1 (.slice q i d) i (ints .u8 B) :: H)
    (fun n _ _ => n ≤ 15) (fun n _ _ => 15 - n) 0 none 0 (by omega) (by repeat (first | exact trivial | refine ⟨rfl, ?_⟩ | refine ⟨lookI rfl (by omega), ?_⟩)) (fun _ h => St.nilvec h) ?_
  intro n s k hn again
  by_cases hn15 : n < 15
  · repeat (first | (apply gJR; first | (refine sx ?_; try intro _)) | (apply gJO; first | (refine sx ?_; try intro _)) | apply JS_seq | apply JS_region | refine JS_condT rfl ?_ | refine JS_cond_T rfl (by omega) ?_ | apply JS_skip | (apply gJS; refine JS_inBlock ?_) | (refine JS_block ?_; apply JS_seq; apply JS_region) )
    refine JS_block ?_
    refine JS_loop3 (fun (j : Nat) (s : Option Addr) (k : Nat) => [(0, .slice p i c), (4, .pointer (some ⟨b, 0, none⟩)), (5, .int .i64 (tk B)), (8, .int .u8 (n + 1)), (51, .slice p i c), (52, .int .i64 i), (53, .int .i64 j)])
      (fun j s k => vec 3 1 (.slice s (syA B n ++ sy1 B (n + 1) j).length k) (syA B n ++ sy1 B (n + 1) j).length (ints .i64 (syA B n ++ sy1 B (n + 1) j)) :: blk b (setCells (.slice q i d) (cn B) (.slice s (syA B n ++ sy1 B (n + 1) j).length k) false) :: vec 5 1 (.slice q i d) i (ints .u8 B) :: H)
      (fun j _ _ => j ≤ i) (fun j _ _ => i - j) 0 s k (by omega) (by repeat (first | exact trivial | refine ⟨rfl, ?_⟩ | refine ⟨lookI rfl (by omega), ?_⟩)) (fun w hw => by rw [show sy1 B (n + 1) 0 = [] from rfl, List.append_nil]; exact hw) ?_
    intro j s k hj again2
    have hlen := hsl n j (by omega) hj
    have hr' : Rd w0 (vec 3 1 (.slice s (syA B n ++ sy1 B (n + 1) j).length k) (syA B n ++ sy1 B (n + 1) j).length (ints .i64 (syA B n ++ sy1 B (n + 1) j)) :: blk b (setCells (.slice q i d) (cn B) (.slice s (syA B n ++ sy1 B (n + 1) j).length k) false) :: vec 5 1 (.slice q i d) i (ints .u8 B) :: H) (.slice p i c) i (ints .u8 B) := Rd_weak hr fun w hw => St.sub (by repeat (first | exact List.Sublist.refl _ | apply List.Sublist.cons_cons | apply List.Sublist.cons)) hw
    by_cases hji : j < i
    · have gj : (ints .u8 B)[j]? = some (.int .u8 (B.getD j 0)) := ints_get (by omega)
      by_cases heq : B.getD j 0 = ((n + 1 : Nat) : Int)
      · have hs1 := sy1_yes heq
        have heq' : B.getD j 0 = (n : Int) + 1 := by omega
        clear heq
        generalize hS : syA B n ++ sy1 B (n + 1) j = S at *
        have hS2 : syA B n ++ sy1 B (n + 1) (j + 1) = S ++ [(j : Int)] := by rw [hs1, ← hS, List.append_assoc]
        repeat (first | (apply gJO; refine JO_v (V_loadC (tb := tb) rfl (by first | exact vec_rd (by repeat (first | apply List.Mem.head | apply List.Mem.tail)) | assumption | exact ArgRd.rd (by assumption) _ | (apply Rd_weak; assumption; intro _ hx; exact St.sub (by repeat (first | exact List.Sublist.refl _ | apply List.Sublist.cons_cons | apply List.Sublist.cons)) hx)) rfl rfl gj rfl) ?_) | (first | (refine sx ?_; try intro _)))
        (refine JO_app (tb := tb) rfl rfl rfl rfl rfl rfl (by repeat (first | exact Sel.here _ _ | apply Sel.there)) (by first | exact vec_rd (by repeat (first | apply List.Mem.head | apply List.Mem.tail)) | assumption | exact ArgRd.rd (by assumption) _ | (apply Rd_weak; assumption; intro _ hx; exact St.sub (by repeat (first | exact List.Sublist.refl _ | apply List.Sublist.cons_cons | apply List.Sublist.cons)) hx)) (by simp only [ints_len, List.length_cons, List.length_nil]; first | omega | rfl) (by first | exact ints_one | (repeat (first | exact trivial | refine ⟨rfl, ?_⟩))) (by omega) rfl ?_; intro _ _)
        rename_i s' k'
        repeat (first | (refine sx ?_; try intro _))
        exact JS_again3 again2 (j + 1) s' k' (by omega) (by omega) (by repeat (first | exact trivial | refine ⟨rfl, ?_⟩ | refine ⟨lookI rfl (by omega), ?_⟩)) (fun w hw => by
          rw [hS2, show (S ++ [(j : Int)]).length = S.length + 1 from by simp, ← ints_app1]; exact St.sub (by repeat (first | exact List.Sublist.refl _ | apply List.Sublist.cons_cons | apply List.Sublist.cons)) hw)
      · have hs1 := sy1_no heq
        have heq' : ¬ B.getD j 0 = (n : Int) + 1 := by omega
        clear heq
        repeat (first | (apply gJO; refine JO_v (V_loadC (tb := tb) rfl (by first | exact vec_rd (by repeat (first | apply List.Mem.head | apply List.Mem.tail)) | assumption | exact ArgRd.rd (by assumption) _ | (apply Rd_weak; assumption; intro _ hx; exact St.sub (by repeat (first | exact List.Sublist.refl _ | apply List.Sublist.cons_cons | apply List.Sublist.cons)) hx)) rfl rfl gj rfl) ?_) | (first | (refine sx ?_; try intro _)))
        exact JS_again3 again2 (j + 1) s k (by omega) (by omega) (by repeat (first | exact trivial | refine ⟨rfl, ?_⟩ | refine ⟨lookI rfl (by omega), ?_⟩)) (fun w hw => by rw [hs1]; exact St.sub (by repeat (first | exact List.Sublist.refl _ | apply List.Sublist.cons_cons | apply List.Sublist.cons)) hw)
    · obtain rfl : j = i := by omega
      clear again2
      have hS2 : syA B (n + 1) = syA B n ++ sy1 B (n + 1) j := by rw [← hm]; rfl
      rw [← hS2]
      repeat (first | (refine sx ?_; try intro _))
      exact JS_again3 again (n + 1) s k (by omega) (by omega) (by repeat (first | exact trivial | refine ⟨rfl, ?_⟩ | refine ⟨lookI rfl (by omega), ?_⟩)) (fun w hw => St.sub (by repeat (first | exact List.Sublist.refl _ | apply List.Sublist.cons_cons | apply List.Sublist.cons)) hw)
  obtain rfl : n = 15 := by omega
  have hlen := hsl 15 0 (by omega) (by omega)
  rw [show sy1 B (15 + 1) 0 = [] from rfl, List.append_nil] at hlen
  obtain ⟨S, hS⟩ : ∃ S, S = syA B 15 := ⟨_, rfl⟩
  rw [← hS] at hlen
  rw [← hS]
  clear again hsl
  by_cases hf : tk B = 32768
  · by_cases hl1 : S.length = 1
    · by_cases hc1 : cn B 1 = 1
      · repeat (first | (refine sx ?_; try intro _))
        refine JS_ret Try.func17 rfl rfl ?_
        intro w hw
        exact ⟨_, _, rfl, .inr (.inr ⟨by omega, h15, by omega, rfl, b, q, d, s, k, rfl, by rw [decide_eq_true hf]; exact hw⟩)⟩
      · repeat (first | (refine sx ?_; try intro _))
        refine JS_ret Try.func17 rfl rfl ?_
        intro w hw
        exact ⟨_, _, rfl, .inr (.inr ⟨by omega, h15, by omega, rfl, b, q, d, s, k, rfl, by rw [decide_eq_true hf]; exact hw⟩)⟩
    · by_cases hl0 : S.length = 0
      · repeat (first | (refine sx ?_; try intro _))
        refine JS_ret Try.func17 rfl rfl ?_
        intro w hw
        exact ⟨_, _, rfl, .inr (.inr ⟨by omega, h15, by omega, rfl, b, q, d, s, k, rfl, by rw [decide_eq_true hf]; exact hw⟩)⟩
      · repeat (first | (refine sx ?_; try intro _))
        refine JS_ret Try.func17 rfl rfl ?_
        intro w hw
        exact ⟨_, _, rfl, .inr (.inr ⟨by omega, h15, by omega, rfl, b, q, d, s, k, rfl, by rw [decide_eq_true hf]; exact hw⟩)⟩
  · by_cases hl1 : S.length = 1
    · by_cases hc1 : cn B 1 = 1
      · repeat (first | (refine sx ?_; try intro _))
        refine JS_ret Try.func17 rfl rfl ?_
        intro w hw
        exact ⟨_, _, rfl, .inr (.inr ⟨by omega, h15, by omega, rfl, b, q, d, s, k, rfl, by rw [decide_eq_false hf]; exact hw⟩)⟩
      · repeat (first | (refine sx ?_; try intro _))
        refine JS_ret Try.func17 rfl rfl ?_
        intro w hw
        exact ⟨_, _, rfl, .inr (.inl ⟨by omega, h15, by omega, rfl, rfl, St.sub (by repeat (first | exact List.Sublist.refl _ | apply List.Sublist.cons_cons | apply List.Sublist.cons)) hw⟩)⟩
    · by_cases hl0 : S.length = 0
      · repeat (first | (refine sx ?_; try intro _))
        refine JS_ret Try.func17 rfl rfl ?_
        intro w hw
        exact ⟨_, _, rfl, .inr (.inr ⟨by omega, h15, by omega, rfl, b, q, d, s, k, rfl, by rw [decide_eq_false hf]; exact hw⟩)⟩
      · repeat (first | (refine sx ?_; try intro _))
        refine JS_ret Try.func17 rfl rfl ?_
        intro w hw
        exact ⟨_, _, rfl, .inr (.inl ⟨by omega, h15, by omega, rfl, rfl, St.sub (by repeat (first | exact List.Sublist.refl _ | apply List.Sublist.cons_cons | apply List.Sublist.cons)) hw⟩)⟩
end Go.Proofs.Ytbiocgenbgbfpaa

namespace Go.Proofs.Ytbiocgenbgbfpaa
open Sx Go
set_option linter.unusedVariables false
set_option linter.unusedSimpArgs false
/-- how many symbols have a code -/
def sm (l : List Int) : Nat := l.countP (fun x => decide (0 < x))
theorem sm_step (B : List Int) (i : Nat) (h : i < B.length) : sm (B.take (i + 1)) = sm (B.take i) + (if 0 < B.getD i 0 then 1 else 0) := by
  unfold sm
  rw [btake B i h, List.countP_append]
  by_cases h0 : 0 < B.getD i 0
  · rw [if_pos h0]; simp only [List.countP_singleton, h0, decide_true, if_true]
  · rw [if_neg h0]; simp only [List.countP_singleton, h0, decide_false, Bool.false_eq_true, if_false]
theorem half15 (k : Nat) (h : k < 15) : (2 : Int) ^ (15 - k) / 2 = 2 ^ (15 - (k + 1)) := by
  have : ∀ k : Fin 15, (2 : Int) ^ (15 - k.val) / 2 = 2 ^ (15 - (k.val + 1)) := by decide +kernel
  exact this ⟨k, h⟩
/-- may these lengths be? -/
def FINE (B : List Int) : Prop := tk B = 32768 ∨ sm B = 0 ∨ (sm B = 1 ∧ cn B 1 = 1)
set_option maxHeartbeats 4000000 in
theorem RCheck5_c {w0 : World} {H : List Asn} (p : Option Addr) (c m : Nat) (B : List Int) (hr : Rd w0 H (.slice p m c) m (ints .u8 B)) (hm : B.length = m) (hB : OKB B) (hm1 : m ≤ 140737488355328) (w : World) (hw : St w0 H w) :
    Calls Try.prog 114 #[.slice p m c] w fun e w' => ∃ r o, e = .returned (.tuple #[.int .i64 r, .bool o]) ∧ St w0 H w' ∧
      (((320 < m ∨ ∃ j, 15 < B.getD j 0) ∧ r = 1 ∧ o = false) ∨ (m ≤ 320 ∧ (∀ j, B.getD j 0 ≤ 15) ∧ ¬ FINE B ∧ r = 62 ∧ o = false) ∨ (m ≤ 320 ∧ (∀ j, B.getD j 0 ≤ 15) ∧ FINE B ∧ r = 0 ∧ o = decide (tk B = 32768))) := by
  refine enter (vs := [.slice p m c]) Try.func114 rfl rfl rfl hw ?_
  repeat (first | (apply gJR; first | (refine sx ?_; try intro _)) | (apply gJO; first | (refine sx ?_; try intro _)) | apply JS_seq | apply JS_region)
  refine JS_block ?_
  refine JS_loop2 (fun (i : Nat) (la : Int) => [(0, .slice p m c), (4, .int .i64 (tk (B.take i))), (5, .int .i64 (sm (B.take i))), (6, .int .u8 la), (7, .int .i64 i)]) (fun _ _ => H)
    (fun i la => i ≤ m ∧ i ≤ 321 ∧ (0 ≤ la ∧ la ≤ 15) ∧ (∀ j, j < i → B.getD j 0 ≤ 15) ∧ (0 ≤ tk (B.take i) ∧ tk (B.take i) ≤ 32768 * i) ∧ sm (B.take i) ≤ i ∧ (sm (B.take i) = 0 → cn (B.take i) 1 = 0) ∧ (sm (B.take i) = 1 → (la = 1 ↔ cn (B.take i) 1 = 1))) (fun i _ => 321 - i) 0 0
    ⟨by omega, by omega, by omega, fun j h => by omega, by simp [tk], by simp [sm], fun _ => by simp [cn], fun h => by simp [sm] at h⟩ (by repeat (first | exact trivial | refine ⟨rfl, ?_⟩ | refine ⟨lookI rfl (by omega), ?_⟩)) (fun _ h => h) ?_
  intro i la ⟨hi, hi2, hla, h15, ht, hs, hc0, hc1⟩ again
  by_cases him : i < m ∧ i < 321
  · obtain ⟨him, hi3⟩ := him
    have hb := hB i
    obtain ⟨n, hn⟩ := Int.eq_ofNat_of_zero_le hb.1
    have gi : (ints .u8 B)[i]? = some (.int .u8 (n : Int)) := by rw [← hn]; exact ints_get (by omega)
    by_cases hbig : 15 < n
    · clear again hc0 hc1
      repeat (first | (apply gJO; refine JO_v (V_loadC (tb := tb) rfl hr rfl rfl gi rfl) ?_) | (first | (refine sx ?_; try intro _)))
      refine JS_ret Try.func114 rfl rfl ?_
      intro w hw
      exact ⟨_, _, rfl, hw, .inl ⟨.inr ⟨i, by omega⟩, rfl, rfl⟩⟩
    have hts := tk_step B i (by omega) n hn
    have hss := sm_step B i (by omega)
    rw [hn] at hss
    have h15' : ∀ j, j < i + 1 → B.getD j 0 ≤ 15 := fun j hj => by
      rcases Nat.lt_or_ge j i with h | h
      · exact h15 j h
      · obtain rfl : j = i := by omega
        omega
    by_cases h0 : 0 < n
    · rw [if_pos h0] at hts
      rw [if_pos (by omega)] at hss
      have hp2 := p2_bd n (by omega)
      have hcs := congrFun (cn_step B i (by omega) n hn h0) 1
      have hcn1 : cn (B.take (i + 1)) 1 = cn (B.take i) 1 + (if n = 1 then 1 else 0) := by
        rw [hcs]
        by_cases h1 : n = 1
        · subst h1; simp
        · rw [if_neg (by omega), if_neg h1]; omega
      clear hb hn hcs
      repeat (first | (apply gJO; refine JO_v (V_loadC (tb := tb) rfl hr rfl rfl gi rfl) ?_) | (apply gJR; first | (refine sx ?_; try intro _)) | (apply gJO; first | (refine sx ?_; try intro _)) | apply JS_seq | apply JS_region | refine JS_condT rfl ?_ | refine JS_condF rfl ?_ | apply JS_skip | (refine JS_block ?_; apply JS_seq))
      refine JS_block ?_
      refine JS_loop1 (fun (k : Nat) => [(0, .slice p m c), (4, .int .i64 (tk (B.take i))), (5, .int .i64 (sm (B.take i) + 1)), (6, .int .u8 n), (7, .int .i64 i), (8, .int .i64 (2 ^ (15 - k))), (9, .int .u8 k)]) (fun _ => H) (fun k => k ≤ n) (fun k => n - k) 0 (by omega) (by repeat (first | exact trivial | refine ⟨rfl, ?_⟩ | refine ⟨lookI rfl (by omega), ?_⟩)) (fun _ h => h) ?_
      intro k hk again2
      by_cases hkn : k < n
      · have hh := half15 k (by omega)
        have hp3 := p2_bd k (by omega)
        obtain ⟨P, hP⟩ : ∃ P, (2 : Int) ^ (15 - k) = P := ⟨_, rfl⟩
        rw [hP] at hh hp3
        rw [hP]
        repeat (first | (apply gJO; refine JO_v (V_loadC (tb := tb) rfl hr rfl rfl gi rfl) ?_) | (first | (refine sx ?_; try intro _)))
        exact JS_again1 again2 (k + 1) (by omega) (by omega) (by exact ⟨rfl, rfl, rfl, rfl, rfl, lookI rfl hh, lookI rfl (by omega), trivial⟩) (fun _ h => h)
      · obtain rfl : k = n := by omega
        clear again2
        obtain ⟨P, hP⟩ : ∃ P, (2 : Int) ^ (15 - k) = P := ⟨_, rfl⟩
        rw [hP] at hts hp2
        rw [hP]
        repeat (first | (apply gJO; refine JO_v (V_loadC (tb := tb) rfl hr rfl rfl gi rfl) ?_) | (first | (refine sx ?_; try intro _)))
        refine JS_again2 again (i + 1) (k : Int) ⟨by omega, by omega, by omega, h15', by omega, by omega, fun h => by omega, fun h => ?_⟩ (by omega) (by repeat (first | exact trivial | refine ⟨rfl, ?_⟩ | refine ⟨lookI rfl (by omega), ?_⟩)) (fun _ h => h)
        have hz := hc0 (by omega)
        rw [hcn1, hz]
        by_cases h1 : k = 1
        · simp [h1]
        · rw [if_neg h1]; omega
    · obtain rfl : n = 0 := by omega
      rw [if_neg h0] at hts
      rw [if_neg (by omega)] at hss
      have hcs := congrFun (cn_zero B i (by omega) hn) 1
      clear hb hn
      repeat (first | (apply gJO; refine JO_v (V_loadC (tb := tb) rfl hr rfl rfl gi rfl) ?_) | (first | (refine sx ?_; try intro _)))
      exact JS_again2 again (i + 1) la ⟨by omega, by omega, hla, h15', by omega, by omega, by rw [hcs]; intro h; exact hc0 (by omega), by rw [hcs]; intro h; exact hc1 (by omega)⟩ (by omega) (by repeat (first | exact trivial | refine ⟨rfl, ?_⟩ | refine ⟨lookI rfl (by omega), ?_⟩)) (fun _ h => h)
  clear again
  by_cases hlen : 320 < m
  · by_cases hz : i < m
    · have : ¬ i < 321 := fun h => him ⟨hz, h⟩
      repeat (first | (refine sx ?_; try intro _))
      refine JS_ret Try.func114 rfl rfl ?_
      intro w hw
      exact ⟨_, _, rfl, hw, .inl ⟨.inl hlen, rfl, rfl⟩⟩
    · repeat (first | (refine sx ?_; try intro _))
      refine JS_ret Try.func114 rfl rfl ?_
      intro w hw
      exact ⟨_, _, rfl, hw, .inl ⟨.inl hlen, rfl, rfl⟩⟩
  obtain rfl : i = m := by omega
  have e1 : B.take i = B := List.take_of_length_le (by omega)
  rw [e1] at ht hs hc0 hc1
  rw [e1]
  have hall : ∀ j, B.getD j 0 ≤ 15 := fun j => by
    rcases Nat.lt_or_ge j i with h | h
    · exact h15 j h
    · rw [List.getD_eq_getElem?_getD, List.getElem?_eq_none (by omega)]; decide
  clear h15 him
  by_cases hf : tk B = 32768
  · repeat (first | (refine sx ?_; try intro _))
    refine JS_ret Try.func114 rfl rfl ?_
    intro w hw
    exact ⟨_, _, rfl, hw, .inr (.inr ⟨by omega, hall, .inl hf, rfl, (decide_eq_true hf).symm⟩)⟩
  by_cases h0 : sm B = 0
  · repeat (first | (refine sx ?_; try intro _))
    refine JS_ret Try.func114 rfl rfl ?_
    intro w hw
    exact ⟨_, _, rfl, hw, .inr (.inr ⟨by omega, hall, .inr (.inl h0), rfl, (decide_eq_false hf).symm⟩)⟩
  by_cases h1 : sm B = 1
  · have hc := hc1 h1
    clear hc0 hc1
    by_cases hl : la = 1
    · have hc2 := hc.1 hl
      clear hc
      repeat (first | (refine sx ?_; try intro _))
      refine JS_ret Try.func114 rfl rfl ?_
      intro w hw
      exact ⟨_, _, rfl, hw, .inr (.inr ⟨by omega, hall, .inr (.inr ⟨h1, hc2⟩), rfl, (decide_eq_false hf).symm⟩)⟩
    · have hc2 : ¬ cn B 1 = 1 := fun h => hl (hc.2 h)
      clear hc
      repeat (first | (refine sx ?_; try intro _))
      refine JS_ret Try.func114 rfl rfl ?_
      intro w hw
      exact ⟨_, _, rfl, hw, .inr (.inl ⟨by omega, hall, by unfold FINE; omega, rfl, rfl⟩)⟩
  · clear hc0 hc1
    repeat (first | (refine sx ?_; try intro _))
    refine JS_ret Try.func114 rfl rfl ?_
    intro w hw
    exact ⟨_, _, rfl, hw, .inr (.inl ⟨by omega, hall, by unfold FINE; omega, rfl, rfl⟩)⟩
end Go.Proofs.Ytbiocgenbgbfpaa

namespace Go.Proofs.Ytbiocgenbgbfpaa
open Sx Go
set_option linter.unusedVariables false
set_option linter.unusedSimpArgs false
/-- the first code of a length -/
def fc (B : List Int) : Nat → Int
  | 0 => 0
  | n + 1 => 2 * (fc B n + cn B n)
/-- a symbol's code -/
def cd (B : List Int) (i : Nat) : Int := (fc B (B.getD i 0).toNat + cn (B.take i) (B.getD i 0).toNat) % 4294967296
theorem cd_bd (B : List Int) (i : Nat) : 0 ≤ cd B i ∧ cd B i < 4294967296 := by unfold cd; omega
/-- the codes that are told when the length n has come as far as j -/
def told (B : List Int) (n j i : Nat) : Bool := decide (0 < B.getD i 0 ∧ (B.getD i 0 < n ∨ (B.getD i 0 = n ∧ i < j)))
def cds (B : List Int) (n j : Nat) : List Int := (List.range B.length).map fun i => if told B n j i then cd B i else 0
theorem cds_len (B : List Int) (n j : Nat) : (cds B n j).length = B.length := by simp [cds]
theorem cds_set {B : List Int} {n j : Nat} (hn : 0 < n) (hj : B.getD j 0 = (n : Int)) : (cds B n j).set j (cd B j) = cds B n (j + 1) := by
  apply List.ext_getElem?
  intro i
  rw [List.getElem?_set]
  by_cases hij : j = i
  · subst hij
    by_cases hl : j < B.length
    · have : told B n (j + 1) j = true := by unfold told; rw [hj]; simp; omega
      simp [cds, hl, this]
    · simp [cds, hl]
  · rw [if_neg hij]
    have : told B n (j + 1) i = told B n j i := by
      unfold told
      have : (i < j + 1) ↔ (i < j) := by omega
      simp [this]
    simp only [cds, List.getElem?_map]
    cases h : (List.range B.length)[i]? with
    | none => rfl
    | some x =>
      have hx : x = i := by
        have := List.getElem?_eq_some_iff.1 h
        obtain ⟨h1, h2⟩ := this
        simp at h2; exact h2.symm
      subst hx
      simp [this]
theorem cds_no {B : List Int} {n j : Nat} (hj : ¬ B.getD j 0 = (n : Int)) : cds B n j = cds B n (j + 1) := by
  unfold cds
  apply List.map_congr_left
  intro i _
  have : told B n (j + 1) i = told B n j i := by
    unfold told
    refine decide_eq_decide.2 ?_
    by_cases hij : i = j
    · subst hij; omega
    · omega
  rw [this]
theorem cds_next (B : List Int) (n : Nat) : cds B n B.length = cds B (n + 1) 0 := by
  unfold cds
  apply List.map_congr_left
  intro i hi
  have hi' : i < B.length := by simpa using hi
  have : told B (n + 1) 0 i = told B n B.length i := by
    unfold told
    congr 1
    simp only [eq_iff_iff]
    omega
  rw [this]
theorem cds_zero (B : List Int) (hB : OKB B) : cds B 1 0 = List.replicate B.length 0 := by
  unfold cds
  rw [List.eq_replicate_iff]
  refine ⟨by simp, fun b hb => ?_⟩
  simp only [List.mem_map, List.mem_range] at hb
  obtain ⟨i, _, rfl⟩ := hb
  have : told B 1 0 i = false := by
    unfold told
    have := hB i
    simp; omega
  simp [this]
theorem cn_yes (B : List Int) (j n : Nat) (h : j < B.length) (hn : B.getD j 0 = (n : Int)) (h0 : 0 < n) : cn (B.take (j + 1)) n = cn (B.take j) n + 1 := by
  rw [congrFun (cn_step B j h n hn h0) n]; simp
theorem cn_no (B : List Int) (hB : OKB B) (j n : Nat) (h : j < B.length) (hn : ¬ B.getD j 0 = (n : Int)) : cn (B.take (j + 1)) n = cn (B.take j) n := by
  obtain ⟨x, hx⟩ := Int.eq_ofNat_of_zero_le (hB j).1
  by_cases h0 : 0 < x
  · rw [congrFun (cn_step B j h x hx h0) n, if_neg (by omega)]
  · have : x = 0 := by omega
    subst this
    rw [cn_zero B j h hx]
set_option maxHeartbeats 4000000 in
/-- the reference's codes -/
theorem RCodes_c {w0 : World} {H : List Asn} (p : Option Addr) (c m : Nat) (B : List Int) (hr : Rd w0 H (.slice p m c) m (ints .u8 B)) (hm : B.length = m) (hB : OKB B) (hm1 : m ≤ 1000) (w : World) (hw : St w0 H w) :
    Calls Try.prog 91 #[.slice p m c] w fun e w' => ∃ q d, e = .returned (.slice q m d) ∧ St w0 (vec 91 1 (.slice q m d) m (ints .u32 (cds B 16 0)) :: H) w' := by
  refine enter (vs := [.slice p m c]) Try.func91 rfl rfl rfl hw ?_
  repeat (first | (apply gJR; first | (refine sx ?_; try intro _)) | (apply gJO; first | (refine sx ?_; try intro _)) | apply JS_seq | apply JS_region)
  rename_i po
  rw [show (rep (Int.toNat m) [Value.int IntKind.u32 0]) = ints .u32 (List.replicate m 0) from ints_rep]
  rw [show (m : Int).toNat = m from rfl]
  refine JS_block ?_
  refine JS_loop1 (fun (n : Nat) => [(0, .slice p m c), (3, .slice (some po) m m), (4, .int .u32 ((fc B n + cn B n) % 4294967296)), (5, .int .u8 (n + 1))]) (fun n => vec 91 1 (.slice (some po) m m) m (ints .u32 (cds B (n + 1) 0)) :: H) (fun n => n ≤ 15) (fun n => 15 - n) 0 (by omega) (by repeat (first | exact trivial | refine ⟨rfl, ?_⟩ | refine ⟨lookI rfl (by omega), ?_⟩)) (fun w hw => by rw [cds_zero B hB, hm]; exact hw) ?_
  intro n hn again
  by_cases hn15 : n < 15
  · repeat (first | (apply gJR; first | (refine sx ?_; try intro _)) | (apply gJO; first | (refine sx ?_; try intro _)) | apply JS_seq | apply JS_region | refine JS_condT rfl ?_ | apply JS_skip | (refine JS_block ?_; apply JS_seq))
    have hcode : 2 * ((fc B n + cn B n) % 4294967296) % 4294967296 = (fc B (n + 1) + cn (B.take 0) (n + 1)) % 4294967296 := by
      have : cn (B.take 0) (n + 1) = 0 := by simp [cn]
      rw [this]; simp only [fc]; omega
    rw [hcode]
    refine JS_block ?_
    refine JS_loop1 (fun (j : Nat) => [(0, .slice p m c), (3, .slice (some po) m m), (4, .int .u32 ((fc B (n + 1) + cn (B.take j) (n + 1)) % 4294967296)), (5, .int .u8 (n + 1)), (6, .int .i64 j)]) (fun j => vec 91 1 (.slice (some po) m m) m (ints .u32 (cds B (n + 1) j)) :: H) (fun j => j ≤ m) (fun j => m - j) 0 (by omega) (by repeat (first | exact trivial | refine ⟨rfl, ?_⟩ | refine ⟨lookI rfl (by omega), ?_⟩)) (fun w hw => hw) ?_
    intro j hj again2
    have hr' : Rd w0 (vec 91 1 (.slice (some po) m m) m (ints .u32 (cds B (n + 1) j)) :: H) (.slice p m c) m (ints .u8 B) := Rd_weak hr fun w hw => St.sub (by repeat (first | exact List.Sublist.refl _ | apply List.Sublist.cons_cons | apply List.Sublist.cons)) hw
    have hcl := cds_len B (n + 1) j
    by_cases hjm : j < m
    · have gj : (ints .u8 B)[j]? = some (.int .u8 (B.getD j 0)) := ints_get (by omega)
      by_cases heq : B.getD j 0 = ((n + 1 : Nat) : Int)
      · have hset := cds_set (B := B) (n := n + 1) (j := j) (by omega) heq
        have hcy := cn_yes B j (n + 1) (by omega) heq (by omega)
        have hcd : cd B j = (fc B (n + 1) + cn (B.take j) (n + 1)) % 4294967296 := by unfold cd; rw [heq]; rfl
        have heq' : B.getD j 0 = (n : Int) + 1 := by omega
        rw [hcd] at hset
        clear heq hcd
        generalize hC : (fc B (n + 1) + cn (B.take j) (n + 1)) % 4294967296 = C at *
        repeat (first | (apply gJO; refine JO_v (V_loadC (tb := tb) rfl hr' rfl rfl gj rfl) ?_) | (first | (refine sx ?_; try intro _)))
        exact JS_again1 again2 (j + 1) (by omega) (by omega) (by exact ⟨rfl, rfl, lookI rfl (by rw [hcy]; omega), rfl, lookI rfl (by omega), trivial⟩) (fun w hw => by rw [← hset]; exact hw)
      · have hset := cds_no (B := B) (n := n + 1) (j := j) heq
        have hcy := cn_no B hB j (n + 1) (by omega) heq
        have heq' : ¬ B.getD j 0 = (n : Int) + 1 := by omega
        clear heq
        repeat (first | (apply gJO; refine JO_v (V_loadC (tb := tb) rfl hr' rfl rfl gj rfl) ?_) | (first | (refine sx ?_; try intro _)))
        exact JS_again1 again2 (j + 1) (by omega) (by omega) (by exact ⟨rfl, rfl, lookI rfl (by rw [hcy]), rfl, lookI rfl (by omega), trivial⟩) (fun w hw => by rw [← hset]; exact hw)
    · obtain rfl : j = m := by omega
      have e1 : B.take j = B := List.take_of_length_le (by omega)
      have hnx := cds_next B (n + 1)
      rw [hm] at hnx
      rw [e1, hnx]
      clear again2
      repeat (first | (refine sx ?_; try intro _))
      exact JS_again1 again (n + 1) (by omega) (by omega) (by repeat (first | exact trivial | refine ⟨rfl, ?_⟩ | refine ⟨lookI rfl (by omega), ?_⟩)) (fun w hw => hw)
  · obtain rfl : n = 15 := by omega
    clear again
    repeat (first | (refine sx ?_; try intro _))
    refine JS_ret Try.func91 rfl rfl ?_
    intro w hw
    exact ⟨_, _, rfl, hw⟩
end Go.Proofs.Ytbiocgenbgbfpaa

namespace Go.Proofs.Ytbiocgenbgbfpaa
set_option linter.unusedVariables false
set_option linter.unusedSimpArgs false
theorem cn_sy1 (B : List Int) (hB : OKB B) (n : Nat) (h0 : 0 < n) : ∀ j, j ≤ B.length → ((sy1 B n j).length : Int) = cn (B.take j) n := by
  intro j
  induction j with
  | zero => intro _; simp [sy1, cn]
  | succ j ih =>
    intro hj
    have ih := ih (by omega)
    by_cases h : B.getD j 0 = (n : Int)
    · rw [sy1_yes h, cn_yes B j n (by omega) h h0]; simp; omega
    · rw [sy1_no h, cn_no B hB j n (by omega) h]; exact ih
def sumc (f : Nat → Int) : Nat → Int
  | 0 => 0
  | n + 1 => sumc f n + f (n + 1)
theorem sumc_upd (f : Nat → Int) (k : Nat) (h0 : 0 < k) : ∀ n, sumc (fun j => if j = k then f k + 1 else f j) n = sumc f n + (if k ≤ n then 1 else 0)
  | 0 => by simp [sumc]; omega
  | n + 1 => by
    simp only [sumc, sumc_upd f k h0 n]
    by_cases h : n + 1 = k
    · subst h
      rw [if_pos rfl, if_neg (by omega), if_pos (by omega)]; omega
    · rw [if_neg h]
      by_cases h1 : k ≤ n
      · rw [if_pos h1, if_pos (by omega)]; omega
      · rw [if_neg h1, if_neg (by omega)]; omega
theorem sumc_zero (n : Nat) : sumc (cn []) n = 0 := by
  induction n with
  | zero => rfl
  | succ n ih => simp [sumc, ih, cn]
theorem sm_sumc (B : List Int) (hB : OKB B) (h15 : ∀ j, B.getD j 0 ≤ 15) : ∀ i, i ≤ B.length → (sm (B.take i) : Int) = sumc (cn (B.take i)) 15 := by
  intro i
  induction i with
  | zero => intro _; rw [List.take_zero, sumc_zero]; rfl
  | succ i ih =>
    intro hi
    have ih := ih (by omega)
    obtain ⟨x, hx⟩ := Int.eq_ofNat_of_zero_le (hB i).1
    have h := h15 i
    rw [sm_step B i (by omega), hx]
    by_cases h0 : 0 < x
    · rw [if_pos (by omega), cn_step B i (by omega) x hx h0, sumc_upd _ x h0, if_pos (by omega)]; omega
    · have : x = 0 := by omega
      subst this
      rw [if_neg (by omega), cn_zero B i (by omega) hx]; omega
theorem syA_sumc (B : List Int) (hB : OKB B) : ∀ n, ((syA B n).length : Int) = sumc (cn B) n
  | 0 => rfl
  | n + 1 => by
    have h1 := syA_sumc B hB n
    have h2 := cn_sy1 B hB (n + 1) (by omega) B.length (by omega)
    rw [List.take_of_length_le (by omega)] at h2
    simp only [syA, List.length_append, sumc]; omega
/-- the symbols are as many as have a code -/
theorem sm_syA (B : List Int) (hB : OKB B) (h15 : ∀ j, B.getD j 0 ≤ 15) : (syA B 15).length = sm B := by
  have h1 := sm_sumc B hB h15 B.length (by omega)
  rw [List.take_of_length_le (by omega)] at h1
  have h2 := syA_sumc B hB 15
  omega
theorem fine_iff (B : List Int) (hB : OKB B) (h15 : ∀ j, B.getD j 0 ≤ 15) : (tk B = 32768 ∨ (syA B 15).length = 0 ∨ ((syA B 15).length = 1 ∧ cn B 1 = 1)) ↔ FINE B := by
  rw [sm_syA B hB h15]; exact Iff.rfl
end Go.Proofs.Ytbiocgenbgbfpaa

namespace Go.Proofs.Ytbiocgenbgbfpaa
set_option linter.unusedVariables false
set_option linter.unusedSimpArgs false
/-- how many symbols have a length below n -/
def psum (B : List Int) : Nat → Int
  | 0 => 0
  | n + 1 => psum B n + cn B n
theorem cn_nonneg (B : List Int) (n : Nat) : 0 ≤ cn B n := by
  unfold cn; split
  · exact Int.le_refl _
  · omega
theorem psum_mono (B : List Int) (n : Nat) : ∀ d, psum B n ≤ psum B (n + d)
  | 0 => Int.le_refl _
  | d + 1 => by
    have := psum_mono B n d
    have := cn_nonneg B (n + d)
    show psum B n ≤ psum B (n + d) + cn B (n + d)
    omega
theorem psum_syA (B : List Int) (hB : OKB B) : ∀ n, psum B (n + 1) = ((syA B n).length : Int)
  | 0 => by simp [psum, syA, cn]
  | n + 1 => by
    have h1 := psum_syA B hB n
    have h2 := syA_sumc B hB (n + 1)
    have h3 := syA_sumc B hB n
    simp only [sumc] at h2
    show psum B (n + 1) + cn B (n + 1) = _
    omega
/-- from one code to the next one, over lengths that have none -/
theorem shift_code (B : List Int) (n : Nat) (c : Int) (hc : c ≤ cn B n) : ∀ d, 0 < d → psum B (n + d) ≤ psum B n + c → psum B n + c = psum B (n + d) ∧ fc B (n + d) = (fc B n + c) * 2 ^ d
  | 0, h, _ => absurd h (by omega)
  | 1, _, h => by
    have h' : psum B n + cn B n ≤ psum B n + c := h
    have : c = cn B n := by omega
    subst this
    exact ⟨rfl, by show 2 * (fc B n + cn B n) = _; omega⟩
  | d + 2, _, h => by
    have h' : psum B (n + (d + 1)) + cn B (n + (d + 1)) ≤ psum B n + c := h
    have h0 := cn_nonneg B (n + (d + 1))
    obtain ⟨h1, h2⟩ := shift_code B n c hc (d + 1) (by omega) (by omega)
    have hz : cn B (n + (d + 1)) = 0 := by omega
    refine ⟨?_, ?_⟩
    · show psum B n + c = psum B (n + (d + 1)) + cn B (n + (d + 1)); omega
    · show 2 * (fc B (n + (d + 1)) + cn B (n + (d + 1))) = _
      rw [hz, h2, Int.pow_succ 2 (d + 1)]
      generalize (2 : Int) ^ (d + 1) = P
      grind
theorem sy1_get (B : List Int) (n : Nat) : ∀ j r, r < (sy1 B n j).length → ∃ i, i < j ∧ (sy1 B n j).getD r 0 = (i : Int) ∧ B.getD i 0 = (n : Int) ∧ (sy1 B n i).length = r
  | 0, r, h => by simp [sy1] at h
  | j + 1, r, h => by
    by_cases he : B.getD j 0 = (n : Int)
    · rw [sy1_yes he] at h ⊢
      rcases Nat.lt_or_ge r (sy1 B n j).length with h1 | h1
      · obtain ⟨i, hi, h2, h3⟩ := sy1_get B n j r h1
        refine ⟨i, by omega, ?_, h3⟩
        rw [List.getD_eq_getElem?_getD, List.getElem?_append_left h1, ← List.getD_eq_getElem?_getD]; exact h2
      · have hr : r = (sy1 B n j).length := by simp at h; omega
        subst hr
        exact ⟨j, by omega, by simp, he, rfl⟩
    · rw [sy1_no he] at h ⊢
      obtain ⟨i, hi, h2⟩ := sy1_get B n j r h
      exact ⟨i, by omega, h2⟩
/-- the symbol at a place: its length, and which one of that length it is -/
theorem syA_get (B : List Int) : ∀ N t, t < (syA B N).length → ∃ n r i, n < N ∧ t = (syA B n).length + r ∧ r < (sy1 B (n + 1) B.length).length ∧ i < B.length ∧ (syA B N).getD t 0 = (i : Int) ∧ B.getD i 0 = ((n + 1 : Nat) : Int) ∧ (sy1 B (n + 1) i).length = r
  | 0, t, h => by simp [syA] at h
  | N + 1, t, h => by
    simp only [syA] at h ⊢
    rcases Nat.lt_or_ge t (syA B N).length with h1 | h1
    · obtain ⟨n, r, i, h2, h3, h4, h5, h6, h7⟩ := syA_get B N t h1
      refine ⟨n, r, i, by omega, h3, h4, h5, ?_, h7⟩
      rw [List.getD_eq_getElem?_getD, List.getElem?_append_left h1, ← List.getD_eq_getElem?_getD]; exact h6
    · have hr : t - (syA B N).length < (sy1 B (N + 1) B.length).length := by rw [List.length_append] at h; omega
      obtain ⟨i, h2, h3, h4, h5⟩ := sy1_get B (N + 1) B.length (t - (syA B N).length) hr
      refine ⟨N, t - (syA B N).length, i, by omega, by omega, hr, h2, ?_, h4, h5⟩
      rw [List.getD_eq_getElem?_getD, List.getElem?_append_right h1, ← List.getD_eq_getElem?_getD]; exact h3
end Go.Proofs.Ytbiocgenbgbfpaa

namespace Go.Proofs.Ytbiocgenbgbfpaa
open Sx Go
set_option linter.unusedVariables false
set_option linter.unusedSimpArgs false
theorem mem_sy1 (B : List Int) (n j i : Nat) : (i : Int) ∈ sy1 B n j ↔ i < j ∧ B.getD i 0 = (n : Int) := by
  unfold sy1
  simp only [List.mem_map, List.mem_filter, List.mem_range, beq_iff_eq]
  constructor
  · rintro ⟨a, ⟨h1, h2⟩, h3⟩
    obtain rfl : a = i := by omega
    exact ⟨h1, h2⟩
  · rintro ⟨h1, h2⟩
    exact ⟨i, ⟨h1, h2⟩, rfl⟩
theorem mem_syA (B : List Int) (i : Nat) : ∀ N, (i : Int) ∈ syA B N ↔ i < B.length ∧ 0 < B.getD i 0 ∧ B.getD i 0 ≤ (N : Int)
  | 0 => by simp only [syA, List.not_mem_nil, false_iff]; omega
  | N + 1 => by
    simp only [syA, List.mem_append, mem_syA B i N, mem_sy1]
    omega
attribute [local irreducible] syA
def outC (B : List Int) (t : Nat) : List Int := (List.range B.length).map fun (i : Nat) => if decide ((i : Int) ∈ (syA B 15).take t) then cd B i else 0
theorem outC_len (B : List Int) (t : Nat) : (outC B t).length = B.length := by simp [outC]
theorem outC_zero (B : List Int) : outC B 0 = List.replicate B.length 0 := by
  unfold outC
  rw [List.eq_replicate_iff]
  refine ⟨by simp, fun b hb => ?_⟩
  simp at hb
  exact hb.2.symm
theorem outC_set {B : List Int} {t i : Nat} (ht : t < (syA B 15).length) (hi : (syA B 15).getD t 0 = (i : Int)) : (outC B t).set i (cd B i) = outC B (t + 1) := by
  have hts : (syA B 15).take (t + 1) = (syA B 15).take t ++ [(i : Int)] := by rw [btake _ _ ht, hi]
  apply List.ext_getElem?
  intro j
  rw [List.getElem?_set]
  by_cases hij : i = j
  · subst hij
    by_cases hl : i < B.length
    · simp [outC, hl, hts]
    · simp [outC, hl]
  · rw [if_neg hij]
    simp only [outC, List.getElem?_map]
    cases h : (List.range B.length)[j]? with
    | none => rfl
    | some x =>
      have hx : x = j := by
        obtain ⟨h1, h2⟩ := List.getElem?_eq_some_iff.1 h
        simp at h2; exact h2.symm
      subst hx
      have : ((x : Int) ∈ (syA B 15).take (t + 1)) ↔ ((x : Int) ∈ (syA B 15).take t) := by
        rw [hts, List.mem_append]
        simp; omega
      simp [this]
theorem outC_end {B : List Int} (h15 : ∀ j, B.getD j 0 ≤ 15) : outC B (syA B 15).length = cds B 16 0 := by
  unfold outC cds
  apply List.map_congr_left
  intro i hi
  have hi' : i < B.length := by simpa using hi
  rw [List.take_of_length_le (by omega)]
  have : decide ((i : Int) ∈ syA B 15) = told B 16 0 i := by
    unfold told
    refine decide_eq_decide.2 ?_
    rw [mem_syA]
    have := h15 i
    omega
  rw [this]
end Go.Proofs.Ytbiocgenbgbfpaa

namespace Go.Proofs.Ytbiocgenbgbfpaa
open Sx Go
set_option linter.unusedVariables false
set_option linter.unusedSimpArgs false
theorem mod_mul (X P : Int) : X % 4294967296 * P % 4294967296 = X * P % 4294967296 := by
  rw [Int.mul_emod, Int.emod_emod, ← Int.mul_emod]
attribute [local irreducible] syA fc
set_option maxHeartbeats 4000000 in
/-- a set's codes -/
theorem Codes_c {w0 : World} {H : List Asn} (b : Nat) (q s : Option Addr) (d e m : Nat) (B : List Int) (f : Nat → Int) (full : Bool) (hb : blk b (setCells (.slice q m d) f (.slice s (syA B 15).length e) full) ∈ H) (hrl : Rd w0 H (.slice q m d) m (ints .u8 B)) (hrs : Rd w0 H (.slice s (syA B 15).length e) (syA B 15).length (ints .i64 (syA B 15)))
    (hm : B.length = m) (hB : OKB B) (h15 : ∀ j, B.getD j 0 ≤ 15) (hm1 : m ≤ 1000) (w : World) (hw : St w0 H w) :
    Calls Try.prog 79 #[.pointer (some ⟨b, 0, none⟩)] w fun e w' => ∃ p c, e = .returned (.slice p m c) ∧ St w0 (vec 91 1 (.slice p m c) m (ints .u32 (cds B 16 0)) :: H) w' := by
  refine enter (vs := [.pointer (some ⟨b, 0, none⟩)]) Try.func79 rfl rfl rfl hw ?_
  repeat (first | (apply gJO; first | refine JO_v (V_load (tb := tb) rfl hb rfl rfl rfl rfl) ?_ | refine JO_v (V_load (tb := tb) rfl (List.Mem.tail _ hb) rfl rfl rfl rfl) ?_) | (apply gJR; first | (refine sx ?_; try intro _)) | (apply gJO; first | (refine sx ?_; try intro _)) | apply JS_seq | apply JS_region)
  rename_i po
  rw [show (rep (Int.toNat m) [Value.int IntKind.u32 0]) = ints .u32 (List.replicate m 0) from ints_rep]
  rw [show (m : Int).toNat = m from rfl]
  refine JS_block ?_
  refine JS_loop3 (fun (t l : Nat) (c : Int) => [(0, .pointer (some ⟨b, 0, none⟩)), (3, .slice (some po) m m), (4, .int .u32 ((fc B l + c) % 4294967296)), (5, .int .u8 l), (18, .slice s (syA B 15).length e), (19, .int .i64 ((syA B 15).length : Nat)), (20, .int .i64 t)]) (fun t _ _ => vec 91 1 (.slice (some po) m m) m (ints .u32 (outC B t)) :: H)
    (fun t l c => t ≤ (syA B 15).length ∧ l ≤ 15 ∧ psum B l + c = t ∧ 0 ≤ c ∧ c ≤ cn B l) (fun t _ _ => (syA B 15).length - t) 0 0 0 ⟨by omega, by omega, rfl, by omega, by simp [cn]⟩ (by exact ⟨rfl, rfl, lookI rfl (by unfold fc; rfl), rfl, rfl, rfl, rfl, trivial⟩) (fun w hw => by rw [outC_zero, hm]; exact hw) ?_
  intro t l c ⟨ht, hl, hp, hc0, hc⟩ again
  have hrl' : Rd w0 (vec 91 1 (.slice (some po) m m) m (ints .u32 (outC B t)) :: H) (.slice q m d) m (ints .u8 B) := Rd_weak hrl fun w hw => St.sub (by repeat (first | exact List.Sublist.refl _ | apply List.Sublist.cons_cons | apply List.Sublist.cons)) hw
  have hrs' : Rd w0 (vec 91 1 (.slice (some po) m m) m (ints .u32 (outC B t)) :: H) (.slice s (syA B 15).length e) (syA B 15).length (ints .i64 (syA B 15)) := Rd_weak hrs fun w hw => St.sub (by repeat (first | exact List.Sublist.refl _ | apply List.Sublist.cons_cons | apply List.Sublist.cons)) hw
  by_cases htk : t < (syA B 15).length
  · obtain ⟨n, r, i, hn, h1, h2, hi, h3, h4, h5⟩ := syA_get B 15 t htk
    have hps := psum_syA B hB n
    have hcr := cn_sy1 B hB (n + 1) (by omega) i (by omega)
    have hcm := cn_sy1 B hB (n + 1) (by omega) B.length (by omega)
    rw [List.take_of_length_le (by omega)] at hcm
    have hset := outC_set htk h3
    have hcd : cd B i = (fc B (n + 1) + r) % 4294967296 := by unfold cd; rw [h4, Int.toNat_natCast, ← hcr, h5]
    have hle : l ≤ n + 1 := by
      rcases Nat.lt_or_ge (n + 1) l with h | h
      · exfalso
        have hmo := psum_mono B (n + 1 + 1) (l - (n + 2))
        rw [show n + 1 + 1 + (l - (n + 2)) = l by omega] at hmo
        have : psum B (n + 1 + 1) = psum B (n + 1) + cn B (n + 1) := rfl
        omega
      · exact h
    have hsh : fc B (n + 1) + r = (fc B l + c) * 2 ^ (n + 1 - l) := by
      rcases Nat.eq_or_lt_of_le hle with h | h
      · subst h
        rw [Nat.sub_self, Int.pow_zero, Int.mul_one]; omega
      · obtain ⟨g1, g2⟩ := shift_code B l c hc (n + 1 - l) (by omega) (by rw [show l + (n + 1 - l) = n + 1 by omega]; omega)
        rw [show l + (n + 1 - l) = n + 1 by omega] at g1 g2
        rw [← g2]; omega
    have hcl := outC_len B t
    have gs : (ints .i64 (syA B 15))[t]? = some (.int .i64 (i : Int)) := by rw [← h3]; exact ints_get htk
    have gl : (ints .u8 B)[i]? = some (.int .u8 ((n + 1 : Nat) : Int)) := by rw [← h4]; exact ints_get hi
    have hms : min (((n + 1 : Nat) : Int) - (l : Int)).toNat IntKind.u32.bits = n + 1 - l := by show min _ 32 = _; omega
    have hwr : IntKind.u32.wrap ((fc B l + c) % 4294967296 * 2 ^ (n + 1 - l)) = cd B i := by
      rw [hcd, hsh, ← mod_mul]; exact mu32 _
    have hcdb := cd_bd B i
    have hsl := syA_len B 15
    have htb : t ≤ 15000 := by omega
    have hrc : (r : Int) + 1 ≤ cn B (n + 1) := by omega
    clear hsh hcm hcr hsl
    repeat (first | (apply gJO; first | refine JO_v (V_load (tb := tb) rfl (List.Mem.tail _ hb) rfl rfl rfl rfl) ?_ | refine JO_v (V_loadC (tb := tb) rfl hrs' rfl rfl gs rfl) ?_ | refine JO_v (V_loadC (tb := tb) rfl hrl' rfl rfl gl rfl) ?_ | refine JO_v (V_shl (m := n + 1 - l) (c := cd B i) rfl rfl (by omega) hms hwr rfl) ?_) | (first | (refine sx ?_; try intro _)))
    exact JS_again3 again (t + 1) (n + 1) ((r : Int) + 1) ⟨by omega, by omega, by omega, by omega, by omega⟩ (by omega) (by exact ⟨rfl, rfl, lookI rfl (by rw [hcd]; omega), lookI rfl (by omega), rfl, rfl, lookI rfl (by omega), trivial⟩) (fun w hw => by rw [← hset]; exact hw)
  · obtain rfl : t = (syA B 15).length := by omega
    rw [outC_end h15]
    clear again
    repeat (first | (refine sx ?_; try intro _))
    refine JS_ret Try.func79 rfl rfl ?_
    intro w hw
    exact ⟨_, _, rfl, hw⟩
end Go.Proofs.Ytbiocgenbgbfpaa

namespace Go.Proofs.Ytbiocgenbgbfpaa
open Sx Go
set_option linter.unusedVariables false
set_option linter.unusedSimpArgs false
theorem mask1_u8 {a : Int} (ha : 0 ≤ a ∧ a < 256) : IntKind.u8.wrap ((BitVec.ofInt IntKind.u8.bits a &&& BitVec.ofInt IntKind.u8.bits 1).toNat) = a % 2 := by
  obtain ⟨n, rfl⟩ := Int.eq_ofNat_of_zero_le ha.1
  have : ∀ k : Fin 256, IntKind.u8.wrap ((BitVec.ofInt IntKind.u8.bits (k.val : Int) &&& BitVec.ofInt IntKind.u8.bits 1).toNat) = (k.val : Int) % 2 := by decide +kernel
  exact this ⟨n, by omega⟩
theorem or0_u32 {x : Int} (hx : x = 0 ∨ x = 1) : IntKind.u32.wrap ((BitVec.ofInt IntKind.u32.bits 0 ||| BitVec.ofInt IntKind.u32.bits x).toNat) = x := by
  rcases hx with rfl | rfl <;> decide +kernel
theorem Left_c {w0 : World} {H : List Asn} (b : Nat) (q : Option Addr) (d m : Nat) (n : Int) (hb : blk b [.slice q m d, .int .i64 n] ∈ H) (hm1 : m ≤ 140737488355328) (hn : 0 ≤ n ∧ n ≤ 8 * m) (w : World) (hw : St w0 H w) :
    Calls Try.prog 141 #[.pointer (some ⟨b, 0, none⟩)] w fun e w' => e = .returned (.int .i64 (8 * m - n)) ∧ St w0 H w' := by
  refine enter (vs := [.pointer (some ⟨b, 0, none⟩)]) Try.func141 rfl rfl rfl hw ?_
  repeat (first | (apply gQO; refine QO_v rfl (V_load (tb := tb) rfl hb rfl rfl rfl rfl) ?_) | (first | (refine sy ?_; try intro _)))
  refine JS_ret Try.func141 rfl rfl ?_
  intro w hw
  exact ⟨rfl, hw⟩
set_option maxHeartbeats 2000000 in
/-- one bit -/
theorem Bit1_c {w0 : World} {H : List Asn} (b : Nat) (q : Option Addr) (d m : Nat) (B : List Int) (hr : Rd w0 H (.slice q m d) m (ints .u8 B)) (hm : B.length = m) (hB : OKB B) (hm1 : m ≤ 140737488355328) (n : Nat) (hn : n ≤ 8 * m) (w : World) (hw : St w0 (blk b [.slice q m d, .int .i64 n] :: H) w) :
    Calls Try.prog 136 #[.pointer (some ⟨b, 0, none⟩), .int .i64 1] w fun e w' => ∃ x r, e = .returned (.tuple #[.int .u32 x, .int .i64 r]) ∧
      ((n = 8 * m ∧ x = 0 ∧ r = 20 ∧ St w0 (blk b [.slice q m d, .int .i64 n] :: H) w') ∨ (n < 8 * m ∧ r = 0 ∧ x = B.getD (n / 8) 0 / 2 ^ (n % 8) % 2 ∧ St w0 (blk b [.slice q m d, .int .i64 (n + 1 : Nat)] :: H) w')) := by
  have hr' : Rd w0 (blk b [.slice q m d, .int .i64 n] :: H) (.slice q m d) m (ints .u8 B) := Rd_weak hr fun w hw => St.sub (by repeat (first | exact List.Sublist.refl _ | apply List.Sublist.cons_cons | apply List.Sublist.cons)) hw
  refine enter (vs := [.pointer (some ⟨b, 0, none⟩), .int .i64 1]) Try.func136 rfl rfl rfl hw ?_
  repeat (first | (refine sx ?_; try intro _))
  refine JO_call Try.call141 rfl rfl fun w hw => (Left_c b q d m n (List.Mem.head _) hm1 (by omega) w hw).mono ?_
  rintro e w' ⟨rfl, hw'⟩
  refine ⟨_, rfl, _, hw', ?_⟩
  clear hw' hw w w'
  by_cases hend : n = 8 * m
  · repeat (first | (refine sx ?_; try intro _))
    refine JS_ret Try.func136 rfl rfl ?_
    intro w hw
    exact ⟨_, _, rfl, .inl ⟨hend, rfl, rfl, hw⟩⟩
  · have hb := hB (n / 8)
    have gi : (ints .u8 B)[n / 8]? = some (.int .u8 (B.getD (n / 8) 0)) := ints_get (by omega)
    have hs : min ((n : Int) % 8).toNat IntKind.u8.bits = n % 8 := by show min _ 8 = _; omega
    obtain ⟨y, hy⟩ : ∃ y, B.getD (n / 8) 0 / 2 ^ (n % 8) = y := ⟨_, rfl⟩
    have hpos : (0 : Int) < 2 ^ (n % 8) := Int.pow_pos (by decide)
    have hy0 : 0 ≤ y := by rw [← hy]; exact Int.ediv_nonneg hb.1 (Int.le_of_lt hpos)
    have hy1 : y < 256 := by
      rw [← hy]
      exact Int.lt_of_le_of_lt (Int.ediv_le_self _ hb.1) hb.2
    have hz : y % 2 = 0 ∨ y % 2 = 1 := by omega
    rw [hy]
    repeat (first | (apply gQO; refine QO_v rfl (V_loadC (tb := tb) rfl hr' rfl rfl gi rfl) ?_) | (apply gQO; refine QO_v rfl (V_shr (m := n % 8) rfl rfl (by omega) hs hy rfl) ?_) | (apply gQO; refine QO_v rfl (V_and rfl rfl (mask1_u8 ⟨hy0, hy1⟩) rfl) ?_) | (apply gQO; refine QO_v rfl (V_shl (m := 0) (c := y % 2) rfl rfl (by omega) rfl (by rw [show y % 2 * 2 ^ 0 = y % 2 from by omega]; exact wu32 (by omega)) rfl) ?_) | (apply gQO; refine QO_v rfl (V_or rfl rfl (or0_u32 hz) rfl) ?_) | refine JS_loop' ?_ | refine JS_inLoop ?_ | (first | (refine sx ?_; try intro _)))
    refine JS_ret Try.func136 rfl rfl ?_
    intro w hw
    exact ⟨_, _, rfl, .inr ⟨by omega, rfl, rfl, hw⟩⟩
theorem Bit_c {w0 : World} {H : List Asn} (b : Nat) (q : Option Addr) (d m : Nat) (B : List Int) (hr : Rd w0 H (.slice q m d) m (ints .u8 B)) (hm : B.length = m) (hB : OKB B) (hm1 : m ≤ 140737488355328) (n : Nat) (hn : n ≤ 8 * m) (w : World) (hw : St w0 (blk b [.slice q m d, .int .i64 n] :: H) w) :
    Calls Try.prog 150 #[.pointer (some ⟨b, 0, none⟩)] w fun e w' => ∃ x r, e = .returned (.tuple #[.int .u32 x, .int .i64 r]) ∧
      ((n = 8 * m ∧ x = 0 ∧ r = 20 ∧ St w0 (blk b [.slice q m d, .int .i64 n] :: H) w') ∨ (n < 8 * m ∧ r = 0 ∧ x = B.getD (n / 8) 0 / 2 ^ (n % 8) % 2 ∧ St w0 (blk b [.slice q m d, .int .i64 (n + 1 : Nat)] :: H) w')) := by
  refine enter (vs := [.pointer (some ⟨b, 0, none⟩)]) Try.func150 rfl rfl rfl hw ?_
  repeat (first | (refine sx ?_; try intro _))
  refine JO_call Try.call136 rfl rfl fun w hw => (Bit1_c b q d m B hr hm hB hm1 n hn w hw).mono ?_
  rintro e w' ⟨x, r, rfl, h⟩
  rcases h with ⟨h1, rfl, rfl, hw'⟩ | ⟨h1, rfl, hx, hw'⟩
  · refine ⟨_, rfl, _, hw', ?_⟩
    repeat (first | (refine sx ?_; try intro _))
    refine JS_ret Try.func150 rfl rfl ?_
    intro w hw
    exact ⟨_, _, rfl, .inl ⟨h1, rfl, rfl, hw⟩⟩
  · refine ⟨_, rfl, _, hw', ?_⟩
    repeat (first | (refine sx ?_; try intro _))
    refine JS_ret Try.func150 rfl rfl ?_
    intro w hw
    exact ⟨_, _, rfl, .inr ⟨h1, rfl, hx, hw⟩⟩
end Go.Proofs.Ytbiocgenbgbfpaa

namespace Go.Proofs.Ytbiocgenbgbfpaa
open Sx Go
set_option linter.unusedVariables false
set_option linter.unusedSimpArgs false
attribute [local irreducible] syA
/-! what is read by a set's codes -/
theorem cn_app (l : List Int) (x : Int) (n : Nat) : cn (l ++ [x]) n = cn l n + (if 0 < n ∧ x = (n : Int) then 1 else 0) := by
  unfold cn
  rw [List.countP_append]
  by_cases h0 : n = 0
  · simp [h0]
  · rw [if_neg h0, if_neg h0]
    by_cases hx : x = (n : Int)
    · rw [if_pos ⟨by omega, hx⟩]; simp [hx]
    · rw [if_neg (fun h => hx h.2)]
      have : ¬ (x == (n : Int)) = true := by simpa using hx
      simp [this]
theorem fc_app (l : List Int) (k : Nat) : ∀ n, fc (l ++ [(k : Int)]) n = fc l n + (if 0 < k ∧ k < n then 2 ^ (n - k) else 0)
  | 0 => by simp [fc]
  | n + 1 => by
    simp only [fc, fc_app l k n, cn_app]
    by_cases h0 : 0 < k
    · rcases Nat.lt_trichotomy k n with h | h | h
      · rw [if_pos ⟨h0, h⟩, if_neg (by omega), if_pos ⟨h0, by omega⟩, show n + 1 - k = (n - k) + 1 by omega, Int.pow_succ]; omega
      · subst h
        rw [if_neg (by omega), if_pos ⟨h0, rfl⟩, if_pos ⟨h0, by omega⟩, show k + 1 - k = 1 by omega]; omega
      · rw [if_neg (by omega), if_neg (by omega), if_neg (by omega)]; omega
    · rw [if_neg (by omega), if_neg (by omega), if_neg (by omega)]; omega
theorem fc_tk (B : List Int) (hB : OKB B) (h15 : ∀ j, B.getD j 0 ≤ 15) : ∀ i, i ≤ B.length → fc (B.take i) 15 + cn (B.take i) 15 = tk (B.take i)
  | 0, _ => by rw [List.take_zero]; decide
  | i + 1, h => by
    obtain ⟨n, hn⟩ := Int.eq_ofNat_of_zero_le (hB i).1
    have h1 := h15 i
    rw [tk_step B i (by omega) n hn, btake B i (by omega), hn, fc_app, cn_app, ← fc_tk B hB h15 i (by omega)]
    by_cases h0 : 0 < n
    · rw [if_pos h0]
      by_cases h2 : n = 15
      · subst h2; simp; omega
      · rw [if_pos ⟨h0, by omega⟩, if_neg (by omega)]; omega
    · rw [if_neg h0, if_neg (by omega), if_neg (by omega)]; omega
theorem fc_nn (B : List Int) : ∀ n, 0 ≤ fc B n
  | 0 => Int.le_refl _
  | n + 1 => by
    have := fc_nn B n
    have := cn_nonneg B n
    show 0 ≤ 2 * (fc B n + cn B n); omega
theorem FINE_tk (B : List Int) (hB : OKB B) (h15 : ∀ j, B.getD j 0 ≤ 15) (hF : FINE B) : tk B ≤ 32768 := by
  rcases hF with h | h | h
  · omega
  · have : ∀ i, i ≤ B.length → sm (B.take i) = 0 → tk (B.take i) = 0 := by
      intro i
      induction i with
      | zero => intro _ _; rfl
      | succ i ih =>
        intro hi hs
        rw [sm_step B i (by omega)] at hs
        obtain ⟨n, hn⟩ := Int.eq_ofNat_of_zero_le (hB i).1
        rw [tk_step B i (by omega) n hn]
        by_cases h0 : 0 < n
        · rw [if_pos (by omega)] at hs; omega
        · rw [if_neg h0, ih (by omega) (by omega)]; rfl
    have := this B.length (Nat.le_refl _) (by rw [List.take_length]; exact h)
    rw [List.take_length] at this; omega
  · have : ∀ i, i ≤ B.length → tk (B.take i) ≤ 32768 * sm (B.take i) := by
      intro i
      induction i with
      | zero => intro _; simp [tk, sm]
      | succ i ih =>
        intro hi
        rw [sm_step B i (by omega)]
        obtain ⟨n, hn⟩ := Int.eq_ofNat_of_zero_le (hB i).1
        rw [tk_step B i (by omega) n hn]
        have := ih (by omega)
        have h2 := h15 i
        have := p2_bd n (by omega)
        by_cases h0 : 0 < n
        · rw [if_pos h0, if_pos (by omega)]; omega
        · rw [if_neg h0, if_neg (by omega)]; omega
    have := this B.length (Nat.le_refl _)
    rw [List.take_length] at this; omega
theorem fc_le (B : List Int) (hB : OKB B) (h15 : ∀ j, B.getD j 0 ≤ 15) (hF : FINE B) : ∀ d, d ≤ 15 → fc B (15 - d) + cn B (15 - d) ≤ 2 ^ (15 - d)
  | 0, _ => by
    have h := fc_tk B hB h15 B.length (Nat.le_refl _)
    rw [List.take_length] at h
    have := FINE_tk B hB h15 hF
    show fc B 15 + cn B 15 ≤ 32768; omega
  | d + 1, hd => by
    have h := fc_le B hB h15 hF d (by omega)
    have e : 15 - d = (15 - (d + 1)) + 1 := by omega
    rw [e, Int.pow_succ] at h
    have h2 : fc B (15 - (d + 1) + 1) = 2 * (fc B (15 - (d + 1)) + cn B (15 - (d + 1))) := rfl
    have := cn_nonneg B (15 - (d + 1) + 1)
    omega
theorem fc_bd (B : List Int) (hB : OKB B) (h15 : ∀ j, B.getD j 0 ≤ 15) (hF : FINE B) (n : Nat) (hn : n ≤ 15) : fc B n + cn B n ≤ 2 ^ n := by
  have := fc_le B hB h15 hF (15 - n) (by omega)
  rwa [show 15 - (15 - n) = n by omega] at this
theorem p15 (n : Nat) (h : n ≤ 15) : (1 : Int) ≤ 2 ^ n ∧ (2 : Int) ^ n ≤ 32768 := by
  have := p2_bd (15 - n) (by omega)
  rwa [show 15 - (15 - n) = n by omega] at this
/-- a number of bits, the first one the highest -/
def bval (b : Nat → Int) : Nat → Int
  | 0 => 0
  | n + 1 => 2 * bval b n + b n
/-- the symbol i is what the bits begin with -/
def DEC (B : List Int) (b : Nat → Int) (left : Nat) (i : Nat) : Prop :=
  ∃ n : Nat, i < B.length ∧ 0 < n ∧ B.getD i 0 = (n : Int) ∧ n ≤ left ∧ bval b n = cd B i
theorem cd_eq (B : List Int) (hB : OKB B) (h15 : ∀ j, B.getD j 0 ≤ 15) (hF : FINE B) (i n : Nat) (hi : i < B.length) (h0 : 0 < n) (hn : B.getD i 0 = (n : Int)) : cd B i = fc B n + cn (B.take i) n ∧ cn (B.take i) n < cn B n := by
  have h1 := cn_yes B i n hi hn h0
  have h2 : ∀ d, i + 1 + d ≤ B.length → cn (B.take (i + 1)) n ≤ cn (B.take (i + 1 + d)) n := by
    intro d
    induction d with
    | zero => intro _; exact Int.le_refl _
    | succ d ih =>
      intro hd
      have := ih (by omega)
      rw [show i + 1 + (d + 1) = (i + 1 + d) + 1 from rfl, btake B (i + 1 + d) (by omega), cn_app]
      split <;> omega
  have h3 := h2 (B.length - (i + 1)) (by omega)
  rw [show i + 1 + (B.length - (i + 1)) = B.length by omega, List.take_length] at h3
  have h4 := fc_nn B n
  have h5 := cn_nonneg (B.take i) n
  have h15i := h15 i
  have h6 := fc_bd B hB h15 hF n (by omega)
  have h7 := p15 n (by omega)
  refine ⟨?_, by omega⟩
  unfold cd
  rw [hn, Int.toNat_natCast]; omega
theorem cn_mono (B : List Int) (n i j : Nat) (hij : i ≤ j) (hj : j ≤ B.length) : cn (B.take i) n ≤ cn (B.take j) n := by
  obtain ⟨d, rfl⟩ : ∃ d, j = i + d := ⟨j - i, by omega⟩
  clear hij
  induction d with
  | zero => exact Int.le_refl _
  | succ d ih =>
    have := ih (by omega)
    rw [show i + (d + 1) = (i + d) + 1 from rfl, btake B (i + d) (by omega), cn_app]
    split <;> omega
/-- once read, always behind -/
theorem val_behind (B : List Int) (b : Nat → Int) (hb : ∀ j, b j = 0 ∨ b j = 1) (n : Nat) (h : bval b n < fc B n + cn B n) : ∀ d, 0 < d → bval b (n + d) < fc B (n + d)
  | 0, h0 => absurd h0 (by omega)
  | 1, _ => by
    have := hb n
    show 2 * bval b n + b n < 2 * (fc B n + cn B n); omega
  | d + 2, _ => by
    have h1 := val_behind B b hb n h (d + 1) (by omega)
    have := hb (n + (d + 1))
    have := cn_nonneg B (n + (d + 1))
    show 2 * bval b (n + (d + 1)) + b (n + (d + 1)) < 2 * (fc B (n + (d + 1)) + cn B (n + (d + 1))); omega
/-- no code begins with another one -/
theorem DEC_one (B : List Int) (hB : OKB B) (h15 : ∀ j, B.getD j 0 ≤ 15) (hF : FINE B) (b : Nat → Int) (hb : ∀ j, b j = 0 ∨ b j = 1) (left i j : Nat) (h1 : DEC B b left i) (h2 : DEC B b left j) : i = j := by
  obtain ⟨n, hi, hn0, hn, hnl, hv⟩ := h1
  obtain ⟨k, hj, hk0, hk, hkl, hu⟩ := h2
  obtain ⟨c1, c2⟩ := cd_eq B hB h15 hF i n hi hn0 hn
  obtain ⟨c3, c4⟩ := cd_eq B hB h15 hF j k hj hk0 hk
  have z1 := cn_nonneg (B.take i) n
  have z2 := cn_nonneg (B.take j) k
  rcases Nat.lt_trichotomy n k with h | h | h
  · have := val_behind B b hb n (by omega) (k - n) (by omega)
    rw [show n + (k - n) = k by omega] at this; omega
  · subst h
    rcases Nat.lt_trichotomy i j with h | h | h
    · have a1 := cn_yes B i n hi hn hn0
      have a2 := cn_mono B n (i + 1) j (by omega) (by omega)
      omega
    · exact h
    · have a1 := cn_yes B j n hj hk hk0
      have a2 := cn_mono B n (j + 1) i (by omega) (by omega)
      omega
  · have := val_behind B b hb k (by omega) (n - k) (by omega)
    rw [show k + (n - k) = n by omega] at this; omega
/-- the symbol at a place of the codes of one length -/
theorem sym_at (B : List Int) (hB : OKB B) (h15 : ∀ j, B.getD j 0 ≤ 15) (hF : FINE B) (n : Nat) (h0 : 0 < n) (hn : n ≤ 15) (k : Nat) (hk : (k : Int) < cn B n) :
    ∃ i : Nat, psum B n + k < ((syA B 15).length : Int) ∧ (syA B 15).getD (psum B n + k).toNat 0 = (i : Int) ∧ i < B.length ∧ B.getD i 0 = (n : Int) ∧ cd B i = fc B n + k := by
  have hp : 0 ≤ psum B n := by
    have := psum_mono B 0 n
    rw [Nat.zero_add] at this
    exact this
  have hl : psum B n + k < ((syA B 15).length : Int) := by
    have h1 := psum_syA B hB 15
    have h2 := psum_mono B (n + 1) (15 - n)
    rw [show n + 1 + (15 - n) = 16 by omega] at h2
    have : psum B (n + 1) = psum B n + cn B n := rfl
    have : psum B (15 + 1) = psum B 16 := rfl
    omega
  obtain ⟨n', r, i, g1, g2, g3, g4, g5, g6, g7⟩ := syA_get B 15 (psum B n + k).toNat (by omega)
  have e1 := psum_syA B hB n'
  have e2 := cn_sy1 B hB (n' + 1) (by omega) i (by omega)
  have e3 := cn_sy1 B hB (n' + 1) (by omega) B.length (Nat.le_refl _)
  rw [List.take_length] at e3
  have e4 : psum B (n' + 1 + 1) = psum B (n' + 1) + cn B (n' + 1) := rfl
  have e5 : psum B (n + 1) = psum B n + cn B n := rfl
  have hnn : n' + 1 = n := by
    rcases Nat.lt_trichotomy (n' + 1) n with h | h | h
    · have := psum_mono B (n' + 1 + 1) (n - (n' + 2))
      rw [show n' + 1 + 1 + (n - (n' + 2)) = n by omega] at this; omega
    · exact h
    · have := psum_mono B (n + 1) (n' + 1 - (n + 1))
      rw [show n + 1 + (n' + 1 - (n + 1)) = n' + 1 by omega] at this; omega
  subst hnn
  refine ⟨i, hl, g5, g4, g6, ?_⟩
  rw [(cd_eq B hB h15 hF i (n' + 1) g4 (by omega) g6).1]; omega
end Go.Proofs.Ytbiocgenbgbfpaa

namespace Go.Proofs.Ytbiocgenbgbfpaa
open Sx Go
set_option linter.unusedVariables false
set_option linter.unusedSimpArgs false
theorem fc_succ (B : List Int) (n : Nat) : fc B (n + 1) = 2 * (fc B n + cn B n) := rfl
theorem fc_zero (B : List Int) : fc B 0 = 0 := rfl
attribute [local irreducible] syA fc tk
/-- the bits of bytes, from the n-th on -/
def bitB (B : List Int) (n j : Nat) : Int := B.getD ((n + j) / 8) 0 / 2 ^ ((n + j) % 8) % 2
theorem bitB_01 (B : List Int) (n j : Nat) : bitB B n j = 0 ∨ bitB B n j = 1 := by
  unfold bitB; omega
/-- what is read, off so many bits -/
def RD (B : List Int) (bits : Nat → Int) (left : Nat) (i : Int) (used : Nat) (r : Int) : Prop :=
  (∃ j : Nat, i = (j : Int) ∧ r = 0 ∧ DEC B bits left j ∧ B.getD j 0 = (used : Int)) ∨
  ((∀ j, ¬ DEC B bits left j) ∧ i = 0 ∧ ((sm B = 0 ∧ used = 0 ∧ r = 62) ∨ (sm B ≠ 0 ∧ tk B = 32768 ∧ used = left ∧ r = 20) ∨ (sm B ≠ 0 ∧ ¬ tk B = 32768 ∧ ((left = 0 ∧ used = 0 ∧ r = 20) ∨ (0 < left ∧ used = 1 ∧ r = 62)))))
theorem or_even {a x : Int} (ha : 0 ≤ a ∧ a < 65536) (he : a % 2 = 0) (hx : x = 0 ∨ x = 1) : IntKind.i64.wrap ((BitVec.ofInt IntKind.i64.bits a ||| BitVec.ofInt IntKind.i64.bits x).toNat) = a + x := by
  rw [or_nat .i64 ⟨ha.1, Int.lt_trans ha.2 (by decide)⟩ ⟨by omega, by rcases hx with rfl | rfl <;> decide⟩]
  have h := Nat.two_pow_add_eq_or_of_lt (i := 1) (b := x.toNat) (by omega) (a.toNat / 2)
  rw [show 2 ^ 1 * (a.toNat / 2) = a.toNat by omega] at h
  rw [← h]
  exact (wi64 (by omega)).trans (by omega)
theorem bval_lt (b : Nat → Int) (hb : ∀ j, b j = 0 ∨ b j = 1) : ∀ n, 0 ≤ bval b n ∧ bval b n < 2 ^ n
  | 0 => ⟨Int.le_refl _, by show (0 : Int) < 1; decide⟩
  | n + 1 => by
    have h := bval_lt b hb n
    have := hb n
    rw [Int.pow_succ]
    show 0 ≤ 2 * bval b n + b n ∧ 2 * bval b n + b n < _
    omega
/-- nothing with as few bits -/
theorem no_dec (B : List Int) (hB : OKB B) (h15 : ∀ j, B.getD j 0 ≤ 15) (hF : FINE B) (bits : Nat → Int) (hb : ∀ j, bits j = 0 ∨ bits j = 1) (k : Nat) (h : fc B k + cn B k ≤ bval bits k) (j : Nat) : ¬ DEC B bits k j := by
  rintro ⟨n, hi, hn0, hn, hnl, hv⟩
  obtain ⟨c1, c2⟩ := cd_eq B hB h15 hF j n hi hn0 hn
  rcases Nat.eq_or_lt_of_le hnl with h1 | h1
  · subst h1; omega
  · have := val_behind B bits hb n (by omega) (k - n) (by omega)
    rw [show n + (k - n) = k by omega] at this
    have := cn_nonneg B k
    omega
theorem sm0_dec (B : List Int) (h : sm B = 0) (bits : Nat → Int) (left j : Nat) : ¬ DEC B bits left j := by
  rintro ⟨n, hi, hn0, hn, hnl, hv⟩
  unfold sm at h
  rw [List.countP_eq_zero] at h
  have := h (B.getD j 0) (by rw [List.getD_eq_getElem?_getD, List.getElem?_eq_getElem hi]; exact List.getElem_mem hi)
  exact this (decide_eq_true (by omega))
theorem FINE_lone (B : List Int) (hB : OKB B) (h15 : ∀ j, B.getD j 0 ≤ 15) (hF : FINE B) (h1 : ¬ tk B = 32768) (h0 : sm B ≠ 0) : ∀ n, 2 ≤ n → n ≤ 15 → cn B n = 0 := by
  have hs : sm B = 1 ∧ cn B 1 = 1 := by rcases hF with h | h | h <;> first | exact absurd h (by omega) | exact h
  have e := sm_sumc B hB h15 B.length (Nat.le_refl _)
  rw [List.take_length, hs.1] at e
  intro n hn hn15
  have hz := cn_nonneg B
  simp only [sumc, hs.2] at e
  have z2 := hz 2; have z3 := hz 3; have z4 := hz 4; have z5 := hz 5; have z6 := hz 6; have z7 := hz 7; have z8 := hz 8; have z9 := hz 9; have z10 := hz 10; have z11 := hz 11; have z12 := hz 12; have z13 := hz 13; have z14 := hz 14; have z15 := hz 15
  simp only [Nat.zero_add, Nat.reduceAdd, hs.2] at e
  match n, hn, hn15 with
  | 2, _, _ | 3, _, _ | 4, _, _ | 5, _, _ | 6, _, _ | 7, _, _ | 8, _, _ | 9, _, _ | 10, _, _ | 11, _, _ | 12, _, _ | 13, _, _ | 14, _, _ | 15, _, _ => omega
theorem val_b (B2 : List Int) (n k : Nat) : bitB B2 n k = B2.getD ((n + k) / 8) 0 / 2 ^ ((n + k) % 8) % 2 := rfl
set_option maxHeartbeats 4000000 in
/-- a set reads a symbol -/
theorem Read_c {w0 : World} {H : List Asn} (b b2 : Nat) (u : Value) (s q : Option Addr) (d e m2 : Nat) (B B2 : List Int) (hs : blk b (setCells u (cn B) (.slice s (syA B 15).length e) (decide (tk B = 32768))) ∈ H) (hrs : Rd w0 H (.slice s (syA B 15).length e) (syA B 15).length (ints .i64 (syA B 15)))
    (hm : B.length ≤ 320) (hB : OKB B) (h15 : ∀ j, B.getD j 0 ≤ 15) (hF : FINE B) (hr : Rd w0 H (.slice q m2 d) m2 (ints .u8 B2)) (hm2 : B2.length = m2) (hB2 : OKB B2) (hmx : m2 ≤ 140737488355328) (n : Nat) (hn : n ≤ 8 * m2)
    (w : World) (hw : St w0 (blk b2 [.slice q m2 d, .int .i64 n] :: H) w) :
    Calls Try.prog 149 #[.pointer (some ⟨b, 0, none⟩), .pointer (some ⟨b2, 0, none⟩)] w fun en w' => ∃ (i : Int) (used : Nat) (r : Int), en = .returned (.tuple #[.int .i64 i, .int .i64 r]) ∧ St w0 (blk b2 [.slice q m2 d, .int .i64 (n + used : Nat)] :: H) w' ∧ n + used ≤ 8 * m2 ∧ RD B (bitB B2 n) (8 * m2 - n) i used r := by
  refine enter (vs := [.pointer (some ⟨b, 0, none⟩), .pointer (some ⟨b2, 0, none⟩)]) Try.func149 rfl rfl rfl hw ?_
  have hs' : blk b (setCells u (cn B) (.slice s (syA B 15).length e) (decide (tk B = 32768))) ∈ blk b2 [.slice q m2 d, .int .i64 n] :: H := List.Mem.tail _ hs
  have hsl := sm_syA B hB h15
  by_cases h0 : sm B = 0
  · have h0' : (syA B 15).length = 0 := by omega
    repeat (first | (apply gJO; refine JO_v (V_load (tb := tb) rfl hs' rfl rfl rfl rfl) ?_) | (first | (refine sx ?_; try intro _)))
    refine JS_ret Try.func149 rfl rfl ?_
    intro w hw
    exact ⟨0, 0, 62, rfl, hw, by omega, .inr ⟨sm0_dec B h0 _ _, rfl, .inl ⟨h0, rfl, rfl⟩⟩⟩
  have h0' : ¬ (syA B 15).length = 0 := by omega
  repeat (first | (apply gJO; refine JO_v (V_load (tb := tb) rfl hs' rfl rfl rfl rfl) ?_) | (apply gJR; first | (refine sx ?_; try intro _)) | (apply gJO; first | (refine sx ?_; try intro _)) | apply JS_seq | apply JS_region | refine JS_condF rfl ?_ | refine JS_cond_F rfl (by omega) ?_ | apply JS_skip)
  refine JS_block ?_
  refine JS_loop1 (fun (k : Nat) => [(0, .pointer (some ⟨b, 0, none⟩)), (1, .pointer (some ⟨b2, 0, none⟩)), (6, .func (.func 150) #[.pointer (some ⟨b2, 0, none⟩)] #[]), (7, .int .i64 (2 * bval (bitB B2 n) k)), (8, .int .i64 (fc B (k + 1))), (9, .int .i64 (psum B (k + 1))), (10, .int .i64 (k + 1))])
    (fun k => blk b2 [.slice q m2 d, .int .i64 (n + k : Nat)] :: H)
    (fun k => k ≤ 15 ∧ n + k ≤ 8 * m2 ∧ fc B k + cn B k ≤ bval (bitB B2 n) k ∧ (k = 0 ∨ tk B = 32768)) (fun k => 15 - k) 0 ⟨by omega, by omega, by rw [fc_zero]; simp [cn, bval], .inl rfl⟩ (by exact ⟨rfl, rfl, rfl, rfl, lookI rfl (by rw [fc_succ, fc_zero]; simp [cn]), lookI rfl (by simp [psum, cn]), rfl, trivial⟩) (fun _ h => h) ?_
  intro k ⟨hk, hnk, hfv, hful⟩ again
  have hbits := bitB_01 B2 n
  have hv := bval_lt (bitB B2 n) hbits k
  have hp2 := p15 k hk
  have hfull15 : tk B = 32768 → k < 15 := by
    intro h
    rcases Nat.lt_or_ge k 15 with h1 | h1
    · exact h1
    · obtain rfl : k = 15 := by omega
      have := fc_tk B hB h15 B.length (Nat.le_refl _)
      rw [List.take_length] at this; omega
  have hk15 : k < 15 := by
    rcases hful with h | h
    · omega
    · exact hfull15 h
  have hr' : Rd w0 H (.slice q m2 d) m2 (ints .u8 B2) := hr
  repeat (first | (refine sx ?_; try intro _))
  refine JO_callv (us := [.pointer (some ⟨b2, 0, none⟩)]) (cs := []) rfl Try.call150 rfl rfl fun w hw => (Bit_c b2 q d m2 B2 hr hm2 hB2 hmx (n + k) hnk w hw).mono ?_
  rintro e1 w' ⟨x, r, rfl, hcase⟩
  rcases hcase with ⟨h1, rfl, rfl, hw'⟩ | ⟨h1, rfl, hx, hw'⟩
  · refine ⟨_, rfl, _, hw', ?_⟩
    clear hw' hw w w'
    repeat (first | (refine sx ?_; try intro _))
    refine JS_ret Try.func149 rfl rfl ?_
    intro w hw
    refine ⟨0, k, 20, rfl, hw, hnk, .inr ⟨?_, rfl, ?_⟩⟩
    · rw [show 8 * m2 - n = k by omega]
      exact no_dec B hB h15 hF _ hbits k hfv
    · rcases hful with h | h
      · subst h
        by_cases ht : tk B = 32768
        · exact .inr (.inl ⟨h0, ht, by omega, rfl⟩)
        · exact .inr (.inr ⟨h0, ht, .inl ⟨by omega, rfl, rfl⟩⟩)
      · exact .inr (.inl ⟨h0, h, by omega, rfl⟩)
  · refine ⟨_, rfl, _, hw', ?_⟩
    clear hw' hw w w'
    rw [← val_b] at hx
    subst hx
    have hvk : bval (bitB B2 n) (k + 1) = 2 * bval (bitB B2 n) k + bitB B2 n k := rfl
    have hb1 := hbits k
    have hor := or_even (a := 2 * bval (bitB B2 n) k) (x := bitB B2 n k) (by omega) (by omega) hb1
    rw [← hvk] at hor
    have hcn0 := cn_nonneg B (k + 1)
    have hfcb := fc_bd B hB h15 hF (k + 1) (by omega)
    have hfc0 := fc_nn B (k + 1)
    have hp3 := p15 (k + 1) (by omega)
    have hfk := fc_succ B k
    have hge : fc B (k + 1) ≤ bval (bitB B2 n) (k + 1) := by omega
    have hv2 := bval_lt (bitB B2 n) hbits (k + 1)
    have hs2 : blk b (setCells u (cn B) (.slice s (syA B 15).length e) (decide (tk B = 32768))) ∈ blk b2 [.slice q m2 d, .int .i64 (n + k + 1 : Nat)] :: H := List.Mem.tail _ hs
    have hidx : ∀ {v : Value}, nth (setCells u (cn B) (.slice s (syA B 15).length e) (decide (tk B = 32768))) (1 + ((k : Int) + 1).toNat * 1) = some v ↔ v = .int .i64 (cn B (k + 1)) := by
      intro v
      rw [show 1 + ((k : Int) + 1).toNat * 1 = 1 + (k + 1) by omega, set_nth (by omega)]
      exact ⟨fun h => (Option.some.inj h).symm, fun h => by rw [h]⟩
    have hnth := hidx.2 rfl
    have hps0 : 0 ≤ psum B (k + 1) := by
      have := psum_mono B 0 (k + 1)
      rw [Nat.zero_add] at this
      exact this
    have hps1 : psum B (k + 1) + cn B (k + 1) ≤ (syA B 15).length := by
      have h1 := psum_syA B hB 15
      have h2 := psum_mono B (k + 2) (16 - (k + 2))
      rw [show k + 2 + (16 - (k + 2)) = 16 by omega] at h2
      have : psum B (k + 2) = psum B (k + 1) + cn B (k + 1) := rfl
      have : psum B (15 + 1) = psum B 16 := rfl
      omega
    have hsL := syA_len B 15
    by_cases hlt : bval (bitB B2 n) (k + 1) - fc B (k + 1) < cn B (k + 1)
    · obtain ⟨kk, hkk⟩ := Int.eq_ofNat_of_zero_le (show 0 ≤ bval (bitB B2 n) (k + 1) - fc B (k + 1) by omega)
      rw [hkk] at hlt
      obtain ⟨i, g1, g2, g3, g4, g5⟩ := sym_at B hB h15 hF (k + 1) (by omega) (by omega) kk hlt
      have hi64 : IntKind.i64.wrap (bval (bitB B2 n) (k + 1) - fc B (k + 1)) = (kk : Int) := by rw [hkk]; exact wi64 (by omega)
      have gs : (ints .i64 (syA B 15))[(psum B (k + 1) + (kk : Int)).toNat]? = some (.int .i64 (i : Int)) := by rw [← g2]; exact ints_get (by omega)
      have hrs' : Rd w0 (blk b2 [.slice q m2 d, .int .i64 (n + k + 1 : Nat)] :: H) (.slice s (syA B 15).length e) (syA B 15).length (ints .i64 (syA B 15)) := Rd_weak hrs fun w hw => St.sub (by repeat (first | exact List.Sublist.refl _ | apply List.Sublist.cons_cons | apply List.Sublist.cons)) hw
      clear hidx
      repeat (first | (apply gJO; first | refine JO_v (V_or rfl rfl hor rfl) ?_ | refine JO_v (V_sub rfl rfl hi64 rfl) ?_ | refine JO_v (V_load (tb := tb) rfl hs2 rfl rfl hnth rfl) ?_ | refine JO_v (V_load (tb := tb) rfl hs2 rfl rfl rfl rfl) ?_ | refine JO_v (V_index (tb := tb) rfl rfl rfl rfl (Rd.sl hrs') (by omega) (Nat.mul_one _) rfl) ?_ | refine JO_v (V_loadC (tb := tb) rfl hrs' rfl rfl gs rfl) ?_) | (first | (refine sx ?_; try intro _)))
      refine JS_ret Try.func149 rfl rfl ?_
      intro w hw
      exact ⟨i, k + 1, 0, rfl, hw, by omega, .inl ⟨i, rfl, rfl, ⟨k + 1, g3, by omega, g4, by omega, by omega⟩, g4⟩⟩
    · by_cases hfl : tk B = 32768
      · have hk14 : k < 14 := by
          rcases Nat.lt_or_ge k 14 with h1 | h1
          · exact h1
          · obtain rfl : k = 14 := by omega
            have := fc_tk B hB h15 B.length (Nat.le_refl _)
            rw [List.take_length] at this
            have : (2 : Int) ^ (14 + 1) = 32768 := by decide
            simp only [Nat.reduceAdd] at hfcb hlt hge hv2 this
            omega
        have hfl' : decide (tk B = 32768) = true := decide_eq_true hfl
        have hf2 := fc_succ B (k + 1)
        have hp4 : psum B (k + 1 + 1) = psum B (k + 1) + cn B (k + 1) := rfl
        rw [hfl'] at hs2
        clear hidx
        rw [hfl'] at hnth
        repeat (first | (apply gJO; first | refine JO_v (V_or rfl rfl hor rfl) ?_ | refine JO_v (V_load (tb := tb) rfl hs2 rfl rfl hnth rfl) ?_ | refine JO_v (V_load (tb := tb) rfl hs2 rfl rfl rfl rfl) ?_) | (first | (refine sx ?_; try intro _)))
        refine JS_again1 again (k + 1) ⟨by omega, by omega, by omega, .inr hfl⟩ (by omega) (by repeat (first | exact trivial | refine ⟨rfl, ?_⟩ | refine ⟨lookI rfl (by omega), ?_⟩)) (fun w hw => hw)
      · obtain rfl : k = 0 := by rcases hful with h | h <;> first | exact h | exact absurd h hfl
        have hfl' : decide (tk B = 32768) = false := decide_eq_false hfl
        rw [hfl'] at hs2
        clear hidx
        rw [hfl'] at hnth
        repeat (first | (apply gJO; first | refine JO_v (V_or rfl rfl hor rfl) ?_ | refine JO_v (V_load (tb := tb) rfl hs2 rfl rfl hnth rfl) ?_ | refine JO_v (V_load (tb := tb) rfl hs2 rfl rfl rfl rfl) ?_) | (first | (refine sx ?_; try intro _)))
        refine JS_ret Try.func149 rfl rfl ?_
        intro w hw
        refine ⟨0, 1, 62, rfl, hw, by omega, .inr ⟨?_, rfl, .inr (.inr ⟨h0, hfl, .inr ⟨by omega, rfl, rfl⟩⟩)⟩⟩
        intro j
        rintro ⟨n', hi, hn0, hn', hnl, hv'⟩
        have h15j := h15 j
        obtain ⟨c1, c2⟩ := cd_eq B hB h15 hF j n' hi hn0 hn'
        have hz := cn_nonneg (B.take j) n'
        by_cases h2 : 2 ≤ n'
        · have := FINE_lone B hB h15 hF hfl h0 n' h2 (by omega); omega
        · obtain rfl : n' = 1 := by omega
          have : bval (bitB B2 n) (0 + 1) = bval (bitB B2 n) 1 := rfl
          have : fc B (0 + 1) = fc B 1 := rfl
          have : cn B (0 + 1) = cn B 1 := rfl
          omega
end Go.Proofs.Ytbiocgenbgbfpaa

namespace Go.Proofs.Ytbiocgenbgbfpaa
open Sx Go
set_option linter.unusedVariables false
set_option linter.unusedSimpArgs false
attribute [local irreducible] syA fc tk
/-- lengths that are a set's -/
def OKL (B : List Int) : Prop := B.length ≤ 320 ∧ (∀ j, B.getD j 0 ≤ 15) ∧ FINE B
/-- a set that stands in memory -/
structure IsSet (w0 : World) (H : List Asn) (b : Nat) (B : List Int) : Prop where
  ok : ∃ q d s e, blk b (setCells (.slice q B.length d) (cn B) (.slice s (syA B 15).length e) (decide (tk B = 32768))) ∈ H ∧ Rd w0 H (.slice q B.length d) B.length (ints .u8 B) ∧ Rd w0 H (.slice s (syA B 15).length e) (syA B 15).length (ints .i64 (syA B 15))
  hB : OKB B
  hl : OKL B
theorem IsSet.sub {w0 H H' b B} (h : IsSet w0 H b B) (hs : H.Sublist H') : IsSet w0 H' b B := by
  obtain ⟨⟨q, d, s, e, h1, h2, h3⟩, hB, hl⟩ := h
  exact ⟨⟨q, d, s, e, hs.subset h1, Rd_weak h2 fun w hw => St.sub hs hw, Rd_weak h3 fun w hw => St.sub hs hw⟩, hB, hl⟩
theorem OKB_of {B : List Int} (h : B.all (fun x => decide (0 ≤ x ∧ x < 256)) = true) : OKB B := by
  intro j
  rw [List.getD_eq_getElem?_getD]
  rcases Nat.lt_or_ge j B.length with hj | hj
  · rw [List.getElem?_eq_getElem hj]
    exact of_decide_eq_true (List.all_eq_true.1 h _ (List.getElem_mem hj))
  · rw [List.getElem?_eq_none hj]; decide
theorem le15_of {B : List Int} (h : B.all (fun x => decide (x ≤ 15)) = true) : ∀ j, B.getD j 0 ≤ 15 := by
  intro j
  rw [List.getD_eq_getElem?_getD]
  rcases Nat.lt_or_ge j B.length with hj | hj
  · rw [List.getElem?_eq_getElem hj]
    exact of_decide_eq_true (List.all_eq_true.1 h _ (List.getElem_mem hj))
  · rw [List.getElem?_eq_none hj]; decide
/-- the error of lengths -/
def BADL (B : List Int) (r : Int) : Prop := ((320 < B.length ∨ ∃ j, 15 < B.getD j 0) ∧ r = 1) ∨ (B.length ≤ 320 ∧ (∀ j, B.getD j 0 ≤ 15) ∧ ¬ FINE B ∧ r = 62)
theorem BADL.not {B r} (h : BADL B r) : ¬ OKL B := by
  rintro ⟨h1, h2, h3⟩
  rcases h with ⟨h4 | ⟨j, h4⟩, _⟩ | ⟨_, _, h4, _⟩
  · omega
  · have := h2 j; omega
  · exact h4 h3
theorem BADL.one {B r r'} (h : BADL B r) (h' : BADL B r') : r = r' := by
  rcases h with ⟨h1, h2⟩ | ⟨h1, h3, h4, h2⟩ <;> rcases h' with ⟨h5, h6⟩ | ⟨h5, h7, h8, h6⟩
  · omega
  · exfalso
    rcases h1 with h1 | ⟨j, h1⟩
    · omega
    · have := h7 j; omega
  · exfalso
    rcases h5 with h5 | ⟨j, h5⟩
    · omega
    · have := h3 j; omega
  · omega
theorem BADL.pos {B r} (h : BADL B r) : r = 1 ∨ r = 62 := by
  rcases h with ⟨_, h⟩ | ⟨_, _, _, h⟩ <;> omega
theorem Make2_c {w0 : World} {H : List Asn} (p : Option Addr) (c m : Nat) (B : List Int) (hr : Rd w0 H (.slice p m c) m (ints .u8 B)) (hm : B.length = m) (hB : OKB B) (hm1 : m ≤ 140737488355328) (hpm : p = none → m = 0) (w : World) (hw : St w0 H w) :
    Calls Try.prog 17 #[.slice p m c] w fun e w' => ∃ u r, e = .returned (.tuple #[u, .int .i64 r]) ∧
      ((BADL B r ∧ u = .pointer none ∧ St w0 H w') ∨ (OKL B ∧ r = 0 ∧ ∃ b a1 a2 a3, u = .pointer (some ⟨b, 0, none⟩) ∧ IsSet w0 (a1 :: a2 :: a3 :: H) b B ∧ St w0 (a1 :: a2 :: a3 :: H) w')) := by
  refine (Make_c p c m B hr hm hB hm1 hpm w hw).mono ?_
  rintro e w' ⟨u, r, rfl, h⟩
  refine ⟨u, r, rfl, ?_⟩
  subst hm
  rcases h with ⟨h1, rfl, rfl, h2⟩ | ⟨h1, h15, h2, rfl, rfl, h3⟩ | ⟨h1, h15, h2, rfl, b, q, d, s, k, rfl, h3⟩
  · exact .inl ⟨.inl ⟨h1, rfl⟩, rfl, h2⟩
  · exact .inl ⟨.inr ⟨h1, h15, fun h => h2 ((fine_iff B hB h15).2 h), rfl⟩, rfl, h3⟩
  · refine .inr ⟨⟨h1, h15, (fine_iff B hB h15).1 h2⟩, rfl, b, _, _, _, rfl, ⟨⟨q, d, s, k, (by repeat (first | apply List.Mem.head | apply List.Mem.tail)), vec_rd (by repeat (first | apply List.Mem.head | apply List.Mem.tail)), vec_rd (by repeat (first | apply List.Mem.head | apply List.Mem.tail))⟩, hB, ⟨h1, h15, (fine_iff B hB h15).1 h2⟩⟩, h3⟩
theorem Codes2_c {w0 : World} {H : List Asn} (b m : Nat) (B : List Int) (hm : B.length = m) (hs : IsSet w0 H b B) (w : World) (hw : St w0 H w) :
    Calls Try.prog 79 #[.pointer (some ⟨b, 0, none⟩)] w fun e w' => ∃ p c, e = .returned (.slice p m c) ∧ St w0 (vec 91 1 (.slice p m c) m (ints .u32 (cds B 16 0)) :: H) w' := by
  subst hm
  obtain ⟨⟨q, d, s, e, h1, h2, h3⟩, hB, hl⟩ := hs
  exact Codes_c b q s d e _ B _ _ h1 h2 h3 rfl hB hl.2.1 (by have := hl.1; omega) w hw
theorem Full2_c {w0 : World} {H : List Asn} (b : Nat) (B : List Int) (hs : IsSet w0 H b B) (w : World) (hw : St w0 H w) :
    Calls Try.prog 134 #[.pointer (some ⟨b, 0, none⟩)] w fun e w' => e = .returned (.bool (decide (tk B = 32768))) ∧ St w0 H w' := by
  obtain ⟨⟨q, d, s, e, h1, h2, h3⟩, hB, hl⟩ := hs
  exact Full_c b _ _ _ _ h1 w hw
theorem Length2_c {w0 : World} {H : List Asn} (b : Nat) (B : List Int) (hs : IsSet w0 H b B) (k : Int) (hk : -9223372036854775808 ≤ k ∧ k < 9223372036854775808) (w : World) (hw : St w0 H w) :
    Calls Try.prog 77 #[.pointer (some ⟨b, 0, none⟩), .int .i64 k] w fun e w' => ∃ r, e = .returned (.int .i64 r) ∧ St w0 H w' ∧ (((k < 0 ∨ B.length ≤ k) ∧ r = 0) ∨ (0 ≤ k ∧ k < B.length ∧ r = B.getD k.toNat 0)) := by
  obtain ⟨⟨q, d, s, e, h1, h2, h3⟩, hB, hl⟩ := hs
  exact Length_c b q d _ B _ _ _ h1 h2 rfl hB k hk w hw
theorem Read2_c {w0 : World} {H : List Asn} (b b2 : Nat) (B B2 : List Int) (hs : IsSet w0 H b B) (q : Option Addr) (d m2 : Nat) (hr : Rd w0 H (.slice q m2 d) m2 (ints .u8 B2)) (hm2 : B2.length = m2) (hB2 : OKB B2) (hmx : m2 ≤ 140737488355328) (n : Nat) (hn : n ≤ 8 * m2)
    (w : World) (hw : St w0 (blk b2 [.slice q m2 d, .int .i64 n] :: H) w) :
    Calls Try.prog 149 #[.pointer (some ⟨b, 0, none⟩), .pointer (some ⟨b2, 0, none⟩)] w fun en w' => ∃ (i : Int) (used : Nat) (r : Int), en = .returned (.tuple #[.int .i64 i, .int .i64 r]) ∧ St w0 (blk b2 [.slice q m2 d, .int .i64 (n + used : Nat)] :: H) w' ∧ n + used ≤ 8 * m2 ∧ RD B (bitB B2 n) (8 * m2 - n) i used r := by
  obtain ⟨⟨q', d', s, e, h1, h2, h3⟩, hB, hl⟩ := hs
  exact Read_c b b2 _ s q d e m2 B B2 h1 h3 hl.1 hB hl.2.1 hl.2.2 hr hm2 hB2 hmx n hn w hw
theorem ReadNil_c {w0 : World} {H : List Asn} (v : Value) (w : World) (hw : St w0 H w) :
    Calls Try.prog 149 #[v, .pointer none] w fun e w' => e = .returned (.tuple #[.int .i64 0, .int .i64 1]) ∧ St w0 H w' := by
  refine enter (vs := [v, .pointer none]) Try.func149 rfl rfl rfl hw ?_
  repeat (first | (refine sx ?_; try intro _))
  refine JS_ret Try.func149 rfl rfl ?_
  intro w hw
  exact ⟨rfl, hw⟩
end Go.Proofs.Ytbiocgenbgbfpaa

namespace Go.Proofs.Ytbiocgenbgbfpaa
open Sx Go Go.ChangeShapes Go.WideShapes
set_option linter.unusedVariables false
set_option linter.unusedSimpArgs false
attribute [local irreducible] syA
theorem cells31 : Try.prog.cellsOf 31 = 1 := by kernel_rfl
def OKU (B : List Int) : Prop := ∀ j, 0 ≤ B.getD j 0 ∧ B.getD j 0 < 18446744073709551616
set_option maxRecDepth 100000 in
/-- a slice of numbers without a sign that came in -/
theorem open_u64s {H : Type} {enc : TypeId × Value → H} {W : World} {base : Nat} {v : Value} {d : DataW H} {p : List MemPlace} (hval : Value.okWide Try.prog W .any base 22 v) (h : DataW.Trod enc Try.prog W 0 (fun _ => true) true 22 v d p) :
    ∃ (b : Option Addr) (c m : Nat) (B : List Int), v = .slice b m c ∧ ArgRd W (.slice b m c) m (ints .u64 B) ∧ B.length = m ∧ (OKU B ∧ (b = none → m = 0)) ∧ (m = 0 ∨ ∃ E S, d = .slice E S ∧ E.length = m) := by
  obtain ⟨b, m, c, rfl⟩ := okWide_slice Try.underlying22 hval
  obtain ⟨fuel, hf⟩ := h
  rcases Go.ChangeShapes.open_ints Try.underlying22 Try.underlying31 cells31 hf with ⟨hcs, _⟩ | ⟨a, len', cap', zs, hcs, _, hl, hm, hz, hx, hcell, hwz⟩
  · simp [Value.cells] at hcs
    obtain ⟨rfl, rfl, rfl⟩ := hcs
    exact ⟨none, 0, 0, [], rfl, argRd_mk ⟨none, 0, rfl, fun _ => rfl, Nat.le_refl _⟩ (fun j v h => by simp [ints] at h), rfl, ⟨fun j => by simp, fun _ => rfl⟩, .inl rfl⟩
  · simp [Value.cells] at hcs
    obtain ⟨rfl, rfl, rfl⟩ := hcs
    simp only [if_true] at hz
    refine ⟨some a, c, m, zs.take m, rfl, argRd_mk ⟨some a, c, rfl, (fun h => by cases h), hl⟩ (fun j v hv => ?_), by simp; omega, ⟨fun j => ?_, fun h => (by cases h)⟩, .inr ⟨_, _, congrArg Prod.fst hx, by simp [lits]; omega⟩⟩
    · have hj : j < m := by
        have := (List.getElem?_eq_some_iff.1 hv).1
        simp [ints] at this; omega
      have e : (ints .u64 (zs.take m))[j]? = some (.int .u64 (zs.getD j 0)) := by
        have := ints_get (K := .u64) (l := zs.take m) (j := j) (by simp; omega)
        rw [this]
        congr 2
        simp [List.getD_eq_getElem?_getD, List.getElem?_take, hj]
      rw [e] at hv
      obtain rfl := Option.some.inj hv
      exact ⟨a.add j, cellPtr_eq a m c j, by simpa using cell_lt (hcell j (by omega)), hcell j (by omega)⟩
    · rcases Nat.lt_or_ge j m with hj | hj
      · have : (zs.take m).getD j 0 = zs[j]'(by omega) := by simp [List.getD_eq_getElem?_getD, List.getElem?_take, hj, show j < zs.length by omega]
        rw [this]
        exact wfu64 (hwz _ (List.getElem_mem _))
      · have : (zs.take m).getD j 0 = 0 := by
          rw [List.getD_eq_getElem?_getD, List.getElem?_eq_none (by simp; omega)]; rfl
        rw [this]; decide
/-- numbers without a sign -/
theorem OKU_nats {B : List Int} (h : OKU B) : ∃ W : List Nat, B = nats W ∧ W.length = B.length ∧ ∀ j, W.getD j 0 < 18446744073709551616 := by
  have e : nats (B.map Int.toNat) = B := by
    unfold nats
    rw [List.map_map]
    refine (List.map_congr_left fun x hx => ?_).trans (List.map_id _)
    obtain ⟨j, hj, rfl⟩ := List.mem_iff_getElem.1 hx
    have := h j
    rw [List.getD_eq_getElem?_getD, List.getElem?_eq_getElem hj] at this
    simp at this
    simp; omega
  refine ⟨B.map Int.toNat, e.symm, by simp, fun j => ?_⟩
  have h1 := nats_getD (B.map Int.toNat) j
  rw [e] at h1
  have h2 := h j
  omega
/-! the lengths are a set's -/
section
variable {W : List Nat} {L : Nat}
theorem lensTab (f : Nat → Nat) (n : Nat) (j : Nat) : (tab n fun s => ((f s : Nat) : Int)).getD j 0 = if j < n then ((f j : Nat) : Int) else 0 := by
  split
  · rename_i h; exact tab_get h
  · rename_i h; exact tab_out (by omega)
theorem tk_tab (g : Nat → Nat) (hg : ∀ s, s < W.length → g s ≤ 15 ∧ (0 < g s ↔ 0 < W.getD s 0)) : ∀ i, i ≤ W.length → tk (tab i fun s => ((g s : Nat) : Int)) = ((Pm.tkn (W.take i) g : Nat) : Int)
  | 0, _ => rfl
  | i + 1, h => by
    have ih := tk_tab g hg i (by omega)
    obtain ⟨h1, h2⟩ := hg i (by omega)
    rw [tab_succ, tk_app, ih, tkn_step W g (by omega)]
    have e : tk [((g i : Nat) : Int)] = if 0 < g i then 2 ^ (15 - g i) else 0 := by
      simp only [tk, Int.add_zero, Int.toNat_natCast]
      by_cases h0 : 0 < g i
      · rw [if_pos (by omega), if_pos h0]
      · rw [if_neg (by omega), if_neg h0]
    rw [e]
    by_cases h0 : 0 < g i
    · rw [if_pos h0, if_pos (h2.1 h0)]
      have : 32768 / 2 ^ g i = 2 ^ (15 - g i) := by
        have := Pm.pw15 (L := 15) (by omega) h1
        rw [this]; simp
      rw [this]; simp
    · rw [if_neg h0, if_neg (fun h => h0 (h2.2 h))]; rfl
theorem sm_app (A B : List Int) : sm (A ++ B) = sm A + sm B := by unfold sm; rw [List.countP_append]
theorem sm_tab (g : Nat → Nat) (hg : ∀ s, s < W.length → (0 < g s ↔ 0 < W.getD s 0)) : ∀ i, i ≤ W.length → sm (tab i fun s => ((g s : Nat) : Int)) = (Pm.lvf 0 (W.take i)).length
  | 0, _ => rfl
  | i + 1, h => by
    have ih := sm_tab g hg i (by omega)
    have h2 := hg i (by omega)
    rw [tab_succ, sm_app, ih, lvf_step W (by omega), List.length_append]
    congr 1
    unfold sm
    by_cases h0 : 0 < g i
    · rw [if_pos (h2.1 h0)]; simp [h0]
    · rw [if_neg (fun h => h0 (h2.2 h))]
      have : g i = 0 := by omega
      simp [this]
theorem cn_tab (k : Nat) : ∀ i, cn (tab i fun s => (((if k = s then 1 else 0 : Nat) : Nat) : Int)) 1 = if k < i then 1 else 0
  | 0 => by simp [cn, tab]
  | i + 1 => by
    rw [tab_succ, cn_app, cn_tab k i]
    by_cases h : k = i
    · subst h; simp
    · rcases Nat.lt_or_ge k i with h' | h'
      · rw [if_pos h', if_neg (by simp [h]), if_pos (by omega)]; rfl
      · rw [if_neg (by omega), if_neg (by simp [h]), if_neg (by omega)]; rfl
theorem LL_set (hA : AskOK W L) : OKB (tab W.length fun s => ((Pm.LL W L s : Nat) : Int)) ∧ OKL (tab W.length fun s => ((Pm.LL W L s : Nat) : Int)) ∧ ∀ s, s < W.length → Pm.LL W L s ≤ L ∧ (0 < Pm.LL W L s ↔ 0 < W.getD s 0) := by
  obtain ⟨a1, a2, a3, a4, a5⟩ := hA
  rw [Int.toNat_natCast] at a5
  have hb : ∀ s, s < W.length → Pm.LL W L s ≤ L ∧ (0 < Pm.LL W L s ↔ 0 < W.getD s 0) := fun s hs => Pm.LL_bd (by omega) a5 hs
  have h15 : ∀ j, 0 ≤ (tab W.length fun s => ((Pm.LL W L s : Nat) : Int)).getD j 0 ∧ (tab W.length fun s => ((Pm.LL W L s : Nat) : Int)).getD j 0 ≤ 15 := fun j => by
    rw [lensTab]
    split
    · rename_i h; have := (hb j h).1; omega
    · omega
  refine ⟨fun j => by have := h15 j; omega, ⟨by rw [tab_len]; exact a1, fun j => (h15 j).2, ?_⟩, hb⟩
  have ht := tk_tab (W := W) (Pm.LL W L) (fun s hs => ⟨by have := (hb s hs).1; omega, (hb s hs).2⟩) W.length (Nat.le_refl _)
  have hs := sm_tab (W := W) (Pm.LL W L) (fun s hs => (hb s hs).2) W.length (Nat.le_refl _)
  rw [List.take_length] at ht hs
  rw [← Pm.oneW_len W] at hs
  obtain ⟨t1, t2⟩ := Pm.LL_tkn (W := W) (L := L) (by omega) (by omega) a5
  unfold FINE
  rcases Nat.lt_or_ge (Pm.oneW W).length 2 with h | h
  · rcases Nat.eq_zero_or_pos (Pm.oneW W).length with h0 | h0
    · exact .inr (.inl (by omega))
    · have h1 : (Pm.oneW W).length = 1 := by omega
      obtain ⟨k, k1, k2, k3⟩ := Pm.one_leaf h1
      refine .inr (.inr ⟨by omega, ?_⟩)
      have e : (tab W.length fun s => ((Pm.LL W L s : Nat) : Int)) = tab W.length fun s => (((if k = s then 1 else 0 : Nat) : Nat) : Int) := tab_congr fun s _ => by rw [Pm.LL_one s h1, Pm.sc_leaf k2]
      rw [e, cn_tab, if_pos k1]
  · exact .inl (by rw [ht, t2 h]; rfl)
end
end Go.Proofs.Ytbiocgenbgbfpaa

namespace Go.Proofs.Ytbiocgenbgbfpaa
open Sx Go
set_option linter.unusedVariables false
set_option linter.unusedSimpArgs false
attribute [local irreducible] syA tk
theorem fitP_LL {W : List Nat} {L : Nat} (hA : AskOK W L) : FitP W (tab W.length fun s => ((Pm.LL W L s : Nat) : Int)) L := by
  obtain ⟨_, _, hb⟩ := LL_set hA
  obtain ⟨a1, a2, a3, a4, a5⟩ := hA
  rw [Int.toNat_natCast] at a5
  obtain ⟨t1, t2⟩ := Pm.LL_tkn (W := W) (L := L) (by omega) (by omega) a5
  refine ⟨tab_len _ _, fun s hs => ?_, ?_⟩
  · rw [tab_get hs]
    have := hb s hs
    omega
  · have e : Pm.tkn W (fun s => ((tab W.length fun s => ((Pm.LL W L s : Nat) : Int)).getD s 0).toNat) = Pm.tkn W (Pm.LL W L) := by
      unfold Pm.tkn
      refine Pm.sum_congr fun x hx => ?_
      obtain ⟨k, hk, rfl, _⟩ := Pm.lvf_mem hx
      show 32768 / 2 ^ ((tab _ _).getD (0 + k) 0).toNat = 32768 / 2 ^ Pm.LL W L (0 + k)
      rw [Nat.zero_add, tab_get hk, Int.toNat_natCast]
    rw [e, ← Pm.oneW_len]
    rcases Nat.lt_or_ge (Pm.oneW W).length 2 with h | h
    · rcases Nat.eq_zero_or_pos (Pm.oneW W).length with h0 | h0
      · exact .inl h0
      · exact .inr (.inl ⟨by omega, t1 (by omega)⟩)
    · exact .inr (.inr ⟨h, t2 h⟩)
set_option maxHeartbeats 4000000 in
theorem SqueezeLengths_l (p : Option Addr) (c m : Nat) (T : List Int) (L : Int) (w0 : World) (ha : ArgRd w0 (.slice p m c) m (ints .u64 T)) (hm : T.length = m) (hO : OKU T ∧ (p = none → m = 0) ∧ m ≤ 17592186043904) (hL : -9223372036854775808 ≤ L ∧ L < 9223372036854775808) :
    Calls Try.prog 5 #[.slice p m c, .int .i64 L] w0 fun e w' => e = .returned (.bool true) ∧ RowKit.Below w0.heap.size w0 w' := by
  obtain ⟨hU, hpm, hmx⟩ := hO
  obtain ⟨W, rfl, hWl, hW⟩ := OKU_nats hU
  have hn : W.length = m := by omega
  refine enter (vs := [.slice p m c, .int .i64 L]) Try.func5 rfl rfl rfl (St.start w0) ?_
  repeat (first | (refine sx ?_; try intro _))
  refine JO_call Try.call11 rfl rfl fun w hw => (alive29_c w hw).mono ?_
  rintro e w' ⟨rfl, hw'⟩
  refine ⟨_, rfl, _, hw', ?_⟩
  clear hw' hw w w'
  by_cases hbig : 1000 < m
  · repeat (first | (refine sx ?_; try intro _))
    exact JS_ret Try.func5 rfl rfl fun w hw => ⟨rfl, hw.grown⟩
  repeat (first | (refine sx ?_; try intro _))
  refine JO_call Try.call14 rfl rfl fun w hw => (Lengths_c p c m W (ha.rd _) hn (by omega) hW L w hw).mono ?_
  rintro e w' (⟨hno, rfl, hw'⟩ | ⟨hA, q, d, rfl, hw'⟩)
  · refine ⟨_, rfl, _, hw', ?_⟩
    clear hw' hw w w'
    repeat (first | (refine sx ?_; try intro _))
    refine JO_call Try.call13 rfl rfl fun w hw => (Asked_c p c m W (ha.rd _) hn (by omega) hW L w hw).mono ?_
    rintro e w' ⟨s, o, rfl, ho, _, hw'⟩
    obtain rfl : o = false := by
      cases o with
      | false => rfl
      | true => exact absurd (ho.1 rfl) hno
    refine ⟨_, rfl, _, hw', ?_⟩
    clear hw' hw w w'
    repeat (first | (refine sx ?_; try intro _))
    exact JS_ret Try.func5 rfl rfl fun w hw => ⟨rfl, hw.grown⟩
  · have hqn : q = none → m = 0 := fun h => Rd.nil (vec_rd (List.Mem.head _)) hw' h
    refine ⟨_, rfl, _, hw', ?_⟩
    clear hw' hw w w'
    obtain ⟨l, rfl⟩ := Int.eq_ofNat_of_zero_le (show 0 ≤ L by have := hA.2.1; omega)
    rw [Int.toNat_natCast]
    have hF := fitP_LL hA
    obtain ⟨b1, b2, _⟩ := LL_set hA
    rw [hn] at hF b1 b2
    have hlt := tab_len m fun s => ((Pm.LL W l s : Nat) : Int)
    generalize (tab m fun s => ((Pm.LL W l s : Nat) : Int)) = B at *
    repeat (first | (refine sx ?_; try intro _))
    refine JO_call Try.call13 rfl rfl fun w hw => (Asked_c p c m W (ha.rd _) hn (by omega) hW l w hw).mono ?_
    rintro e w' ⟨s, o, rfl, ho, _, hw'⟩
    obtain rfl : o = true := ho.2 hA
    refine ⟨_, rfl, _, hw', ?_⟩
    clear hw' hw w w'
    repeat (first | (refine sx ?_; try intro _))
    refine JO_call Try.call17 rfl rfl fun w hw => (Make2_c q d m B (vec_rd (List.Mem.head _)) hlt b1 (by omega) hqn w hw).mono ?_
    rintro e w' ⟨u, r, rfl, ⟨hbad, _⟩ | ⟨_, rfl, b, x1, x2, x3, rfl, _, hw'⟩⟩
    · exact absurd b2 hbad.not
    refine ⟨_, rfl, _, hw', ?_⟩
    clear hw' hw w w'
    repeat (first | (refine sx ?_; try intro _))
    refine JO_call Try.call15 rfl rfl fun w hw => (SqFits_c p q c d m m W B (ha.rd _) hn (vec_rd (by repeat (first | apply List.Mem.head | apply List.Mem.tail))) hlt b1 (by omega) hW (by omega) l (by omega) w hw).mono ?_
    rintro e w' ⟨o, rfl, ho2, hw'⟩
    obtain rfl : o = true := ho2.2 hF
    refine ⟨_, rfl, _, hw', ?_⟩
    clear hw' hw w w'
    repeat (first | (refine sx ?_; try intro _))
    refine JO_call Try.call18 rfl rfl fun w hw => (SCost_c p q c d m m W B (ha.rd _) hn (vec_rd (by repeat (first | apply List.Mem.head | apply List.Mem.tail))) hlt b1 (by omega) (by omega) w hw).mono ?_
    rintro e w' ⟨rfl, hw'⟩
    refine ⟨_, rfl, _, hw', ?_⟩
    clear hw' hw w w'
    repeat (first | (refine sx ?_; try intro _))
    refine JO_call Try.call16 rfl rfl fun w hw => (RCost_c p q c d m m W B (ha.rd _) hn (vec_rd (by repeat (first | apply List.Mem.head | apply List.Mem.tail))) hlt b1 (by omega) (by omega) w hw).mono ?_
    rintro e w' ⟨rfl, hw'⟩
    refine ⟨_, rfl, _, hw', ?_⟩
    clear hw' hw w w'
    generalize ((costN W (fun i => (B.getD i 0).toNat) (min m m) % 18446744073709551616 : Nat) : Int) = v
    repeat (first | (refine sx ?_; try intro _))
    exact JS_ret Try.func5 rfl rfl fun w hw => ⟨rfl, hw.grown⟩
end Go.Proofs.Ytbiocgenbgbfpaa

namespace Go.Proofs.Ytbiocgenbgbfpaa
open Sx Go
set_option linter.unusedVariables false
set_option linter.unusedSimpArgs false
attribute [local irreducible] syA tk
theorem rs_le (f : Nat → Nat) (c : Nat) : ∀ n, (∀ r, r < n → f r ≤ c) → Pm.rs n f ≤ n * c
  | 0, _ => by simp [Pm.rs]
  | n + 1, h => by
    have h1 := rs_le f c n fun r hr => h r (by omega)
    have h2 := h n (by omega)
    rw [Pm.rs, Nat.add_mul, Nat.one_mul]; omega
theorem costN_lt {W : List Nat} (hW : ∀ j, W.getD j 0 < 1000000) {B : List Int} (hB : OKB B) {k : Nat} (hk : k ≤ 320) : costN W (fun i => (B.getD i 0).toNat) k < 18446744073709551616 := by
  have h := rs_le (fun i => W.getD i 0 * (B.getD i 0).toNat) (1000000 * 256) k fun r _ => by
    have h1 := hW r
    have h2 := hB r
    exact Nat.mul_le_mul (by omega) (by omega)
  show Pm.rs k (fun i => W.getD i 0 * (B.getD i 0).toNat) < _
  omega
theorem OKB_snoc {B : List Int} (h : OKB B) {x : Int} (hx : 0 ≤ x ∧ x < 256) : OKB (B ++ [x]) := fun j => by
  rw [List.getD_eq_getElem?_getD]
  rcases Nat.lt_trichotomy j B.length with hj | hj | hj
  · rw [List.getElem?_append_left hj, ← List.getD_eq_getElem?_getD]; exact h j
  · subst hj; simpa using hx
  · rw [List.getElem?_eq_none (by simp; omega)]; decide
/-- a cost by lengths that stand as bytes -/
theorem costN_cst (W : List Nat) (B : List Int) : costN W (fun i => (B.getD i 0).toNat) (min W.length W.length) = Pm.cst W fun i => (B.getD i 0).toNat := by
  rw [Nat.min_self, Pm.cst_rs]; rfl
theorem sqbest_le {W : List Nat} {L : Nat} (hA : AskOK W L) {O : List Int} (hF : FitP W O L) : costN W (fun i => ((tab W.length fun s => ((Pm.LL W L s : Nat) : Int)).getD i 0).toNat) (min W.length W.length) ≤ costN W (fun i => (O.getD i 0).toNat) (min W.length W.length) := by
  rw [costN_cst, costN_cst]
  obtain ⟨f1, f2, f3⟩ := hF
  obtain ⟨a1, a2, a3, a4, a5⟩ := hA
  rw [Int.toNat_natCast] at a5
  have e : Pm.cst W (fun i => ((tab W.length fun s => ((Pm.LL W L s : Nat) : Int)).getD i 0).toNat) = Pm.cst W (Pm.LL W L) := by
    unfold Pm.cst
    refine Pm.sum_congr fun x hx => ?_
    obtain ⟨k, hk, rfl, _⟩ := Pm.lvf_mem hx
    show _ * ((tab _ _).getD (0 + k) 0).toNat = _ * Pm.LL W L (0 + k)
    rw [Nat.zero_add, tab_get hk, Int.toNat_natCast]
  rw [e]
  rw [← Pm.oneW_len] at f3
  exact Pm.LL_best (by omega) (by omega) a5 _ (fun s hs => by have := f2 s hs; omega) (fun h => by rcases f3 with f | f | f <;> omega) (fun h => by rcases f3 with f | f | f <;> omega)
set_option maxHeartbeats 8000000 in
theorem SqueezeBest_l (p : Option Addr) (c m : Nat) (T : List Int) (p2 : Option Addr) (c2 m2 : Nat) (O : List Int) (x : Int) (w0 : World) (ha : ArgRd w0 (.slice p m c) m (ints .u64 T)) (hm : T.length = m) (hO : OKU T ∧ (p = none → m = 0) ∧ m ≤ 17592186043904)
    (ha2 : ArgRd w0 (.slice p2 m2 c2) m2 (ints .u8 O)) (hm2 : O.length = m2) (hO2 : OKB O ∧ (p2 = none → m2 = 0) ∧ m2 ≤ 140737488351232) (hx : 0 ≤ x ∧ x < 256) :
    Calls Try.prog 3 #[.slice p m c, .slice p2 m2 c2, .int .u8 x] w0 fun e w' => e = .returned (.bool true) ∧ RowKit.Below w0.heap.size w0 w' := by
  obtain ⟨hU, hpm, hmx⟩ := hO
  obtain ⟨hB2, hpm2, hmx2⟩ := hO2
  obtain ⟨V, rfl, hVl, hV⟩ := OKU_nats hU
  have hn : V.length = m := by omega
  refine enter (vs := [.slice p m c, .slice p2 m2 c2, .int .u8 x]) Try.func3 rfl rfl rfl (St.start w0) ?_
  repeat (first | (refine sx ?_; try intro _))
  refine JO_call Try.call11 rfl rfl fun w hw => (alive29_c w hw).mono ?_
  rintro e w' ⟨rfl, hw'⟩
  refine ⟨_, rfl, _, hw', ?_⟩
  clear hw' hw w w'
  repeat (first | (refine sx ?_; try intro _))
  refine JO_call Try.call12 rfl rfl fun w hw => (Few_c p c m V (ha.rd _) hn (by omega) hV w hw).mono ?_
  rintro e w' ⟨q, d, rfl, hw'⟩
  refine ⟨_, rfl, _, hw', ?_⟩
  clear hw' hw w w'
  have hW := fewW_lt V
  have hWl : (fewW V).length ≤ 320 := by unfold fewW; rw [List.length_map, List.length_take]; omega
  generalize fewW V = W at hW hWl ⊢
  have hW64 : ∀ j, W.getD j 0 < 18446744073709551616 := fun j => Nat.lt_of_lt_of_le (hW j) (by omega)
  obtain ⟨x, rfl⟩ := Int.eq_ofNat_of_zero_le hx.1
  obtain ⟨L, hL⟩ : ∃ L : Nat, L = 1 + x % 15 := ⟨_, rfl⟩
  have c1 : (x : Int) % 15 = ((L - 1 : Nat) : Int) := by omega
  have c2' : IntKind.i64.wrap ((L - 1 : Nat) : Int) = ((L - 1 : Nat) : Int) := wi64 (by omega)
  have c3 : IntKind.i64.wrap (1 + ((L - 1 : Nat) : Int)) = (L : Int) := (wi64 (by omega)).trans (by omega)
  repeat (first | (apply gJO; first | refine JO_v (V_rem rfl rfl (by omega) ((Int.tmod_eq_emod_of_nonneg (by omega)).trans c1) rfl) ?_ | refine JO_v (oCv (V_conv (tb := tb) rfl rfl rfl c2' rfl)) ?_ | refine JO_v (V_add rfl rfl c3 rfl) ?_) | (first | (refine sx ?_; try intro _)))
  refine JO_call Try.call13 rfl rfl fun w hw => (Asked_c q d W.length W (vec_rd (List.Mem.head _)) rfl (by omega) hW64 L w hw).mono ?_
  rintro e w' ⟨s, o, rfl, ho, hs, hw'⟩
  refine ⟨_, rfl, _, hw', ?_⟩
  clear hw' hw w w'
  repeat (first | (refine sx ?_; try intro _))
  refine JO_call Try.call14 rfl rfl fun w hw => (Lengths_c q d W.length W (vec_rd (List.Mem.head _)) rfl (by omega) hW64 L w hw).mono ?_
  rintro e w' (⟨hno, rfl, hw'⟩ | ⟨hA, q2, d2, rfl, hw'⟩)
  · obtain rfl : o = false := by
      cases o with
      | false => rfl
      | true => exact absurd (ho.1 rfl) hno
    refine ⟨_, rfl, _, hw', ?_⟩
    clear hw' hw w w'
    repeat (first | (refine sx ?_; try intro _))
    exact JS_ret Try.func3 rfl rfl fun w hw => ⟨rfl, hw.grown⟩
  obtain rfl : o = true := ho.2 hA
  obtain rfl := hs rfl
  refine ⟨_, rfl, _, hw', ?_⟩
  clear hw' hw w w'
  by_cases hbig : 1000 < m2
  · repeat (first | (refine sx ?_; try intro _))
    exact JS_ret Try.func3 rfl rfl fun w hw => ⟨rfl, hw.grown⟩
  repeat (first | (apply gJR; first | (refine sx ?_; try intro _)) | (apply gJO; first | (refine sx ?_; try intro _)) | apply JS_seq | apply JS_region | apply JS_skip | (apply gJS; refine JS_condF rfl ?_) | (apply gJS; refine JS_condT rfl ?_) | (apply gJS; refine JS_cond_F rfl (by omega) ?_) | (apply gJS; refine JS_cond_T rfl (by omega) ?_))
  obtain ⟨b1, b2, _⟩ := LL_set hA
  have hlt := tab_len W.length fun s => ((Pm.LL W L s : Nat) : Int)
  have hbest := fun O => sqbest_le hA (O := O)
  rw [Int.toNat_natCast]
  generalize (tab W.length fun s => ((Pm.LL W L s : Nat) : Int)) = B at *
  obtain ⟨cnt, hsome⟩ : ∃ n, n = (Pm.oneW W).length := ⟨_, rfl⟩
  rw [← hsome]
  refine JS_block ?_
  refine JS_loop5 (fun (i k : Nat) (O' : List Int) (q3 : Option Addr) (d3 : Nat) => [(1, .slice p2 m2 c2), (7, .slice q W.length d), (8, .int .i64 L), (9, .int .i64 cnt), (11, .slice q2 W.length d2), (13, .slice q3 i d3), (14, .int .i64 k), (15, .int .i64 i)])
    (fun i k O' q3 d3 => vec 5 1 (.slice q3 i d3) i (ints .u8 O') :: vec 5 1 (.slice q2 W.length d2) W.length (ints .u8 B) :: vec 31 1 (.slice q W.length d) W.length (ints .u64 (nats W)) :: [])
    (fun i k O' q3 d3 => i ≤ W.length ∧ k ≤ i ∧ O'.length = i ∧ OKB O') (fun i _ _ _ _ => W.length - i) 0 0 [] none 0 ⟨Nat.zero_le _, Nat.le_refl _, rfl, fun j => by simp⟩ (by repeat (first | exact trivial | refine ⟨rfl, ?_⟩ | refine ⟨lookI rfl (by omega), ?_⟩)) (fun w hw => St.nilvec hw) ?_
  intro i k O' q3 d3 ⟨hi, hki, hOl, hOB⟩ again
  by_cases hlt' : i < W.length
  · have g := nats_get (W := W) (j := i) hlt'
    have hwi := hW i
    generalize hxv : W.getD i 0 = xv at g hwi
    by_cases h0 : 0 < xv
    · by_cases hk : k < m2
      · have g2 : (ints .u8 O)[k]? = some (.int .u8 (O.getD k 0)) := ints_get (by omega)
        have hok := hB2 k
        repeat (first | (apply gJO; first | refine JO_v (V_loadC (tb := tb) rfl (vec_rd (List.Mem.tail _ (List.Mem.tail _ (List.Mem.head _)))) rfl rfl g rfl) ?_ | refine JO_v (V_loadC (tb := tb) rfl (ha2.rd _) rfl rfl g2 rfl) ?_ | (refine JO_app (tb := tb) rfl rfl rfl rfl rfl rfl (by repeat (first | exact Sel.here _ _ | apply Sel.there)) (by first | exact vec_rd (by repeat (first | apply List.Mem.head | apply List.Mem.tail)) | assumption | exact ArgRd.rd (by assumption) _ | (apply Rd_weak; assumption; intro _ hx; exact St.sub (by repeat (first | exact List.Sublist.refl _ | apply List.Sublist.cons_cons | apply List.Sublist.cons)) hx)) (by simp only [ints_len, List.length_cons, List.length_nil]; first | omega | rfl) (by first | exact ints_one | (repeat (first | exact trivial | refine ⟨rfl, ?_⟩))) (by omega) rfl ?_; intro _ _)) | (first | (refine sx ?_; try intro _)))
        exact JS_again5 again (i + 1) (k + 1) (O' ++ [O.getD k 0]) _ _ ⟨by omega, by omega, by simp; omega, OKB_snoc hOB hok⟩ (by omega) (by repeat (first | exact trivial | refine ⟨rfl, ?_⟩ | refine ⟨lookI rfl (by omega), ?_⟩)) (fun w hw => by rw [← ints_app]; exact St.sub (by repeat (first | exact List.Sublist.refl _ | apply List.Sublist.cons_cons | apply List.Sublist.cons)) hw)
      · repeat (first | (apply gJO; first | refine JO_v (V_loadC (tb := tb) rfl (vec_rd (List.Mem.tail _ (List.Mem.tail _ (List.Mem.head _)))) rfl rfl g rfl) ?_ | (refine JO_app (tb := tb) rfl rfl rfl rfl rfl rfl (by repeat (first | exact Sel.here _ _ | apply Sel.there)) (by first | exact vec_rd (by repeat (first | apply List.Mem.head | apply List.Mem.tail)) | assumption | exact ArgRd.rd (by assumption) _ | (apply Rd_weak; assumption; intro _ hx; exact St.sub (by repeat (first | exact List.Sublist.refl _ | apply List.Sublist.cons_cons | apply List.Sublist.cons)) hx)) (by simp only [ints_len, List.length_cons, List.length_nil]; first | omega | rfl) (by first | exact ints_one | (repeat (first | exact trivial | refine ⟨rfl, ?_⟩))) (by omega) rfl ?_; intro _ _)) | (first | (refine sx ?_; try intro _)))
        exact JS_again5 again (i + 1) k (O' ++ [0]) _ _ ⟨by omega, by omega, by simp; omega, OKB_snoc hOB (by omega)⟩ (by omega) (by repeat (first | exact trivial | refine ⟨rfl, ?_⟩ | refine ⟨lookI rfl (by omega), ?_⟩)) (fun w hw => by rw [← ints_app]; exact St.sub (by repeat (first | exact List.Sublist.refl _ | apply List.Sublist.cons_cons | apply List.Sublist.cons)) hw)
    · repeat (first | (apply gJO; first | refine JO_v (V_loadC (tb := tb) rfl (vec_rd (List.Mem.tail _ (List.Mem.tail _ (List.Mem.head _)))) rfl rfl g rfl) ?_ | (refine JO_app (tb := tb) rfl rfl rfl rfl rfl rfl (by repeat (first | exact Sel.here _ _ | apply Sel.there)) (by first | exact vec_rd (by repeat (first | apply List.Mem.head | apply List.Mem.tail)) | assumption | exact ArgRd.rd (by assumption) _ | (apply Rd_weak; assumption; intro _ hx; exact St.sub (by repeat (first | exact List.Sublist.refl _ | apply List.Sublist.cons_cons | apply List.Sublist.cons)) hx)) (by simp only [ints_len, List.length_cons, List.length_nil]; first | omega | rfl) (by first | exact ints_one | (repeat (first | exact trivial | refine ⟨rfl, ?_⟩))) (by omega) rfl ?_; intro _ _)) | (first | (refine sx ?_; try intro _)))
      exact JS_again5 again (i + 1) k (O' ++ [0]) _ _ ⟨by omega, by omega, by simp; omega, OKB_snoc hOB (by omega)⟩ (by omega) (by repeat (first | exact trivial | refine ⟨rfl, ?_⟩ | refine ⟨lookI rfl (by omega), ?_⟩)) (fun w hw => by rw [← ints_app]; exact St.sub (by repeat (first | exact List.Sublist.refl _ | apply List.Sublist.cons_cons | apply List.Sublist.cons)) hw)
  · obtain rfl : i = W.length := by omega
    clear again
    repeat (first | (refine sx ?_; try intro _))
    refine JO_call Try.call15 rfl rfl fun w hw => (SqFits_c q q3 d d3 W.length W.length W O' (vec_rd (by repeat (first | apply List.Mem.head | apply List.Mem.tail))) rfl (vec_rd (by repeat (first | apply List.Mem.head | apply List.Mem.tail))) hOl hOB (by omega) hW64 (by omega) L (by omega) w hw).mono ?_
    rintro e w' ⟨o, rfl, ho2, hw'⟩
    refine ⟨_, rfl, _, hw', ?_⟩
    clear hw' hw w w'
    cases o with
    | false =>
      repeat (first | (refine sx ?_; try intro _))
      exact JS_ret Try.func3 rfl rfl fun w hw => ⟨rfl, hw.grown⟩
    | true =>
      have hF := ho2.1 rfl
      by_cases h0 : cnt = 0
      · repeat (first | (refine sx ?_; try intro _))
        exact JS_ret Try.func3 rfl rfl fun w hw => ⟨rfl, hw.grown⟩
      repeat (first | (refine sx ?_; try intro _))
      refine JO_call Try.call16 rfl rfl fun w hw => (RCost_c q q2 d d2 W.length W.length W B (vec_rd (by repeat (first | apply List.Mem.head | apply List.Mem.tail))) rfl (vec_rd (by repeat (first | apply List.Mem.head | apply List.Mem.tail))) hlt b1 (by omega) (by omega) w hw).mono ?_
      rintro e w' ⟨rfl, hw'⟩
      refine ⟨_, rfl, _, hw', ?_⟩
      clear hw' hw w w'
      repeat (first | (refine sx ?_; try intro _))
      refine JO_call Try.call16 rfl rfl fun w hw => (RCost_c q q3 d d3 W.length W.length W O' (vec_rd (by repeat (first | apply List.Mem.head | apply List.Mem.tail))) rfl (vec_rd (by repeat (first | apply List.Mem.head | apply List.Mem.tail))) hOl hOB (by omega) (by omega) w hw).mono ?_
      rintro e w' ⟨rfl, hw'⟩
      refine ⟨_, rfl, _, hw', ?_⟩
      clear hw' hw w w'
      have hb := hbest O' hF
      have l1 := costN_lt hW b1 (k := min W.length W.length) (by omega)
      have l2 := costN_lt hW hOB (k := min W.length W.length) (by omega)
      rw [Nat.mod_eq_of_lt l1, Nat.mod_eq_of_lt l2]
      generalize costN W (fun i => (B.getD i 0).toNat) (min W.length W.length) = u1 at hb ⊢
      generalize costN W (fun i => (O'.getD i 0).toNat) (min W.length W.length) = u2 at hb ⊢
      repeat (first | (refine sx ?_; try intro _))
      exact JS_ret Try.func3 rfl rfl fun w hw => ⟨rfl, hw.grown⟩
end Go.Proofs.Ytbiocgenbgbfpaa

namespace Go.Proofs.Ytbiocgenbgbfpaa
open Sx Go Go.ChangeShapes Go.WideShapes
set_option linter.unusedVariables false
set_option linter.unusedSimpArgs false
theorem cells5 : Try.prog.cellsOf 5 = 1 := by kernel_rfl
set_option maxRecDepth 100000 in
/-- a slice of bytes that came in -/
theorem open_bytes {H : Type} {enc : TypeId × Value → H} {W : World} {base : Nat} {v : Value} {d : DataW H} {p : List MemPlace} (hval : Value.okWide Try.prog W .any base 23 v) (h : DataW.Trod enc Try.prog W 0 (fun _ => true) true 23 v d p) :
    ∃ (b : Option Addr) (c m : Nat) (B : List Int), v = .slice b m c ∧ ArgRd W (.slice b m c) m (ints .u8 B) ∧ B.length = m ∧ (OKB B ∧ (b = none → m = 0)) ∧ (m = 0 ∨ ∃ E S, d = .slice E S ∧ E.length = m) := by
  obtain ⟨b, m, c, rfl⟩ := okWide_slice Try.underlying23 hval
  obtain ⟨fuel, hf⟩ := h
  rcases Go.ChangeShapes.open_ints Try.underlying23 Try.underlying5 cells5 hf with ⟨hcs, _⟩ | ⟨a, len', cap', zs, hcs, _, hl, hm, hz, hx, hcell, hwz⟩
  · simp [Value.cells] at hcs
    obtain ⟨rfl, rfl, rfl⟩ := hcs
    exact ⟨none, 0, 0, [], rfl, argRd_mk ⟨none, 0, rfl, fun _ => rfl, Nat.le_refl _⟩ (fun j v h => by simp [ints] at h), rfl, ⟨fun j => by simp, fun _ => rfl⟩, .inl rfl⟩
  · simp [Value.cells] at hcs
    obtain ⟨rfl, rfl, rfl⟩ := hcs
    simp only [if_true] at hz
    refine ⟨some a, c, m, zs.take m, rfl, argRd_mk ⟨some a, c, rfl, (fun h => by cases h), hl⟩ (fun j v hv => ?_), by simp; omega, ⟨fun j => ?_, fun h => (by cases h)⟩, .inr ⟨_, _, congrArg Prod.fst hx, by simp [lits]; omega⟩⟩
    · have hj : j < m := by
        have := (List.getElem?_eq_some_iff.1 hv).1
        simp [ints] at this; omega
      have e : (ints .u8 (zs.take m))[j]? = some (.int .u8 (zs.getD j 0)) := by
        have := ints_get (K := .u8) (l := zs.take m) (j := j) (by simp; omega)
        rw [this]
        congr 2
        simp [List.getD_eq_getElem?_getD, List.getElem?_take, hj]
      rw [e] at hv
      obtain rfl := Option.some.inj hv
      exact ⟨a.add j, cellPtr_eq a m c j, by simpa using cell_lt (hcell j (by omega)), hcell j (by omega)⟩
    · rcases Nat.lt_or_ge j m with hj | hj
      · have : (zs.take m).getD j 0 = zs[j]'(by omega) := by simp [List.getD_eq_getElem?_getD, List.getElem?_take, hj, show j < zs.length by omega]
        rw [this]
        exact wfu8 (hwz _ (List.getElem_mem _))
      · have : (zs.take m).getD j 0 = 0 := by
          rw [List.getD_eq_getElem?_getD, List.getElem?_eq_none (by simp; omega)]; rfl
        rw [this]; decide
end Go.Proofs.Ytbiocgenbgbfpaa

namespace Go.Proofs.Ytbiocgenbgbfpaa
open Sx Go
set_option linter.unusedVariables false
set_option linter.unusedSimpArgs false
attribute [local irreducible] syA tk
set_option maxHeartbeats 8000000 in
theorem SqueezeSwap_l (p : Option Addr) (c m : Nat) (T : List Int) (x : Int) (w0 : World) (ha : ArgRd w0 (.slice p m c) m (ints .u64 T)) (hm : T.length = m) (hO : OKU T ∧ (p = none → m = 0) ∧ m ≤ 17592186043904) (hx : 0 ≤ x ∧ x < 256) :
    Calls Try.prog 4 #[.slice p m c, .int .u8 x] w0 fun e w' => e = .returned (.bool true) ∧ RowKit.Below w0.heap.size w0 w' := by
  obtain ⟨hU, hpm, hmx⟩ := hO
  obtain ⟨V, rfl, hVl, hV⟩ := OKU_nats hU
  have hn : V.length = m := by omega
  refine enter (vs := [.slice p m c, .int .u8 x]) Try.func4 rfl rfl rfl (St.start w0) ?_
  repeat (first | (refine sx ?_; try intro _))
  refine JO_call Try.call11 rfl rfl fun w hw => (alive29_c w hw).mono ?_
  rintro e w' ⟨rfl, hw'⟩
  refine ⟨_, rfl, _, hw', ?_⟩
  clear hw' hw w w'
  repeat (first | (refine sx ?_; try intro _))
  refine JO_call Try.call12 rfl rfl fun w hw => (Few_c p c m V (ha.rd _) hn (by omega) hV w hw).mono ?_
  rintro e w' ⟨q, d, rfl, hw'⟩
  refine ⟨_, rfl, _, hw', ?_⟩
  clear hw' hw w w'
  have hW := fewW_lt V
  have hWl : (fewW V).length ≤ 320 := by unfold fewW; rw [List.length_map, List.length_take]; omega
  generalize fewW V = W at hW hWl ⊢
  have hW64 : ∀ j, W.getD j 0 < 18446744073709551616 := fun j => Nat.lt_of_lt_of_le (hW j) (by omega)
  obtain ⟨x, rfl⟩ := Int.eq_ofNat_of_zero_le hx.1
  obtain ⟨L, hL⟩ : ∃ L : Nat, L = 1 + x % 15 := ⟨_, rfl⟩
  have c1 : (x : Int) % 15 = ((L - 1 : Nat) : Int) := by omega
  have c2' : IntKind.i64.wrap ((L - 1 : Nat) : Int) = ((L - 1 : Nat) : Int) := wi64 (by omega)
  have c3 : IntKind.i64.wrap (1 + ((L - 1 : Nat) : Int)) = (L : Int) := (wi64 (by omega)).trans (by omega)
  repeat (first | (apply gJO; first | refine JO_v (V_rem rfl rfl (by omega) ((Int.tmod_eq_emod_of_nonneg (by omega)).trans c1) rfl) ?_ | refine JO_v (oCv (V_conv (tb := tb) rfl rfl rfl c2' rfl)) ?_ | refine JO_v (V_add rfl rfl c3 rfl) ?_) | (first | (refine sx ?_; try intro _)))
  refine JO_call Try.call14 rfl rfl fun w hw => (Lengths_c q d W.length W (vec_rd (List.Mem.head _)) rfl (by omega) hW64 L w hw).mono ?_
  rintro e w' (⟨hno, rfl, hw'⟩ | ⟨hA, q2, d2, rfl, hw'⟩)
  · refine ⟨_, rfl, _, hw', ?_⟩
    clear hw' hw w w'
    repeat (first | (refine sx ?_; try intro _))
    exact JS_ret Try.func4 rfl rfl fun w hw => ⟨rfl, hw.grown⟩
  refine ⟨_, rfl, _, hw', ?_⟩
  clear hw' hw w w'
  have hget : ∀ i, i < W.length → (ints .u8 (tab W.length fun s => ((Pm.LL W L s : Nat) : Int)))[i]? = some (.int .u8 ((Pm.LL W L i : Nat) : Int)) := fun i hi => by
    rw [ints_get (by rw [tab_len]; exact hi), tab_get hi]
  have hsw : ∀ i k, i < W.length → k < W.length → W.getD k 0 < W.getD i 0 → 0 < W.getD k 0 → Pm.LL W L i ≤ Pm.LL W L k := fun i k hi hk h h0 => by
    have a5 := hA.2.2.2.2
    rw [Int.toNat_natCast] at a5
    exact Pm.LL_swap (by omega) a5 hi hk h h0
  rw [Int.toNat_natCast]
  repeat (first | (apply gJR; first | (refine sx ?_; try intro _)) | (apply gJO; first | (refine sx ?_; try intro _)) | apply JS_seq | apply JS_region | apply JS_skip | (apply gJS; refine JS_condF rfl ?_) | (apply gJS; refine JS_condT rfl ?_) | (apply gJS; refine JS_cond_F rfl (by omega) ?_) | (apply gJS; refine JS_cond_T rfl (by omega) ?_))
  refine JS_block ?_
  refine JS_loop1 (fun (i : Nat) => [(1, .int .u8 x), (5, .slice q W.length d), (6, .slice q2 W.length d2), (8, .int .i64 i)])
    (fun i => vec 5 1 (.slice q2 W.length d2) W.length (ints .u8 (tab W.length fun s => ((Pm.LL W L s : Nat) : Int))) :: vec 31 1 (.slice q W.length d) W.length (ints .u64 (nats W)) :: [])
    (fun i => i ≤ W.length) (fun i => W.length - i) 0 (Nat.zero_le _) (by repeat (first | exact trivial | refine ⟨rfl, ?_⟩ | refine ⟨lookI rfl (by omega), ?_⟩)) (fun w hw => hw) ?_
  intro i hi again
  by_cases hlt : i < W.length
  · repeat (first | (apply gJR; first | (refine sx ?_; try intro _)) | (apply gJO; first | (refine sx ?_; try intro _)) | apply JS_seq | apply JS_region | apply JS_skip | (apply gJS; refine JS_condT rfl ?_) | (apply gJS; refine JS_cond_T rfl (by omega) ?_))
    refine JS_block ?_
    repeat (first | (apply gJR; first | (refine sx ?_; try intro _)) | (apply gJO; first | (refine sx ?_; try intro _)) | apply JS_seq | apply JS_region)
    refine JS_block ?_
    refine JS_loop1 (fun (k : Nat) => [(1, .int .u8 x), (5, .slice q W.length d), (6, .slice q2 W.length d2), (8, .int .i64 i), (9, .int .i64 k)])
      (fun k => vec 5 1 (.slice q2 W.length d2) W.length (ints .u8 (tab W.length fun s => ((Pm.LL W L s : Nat) : Int))) :: vec 31 1 (.slice q W.length d) W.length (ints .u64 (nats W)) :: [])
      (fun k => k ≤ W.length) (fun k => W.length - k) 0 (Nat.zero_le _) (by repeat (first | exact trivial | refine ⟨rfl, ?_⟩ | refine ⟨lookI rfl (by omega), ?_⟩)) (fun w hw => hw) ?_
    intro k hk again2
    by_cases hlt2 : k < W.length
    · have g1 := nats_get (W := W) (j := i) hlt
      have g2 := nats_get (W := W) (j := k) hlt2
      have g3 := hget i hlt
      have g4 := hget k hlt2
      have hs := hsw i k hlt hlt2
      generalize W.getD i 0 = a at g1 hs
      generalize W.getD k 0 = b at g2 hs
      generalize Pm.LL W L i = u at g3 hs
      generalize Pm.LL W L k = v at g4 hs
      by_cases h1 : b < a
      · by_cases h0 : 0 < b
        · have h3 := hs h1 h0
          repeat (first | (apply gQO; first | refine QO_v rfl (V_loadC (tb := tb) rfl (vec_rd (List.Mem.tail _ (List.Mem.head _))) rfl rfl g1 rfl) ?_ | refine QO_v rfl (V_loadC (tb := tb) rfl (vec_rd (List.Mem.tail _ (List.Mem.head _))) rfl rfl g2 rfl) ?_ | refine QO_v rfl (V_loadC (tb := tb) rfl (vec_rd (List.Mem.head _)) rfl rfl g3 rfl) ?_ | refine QO_v rfl (V_loadC (tb := tb) rfl (vec_rd (List.Mem.head _)) rfl rfl g4 rfl) ?_) | (first | (refine sx ?_; try intro _)))
          exact JS_again1 again2 (k + 1) (by omega) (by omega) (by repeat (first | exact trivial | refine ⟨rfl, ?_⟩ | refine ⟨lookI rfl (by omega), ?_⟩)) (fun w hw => hw)
        · repeat (first | (apply gQO; first | refine QO_v rfl (V_loadC (tb := tb) rfl (vec_rd (List.Mem.tail _ (List.Mem.head _))) rfl rfl g1 rfl) ?_ | refine QO_v rfl (V_loadC (tb := tb) rfl (vec_rd (List.Mem.tail _ (List.Mem.head _))) rfl rfl g2 rfl) ?_) | (first | (refine sx ?_; try intro _)))
          exact JS_again1 again2 (k + 1) (by omega) (by omega) (by repeat (first | exact trivial | refine ⟨rfl, ?_⟩ | refine ⟨lookI rfl (by omega), ?_⟩)) (fun w hw => hw)
      · repeat (first | (apply gQO; first | refine QO_v rfl (V_loadC (tb := tb) rfl (vec_rd (List.Mem.tail _ (List.Mem.head _))) rfl rfl g1 rfl) ?_ | refine QO_v rfl (V_loadC (tb := tb) rfl (vec_rd (List.Mem.tail _ (List.Mem.head _))) rfl rfl g2 rfl) ?_) | (first | (refine sx ?_; try intro _)))
        exact JS_again1 again2 (k + 1) (by omega) (by omega) (by repeat (first | exact trivial | refine ⟨rfl, ?_⟩ | refine ⟨lookI rfl (by omega), ?_⟩)) (fun w hw => hw)
    · obtain rfl : k = W.length := by omega
      clear again2
      repeat (first | (refine sx ?_; try intro _))
      exact JS_again1 again (i + 1) (by omega) (by omega) (by repeat (first | exact trivial | refine ⟨rfl, ?_⟩ | refine ⟨lookI rfl (by omega), ?_⟩)) (fun w hw => hw)
  · obtain rfl : i = W.length := by omega
    clear again
    repeat (first | (apply gJO; first | refine JO_v (V_rem rfl rfl (by omega) ((Int.tmod_eq_emod_of_nonneg (by omega)).trans c1) rfl) ?_ | refine JO_v (oCv (V_conv (tb := tb) rfl rfl rfl c2' rfl)) ?_ | refine JO_v (V_add rfl rfl c3 rfl) ?_) | (first | (refine sx ?_; try intro _)))
    refine JO_call Try.call14 rfl rfl fun w hw => (Lengths_at q d W.length W (vec_rd (List.Mem.tail _ (List.Mem.head _))) rfl (by omega) hW64 L _ ⟨hA, rfl⟩ w hw).mono ?_
    rintro e w' ⟨q4, d4, rfl, hw'⟩
    refine ⟨_, rfl, _, hw', ?_⟩
    clear hw' hw w w'
    obtain ⟨b1, b2, _⟩ := LL_set hA
    rw [Int.toNat_natCast]
    have hlt := tab_len W.length fun s => ((Pm.LL W L s : Nat) : Int)
    generalize (tab W.length fun s => ((Pm.LL W L s : Nat) : Int)) = B at *
    repeat (first | (apply gJO; refine JO_v (V_eqStrU (s := bstr B) rfl rfl rfl) ?_) | (first | (refine sx ?_; try intro _)))
    exact JS_ret Try.func4 rfl rfl fun w hw => ⟨rfl, hw.grown⟩
end Go.Proofs.Ytbiocgenbgbfpaa
