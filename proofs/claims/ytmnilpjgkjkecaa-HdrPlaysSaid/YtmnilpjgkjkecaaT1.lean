import Derived.Deep.SlicePairs
import Derived.Test.YtmnilpjgkjkecaaG3
namespace Go.Proofs.Ytmnilpjgkjkecaa
open Sx Go Hd
set_option linter.unusedVariables false
set_option linter.unusedSimpArgs false
/-! ## one that came late -/
/-- how many more values are recorded -/
def lateN (v every : Int) : Nat := if 0 < every ∧ 0 < v then (v / every - 1).toNat else 0
theorem lateN_ge {v every : Int} {j : Nat} (he : 0 < every) (hv : 0 < v) : j < lateN v every ↔ every ≤ v - j * every - every := by
  unfold lateN
  rw [if_pos ⟨he, hv⟩]
  have h1 : ((j : Int) + 2 ≤ v / every) ↔ ((j : Int) + 2) * every ≤ v := Int.le_ediv_iff_mul_le he
  have h2 : ((j : Int) + 2) * every = j * every + 2 * every := Int.add_mul _ _ _
  rw [h2] at h1
  omega
/-- the value number j -/
def lateV (v every : Int) (j : Nat) : Int := v - j * every
theorem lateV_pos {v every : Int} (hv : 0 ≤ v) : ∀ j, j ≤ lateN v every → 0 ≤ lateV v every j ∧ lateV v every j ≤ v
  | 0, _ => by unfold lateV; simp; exact hv
  | j + 1, hj => by
    have he : 0 < every ∧ 0 < v := by
      unfold lateN at hj
      split at hj
      · assumption
      · omega
    have h1 := (lateN_ge (j := j) he.1 he.2).1 (by omega)
    have h3 : ((j + 1 : Nat) : Int) * every = j * every + every := by rw [Int.natCast_add, Int.add_mul]; simp
    have h4 : 0 ≤ (j : Int) * every := Int.mul_nonneg (by omega) (by omega)
    unfold lateV
    rw [h3]
    omega
def lateL (v every : Int) (j : Nat) : List Int := (List.range (j + 1)).map fun i => lateV v every i
theorem lateL_len (v every : Int) (j : Nat) : (lateL v every j).length = j + 1 := by simp [lateL]
theorem lateL_succ (v every : Int) (j : Nat) : lateL v every (j + 1) = lateL v every j ++ [lateV v every (j + 1)] := by
  unfold lateL
  rw [List.range_succ, List.map_append]; rfl
theorem lateL_get {v every : Int} {j i : Nat} (hi : i ≤ j) : (lateL v every j).getD i 0 = lateV v every i := by
  unfold lateL
  rw [List.getD_eq_getElem?_getD, List.getElem?_map, List.getElem?_range (by omega)]; rfl
section
variable {w0 : World} {H : List Asn} {lo hi dg : Int} {u g : Nat}
set_option maxRecDepth 10000 in
set_option maxHeartbeats 8000000 in
theorem Late_c (v every : Int) (hv : -9223372036854775808 ≤ v ∧ v < 9223372036854775808) (he : -9223372036854775808 ≤ every ∧ every < 9223372036854775808) (w : World) (hw : St w0 H w) :
    Calls Try.prog 97 #[.int .i64 v, .int .i64 every] w fun e w' =>
      (4096 < lateN v every ∧ e = .returned (.tuple #[.slice none 0 0, .bool false]) ∧ St w0 H w') ∨
      (lateN v every ≤ 4096 ∧ ∃ q d, e = .returned (.tuple #[.slice q (lateN v every + 1) d, .bool true]) ∧ St w0 (vec 2 1 (.slice q (lateN v every + 1) d) (lateN v every + 1) (ints .i64 (lateL v every (lateN v every))) :: H) w') := by
  have hl0 : lateL v every 0 = [v] := by simp [lateL, lateV]
  refine enter (vs := [.int .i64 v, .int .i64 every]) Try.func97 rfl rfl rfl hw ?_
  clear hw w
  by_cases h1 : every < 1
  · have hn : lateN v every = 0 := by unfold lateN; rw [if_neg (by omega)]
    rw [hn]
    repeat (first | (refine sx ?_; try intro _))
    exact JS_ret Try.func97 rfl rfl fun w hw => .inr ⟨by omega, _, _, rfl, by rw [hl0]; exact hw⟩
  by_cases h2 : v ≤ 0
  · have hn : lateN v every = 0 := by unfold lateN; rw [if_neg (by omega)]
    rw [hn]
    repeat (first | (apply gJR; first | (refine sx ?_; try intro _)) | (apply gJO; first | (refine sx ?_; try intro _)) | apply JS_seq | apply JS_region | (apply gJS; refine JS_condF rfl ?_) | (apply gJS; refine JS_cond_F rfl (by omega) ?_) | apply JS_skip)
    refine JS_block ?_
    refine JS_loop' ?_
    obtain ⟨z, hz⟩ : ∃ z, IntKind.i64.wrap (v - every) = z := ⟨_, rfl⟩
    by_cases hzz : every ≤ z
    all_goals (
      repeat (first | (apply gJO; refine JO_v (V_sub rfl rfl hz rfl) ?_) | first | (refine sx ?_; try intro _))
      exact JS_ret Try.func97 rfl rfl fun w hw => .inr ⟨by omega, _, _, rfl, by rw [hl0]; exact hw⟩)
  · repeat (first | (apply gJR; first | (refine sx ?_; try intro _)) | (apply gJO; first | (refine sx ?_; try intro _)) | apply JS_seq | apply JS_region | (apply gJS; refine JS_condF rfl ?_) | (apply gJS; refine JS_cond_F rfl (by omega) ?_) | apply JS_skip)
    refine JS_block ?_
    refine JS_loop3 (fun (j : Nat) (q : Option Addr) (d : Nat) => [(0, .int .i64 (lateV v every j)), (1, .int .i64 every), (6, .slice q (j + 1) d)]) (fun j q d => vec 2 1 (.slice q (j + 1) d) (j + 1) (ints .i64 (lateL v every j)) :: H) (fun j _ _ => j ≤ lateN v every ∧ j ≤ 4096) (fun j _ _ => lateN v every - j) 0 _ _ ⟨Nat.zero_le _, Nat.zero_le _⟩ ⟨lookI rfl (by unfold lateV; simp), rfl, rfl, trivial⟩ (fun w hw => by rw [hl0]; exact hw) ?_
    intro j q d ⟨hj, hj2⟩ again
    have hge := lateN_ge (v := v) (every := every) (j := j) (by omega) (by omega)
    have hp := lateV_pos (v := v) (every := every) (by omega) j hj
    have hx : lateV v every j = v - j * every := rfl
    have hs : lateV v every (j + 1) = lateV v every j - every := by
      have h3 : ((j + 1 : Nat) : Int) * every = j * every + every := by rw [Int.natCast_add, Int.add_mul]; simp
      unfold lateV; rw [h3]; omega
    have hpos : 0 < lateV v every j := by
      rcases Nat.eq_zero_or_pos j with rfl | h0
      · unfold lateV; simp; omega
      · have h4 := (lateN_ge (v := v) (every := every) (j := j - 1) (by omega) (by omega)).1 (by omega)
        have h5 : (((j - 1 : Nat) : Int)) * every + every = j * every := by
          rw [show (j : Int) = ((j - 1 : Nat) : Int) + 1 by omega, Int.add_mul, Int.one_mul]
        omega
    rw [← hx] at hge
    clear hx
    have hLs := lateL_succ v every j
    have hll := lateL_len v every j
    by_cases hlt : j < lateN v every
    · have hg1 := hge.1 hlt
      rw [hs] at hLs
      generalize lateV v every j = x at *
      by_cases h96 : j = 4096
      · repeat (first | (apply gJO; (refine JO_app (tb := tb) rfl rfl rfl rfl rfl rfl (by repeat (first | exact Sel.here _ _ | apply Sel.there)) (vec_rd (List.Mem.head _)) (by rfl) ⟨rfl, trivial⟩ (by omega) rfl ?_; intro _ _)) | first | (refine sx ?_; try intro _))
        exact JS_ret Try.func97 rfl rfl fun w hw => .inl ⟨by omega, rfl, St.sub (by repeat (first | exact List.Sublist.refl _ | apply List.Sublist.cons_cons | apply List.Sublist.cons)) hw⟩
      · repeat (first | (apply gJO; (refine JO_app (tb := tb) rfl rfl rfl rfl rfl rfl (by repeat (first | exact Sel.here _ _ | apply Sel.there)) (vec_rd (List.Mem.head _)) (by rfl) ⟨rfl, trivial⟩ (by omega) rfl ?_; intro _ _)) | first | (refine sx ?_; try intro _))
        refine JS_again3 again (j + 1) _ _ ⟨by omega, by omega⟩ (by omega) ⟨lookI rfl hs.symm, rfl, rfl, trivial⟩ (fun w hw => ?_)
        rw [hLs, ← ints_app1]
        exact St.sub (by repeat (first | exact List.Sublist.refl _ | apply List.Sublist.cons_cons | apply List.Sublist.cons)) hw
    · obtain rfl : j = lateN v every := by omega
      have hno : ¬ every ≤ lateV v every (lateN v every) - every := fun h => hlt (hge.2 h)
      clear again hge
      generalize lateN v every = N at *
      generalize lateV v every N = x at *
      repeat (first | (refine sx ?_; try intro _))
      exact JS_ret Try.func97 rfl rfl fun w hw => .inr ⟨hj2, q, d, rfl, hw⟩
end
/-- what is counted for one that came late -/
def corS (u g : Nat) (v every n : Int) (s : Nat × List (Int × Int)) : Nat → Nat × List (Int × Int)
  | 0 => s
  | j + 1 => (max (corS u g v every n s j).1 (1 + bkt u g (lateV v every j).toNat), putT (idx u g (lateV v every j).toNat : Nat) n (corS u g v every n s j).2)
def crc (u g : Nat) (gr : Bool) (bu : Nat) (tot v n every : Int) : Int :=
  if 4096 < lateN v every then 1 else if chk u g gr bu tot v n ≠ 0 then chk u g gr bu tot v n else if 4611686018427387904 - tot < n * ((lateN v every : Int) + 1) then 6 else 0
structure OKC (u g : Nat) (s0 s : Nat × List (Int × Int)) (n : Int) (j : Nat) : Prop where
  ok : OKS s
  sum : sw s.2 = sw s0.2 + n * j
  len : s.2.length ≤ s0.2.length + j
  ksi : KSI u g s.2
theorem corS_ok {u g : Nat} {v every n : Int} {s : Nat × List (Int × Int)} (hug : u + g ≤ 62) (hg : 1 ≤ g ∧ g ≤ 18) (hs : OKS s) (hk : KSI u g s.2) (hv : 0 ≤ v ∧ v < 9223372036854775808) (hn : 0 < n) : ∀ j, j ≤ lateN v every + 1 → sw s.2 + n * j ≤ 4611686018427387904 → OKC u g s (corS u g v every n s j) n j
  | 0, _, _ => ⟨hs, by simp [corS], by simp [corS], hk⟩
  | j + 1, hj, ht => by
    have e : n * ((j + 1 : Nat) : Int) = n * j + n := by rw [Int.natCast_add, Int.mul_add]; simp
    rw [e] at ht
    obtain ⟨h1, h2, h3, h4⟩ := corS_ok (every := every) hug hg hs hk hv hn j (by omega) (by omega)
    have hp := lateV_pos (v := v) (every := every) hv.1 j (by omega)
    have hx : (lateV v every j).toNat < 9223372036854775808 := by omega
    obtain ⟨i1, _⟩ := idx_bd hug hg hx
    have hb3 := bkt_63 (u := u) (g := g) hx (by omega)
    have hbu := h1.bu
    have hln := putT_len (k := (idx u g (lateV v every j).toNat : Nat)) (n := n) (corS u g v every n s j).2
    refine ⟨⟨?_, h1.gt.put (by omega) hn (by omega)⟩, ?_, ?_, h4.put (idx_is hg.1 hug hx) n⟩
    · show max _ _ ≤ 64; omega
    · show sw (putT _ _ _) = _
      rw [putT_sw, h2, e]; omega
    · show (putT _ _ _).length ≤ _
      omega
section
variable {w0 : World} {H : List Asn} {lo hi dg : Int} {u g : Nat}
set_option maxRecDepth 10000 in
set_option maxHeartbeats 8000000 in
theorem HCorrectF (bh mb bm : Nat) (gr : Bool) (bu : Nat) (es : List MapEntry) (clock : Nat) (T : List (Int × Int)) (hM : blk mb (mc lo hi dg u g) ∈ H) (hug : u + g ≤ 62) (hg : 1 ≤ g ∧ g ≤ 18) (hE : HM es clock T) (hs : OKS (bu, T)) (hk : KSI u g T) (v n every : Int) (hv : -9223372036854775808 ≤ v ∧ v < 9223372036854775808) (hn : 0 ≤ n ∧ n < 18446744073709551616) (he : -9223372036854775808 ≤ every ∧ every < 9223372036854775808) :
    JS Try.prog 68 Try.f68.ntmps (fun e w' => e = .returned (.int .i64 (crc u g gr bu (sw T) v n every)) ∧
      ((crc u g gr bu (sw T) v n every ≠ 0 ∧ St w0 (blk bh (hc mb bm gr bu (sw T)) :: mapL bm es clock :: H) w') ∨
      (crc u g gr bu (sw T) v n every = 0 ∧ ∃ es' clock', HM es' clock' (corS u g v every n (bu, T) (lateN v every + 1)).2 ∧ St w0 (blk bh (hc mb bm gr (corS u g v every n (bu, T) (lateN v every + 1)).1 (sw (corS u g v every n (bu, T) (lateN v every + 1)).2)) :: mapL bm es' clock' :: H) w'))) [] w0 (todo Try.f68 [.b, .b, .b, .b, .a])
      [(0, .pointer (some ⟨bh, 0, none⟩)), (1, .int .i64 v), (2, .int .u64 n), (3, .int .i64 every), (9, .int .i64 (lateN v every))] (blk bh (hc mb bm gr bu (sw T)) :: mapL bm es clock :: H) := by
  have hcr : crc u g gr bu (sw T) v n every = if 4096 < lateN v every then 1 else if chk u g gr bu (sw T) v n ≠ 0 then chk u g gr bu (sw T) v n else if 4611686018427387904 - sw T < n * ((lateN v every : Int) + 1) then 6 else 0 := rfl
  have ht0 := sw_nn hs.gt.pos
  have htt := hs.gt.tot
  dsimp only at ht0 htt

  refine JS_at rfl ?_
  by_cases h96 : 4096 < lateN v every
  · rw [if_pos h96] at hcr
    generalize lateN v every = N at *
    repeat (first | (refine sx ?_; try intro _))
    exact JS_ret Try.func68 rfl rfl fun w hw => ⟨by rw [hcr]; rfl, .inl ⟨by rw [hcr]; decide, hw⟩⟩
  rw [if_neg h96] at hcr
  repeat (first | (refine sx ?_; try intro _))
  refine JO_call Try.call58 rfl rfl fun w hw => (HCheck_c bh mb bm gr bu (sw T) (List.Mem.head _) (List.Mem.tail _ (List.Mem.tail _ hM)) hug hg.1 hs.bu ⟨ht0, htt⟩ v n hv hn w hw).mono ?_
  rintro e w' ⟨rfl, hw'⟩
  (refine ⟨_, rfl, _, hw', ?_⟩; clear hw' hw w w')
  by_cases hc0 : chk u g gr bu (sw T) v n = 0
  · rw [hc0, if_neg (fun h => h rfl)] at hcr
    rw [hc0]
    obtain ⟨p1, p2, p3⟩ := chk_0 hn.1 hc0
    have hdiv : (4611686018427387904 - sw T) / ((lateN v every : Int) + 1) < n ↔ 4611686018427387904 - sw T < n * ((lateN v every : Int) + 1) := Int.ediv_lt_iff_lt_mul (by omega)
    have hq0 : 0 ≤ (4611686018427387904 - sw T) / ((lateN v every : Int) + 1) := Int.ediv_nonneg (by omega) (by omega)
    have hq1 : (4611686018427387904 - sw T) / ((lateN v every : Int) + 1) ≤ 4611686018427387904 - sw T := Int.ediv_le_self _ (by omega)
    have k1 : IntKind.u64.wrap (4611686018427387904 - sw T) = 4611686018427387904 - sw T := wu64 (by omega)
    have k2 : IntKind.u64.wrap (Int.tdiv (4611686018427387904 - sw T) ((lateN v every : Int) + 1)) = (4611686018427387904 - sw T) / ((lateN v every : Int) + 1) := by
      rw [Int.tdiv_eq_ediv_of_nonneg (by omega)]
      exact wu64 (by omega)
    have hcor := fun j hj ht => corS_ok (v := v) (every := every) (n := n) (s := (bu, T)) hug hg hs hk ⟨p2, hv.2⟩ p1 j hj ht
    have hlv := fun j hj => lateV_pos (v := v) (every := every) p2 j hj
    by_cases h6 : 4611686018427387904 - sw T < n * ((lateN v every : Int) + 1)
    · rw [if_pos h6] at hcr
      have h6' := hdiv.2 h6
      generalize (4611686018427387904 - sw T) / ((lateN v every : Int) + 1) = Q at *
      repeat (first | (apply gJO; first | refine JO_v (V_sub rfl rfl k1 rfl) ?_ | refine JO_v (V_quo rfl rfl (by omega) k2 rfl) ?_) | first | (refine sx ?_; try intro _))
      exact JS_ret Try.func68 rfl rfl fun w hw => ⟨by rw [hcr]; rfl, .inl ⟨by rw [hcr]; decide, hw⟩⟩
    · rw [if_neg h6] at hcr
      have h6' : ¬ (4611686018427387904 - sw T) / ((lateN v every : Int) + 1) < n := fun h => h6 (hdiv.1 h)
      have hsum : ∀ j : Nat, j ≤ lateN v every + 1 → sw T + n * j ≤ 4611686018427387904 := fun j hj => by
        have := Int.mul_le_mul_of_nonneg_left (show (j : Int) ≤ (lateN v every : Int) + 1 by omega) (show 0 ≤ n by omega)
        omega
      generalize (4611686018427387904 - sw T) / ((lateN v every : Int) + 1) = Q at *
      repeat (first | (apply gJO; first | refine JO_v (V_sub rfl rfl k1 rfl) ?_ | refine JO_v (V_quo rfl rfl (by omega) k2 rfl) ?_) | (apply gJR; first | (refine sx ?_; try intro _)) | (apply gJO; first | (refine sx ?_; try intro _)) | apply JS_seq | apply JS_region | (apply gJS; refine JS_condF rfl ?_) | (apply gJS; refine JS_cond_F rfl (by omega) ?_) | apply JS_skip)
      refine JS_block ?_
      refine JS_loop4 (fun (j : Nat) (x : Int) (es : List MapEntry) (clock : Nat) => [(1, .int .i64 x), (2, .int .u64 n), (3, .int .i64 every), (11, .func (.func 59) #[.pointer (some ⟨bh, 0, none⟩)] #[]), (47, .int .i64 ((lateN v every : Int) + 1)), (48, .int .i64 j)])
        (fun j x es clock => blk bh (hc mb bm gr (corS u g v every n (bu, T) j).1 (sw (corS u g v every n (bu, T) j).2)) :: mapL bm es clock :: H) (fun j x es clock => j ≤ lateN v every + 1 ∧ (j ≤ lateN v every → x = lateV v every j) ∧ HM es clock (corS u g v every n (bu, T) j).2) (fun j _ _ _ => lateN v every + 1 - j) 0 v es clock ⟨by omega, fun _ => by unfold lateV; simp, hE⟩ (by repeat (first | exact trivial | refine ⟨rfl, ?_⟩ | refine ⟨lookI rfl (by omega), ?_⟩)) (fun w hw => hw) ?_
      intro j x es clock ⟨hj, hx, hEj⟩ again
      obtain ⟨⟨ob, ogt⟩, os, ol, ok⟩ := hcor j hj (hsum j hj)
      by_cases hlt : j < lateN v every + 1
      · obtain rfl := hx (by omega)
        have hlj := hlv j (by omega)
        have hsj := hsum (j + 1) (by omega)
        have e1 : n * ((j + 1 : Nat) : Int) = n * j + n := by rw [Int.natCast_add, Int.mul_add]; simp
        rw [e1] at hsj
        have hnext : corS u g v every n (bu, T) (j + 1) = (max (corS u g v every n (bu, T) j).1 (1 + bkt u g (lateV v every j).toNat), putT (idx u g (lateV v every j).toNat : Nat) n (corS u g v every n (bu, T) j).2) := rfl
        have hs : lateV v every (j + 1) = lateV v every j - every := by
          have h3 : ((j + 1 : Nat) : Int) * every = j * every + every := by rw [Int.natCast_add, Int.add_mul]; simp
          unfold lateV; rw [h3]; omega
        have hlj2 := fun h => hlv (j + 1) h
        have hpm := sw_mem ogt.pos
        have hpp := ogt.pos
        obtain ⟨y, hy⟩ := Int.eq_ofNat_of_zero_le hlj.1
        rw [hs] at hlj2
        rw [hy] at hnext hs hlj2 hlj ⊢
        rw [Int.toNat_natCast] at hnext
        dsimp only at os
        have hput := putT_sw (k := (idx u g y : Nat)) (n := n) (corS u g v every n (bu, T) j).2
        generalize corS u g v every n (bu, T) j = s at *
        obtain ⟨bs, Ts⟩ := s
        dsimp only at *
        repeat (first | apply JS_seq | first | (refine sx ?_; try intro _))
        refine JO_callv (us := [.pointer (some ⟨bh, 0, none⟩)]) (cs := []) rfl Try.call59 rfl rfl fun w hw => (HCount_c bh mb bm gr bs (sw Ts) es clock Ts hM hug hg ob (sw_nn hpp) hEj ogt.srt y (by omega) n ⟨by omega, by omega⟩ (fun z hz => ⟨by have := hpp z hz; omega, hpm z hz⟩) w hw).mono ?_
        rintro e w' ⟨rfl, es', clock', hE', hw'⟩
        (refine ⟨_, rfl, _, hw', ?_⟩; clear hw' hw w w')
        obtain ⟨z, hz⟩ : ∃ z, IntKind.i64.wrap ((y : Int) - every) = z := ⟨_, rfl⟩
        repeat (first | (apply gJO; refine JO_v (V_sub rfl rfl hz rfl) ?_) | first | (refine sx ?_; try intro _))
        refine JS_again4 again (j + 1) z es' clock' ⟨by omega, fun h => ?_, by rw [hnext]; exact hE'⟩ (by omega) (by repeat (first | exact trivial | refine ⟨rfl, ?_⟩ | refine ⟨lookI rfl (by omega), ?_⟩)) (fun w hw => ?_)
        · have := hlj2 h
          rw [← hz, hs]
          exact wi64 (by omega)
        · rw [hnext]
          dsimp only
          rw [hput]
          exact hw
      · obtain rfl : j = lateN v every + 1 := by omega
        clear again
        generalize corS u g v every n (bu, T) (lateN v every + 1) = s at *
        generalize lateN v every = N at *
        repeat (first | (refine sx ?_; try intro _))
        exact JS_ret Try.func68 rfl rfl fun w hw => ⟨by rw [hcr]; rfl, .inr ⟨hcr, es, clock, hEj, hw⟩⟩
  · rw [if_pos hc0] at hcr
    generalize chk u g gr bu (sw T) v n = c at *
    repeat (first | (refine sx ?_; try intro _))
    exact JS_ret Try.func68 rfl rfl fun w hw => ⟨by rw [hcr]; rfl, .inl ⟨by rw [hcr]; exact hc0, hw⟩⟩
end
end Go.Proofs.Ytmnilpjgkjkecaa

namespace Go.Proofs.Ytmnilpjgkjkecaa
open Sx Go Hd
set_option linter.unusedVariables false
set_option linter.unusedSimpArgs false
section
variable {w0 : World} {H : List Asn} {lo hi dg : Int} {u g : Nat}
set_option maxRecDepth 10000 in
set_option maxHeartbeats 8000000 in
theorem HCorrect_c (bh mb bm : Nat) (gr : Bool) (bu : Nat) (es : List MapEntry) (clock : Nat) (T : List (Int × Int)) (hM : blk mb (mc lo hi dg u g) ∈ H) (hug : u + g ≤ 62) (hg : 1 ≤ g ∧ g ≤ 18) (hE : HM es clock T) (hs : OKS (bu, T)) (hk : KSI u g T) (v n every : Int) (hv : -9223372036854775808 ≤ v ∧ v < 9223372036854775808) (hn : 0 ≤ n ∧ n < 18446744073709551616) (he : -9223372036854775808 ≤ every ∧ every < 9223372036854775808) (w : World) (hw : St w0 (blk bh (hc mb bm gr bu (sw T)) :: mapL bm es clock :: H) w) :
    Calls Try.prog 68 #[.pointer (some ⟨bh, 0, none⟩), .int .i64 v, .int .u64 n, .int .i64 every] w fun e w' => e = .returned (.int .i64 (crc u g gr bu (sw T) v n every)) ∧
      ((crc u g gr bu (sw T) v n every ≠ 0 ∧ St w0 (blk bh (hc mb bm gr bu (sw T)) :: mapL bm es clock :: H) w') ∨
      (crc u g gr bu (sw T) v n every = 0 ∧ ∃ es' clock', HM es' clock' (corS u g v every n (bu, T) (lateN v every + 1)).2 ∧ St w0 (blk bh (hc mb bm gr (corS u g v every n (bu, T) (lateN v every + 1)).1 (sw (corS u g v every n (bu, T) (lateN v every + 1)).2)) :: mapL bm es' clock' :: H) w')) := by
  refine enter (vs := [.pointer (some ⟨bh, 0, none⟩), .int .i64 v, .int .u64 n, .int .i64 every]) Try.func68 rfl rfl rfl hw ?_
  clear hw w
  have hln : lateN v every = if 0 < every ∧ 0 < v then (v / every - 1).toNat else 0 := rfl
  have fin := HCorrectF (w0 := w0) (H := H) (lo := lo) (hi := hi) (dg := dg) bh mb bm gr bu es clock T hM hug hg hE hs hk v n every hv hn he
  generalize lateN v every = N at *
  generalize crc u g gr bu (sw T) v n every = c at *
  generalize corS u g v every n (bu, T) (N + 1) = s at *
  by_cases h1 : 0 < every
  · by_cases h2 : 0 < v
    · rw [if_pos ⟨h1, h2⟩] at hln
      have q0 : 0 ≤ v / every := Int.ediv_nonneg (by omega) (by omega)
      have q1 : v / every ≤ v := Int.ediv_le_self _ (by omega)
      have k1 : IntKind.i64.wrap (Int.tdiv v every) = v / every := by
        rw [Int.tdiv_eq_ediv_of_nonneg (by omega)]
        exact wi64 (by omega)
      have k2 : IntKind.i64.wrap (v / every - 1) = v / every - 1 := wi64 (by omega)
      have k3 : max (v / every - 1) 0 = ((N : Nat) : Int) := by omega
      generalize v / every = Q at *
      repeat (first | apply hIx 5 | (apply gJO; first | refine JO_v (V_quo rfl rfl (by omega) k1 rfl) ?_ | refine JO_v (V_sub rfl rfl k2 rfl) ?_ | refine JO_v (V_max rfl rfl k3 rfl) ?_) | first | (refine sx ?_; try intro _))
      refine Hold.go ?_
      exact JS_of_at (fn := Try.f68) (p := [.b, .b, .b, .b, .a]) (JS_ov (by repeat (first | exact trivial | refine ⟨rfl, ?_⟩ | refine ⟨lookI rfl (by omega), ?_⟩)) fin) rfl
    · rw [if_neg (by omega)] at hln
      rw [hln] at fin
      repeat (first | apply hIx 5 | first | (refine sx ?_; try intro _))
      refine Hold.go ?_
      exact JS_of_at (fn := Try.f68) (p := [.b, .b, .b, .b, .a]) (JS_ov (by repeat (first | exact trivial | refine ⟨rfl, ?_⟩ | refine ⟨lookI rfl (by omega), ?_⟩)) fin) rfl
  · rw [if_neg (by omega)] at hln
    rw [hln] at fin
    repeat (first | apply hIx 5 | first | (refine sx ?_; try intro _))
    refine Hold.go ?_
    exact JS_of_at (fn := Try.f68) (p := [.b, .b, .b, .b, .a]) (JS_ov (by repeat (first | exact trivial | refine ⟨rfl, ?_⟩ | refine ⟨lookI rfl (by omega), ?_⟩)) fin) rfl
end
end Go.Proofs.Ytmnilpjgkjkecaa

namespace Go.Proofs.Ytmnilpjgkjkecaa
open Sx Go Hd
set_option linter.unusedVariables false
set_option linter.unusedSimpArgs false
section
variable {w0 : World} {H : List Asn} {lo hi dg : Int} {u g : Nat}
set_option maxRecDepth 10000 in
set_option maxHeartbeats 8000000 in
theorem RCorrect_c (b : Nat) (gr : Bool) (bu : Nat) (T : List (Int × Int)) (q0 : Option Addr) (d0 : Nat) (hr0 : Rd w0 H (.slice q0 T.length d0) T.length (flat T)) (hug : u + g ≤ 62) (hg : 1 ≤ g ∧ g ≤ 18) (hs : OKS (bu, T)) (hk : KSI u g T) (hl : T.length ≤ 50000) (v n every : Int) (hv : -9223372036854775808 ≤ v ∧ v < 9223372036854775808) (hn : 0 ≤ n ∧ n < 18446744073709551616) (he : -9223372036854775808 ≤ every ∧ every < 9223372036854775808) (w : World) (hw : St w0 (blk b (rc lo hi dg u g gr bu (.slice q0 T.length d0)) :: H) w) :
    Calls Try.prog 69 #[.pointer (some ⟨b, 0, none⟩), .int .i64 v, .int .u64 n, .int .i64 every] w fun e w' => e = .returned (.int .i64 (crc u g gr bu (sw T) v n every)) ∧
      ((crc u g gr bu (sw T) v n every ≠ 0 ∧ St w0 (blk b (rc lo hi dg u g gr bu (.slice q0 T.length d0)) :: H) w') ∨
      (crc u g gr bu (sw T) v n every = 0 ∧ ∃ q d, St w0 (blk b (rc lo hi dg u g gr (corS u g v every n (bu, T) (lateN v every + 1)).1 (.slice q (corS u g v every n (bu, T) (lateN v every + 1)).2.length d)) :: vec 58 2 (.slice q (corS u g v every n (bu, T) (lateN v every + 1)).2.length d) (corS u g v every n (bu, T) (lateN v every + 1)).2.length (flat (corS u g v every n (bu, T) (lateN v every + 1)).2) :: H) w')) := by
  have hcr : crc u g gr bu (sw T) v n every = if 4096 < lateN v every then 1 else if chk u g gr bu (sw T) v n ≠ 0 then chk u g gr bu (sw T) v n else if 4611686018427387904 - sw T < n * ((lateN v every : Int) + 1) then 6 else 0 := rfl
  have ht0 := sw_nn hs.gt.pos
  have htt := hs.gt.tot
  have hbu := hs.bu
  have hG := hs.gt
  dsimp only at ht0 htt hbu hG
  refine enter (vs := [.pointer (some ⟨b, 0, none⟩), .int .i64 v, .int .u64 n, .int .i64 every]) Try.func69 rfl rfl rfl hw ?_
  clear hw w
  repeat (first | (refine sx ?_; try intro _))
  refine JO_call Try.call97 rfl rfl fun w hw => (Late_c v every hv he w hw).mono ?_
  rintro e w' (⟨h96, rfl, hw'⟩ | ⟨h96, ql, dl, rfl, hw'⟩)
  · (refine ⟨_, rfl, _, hw', ?_⟩; clear hw' hw w w')
    rw [if_pos h96] at hcr
    generalize lateN v every = N at *
    repeat (first | (refine sx ?_; try intro _))
    exact JS_ret Try.func69 rfl rfl fun w hw => ⟨by rw [hcr]; rfl, .inl ⟨by rw [hcr]; decide, hw⟩⟩
  (refine ⟨_, rfl, _, hw', ?_⟩; clear hw' hw w w')
  rw [if_neg (by omega)] at hcr
  repeat (first | (refine sx ?_; try intro _))
  refine JO_call Try.call60 rfl rfl fun w hw => (RCheck18_c b gr bu q0 d0 T (List.Mem.tail _ (List.Mem.head _)) (Rd_weak hr0 fun w hw => St.sub (by repeat (first | exact List.Sublist.refl _ | apply List.Sublist.cons_cons | apply List.Sublist.cons)) hw) hG.okt hG.right (by omega) hug hg.1 hbu v n hv hn w hw).mono ?_
  rintro e w' ⟨rfl, hw'⟩
  (refine ⟨_, rfl, _, hw', ?_⟩; clear hw' hw w w')
  by_cases hc0 : chk u g gr bu (sw T) v n = 0
  · rw [hc0, if_neg (fun h => h rfl)] at hcr
    rw [hc0]
    obtain ⟨p1, p2, p3⟩ := chk_0 hn.1 hc0
    have k1 : IntKind.u64.wrap (4611686018427387904 - sw T) = 4611686018427387904 - sw T := wu64 (by omega)
    have hcor := fun j hj ht => corS_ok (v := v) (every := every) (n := n) (s := (bu, T)) hug hg hs hk ⟨p2, hv.2⟩ p1 j hj ht
    have hlv := fun j hj => lateV_pos (v := v) (every := every) p2 j hj
    repeat (first | (refine sx ?_; try intro _))
    refine JO_call Try.call48 rfl rfl fun w hw => (RTotal_c q0 d0 T.length T (Rd_weak hr0 fun w hw => St.sub (by repeat (first | exact List.Sublist.refl _ | apply List.Sublist.cons_cons | apply List.Sublist.cons)) hw) rfl hG.okt hG.right (by omega) w hw).mono ?_
    rintro e w' ⟨rfl, hw'⟩
    (refine ⟨_, rfl, _, hw', ?_⟩; clear hw' hw w w')
    repeat (first | (apply gJO; first | refine JO_v (V_sub rfl rfl k1 rfl) ?_) | (apply gJR; first | (refine sx ?_; try intro _)) | (apply gJO; first | (refine sx ?_; try intro _)) | apply JS_seq | apply JS_region)
    refine JS_block ?_
    have hll := lateL_len v every (lateN v every)
    refine JS_loop1 (fun (i : Nat) => [(0, .pointer (some ⟨b, 0, none⟩)), (2, .int .u64 n), (9, .slice ql (lateN v every + 1) dl), (12, .int .u64 (4611686018427387904 - sw T - n * i)), (13, .int .i64 i)])
      (fun _ => vec 2 1 (.slice ql (lateN v every + 1) dl) (lateN v every + 1) (ints .i64 (lateL v every (lateN v every))) :: blk b (rc lo hi dg u g gr bu (.slice q0 T.length d0)) :: H) (fun i => i ≤ lateN v every + 1 ∧ n * i ≤ 4611686018427387904 - sw T) (fun i => lateN v every + 1 - i) 0 ⟨Nat.zero_le _, by simp; omega⟩ ⟨rfl, rfl, rfl, lookI rfl (by simp), rfl, trivial⟩ (fun w hw => hw) ?_
    intro i ⟨hiN, hni⟩ again
    by_cases hlt : i < lateN v every + 1
    · have e1 : n * ((i + 1 : Nat) : Int) = n * i + n := by rw [Int.natCast_add, Int.mul_add]; simp
      have e2 : n * ((i + 1 : Nat) : Int) ≤ n * ((lateN v every : Int) + 1) := Int.mul_le_mul_of_nonneg_left (by omega) (by omega)
      have e0 : 0 ≤ n * (i : Int) := Int.mul_nonneg (by omega) (by omega)
      by_cases h6 : 4611686018427387904 - sw T - n * i < n
      · rw [if_pos (by omega)] at hcr
        clear hcor hlv again
        generalize n * (i : Int) = pi at *
        generalize lateN v every = N at *
        repeat (first | (refine sx ?_; try intro _))
        exact JS_ret Try.func69 rfl rfl fun w hw => ⟨by rw [hcr]; rfl, .inl ⟨by rw [hcr]; decide, St.sub (by repeat (first | exact List.Sublist.refl _ | apply List.Sublist.cons_cons | apply List.Sublist.cons)) hw⟩⟩
      · have k2 : IntKind.u64.wrap (4611686018427387904 - sw T - n * i - n) = 4611686018427387904 - sw T - n * ((i + 1 : Nat) : Int) := (wu64 (by omega)).trans (by omega)
        repeat (first | (apply gJO; first | refine JO_v (V_sub rfl rfl k2 rfl) ?_) | first | (refine sx ?_; try intro _))
        exact JS_again1 again (i + 1) ⟨by omega, by omega⟩ (by omega) (by repeat (first | exact trivial | refine ⟨rfl, ?_⟩ | refine ⟨lookI rfl (by omega), ?_⟩)) (fun w hw => hw)
    · obtain rfl : i = lateN v every + 1 := by omega
      rw [if_neg (by have h : ((lateN v every + 1 : Nat) : Int) = (lateN v every : Int) + 1 := by omega
                     rw [h] at hni; omega)] at hcr
      clear again
      have hsum : ∀ j : Nat, j ≤ lateN v every + 1 → sw T + n * j ≤ 4611686018427387904 := fun j hj => by
        have := Int.mul_le_mul_of_nonneg_left (show (j : Int) ≤ ((lateN v every + 1 : Nat) : Int) by omega) (show 0 ≤ n by omega)
        omega
      generalize 4611686018427387904 - sw T - n * ((lateN v every + 1 : Nat) : Int) = Q at *
      repeat (first | (apply gJR; first | (refine sx ?_; try intro _)) | (apply gJO; first | (refine sx ?_; try intro _)) | apply JS_seq | apply JS_region | (apply gJS; refine JS_condF rfl ?_) | (apply gJS; refine JS_cond_F rfl (by omega) ?_) | apply JS_skip | apply JS_exit_here | first | (refine sx ?_; try intro _))
      refine JS_loop4 (fun (j : Nat) (X : Asn) (q : Option Addr) (d : Nat) => [(0, .pointer (some ⟨b, 0, none⟩)), (2, .int .u64 n), (9, .slice ql (lateN v every + 1) dl), (14, .int .i64 j)])
        (fun j X q d => blk b (rc lo hi dg u g gr (corS u g v every n (bu, T) j).1 (.slice q (corS u g v every n (bu, T) j).2.length d)) :: X :: vec 2 1 (.slice ql (lateN v every + 1) dl) (lateN v every + 1) (ints .i64 (lateL v every (lateN v every))) :: H) (fun j X q d => j ≤ lateN v every + 1 ∧ rowX X q0 d0 j q d (corS u g v every n (bu, T) j).2) (fun j _ _ _ => lateN v every + 1 - j) 0 (vec 58 2 (.slice none 0 0) 0 []) q0 d0 ⟨Nat.zero_le _, .inl ⟨rfl, rfl, rfl, rfl⟩⟩ (by repeat (first | exact trivial | refine ⟨rfl, ?_⟩ | refine ⟨lookI rfl (by omega), ?_⟩)) (fun w hw => (St.nilvec (e := 58) (sz := 2) (base := none) hw).perm (by (repeat (first | exact List.Perm.refl _ | refine List.Perm.cons _ ?_ | refine (List.perm_middle (l₁ := [_])).trans (List.Perm.cons _ ?_) | refine (List.perm_middle (l₁ := [_, _])).trans (List.Perm.cons _ ?_) | refine (List.perm_middle (l₁ := [_, _, _])).trans (List.Perm.cons _ ?_) | refine (List.perm_middle (l₁ := [_, _, _, _])).trans (List.Perm.cons _ ?_) | refine (List.perm_middle (l₁ := [_, _, _, _, _])).trans (List.Perm.cons _ ?_) | refine (List.perm_middle (l₁ := [_, _, _, _, _, _])).trans (List.Perm.cons _ ?_) | refine (List.perm_middle (l₁ := [_, _, _, _, _, _, _])).trans (List.Perm.cons _ ?_) | refine (List.perm_middle (l₁ := [_, _, _, _, _, _, _, _])).trans (List.Perm.cons _ ?_) | refine (List.perm_middle (l₁ := [_, _, _, _, _, _, _, _, _])).trans (List.Perm.cons _ ?_) | refine (List.perm_middle (l₁ := [_, _, _, _, _, _, _, _, _, _])).trans (List.Perm.cons _ ?_) | refine (List.perm_middle (l₁ := [_, _, _, _, _, _, _, _, _, _, _])).trans (List.Perm.cons _ ?_) | refine (List.perm_middle (l₁ := [_, _, _, _, _, _, _, _, _, _, _, _])).trans (List.Perm.cons _ ?_) | refine (List.perm_middle (l₁ := [_, _, _, _, _, _, _, _, _, _, _, _, _])).trans (List.Perm.cons _ ?_))))) ?_
      intro j X q d ⟨hj, hX⟩ again
      obtain ⟨⟨ob, ogt⟩, os, ol, ok⟩ := hcor j hj (hsum j hj)
      by_cases hlt : j < lateN v every + 1
      · have hlj := hlv j (by omega)
        have hget := lateL_get (v := v) (every := every) (show j ≤ lateN v every by omega)
        have hsj := hsum (j + 1) (by omega)
        have e1 : n * ((j + 1 : Nat) : Int) = n * j + n := by rw [Int.natCast_add, Int.mul_add]; simp
        rw [e1] at hsj
        have hnext : corS u g v every n (bu, T) (j + 1) = (max (corS u g v every n (bu, T) j).1 (1 + bkt u g (lateV v every j).toNat), putT (idx u g (lateV v every j).toNat : Nat) n (corS u g v every n (bu, T) j).2) := rfl
        obtain ⟨y, hy⟩ := Int.eq_ofNat_of_zero_le hlj.1
        rw [hy] at hnext hlj hget
        rw [Int.toNat_natCast] at hnext
        dsimp only at os
        have hrow : Rd w0 (X :: vec 2 1 (.slice ql (lateN v every + 1) dl) (lateN v every + 1) (ints .i64 (lateL v every (lateN v every))) :: H) (.slice q (corS u g v every n (bu, T) j).2.length d) (corS u g v every n (bu, T) j).2.length (flat (corS u g v every n (bu, T) j).2) := by
          rcases hX with ⟨rfl, rfl, rfl, rfl⟩ | ⟨_, rfl⟩
          · exact Rd_weak hr0 fun w hw => St.sub (by repeat (first | exact List.Sublist.refl _ | apply List.Sublist.cons_cons | apply List.Sublist.cons)) hw
          · exact vec_rd (List.Mem.head _)
        clear hX
        generalize corS u g v every n (bu, T) j = s at *
        obtain ⟨bs, Ts⟩ := s
        dsimp only at *
        repeat (first | (refine sx ?_; try intro _))
        rw [hget]
        refine JO_call Try.call61 rfl rfl fun w hw => (RCount18_c b gr bs q d Ts hrow ogt.okt ogt.right (by omega) hug hg ob y (by omega) n ⟨by omega, by omega⟩ (fun i hi => ogt.le i hi) w hw).mono ?_
        rintro e w' ⟨rfl, q', d', hw'⟩
        (refine ⟨_, rfl, _, hw', ?_⟩; clear hw' hw w w')
        repeat (first | (refine sx ?_; try intro _))
        refine JS_again4 again (j + 1) _ q' d' ⟨by omega, .inr ⟨by omega, rfl⟩⟩ (by omega) (by repeat (first | exact trivial | refine ⟨rfl, ?_⟩ | refine ⟨lookI rfl (by omega), ?_⟩)) (fun w hw => ?_)
        rw [hnext]
        exact St.sub (by repeat (first | exact List.Sublist.refl _ | apply List.Sublist.cons_cons | apply List.Sublist.cons)) hw
      · obtain rfl : j = lateN v every + 1 := by omega
        clear again
        rcases hX with ⟨h0, _⟩ | ⟨_, rfl⟩
        · omega
        generalize corS u g v every n (bu, T) (lateN v every + 1) = s at *
        generalize lateN v every = N at *
        repeat (first | (refine sx ?_; try intro _))
        exact JS_ret Try.func69 rfl rfl fun w hw => ⟨by rw [hcr]; rfl, .inr ⟨hcr, q, d, St.sub (by repeat (first | exact List.Sublist.refl _ | apply List.Sublist.cons_cons | apply List.Sublist.cons)) hw⟩⟩
  · rw [if_pos hc0] at hcr
    generalize chk u g gr bu (sw T) v n = c at *
    generalize lateN v every = N at *
    repeat (first | (refine sx ?_; try intro _))
    exact JS_ret Try.func69 rfl rfl fun w hw => ⟨by rw [hcr]; rfl, .inl ⟨by rw [hcr]; exact hc0, St.sub (by repeat (first | exact List.Sublist.refl _ | apply List.Sublist.cons_cons | apply List.Sublist.cons)) hw⟩⟩
end
end Go.Proofs.Ytmnilpjgkjkecaa

namespace Go.Proofs.Ytmnilpjgkjkecaa
open Sx Go Hd
set_option linter.unusedVariables false
set_option linter.unusedSimpArgs false
/-! ## which keys come in (plain) -/
/-- the keys of the third are those of the first two, and a few more -/
def NEWK (S T R : List (Int × Int)) : Prop := ∃ ks : List Int, ks.length ≤ 301 ∧ ∀ x ∈ R, (∃ y ∈ S, y.1 = x.1) ∨ (∃ y ∈ T, y.1 = x.1) ∨ x.1 ∈ ks
theorem NEWK.self (S T : List (Int × Int)) : NEWK S T S := ⟨[], by simp, fun x hx => .inl ⟨x, hx, rfl⟩⟩
theorem NEWK.put (S T : List (Int × Int)) (k n : Int) : NEWK S T (putT k n S) :=
  ⟨[k], by simp, fun x hx => (putT_mem hx).elim (fun h => .inl ⟨x, h, rfl⟩) fun h => .inr (.inr (by simp [h]))⟩
theorem takeT_keys {T P : List (Int × Int)} : ∀ x ∈ takeT T P, (∃ y ∈ T, y.1 = x.1) ∨ (∃ y ∈ P, y.1 = x.1) := by
  induction P generalizing T with
  | nil => exact fun x hx => .inl ⟨x, hx, rfl⟩
  | cons p r ih =>
    intro x hx
    have e : takeT T (p :: r) = takeT (putT p.1 p.2 T) r := rfl
    rw [e] at hx
    rcases ih x hx with ⟨y, hy, h⟩ | ⟨y, hy, h⟩
    · rcases putT_mem hy with h2 | h2
      · exact .inl ⟨y, h2, h⟩
      · exact .inr ⟨p, by simp, by rw [← h, h2]⟩
    · exact .inr ⟨y, by simp [hy], h⟩
theorem NEWK.take (S T : List (Int × Int)) : NEWK S T (takeT S T) :=
  ⟨[], by simp, fun x hx => (takeT_keys x hx).elim .inl fun h => .inr (.inl h)⟩
theorem NEWK.takeS (S T : List (Int × Int)) : NEWK S T (takeT S S) :=
  ⟨[], by simp, fun x hx => (takeT_keys x hx).elim .inl .inl⟩
theorem corS_keys {u g : Nat} {v every n : Int} {s : Nat × List (Int × Int)} : ∀ j, ∀ x ∈ (corS u g v every n s j).2, (∃ y ∈ s.2, y.1 = x.1) ∨ x.1 ∈ (List.range j).map fun i => ((idx u g (lateV v every i).toNat : Nat) : Int)
  | 0, x, hx => .inl ⟨x, hx, rfl⟩
  | j + 1, x, hx => by
    rw [List.range_succ, List.map_append]
    rcases putT_mem (show x ∈ putT _ _ _ from hx) with h | h
    · rcases corS_keys j x h with h | h
      · exact .inl h
      · exact .inr (List.mem_append_left _ h)
    · exact .inr (List.mem_append_right _ (by simp [h]))
theorem NEWK.cor {u g : Nat} {v every n : Int} {s : Nat × List (Int × Int)} (T : List (Int × Int)) {j : Nat} (hj : j ≤ 301) : NEWK s.2 T (corS u g v every n s j).2 :=
  ⟨(List.range j).map fun i => ((idx u g (lateV v every i).toNat : Nat) : Int), by simp [hj], fun x hx => (corS_keys j x hx).elim .inl fun h => .inr (.inr h)⟩
/-- sorted cells with keys out of a list are not more than the list -/
theorem nd_len : ∀ {L K : List Int}, L.Nodup → (∀ x ∈ L, x ∈ K) → L.length ≤ K.length
  | [], _, _, _ => Nat.zero_le _
  | a :: r, K, hn, hm => by
    have h1 := hm a (by simp)
    rw [List.nodup_cons] at hn
    have h2 := nd_len (L := r) (K := K.erase a) hn.2 fun x hx => (List.mem_erase_of_ne (fun h : x = a => hn.1 (by rw [← h]; exact hx))).2 (hm x (by simp [hx]))
    rw [List.length_erase_of_mem h1] at h2
    have : 0 < K.length := List.length_pos_of_mem h1
    simp only [List.length_cons]
    omega
theorem srt_len {T : List (Int × Int)} {K : List Int} (hs : Srt T) (hm : ∀ x ∈ T, x.1 ∈ K) : T.length ≤ K.length := by
  have h := nd_len (L := T.map (·.1)) (K := K) (List.pairwise_map.2 (hs.imp fun h => by omega)) fun x hx => by
    obtain ⟨y, hy, rfl⟩ := List.mem_map.1 hx
    exact hm y hy
  simpa using h
section
variable {w0 : World} {H : List Asn}
abbrev opV (k : Int) (o : Bool) (v n e : Int) : Value := .agg #[.int .u8 k, .bool o, .int .i64 v, .int .u64 n, .int .i64 e]
set_option maxRecDepth 10000 in
set_option maxHeartbeats 8000000 in
theorem far_c (k : Int) (o : Bool) (v n e : Int) (hk : 0 ≤ k ∧ k < 256) (hv : -9223372036854775808 ≤ v ∧ v < 9223372036854775808) (he : -9223372036854775808 ≤ e ∧ e < 9223372036854775808) (w : World) (hw : St w0 H w) :
    Calls Try.prog 33 #[opV k o v n e] w fun x w' => ∃ b, x = .returned (.bool b) ∧ (b = false → k % 7 = 4 → lateN v e ≤ 300 ∨ 4096 < lateN v e) ∧ St w0 H w' := by
  have k1 : IntKind.u8.wrap (Int.tmod k 7) = k % 7 := by
    rw [Int.tmod_eq_emod_of_nonneg hk.1]
    exact wu8 (by omega)
  have hln : lateN v e = if 0 < e ∧ 0 < v then (v / e - 1).toNat else 0 := rfl
  refine enter (vs := [opV k o v n e]) Try.func33 rfl rfl rfl hw ?_
  clear hw w
  by_cases h4 : k % 7 = 4
  · by_cases h0 : 0 < e
    · obtain ⟨z, hz⟩ : ∃ z, IntKind.i64.wrap (Int.tdiv v e) = z := ⟨_, rfl⟩
      have hz2 : 0 < v → z = v / e ∧ 0 ≤ z := fun h => by
        have q0 : 0 ≤ v / e := Int.ediv_nonneg (by omega) (by omega)
        have q1 : v / e ≤ v := Int.ediv_le_self _ (by omega)
        rw [← hz, Int.tdiv_eq_ediv_of_nonneg (by omega)]
        exact ⟨wi64 (by omega), by rw [wi64 (by omega)]; exact q0⟩
      have hq : ¬ (300 < z ∧ z < 5000) → lateN v e ≤ 300 ∨ 4096 < lateN v e := fun h => by
        rw [hln]
        split
        · rename_i h1
          obtain ⟨h2, h3⟩ := hz2 h1.2
          rw [← h2]
          omega
        · omega
      generalize lateN v e = N at *
      clear hln hz2
      by_cases h3 : 300 < z
      · by_cases h5 : z < 5000
        · repeat (first | (apply gJO; first | refine JO_v (V_quo rfl rfl (by omega) hz rfl) ?_) | first | (refine sx ?_; try intro _))
          exact JS_ret Try.func33 rfl rfl fun w hw => ⟨_, rfl, fun h => by simp at h, St.sub (by repeat (first | exact List.Sublist.refl _ | apply List.Sublist.cons_cons | apply List.Sublist.cons)) hw⟩
        · repeat (first | (apply gJO; first | refine JO_v (V_quo rfl rfl (by omega) hz rfl) ?_) | first | (refine sx ?_; try intro _))
          exact JS_ret Try.func33 rfl rfl fun w hw => ⟨_, rfl, fun _ _ => hq (by omega), St.sub (by repeat (first | exact List.Sublist.refl _ | apply List.Sublist.cons_cons | apply List.Sublist.cons)) hw⟩
      · repeat (first | (apply gJO; first | refine JO_v (V_quo rfl rfl (by omega) hz rfl) ?_) | first | (refine sx ?_; try intro _))
        exact JS_ret Try.func33 rfl rfl fun w hw => ⟨_, rfl, fun _ _ => hq (by omega), St.sub (by repeat (first | exact List.Sublist.refl _ | apply List.Sublist.cons_cons | apply List.Sublist.cons)) hw⟩
    · have hq : lateN v e ≤ 300 := by rw [hln, if_neg (by omega)]; omega
      generalize lateN v e = N at *
      repeat (first | first | (refine sx ?_; try intro _))
      exact JS_ret Try.func33 rfl rfl fun w hw => ⟨_, rfl, fun _ _ => .inl hq, St.sub (by repeat (first | exact List.Sublist.refl _ | apply List.Sublist.cons_cons | apply List.Sublist.cons)) hw⟩
  · repeat (first | first | (refine sx ?_; try intro _))
    exact JS_ret Try.func33 rfl rfl fun w hw => ⟨_, rfl, fun _ h => absurd h h4, St.sub (by repeat (first | exact List.Sublist.refl _ | apply List.Sublist.cons_cons | apply List.Sublist.cons)) hw⟩
end
end Go.Proofs.Ytmnilpjgkjkecaa

namespace Go.Proofs.Ytmnilpjgkjkecaa
open Sx Go Hd
set_option linter.unusedVariables false
set_option linter.unusedSimpArgs false
theorem crc_0 {u g : Nat} {gr : Bool} {bu : Nat} {T : List (Int × Int)} {v n every : Int} (hug : u + g ≤ 62) (hg : 1 ≤ g ∧ g ≤ 18) (hs : OKS (bu, T)) (hk : KSI u g T) (hv : v < 9223372036854775808) (hn : 0 ≤ n) (h : crc u g gr bu (sw T) v n every = 0) : lateN v every ≤ 4096 ∧ OKC u g (bu, T) (corS u g v every n (bu, T) (lateN v every + 1)) n (lateN v every + 1) := by
  unfold crc at h
  split at h
  · exact absurd h (by decide)
  split at h
  · rename_i h1; exact absurd h h1
  split at h
  · exact absurd h (by decide)
  rename_i h1 h2 h3
  have h5 : chk u g gr bu (sw T) v n = 0 := by omega
  obtain ⟨p1, p2, p3⟩ := chk_0 hn h5
  refine ⟨by omega, corS_ok hug hg hs hk ⟨p2, hv⟩ p1 _ (Nat.le_refl _) ?_⟩
  have : ((lateN v every + 1 : Nat) : Int) = (lateN v every : Int) + 1 := by omega
  rw [this]
  dsimp only
  omega
section
variable {w0 : World} {H : List Asn} {lo hi dg : Int} {u g : Nat}
/-- what one step leaves -/
def DoP (w0 : World) (lo hi dg : Int) (u g : Nat) (gr : Bool) (h1 m1 b1 r1 : Nat) (T1 T2 : List (Int × Int)) (R : List Asn) (x : Ending) (w' : World) : Prop :=
  x = .returned (.bool true) ∧ ∃ (bu : Nat) (T : List (Int × Int)) (es : List MapEntry) (c : Nat) (q : Option Addr) (d : Nat), OKS (bu, T) ∧ KSI u g T ∧ HM es c T ∧ NEWK T1 T2 T ∧
    St w0 (blk h1 (hc m1 b1 gr bu (sw T)) :: mapL b1 es c :: blk r1 (rc lo hi dg u g gr bu (.slice q T.length d)) :: vec 58 2 (.slice q T.length d) T.length (flat T) :: R) w'
set_option maxRecDepth 10000 in
set_option maxHeartbeats 8000000 in
theorem DoCor (pa pb : Addr) (la lb : List Value) (i j bx h1 m1 b1 r1 h2 m2 b2 r2 : Nat) (gr o : Bool) (bu1 : Nat) (T1 T2 : List (Int × Int)) (es1 : List MapEntry) (c1 : Nat) (q1 : Option Addr) (d1 : Nat) (R : List Asn) (k v n e : Int)
    (hi2 : i < 2) (hj2 : j < 2) (hRa : Rd w0 R (.slice (some pa) 2 2) 2 la) (hRb : Rd w0 R (.slice (some pb) 2 2) 2 lb) (ga : la[i]? = some (.pointer (some ⟨h1, 0, none⟩))) (gb : lb[i]? = some (.pointer (some ⟨r1, 0, none⟩)))
    (ga2 : la[j]? = some (.pointer (some ⟨h2, 0, none⟩))) (gb2 : lb[j]? = some (.pointer (some ⟨r2, 0, none⟩))) (hRx : blk bx [.int .u8 k, .bool o, .int .i64 v, .int .u64 n, .int .i64 e] ∈ R) (hRm : blk m1 (mc lo hi dg u g) ∈ R)
    (hug : u + g ≤ 62) (hg : 1 ≤ g ∧ g ≤ 18) (hs1 : OKS (bu1, T1)) (hk1 : KSI u g T1) (hE1 : HM es1 c1 T1) (hl1 : T1.length ≤ 50000) (hk : 0 ≤ k ∧ k < 256) (hv : -9223372036854775808 ≤ v ∧ v < 9223372036854775808) (hn : 0 ≤ n ∧ n < 18446744073709551616) (he : -9223372036854775808 ≤ e ∧ e < 9223372036854775808)
    (h4 : k % 7 = 4) (hfar : lateN v e ≤ 300 ∨ 4096 < lateN v e) :
    JS Try.prog 34 Try.f34.ntmps (DoP w0 lo hi dg u g gr h1 m1 b1 r1 T1 T2 R) [] w0 (todo Try.f34 [.b, .b, .b, .b, .a])
      [(0, .slice (some pa) 2 2), (1, .slice (some pb) 2 2), (5, .pointer (some ⟨bx, 0, none⟩)), (7, .int .i64 i), (8, .int .i64 j)]
      (blk h1 (hc m1 b1 gr bu1 (sw T1)) :: mapL b1 es1 c1 :: blk r1 (rc lo hi dg u g gr bu1 (.slice q1 T1.length d1)) :: vec 58 2 (.slice q1 T1.length d1) T1.length (flat T1) :: R) := by
  have hx0 := fun w hw => HCorrect_c (w0 := w0) (H := blk r1 (rc lo hi dg u g gr bu1 (.slice q1 T1.length d1)) :: vec 58 2 (.slice q1 T1.length d1) T1.length (flat T1) :: R) (lo := lo) (hi := hi) (dg := dg) h1 m1 b1 gr bu1 es1 c1 T1 (List.Mem.tail _ (List.Mem.tail _ hRm)) hug hg hE1 hs1 hk1 v n e hv hn he w hw
  have hx1 := fun (a : Asn) (es' : List MapEntry) (c' : Nat) w hw => RCorrect_c (w0 := w0) (H := a :: mapL b1 es' c' :: vec 58 2 (.slice q1 T1.length d1) T1.length (flat T1) :: R) (lo := lo) (hi := hi) (dg := dg) r1 gr bu1 T1 q1 d1 (vec_rd (List.Mem.tail _ (List.Mem.tail _ (List.Mem.head _)))) hug hg hs1 hk1 hl1 v n e hv hn he w hw
  have h0 := fun h => crc_0 (gr := gr) (v := v) (n := n) (every := e) hug hg hs1 hk1 hv.2 hn.1 h
  have hnw := fun h => NEWK.cor (u := u) (g := g) (v := v) (every := e) (n := n) (s := (bu1, T1)) T2 (j := lateN v e + 1) h
  generalize corS u g v e n (bu1, T1) (lateN v e + 1) = sC at *
  obtain ⟨bC, TC⟩ := sC
  dsimp only at *
  generalize crc u g gr bu1 (sw T1) v n e = c at *
  generalize lateN v e = N at *
  refine JS_at rfl ?_
  repeat (first | apply hIx 7 | (apply gJO; first | refine JO_v (oL (V_load (tb := tb) rfl (List.Mem.tail _ (List.Mem.tail _ (List.Mem.tail _ (List.Mem.tail _ hRx)))) rfl rfl rfl rfl)) ?_) | first | (refine sx ?_; try intro _))
  refine Hold.go ?_
  refine JS_seq ?_
  refine JS_order2 R [0, 1, 2, 3, 4, 5, 6, 7, 8, 9, 11, 12, 13, 14, 15, 16, 17, 18, 19, 20, 10, 21, 22, 23] [] (fun w hw => St.sub (by repeat (first | exact List.Sublist.refl _ | apply List.Sublist.cons_cons | apply List.Sublist.cons)) hw) (Picks.cons rfl (Picks.cons rfl (Picks.cons rfl (Picks.cons rfl (Picks.cons rfl (Picks.cons rfl (Picks.cons rfl (Picks.cons rfl (Picks.cons rfl (Picks.cons rfl (Picks.cons rfl (Picks.cons rfl (Picks.cons rfl (Picks.cons rfl (Picks.cons rfl (Picks.cons rfl (Picks.cons rfl (Picks.cons rfl (Picks.cons rfl (Picks.cons rfl (Picks.cons rfl (Picks.cons rfl (Picks.cons rfl (Picks.cons rfl (Picks.nil))))))))))))))))))))))))) (by kernel_rfl) (by kernel_rfl) rfl (by decide +kernel) ?_
  repeat ((first | (apply gQR2; first | apply QR2_un | apply QR2_nil) | (apply gQO2; first | refine QO2_v rfl (oL (V_loadC (tb := tb) rfl hRa rfl rfl ga rfl)) ?_ | refine QO2_v rfl (oL (V_loadC (tb := tb) rfl hRb rfl rfl gb rfl)) ?_ | refine QO2_v rfl (oL (V_loadC (tb := tb) rfl hRa rfl rfl ga2 rfl)) ?_ | refine QO2_v rfl (oL (V_loadC (tb := tb) rfl hRb rfl rfl gb2 rfl)) ?_ | refine QO2_v rfl (oL (V_load (tb := tb) rfl hRx rfl rfl rfl rfl)) ?_ | refine aQ2 ?_)))
  refine QO2_callE Try.call68 rfl rfl fun w hw => (hx0 w hw).mono ?_
  rintro x w' ⟨rfl, ⟨hne, hw'⟩ | ⟨rfl, es', c', hE', hw'⟩⟩
  · (refine .inl ⟨_, rfl, R, _, hw', fun w hw => St.sub (by repeat (first | exact List.Sublist.refl _ | apply List.Sublist.cons_cons | apply List.Sublist.cons)) hw, .inl fun w hw => hw, ?_⟩; clear hw' hw w w')
    repeat ((first | (apply gQR2; first | apply QR2_un | apply QR2_nil) | (apply gQO2; first | refine QO2_v rfl (oL (V_loadC (tb := tb) rfl hRa rfl rfl ga rfl)) ?_ | refine QO2_v rfl (oL (V_loadC (tb := tb) rfl hRb rfl rfl gb rfl)) ?_ | refine QO2_v rfl (oL (V_loadC (tb := tb) rfl hRa rfl rfl ga2 rfl)) ?_ | refine QO2_v rfl (oL (V_loadC (tb := tb) rfl hRb rfl rfl gb2 rfl)) ?_ | refine QO2_v rfl (oL (V_load (tb := tb) rfl hRx rfl rfl rfl rfl)) ?_ | refine aQ2 ?_)))
    refine QO2_callE Try.call69 rfl rfl fun w hw => (hx1 _ es1 c1 w (hw.perm (by (repeat (first | exact List.Perm.refl _ | refine List.Perm.cons _ ?_ | refine (List.perm_middle (l₁ := [_])).trans (List.Perm.cons _ ?_) | refine (List.perm_middle (l₁ := [_, _])).trans (List.Perm.cons _ ?_) | refine (List.perm_middle (l₁ := [_, _, _])).trans (List.Perm.cons _ ?_) | refine (List.perm_middle (l₁ := [_, _, _, _])).trans (List.Perm.cons _ ?_) | refine (List.perm_middle (l₁ := [_, _, _, _, _])).trans (List.Perm.cons _ ?_) | refine (List.perm_middle (l₁ := [_, _, _, _, _, _])).trans (List.Perm.cons _ ?_) | refine (List.perm_middle (l₁ := [_, _, _, _, _, _, _])).trans (List.Perm.cons _ ?_) | refine (List.perm_middle (l₁ := [_, _, _, _, _, _, _, _])).trans (List.Perm.cons _ ?_) | refine (List.perm_middle (l₁ := [_, _, _, _, _, _, _, _, _])).trans (List.Perm.cons _ ?_) | refine (List.perm_middle (l₁ := [_, _, _, _, _, _, _, _, _, _])).trans (List.Perm.cons _ ?_) | refine (List.perm_middle (l₁ := [_, _, _, _, _, _, _, _, _, _, _])).trans (List.Perm.cons _ ?_) | refine (List.perm_middle (l₁ := [_, _, _, _, _, _, _, _, _, _, _, _])).trans (List.Perm.cons _ ?_) | refine (List.perm_middle (l₁ := [_, _, _, _, _, _, _, _, _, _, _, _, _])).trans (List.Perm.cons _ ?_)))))).mono ?_
    rintro x w' ⟨rfl, ⟨_, hw'⟩ | ⟨h0, _⟩⟩
    · (refine .inl ⟨_, rfl, R, _, hw', fun w hw => St.sub (by repeat (first | exact List.Sublist.refl _ | apply List.Sublist.cons_cons | apply List.Sublist.cons)) hw, .inl fun w hw => hw, ?_⟩; clear hw' hw w w')
      clear hx0 hx1 h0 hnw
      repeat ((first | (apply gQR2; first | apply QR2_un | apply QR2_nil) | (apply gQO2; first | refine QO2_v rfl (oL (V_loadC (tb := tb) rfl hRa rfl rfl ga rfl)) ?_ | refine QO2_v rfl (oL (V_loadC (tb := tb) rfl hRb rfl rfl gb rfl)) ?_ | refine QO2_v rfl (oL (V_loadC (tb := tb) rfl hRa rfl rfl ga2 rfl)) ?_ | refine QO2_v rfl (oL (V_loadC (tb := tb) rfl hRb rfl rfl gb2 rfl)) ?_ | refine QO2_v rfl (oL (V_load (tb := tb) rfl hRx rfl rfl rfl rfl)) ?_ | refine aQ2 ?_)))
      repeat (first | (refine sx ?_; try intro _))
      exact JS_ret Try.func34 rfl rfl fun w hw => ⟨rfl, bu1, T1, es1, c1, q1, d1, hs1, hk1, hE1, NEWK.self _ _, hw.perm (by (repeat (first | exact List.Perm.refl _ | refine List.Perm.cons _ ?_ | refine (List.perm_middle (l₁ := [_])).trans (List.Perm.cons _ ?_) | refine (List.perm_middle (l₁ := [_, _])).trans (List.Perm.cons _ ?_) | refine (List.perm_middle (l₁ := [_, _, _])).trans (List.Perm.cons _ ?_) | refine (List.perm_middle (l₁ := [_, _, _, _])).trans (List.Perm.cons _ ?_) | refine (List.perm_middle (l₁ := [_, _, _, _, _])).trans (List.Perm.cons _ ?_) | refine (List.perm_middle (l₁ := [_, _, _, _, _, _])).trans (List.Perm.cons _ ?_) | refine (List.perm_middle (l₁ := [_, _, _, _, _, _, _])).trans (List.Perm.cons _ ?_) | refine (List.perm_middle (l₁ := [_, _, _, _, _, _, _, _])).trans (List.Perm.cons _ ?_) | refine (List.perm_middle (l₁ := [_, _, _, _, _, _, _, _, _])).trans (List.Perm.cons _ ?_) | refine (List.perm_middle (l₁ := [_, _, _, _, _, _, _, _, _, _])).trans (List.Perm.cons _ ?_) | refine (List.perm_middle (l₁ := [_, _, _, _, _, _, _, _, _, _, _])).trans (List.Perm.cons _ ?_) | refine (List.perm_middle (l₁ := [_, _, _, _, _, _, _, _, _, _, _, _])).trans (List.Perm.cons _ ?_) | refine (List.perm_middle (l₁ := [_, _, _, _, _, _, _, _, _, _, _, _, _])).trans (List.Perm.cons _ ?_))))⟩
    · exact absurd h0 hne
  · (refine .inl ⟨_, rfl, R, _, hw', fun w hw => St.sub (by repeat (first | exact List.Sublist.refl _ | apply List.Sublist.cons_cons | apply List.Sublist.cons)) hw, .inl fun w hw => hw, ?_⟩; clear hw' hw w w')
    repeat ((first | (apply gQR2; first | apply QR2_un | apply QR2_nil) | (apply gQO2; first | refine QO2_v rfl (oL (V_loadC (tb := tb) rfl hRa rfl rfl ga rfl)) ?_ | refine QO2_v rfl (oL (V_loadC (tb := tb) rfl hRb rfl rfl gb rfl)) ?_ | refine QO2_v rfl (oL (V_loadC (tb := tb) rfl hRa rfl rfl ga2 rfl)) ?_ | refine QO2_v rfl (oL (V_loadC (tb := tb) rfl hRb rfl rfl gb2 rfl)) ?_ | refine QO2_v rfl (oL (V_load (tb := tb) rfl hRx rfl rfl rfl rfl)) ?_ | refine aQ2 ?_)))
    refine QO2_callE Try.call69 rfl rfl fun w hw => (hx1 _ es' c' w (hw.perm (by (repeat (first | exact List.Perm.refl _ | refine List.Perm.cons _ ?_ | refine (List.perm_middle (l₁ := [_])).trans (List.Perm.cons _ ?_) | refine (List.perm_middle (l₁ := [_, _])).trans (List.Perm.cons _ ?_) | refine (List.perm_middle (l₁ := [_, _, _])).trans (List.Perm.cons _ ?_) | refine (List.perm_middle (l₁ := [_, _, _, _])).trans (List.Perm.cons _ ?_) | refine (List.perm_middle (l₁ := [_, _, _, _, _])).trans (List.Perm.cons _ ?_) | refine (List.perm_middle (l₁ := [_, _, _, _, _, _])).trans (List.Perm.cons _ ?_) | refine (List.perm_middle (l₁ := [_, _, _, _, _, _, _])).trans (List.Perm.cons _ ?_) | refine (List.perm_middle (l₁ := [_, _, _, _, _, _, _, _])).trans (List.Perm.cons _ ?_) | refine (List.perm_middle (l₁ := [_, _, _, _, _, _, _, _, _])).trans (List.Perm.cons _ ?_) | refine (List.perm_middle (l₁ := [_, _, _, _, _, _, _, _, _, _])).trans (List.Perm.cons _ ?_) | refine (List.perm_middle (l₁ := [_, _, _, _, _, _, _, _, _, _, _])).trans (List.Perm.cons _ ?_) | refine (List.perm_middle (l₁ := [_, _, _, _, _, _, _, _, _, _, _, _])).trans (List.Perm.cons _ ?_) | refine (List.perm_middle (l₁ := [_, _, _, _, _, _, _, _, _, _, _, _, _])).trans (List.Perm.cons _ ?_)))))).mono ?_
    rintro x w' ⟨rfl, ⟨hne, _⟩ | ⟨_, q', d', hw'⟩⟩
    · exact absurd rfl hne
    · (refine .inl ⟨_, rfl, R, _, hw', fun w hw => St.sub (by repeat (first | exact List.Sublist.refl _ | apply List.Sublist.cons_cons | apply List.Sublist.cons)) hw, .inl fun w hw => hw, ?_⟩; clear hw' hw w w')
      clear hx0 hx1
      obtain ⟨hN, oC, _, _, kC⟩ := h0 rfl
      have hnw := hnw (by omega)
      repeat ((first | (apply gQR2; first | apply QR2_un | apply QR2_nil) | (apply gQO2; first | refine QO2_v rfl (oL (V_loadC (tb := tb) rfl hRa rfl rfl ga rfl)) ?_ | refine QO2_v rfl (oL (V_loadC (tb := tb) rfl hRb rfl rfl gb rfl)) ?_ | refine QO2_v rfl (oL (V_loadC (tb := tb) rfl hRa rfl rfl ga2 rfl)) ?_ | refine QO2_v rfl (oL (V_loadC (tb := tb) rfl hRb rfl rfl gb2 rfl)) ?_ | refine QO2_v rfl (oL (V_load (tb := tb) rfl hRx rfl rfl rfl rfl)) ?_ | refine aQ2 ?_)))
      repeat (first | (refine sx ?_; try intro _))
      refine JS_ret Try.func34 rfl rfl fun w hw => ⟨rfl, bC, TC, es', c', q', d', oC, kC, hE', hnw, ?_⟩
      have hz := hw.perm (H' := vec 58 2 (.slice q1 T1.length d1) T1.length (flat T1) :: blk h1 (hc m1 b1 gr bC (sw TC)) :: mapL b1 es' c' :: blk r1 (rc lo hi dg u g gr bC (.slice q' TC.length d')) :: vec 58 2 (.slice q' TC.length d') TC.length (flat TC) :: R) (by (repeat (first | exact List.Perm.refl _ | refine List.Perm.cons _ ?_ | refine (List.perm_middle (l₁ := [_])).trans (List.Perm.cons _ ?_) | refine (List.perm_middle (l₁ := [_, _])).trans (List.Perm.cons _ ?_) | refine (List.perm_middle (l₁ := [_, _, _])).trans (List.Perm.cons _ ?_) | refine (List.perm_middle (l₁ := [_, _, _, _])).trans (List.Perm.cons _ ?_) | refine (List.perm_middle (l₁ := [_, _, _, _, _])).trans (List.Perm.cons _ ?_) | refine (List.perm_middle (l₁ := [_, _, _, _, _, _])).trans (List.Perm.cons _ ?_) | refine (List.perm_middle (l₁ := [_, _, _, _, _, _, _])).trans (List.Perm.cons _ ?_) | refine (List.perm_middle (l₁ := [_, _, _, _, _, _, _, _])).trans (List.Perm.cons _ ?_) | refine (List.perm_middle (l₁ := [_, _, _, _, _, _, _, _, _])).trans (List.Perm.cons _ ?_) | refine (List.perm_middle (l₁ := [_, _, _, _, _, _, _, _, _, _])).trans (List.Perm.cons _ ?_) | refine (List.perm_middle (l₁ := [_, _, _, _, _, _, _, _, _, _, _])).trans (List.Perm.cons _ ?_) | refine (List.perm_middle (l₁ := [_, _, _, _, _, _, _, _, _, _, _, _])).trans (List.Perm.cons _ ?_) | refine (List.perm_middle (l₁ := [_, _, _, _, _, _, _, _, _, _, _, _, _])).trans (List.Perm.cons _ ?_))))
      exact hz.drop
end
end Go.Proofs.Ytmnilpjgkjkecaa

namespace Go.Proofs.Ytmnilpjgkjkecaa
open Sx Go Hd
set_option linter.unusedVariables false
set_option linter.unusedSimpArgs false
section
variable {w0 : World} {H : List Asn} {lo hi dg : Int} {u g : Nat}
set_option maxRecDepth 10000 in
set_option maxHeartbeats 8000000 in
theorem DoRec (pa pb : Addr) (la lb : List Value) (i j bx h1 m1 b1 r1 h2 m2 b2 r2 : Nat) (gr o : Bool) (bu1 : Nat) (T1 T2 : List (Int × Int)) (es1 : List MapEntry) (c1 : Nat) (q1 : Option Addr) (d1 : Nat) (R : List Asn) (k v n e : Int)
    (hi2 : i < 2) (hj2 : j < 2) (hRa : Rd w0 R (.slice (some pa) 2 2) 2 la) (hRb : Rd w0 R (.slice (some pb) 2 2) 2 lb) (ga : la[i]? = some (.pointer (some ⟨h1, 0, none⟩))) (gb : lb[i]? = some (.pointer (some ⟨r1, 0, none⟩)))
    (ga2 : la[j]? = some (.pointer (some ⟨h2, 0, none⟩))) (gb2 : lb[j]? = some (.pointer (some ⟨r2, 0, none⟩))) (hRx : blk bx [.int .u8 k, .bool o, .int .i64 v, .int .u64 n, .int .i64 e] ∈ R) (hRm : blk m1 (mc lo hi dg u g) ∈ R)
    (hug : u + g ≤ 62) (hg : 1 ≤ g ∧ g ≤ 18) (hs1 : OKS (bu1, T1)) (hk1 : KSI u g T1) (hE1 : HM es1 c1 T1) (hl1 : T1.length ≤ 50000) (hk : 0 ≤ k ∧ k < 256) (hv : -9223372036854775808 ≤ v ∧ v < 9223372036854775808) (hn : 0 ≤ n ∧ n < 18446744073709551616) (he : -9223372036854775808 ≤ e ∧ e < 9223372036854775808)
    (h4 : k % 7 ≠ 4) (h5 : k % 7 ≠ 5) (h6 : k % 7 ≠ 6) :
    JS Try.prog 34 Try.f34.ntmps (DoP w0 lo hi dg u g gr h1 m1 b1 r1 T1 T2 R) [] w0 (todo Try.f34 [.b, .b, .b, .b, .a])
      [(0, .slice (some pa) 2 2), (1, .slice (some pb) 2 2), (5, .pointer (some ⟨bx, 0, none⟩)), (7, .int .i64 i), (8, .int .i64 j)]
      (blk h1 (hc m1 b1 gr bu1 (sw T1)) :: mapL b1 es1 c1 :: blk r1 (rc lo hi dg u g gr bu1 (.slice q1 T1.length d1)) :: vec 58 2 (.slice q1 T1.length d1) T1.length (flat T1) :: R) := by
  have hx0 := fun w hw => HRecord_c (w0 := w0) (H := blk r1 (rc lo hi dg u g gr bu1 (.slice q1 T1.length d1)) :: vec 58 2 (.slice q1 T1.length d1) T1.length (flat T1) :: R) (lo := lo) (hi := hi) (dg := dg) h1 m1 b1 gr bu1 es1 c1 T1 (List.Mem.tail _ (List.Mem.tail _ hRm)) hug hg hs1.bu hE1 hs1.gt v n hv hn w hw
  have hx1 := fun (a : Asn) (es' : List MapEntry) (c' : Nat) w hw => RRecord_c (w0 := w0) (H := a :: mapL b1 es' c' :: vec 58 2 (.slice q1 T1.length d1) T1.length (flat T1) :: R) (lo := lo) (hi := hi) (dg := dg) r1 gr bu1 q1 d1 T1 (vec_rd (List.Mem.tail _ (List.Mem.tail _ (List.Mem.head _)))) (by omega) hug hg hs1.bu hs1.gt v n hv hn w hw
  have h0 : chk u g gr bu1 (sw T1) v n = 0 → OKS (max bu1 (1 + bkt u g v.toNat), putT (idx u g v.toNat : Nat) n T1) ∧ KSI u g (putT (idx u g v.toNat : Nat) n T1) := fun h => by
    obtain ⟨p1, p2, p3⟩ := chk_0 hn.1 h
    have hx : v.toNat < 9223372036854775808 := by omega
    obtain ⟨i1, _⟩ := idx_bd hug hg hx
    have hb3 := bkt_63 (u := u) (g := g) hx (by omega)
    have hbu := hs1.bu
    exact ⟨⟨by show max _ _ ≤ 64; omega, hs1.gt.put (by omega) p1 (by omega)⟩, hk1.put (idx_is hg.1 hug hx) n⟩
  have hnw := NEWK.put T1 T2 (idx u g v.toNat : Nat) n
  have hsw := putT_sw (k := (idx u g v.toNat : Nat)) (n := n) T1
  generalize putT (idx u g v.toNat : Nat) n T1 = TC at *
  rw [← hsw] at hx0
  generalize max bu1 (1 + bkt u g v.toNat) = bC at *
  generalize chk u g gr bu1 (sw T1) v n = c at *
  clear hsw
  refine JS_at rfl ?_
  repeat (first | apply hIx 12 | (apply gJO; first | refine JO_v (oL (V_load (tb := tb) rfl (List.Mem.tail _ (List.Mem.tail _ (List.Mem.tail _ (List.Mem.tail _ hRx)))) rfl rfl rfl rfl)) ?_) | first | (refine sx ?_; try intro _))
  refine Hold.go ?_
  refine JS_seq ?_
  refine JS_order2 R [0, 1, 2, 3, 4, 5, 6, 7, 9, 10, 11, 12, 13, 14, 15, 16, 8, 17, 18, 19] [] (fun w hw => St.sub (by repeat (first | exact List.Sublist.refl _ | apply List.Sublist.cons_cons | apply List.Sublist.cons)) hw) (Picks.cons rfl (Picks.cons rfl (Picks.cons rfl (Picks.cons rfl (Picks.cons rfl (Picks.cons rfl (Picks.cons rfl (Picks.cons rfl (Picks.cons rfl (Picks.cons rfl (Picks.cons rfl (Picks.cons rfl (Picks.cons rfl (Picks.cons rfl (Picks.cons rfl (Picks.cons rfl (Picks.cons rfl (Picks.cons rfl (Picks.cons rfl (Picks.cons rfl (Picks.nil))))))))))))))))))))) (by kernel_rfl) (by kernel_rfl) rfl (by decide +kernel) ?_
  repeat ((first | (apply gQR2; first | apply QR2_un | apply QR2_nil) | (apply gQO2; first | refine QO2_v rfl (oL (V_loadC (tb := tb) rfl hRa rfl rfl ga rfl)) ?_ | refine QO2_v rfl (oL (V_loadC (tb := tb) rfl hRb rfl rfl gb rfl)) ?_ | refine QO2_v rfl (oL (V_loadC (tb := tb) rfl hRa rfl rfl ga2 rfl)) ?_ | refine QO2_v rfl (oL (V_loadC (tb := tb) rfl hRb rfl rfl gb2 rfl)) ?_ | refine QO2_v rfl (oL (V_load (tb := tb) rfl hRx rfl rfl rfl rfl)) ?_ | refine aQ2 ?_)))
  refine QO2_callE Try.call25 rfl rfl fun w hw => (hx0 w hw).mono ?_
  rintro x w' ⟨rfl, ⟨hne, hw'⟩ | ⟨rfl, es', c', hE', hw'⟩⟩
  · (refine .inl ⟨_, rfl, R, _, hw', fun w hw => St.sub (by repeat (first | exact List.Sublist.refl _ | apply List.Sublist.cons_cons | apply List.Sublist.cons)) hw, .inl fun w hw => hw, ?_⟩; clear hw' hw w w')
    repeat ((first | (apply gQR2; first | apply QR2_un | apply QR2_nil) | (apply gQO2; first | refine QO2_v rfl (oL (V_loadC (tb := tb) rfl hRa rfl rfl ga rfl)) ?_ | refine QO2_v rfl (oL (V_loadC (tb := tb) rfl hRb rfl rfl gb rfl)) ?_ | refine QO2_v rfl (oL (V_loadC (tb := tb) rfl hRa rfl rfl ga2 rfl)) ?_ | refine QO2_v rfl (oL (V_loadC (tb := tb) rfl hRb rfl rfl gb2 rfl)) ?_ | refine QO2_v rfl (oL (V_load (tb := tb) rfl hRx rfl rfl rfl rfl)) ?_ | refine aQ2 ?_)))
    refine QO2_callE Try.call26 rfl rfl fun w hw => (hx1 _ es1 c1 w (hw.perm (by (repeat (first | exact List.Perm.refl _ | refine List.Perm.cons _ ?_ | refine (List.perm_middle (l₁ := [_])).trans (List.Perm.cons _ ?_) | refine (List.perm_middle (l₁ := [_, _])).trans (List.Perm.cons _ ?_) | refine (List.perm_middle (l₁ := [_, _, _])).trans (List.Perm.cons _ ?_) | refine (List.perm_middle (l₁ := [_, _, _, _])).trans (List.Perm.cons _ ?_) | refine (List.perm_middle (l₁ := [_, _, _, _, _])).trans (List.Perm.cons _ ?_) | refine (List.perm_middle (l₁ := [_, _, _, _, _, _])).trans (List.Perm.cons _ ?_) | refine (List.perm_middle (l₁ := [_, _, _, _, _, _, _])).trans (List.Perm.cons _ ?_) | refine (List.perm_middle (l₁ := [_, _, _, _, _, _, _, _])).trans (List.Perm.cons _ ?_) | refine (List.perm_middle (l₁ := [_, _, _, _, _, _, _, _, _])).trans (List.Perm.cons _ ?_) | refine (List.perm_middle (l₁ := [_, _, _, _, _, _, _, _, _, _])).trans (List.Perm.cons _ ?_) | refine (List.perm_middle (l₁ := [_, _, _, _, _, _, _, _, _, _, _])).trans (List.Perm.cons _ ?_) | refine (List.perm_middle (l₁ := [_, _, _, _, _, _, _, _, _, _, _, _])).trans (List.Perm.cons _ ?_) | refine (List.perm_middle (l₁ := [_, _, _, _, _, _, _, _, _, _, _, _, _])).trans (List.Perm.cons _ ?_)))))).mono ?_
    rintro x w' ⟨rfl, ⟨_, hw'⟩ | ⟨h0, _⟩⟩
    · (refine .inl ⟨_, rfl, R, _, hw', fun w hw => St.sub (by repeat (first | exact List.Sublist.refl _ | apply List.Sublist.cons_cons | apply List.Sublist.cons)) hw, .inl fun w hw => hw, ?_⟩; clear hw' hw w w')
      clear hx0 hx1 h0 hnw
      repeat ((first | (apply gQR2; first | apply QR2_un | apply QR2_nil) | (apply gQO2; first | refine QO2_v rfl (oL (V_loadC (tb := tb) rfl hRa rfl rfl ga rfl)) ?_ | refine QO2_v rfl (oL (V_loadC (tb := tb) rfl hRb rfl rfl gb rfl)) ?_ | refine QO2_v rfl (oL (V_loadC (tb := tb) rfl hRa rfl rfl ga2 rfl)) ?_ | refine QO2_v rfl (oL (V_loadC (tb := tb) rfl hRb rfl rfl gb2 rfl)) ?_ | refine QO2_v rfl (oL (V_load (tb := tb) rfl hRx rfl rfl rfl rfl)) ?_ | refine aQ2 ?_)))
      repeat (first | (refine sx ?_; try intro _))
      exact JS_ret Try.func34 rfl rfl fun w hw => ⟨rfl, bu1, T1, es1, c1, q1, d1, hs1, hk1, hE1, NEWK.self _ _, hw.perm (by (repeat (first | exact List.Perm.refl _ | refine List.Perm.cons _ ?_ | refine (List.perm_middle (l₁ := [_])).trans (List.Perm.cons _ ?_) | refine (List.perm_middle (l₁ := [_, _])).trans (List.Perm.cons _ ?_) | refine (List.perm_middle (l₁ := [_, _, _])).trans (List.Perm.cons _ ?_) | refine (List.perm_middle (l₁ := [_, _, _, _])).trans (List.Perm.cons _ ?_) | refine (List.perm_middle (l₁ := [_, _, _, _, _])).trans (List.Perm.cons _ ?_) | refine (List.perm_middle (l₁ := [_, _, _, _, _, _])).trans (List.Perm.cons _ ?_) | refine (List.perm_middle (l₁ := [_, _, _, _, _, _, _])).trans (List.Perm.cons _ ?_) | refine (List.perm_middle (l₁ := [_, _, _, _, _, _, _, _])).trans (List.Perm.cons _ ?_) | refine (List.perm_middle (l₁ := [_, _, _, _, _, _, _, _, _])).trans (List.Perm.cons _ ?_) | refine (List.perm_middle (l₁ := [_, _, _, _, _, _, _, _, _, _])).trans (List.Perm.cons _ ?_) | refine (List.perm_middle (l₁ := [_, _, _, _, _, _, _, _, _, _, _])).trans (List.Perm.cons _ ?_) | refine (List.perm_middle (l₁ := [_, _, _, _, _, _, _, _, _, _, _, _])).trans (List.Perm.cons _ ?_) | refine (List.perm_middle (l₁ := [_, _, _, _, _, _, _, _, _, _, _, _, _])).trans (List.Perm.cons _ ?_))))⟩
    · exact absurd h0 hne
  · (refine .inl ⟨_, rfl, R, _, hw', fun w hw => St.sub (by repeat (first | exact List.Sublist.refl _ | apply List.Sublist.cons_cons | apply List.Sublist.cons)) hw, .inl fun w hw => hw, ?_⟩; clear hw' hw w w')
    repeat ((first | (apply gQR2; first | apply QR2_un | apply QR2_nil) | (apply gQO2; first | refine QO2_v rfl (oL (V_loadC (tb := tb) rfl hRa rfl rfl ga rfl)) ?_ | refine QO2_v rfl (oL (V_loadC (tb := tb) rfl hRb rfl rfl gb rfl)) ?_ | refine QO2_v rfl (oL (V_loadC (tb := tb) rfl hRa rfl rfl ga2 rfl)) ?_ | refine QO2_v rfl (oL (V_loadC (tb := tb) rfl hRb rfl rfl gb2 rfl)) ?_ | refine QO2_v rfl (oL (V_load (tb := tb) rfl hRx rfl rfl rfl rfl)) ?_ | refine aQ2 ?_)))
    refine QO2_callE Try.call26 rfl rfl fun w hw => (hx1 _ es' c' w (hw.perm (by (repeat (first | exact List.Perm.refl _ | refine List.Perm.cons _ ?_ | refine (List.perm_middle (l₁ := [_])).trans (List.Perm.cons _ ?_) | refine (List.perm_middle (l₁ := [_, _])).trans (List.Perm.cons _ ?_) | refine (List.perm_middle (l₁ := [_, _, _])).trans (List.Perm.cons _ ?_) | refine (List.perm_middle (l₁ := [_, _, _, _])).trans (List.Perm.cons _ ?_) | refine (List.perm_middle (l₁ := [_, _, _, _, _])).trans (List.Perm.cons _ ?_) | refine (List.perm_middle (l₁ := [_, _, _, _, _, _])).trans (List.Perm.cons _ ?_) | refine (List.perm_middle (l₁ := [_, _, _, _, _, _, _])).trans (List.Perm.cons _ ?_) | refine (List.perm_middle (l₁ := [_, _, _, _, _, _, _, _])).trans (List.Perm.cons _ ?_) | refine (List.perm_middle (l₁ := [_, _, _, _, _, _, _, _, _])).trans (List.Perm.cons _ ?_) | refine (List.perm_middle (l₁ := [_, _, _, _, _, _, _, _, _, _])).trans (List.Perm.cons _ ?_) | refine (List.perm_middle (l₁ := [_, _, _, _, _, _, _, _, _, _, _])).trans (List.Perm.cons _ ?_) | refine (List.perm_middle (l₁ := [_, _, _, _, _, _, _, _, _, _, _, _])).trans (List.Perm.cons _ ?_) | refine (List.perm_middle (l₁ := [_, _, _, _, _, _, _, _, _, _, _, _, _])).trans (List.Perm.cons _ ?_)))))).mono ?_
    rintro x w' ⟨rfl, ⟨hne, _⟩ | ⟨_, q', d', hw'⟩⟩
    · exact absurd rfl hne
    · (refine .inl ⟨_, rfl, R, _, hw', fun w hw => St.sub (by repeat (first | exact List.Sublist.refl _ | apply List.Sublist.cons_cons | apply List.Sublist.cons)) hw, .inl fun w hw => hw, ?_⟩; clear hw' hw w w')
      clear hx0 hx1
      obtain ⟨oC, kC⟩ := h0 rfl
      repeat ((first | (apply gQR2; first | apply QR2_un | apply QR2_nil) | (apply gQO2; first | refine QO2_v rfl (oL (V_loadC (tb := tb) rfl hRa rfl rfl ga rfl)) ?_ | refine QO2_v rfl (oL (V_loadC (tb := tb) rfl hRb rfl rfl gb rfl)) ?_ | refine QO2_v rfl (oL (V_loadC (tb := tb) rfl hRa rfl rfl ga2 rfl)) ?_ | refine QO2_v rfl (oL (V_loadC (tb := tb) rfl hRb rfl rfl gb2 rfl)) ?_ | refine QO2_v rfl (oL (V_load (tb := tb) rfl hRx rfl rfl rfl rfl)) ?_ | refine aQ2 ?_)))
      repeat (first | (refine sx ?_; try intro _))
      refine JS_ret Try.func34 rfl rfl fun w hw => ⟨rfl, bC, TC, es', c', q', d', oC, kC, hE', hnw, ?_⟩
      have hz := hw.perm (H' := vec 58 2 (.slice q1 T1.length d1) T1.length (flat T1) :: blk h1 (hc m1 b1 gr bC (sw TC)) :: mapL b1 es' c' :: blk r1 (rc lo hi dg u g gr bC (.slice q' TC.length d')) :: vec 58 2 (.slice q' TC.length d') TC.length (flat TC) :: R) (by (repeat (first | exact List.Perm.refl _ | refine List.Perm.cons _ ?_ | refine (List.perm_middle (l₁ := [_])).trans (List.Perm.cons _ ?_) | refine (List.perm_middle (l₁ := [_, _])).trans (List.Perm.cons _ ?_) | refine (List.perm_middle (l₁ := [_, _, _])).trans (List.Perm.cons _ ?_) | refine (List.perm_middle (l₁ := [_, _, _, _])).trans (List.Perm.cons _ ?_) | refine (List.perm_middle (l₁ := [_, _, _, _, _])).trans (List.Perm.cons _ ?_) | refine (List.perm_middle (l₁ := [_, _, _, _, _, _])).trans (List.Perm.cons _ ?_) | refine (List.perm_middle (l₁ := [_, _, _, _, _, _, _])).trans (List.Perm.cons _ ?_) | refine (List.perm_middle (l₁ := [_, _, _, _, _, _, _, _])).trans (List.Perm.cons _ ?_) | refine (List.perm_middle (l₁ := [_, _, _, _, _, _, _, _, _])).trans (List.Perm.cons _ ?_) | refine (List.perm_middle (l₁ := [_, _, _, _, _, _, _, _, _, _])).trans (List.Perm.cons _ ?_) | refine (List.perm_middle (l₁ := [_, _, _, _, _, _, _, _, _, _, _])).trans (List.Perm.cons _ ?_) | refine (List.perm_middle (l₁ := [_, _, _, _, _, _, _, _, _, _, _, _])).trans (List.Perm.cons _ ?_) | refine (List.perm_middle (l₁ := [_, _, _, _, _, _, _, _, _, _, _, _, _])).trans (List.Perm.cons _ ?_))))
      exact hz.drop
end
end Go.Proofs.Ytmnilpjgkjkecaa

namespace Go.Proofs.Ytmnilpjgkjkecaa
open Sx Go Hd
set_option linter.unusedVariables false
set_option linter.unusedSimpArgs false
section
variable {w0 : World} {H : List Asn} {lo hi dg : Int} {u g : Nat}
set_option maxRecDepth 10000 in
set_option maxHeartbeats 8000000 in
theorem DoSelf (pa pb : Addr) (la lb : List Value) (i j bx h1 m1 b1 r1 h2 m2 b2 r2 : Nat) (gr o : Bool) (bu1 : Nat) (T1 T2 : List (Int × Int)) (es1 : List MapEntry) (c1 : Nat) (q1 : Option Addr) (d1 : Nat) (R : List Asn) (k v n e : Int)
    (hi2 : i < 2) (hj2 : j < 2) (hRa : Rd w0 R (.slice (some pa) 2 2) 2 la) (hRb : Rd w0 R (.slice (some pb) 2 2) 2 lb) (ga : la[i]? = some (.pointer (some ⟨h1, 0, none⟩))) (gb : lb[i]? = some (.pointer (some ⟨r1, 0, none⟩)))
    (ga2 : la[j]? = some (.pointer (some ⟨h2, 0, none⟩))) (gb2 : lb[j]? = some (.pointer (some ⟨r2, 0, none⟩))) (hRx : blk bx [.int .u8 k, .bool o, .int .i64 v, .int .u64 n, .int .i64 e] ∈ R) (hRm : blk m1 (mc lo hi dg u g) ∈ R)
    (hug : u + g ≤ 62) (hg : 1 ≤ g ∧ g ≤ 18) (hs1 : OKS (bu1, T1)) (hk1 : KSI u g T1) (hE1 : HM es1 c1 T1) (hl1 : T1.length ≤ 50000) (hk : 0 ≤ k ∧ k < 256) (hv : -9223372036854775808 ≤ v ∧ v < 9223372036854775808) (hn : 0 ≤ n ∧ n < 18446744073709551616) (he : -9223372036854775808 ≤ e ∧ e < 9223372036854775808)
    (h6 : k % 7 = 6) :
    JS Try.prog 34 Try.f34.ntmps (DoP w0 lo hi dg u g gr h1 m1 b1 r1 T1 T2 R) [] w0 (todo Try.f34 [.b, .b, .b, .b, .a])
      [(0, .slice (some pa) 2 2), (1, .slice (some pb) 2 2), (5, .pointer (some ⟨bx, 0, none⟩)), (7, .int .i64 i), (8, .int .i64 j)]
      (blk h1 (hc m1 b1 gr bu1 (sw T1)) :: mapL b1 es1 c1 :: blk r1 (rc lo hi dg u g gr bu1 (.slice q1 T1.length d1)) :: vec 58 2 (.slice q1 T1.length d1) T1.length (flat T1) :: R) := by
  have hx0 := fun w hw => HTakeS_c (w0 := w0) (H := blk r1 (rc lo hi dg u g gr bu1 (.slice q1 T1.length d1)) :: vec 58 2 (.slice q1 T1.length d1) T1.length (flat T1) :: R) (lo := lo) (hi := hi) (dg := dg) h1 m1 b1 gr bu1 es1 c1 T1 (List.Mem.tail _ (List.Mem.tail _ hRm)) hE1 hs1.gt (by omega) hs1.bu w hw
  have hx1 := fun (a : Asn) (es' : List MapEntry) (c' : Nat) w hw => RTakeS_c (w0 := w0) (H := a :: mapL b1 es' c' :: vec 58 2 (.slice q1 T1.length d1) T1.length (flat T1) :: R) (lo := lo) (hi := hi) (dg := dg) (u := u) (g := g) r1 gr bu1 T1 q1 d1 (vec_rd (List.Mem.tail _ (List.Mem.tail _ (List.Mem.head _)))) hs1.gt (by omega) hs1.bu w hw
  have h0 : tkc true (sw T1) (sw T1) = 0 → OKS (bu1, takeT T1 T1) ∧ sw (takeT T1 T1) = sw T1 + sw T1 := fun h => by
    have h3 : sw T1 + sw T1 ≤ 4611686018427387904 := by
      unfold tkc at h
      rw [if_neg (by decide)] at h
      split at h
      · exact absurd h (by decide)
      · omega
    obtain ⟨a1, a2, _⟩ := takeT_ok hs1.gt hs1.gt h3 T1.length (Nat.le_refl _)
    rw [List.take_length] at a1 a2
    exact ⟨⟨hs1.bu, a1⟩, a2⟩
  have kC := takeT_ksi hk1 hk1
  have hnw := NEWK.takeS T1 T2
  have hnil : T1.length = 0 → takeT T1 T1 = T1 := fun h => by rw [List.length_eq_zero_iff.1 h]; rfl
  generalize takeT T1 T1 = TC at *
  generalize tkc true (sw T1) (sw T1) = c at *
  refine JS_at rfl ?_
  repeat (first | apply hIx 11 | (apply gJO; first | refine JO_v (oL (V_load (tb := tb) rfl (List.Mem.tail _ (List.Mem.tail _ (List.Mem.tail _ (List.Mem.tail _ hRx)))) rfl rfl rfl rfl)) ?_) | first | (refine sx ?_; try intro _))
  refine Hold.go ?_
  refine JS_seq ?_
  refine JS_order2 R [0, 1, 2, 3, 4, 5, 6, 7, 9, 10, 11, 12, 13, 14, 15, 16, 8, 17, 18, 19] [] (fun w hw => St.sub (by repeat (first | exact List.Sublist.refl _ | apply List.Sublist.cons_cons | apply List.Sublist.cons)) hw) (Picks.cons rfl (Picks.cons rfl (Picks.cons rfl (Picks.cons rfl (Picks.cons rfl (Picks.cons rfl (Picks.cons rfl (Picks.cons rfl (Picks.cons rfl (Picks.cons rfl (Picks.cons rfl (Picks.cons rfl (Picks.cons rfl (Picks.cons rfl (Picks.cons rfl (Picks.cons rfl (Picks.cons rfl (Picks.cons rfl (Picks.cons rfl (Picks.cons rfl (Picks.nil))))))))))))))))))))) (by kernel_rfl) (by kernel_rfl) rfl (by decide +kernel) ?_
  repeat ((first | (apply gQR2; first | apply QR2_un | apply QR2_nil) | (apply gQO2; first | refine QO2_v rfl (oL (V_loadC (tb := tb) rfl hRa rfl rfl ga rfl)) ?_ | refine QO2_v rfl (oL (V_loadC (tb := tb) rfl hRb rfl rfl gb rfl)) ?_ | refine QO2_v rfl (oL (V_loadC (tb := tb) rfl hRa rfl rfl ga2 rfl)) ?_ | refine QO2_v rfl (oL (V_loadC (tb := tb) rfl hRb rfl rfl gb2 rfl)) ?_ | refine QO2_v rfl (oL (V_load (tb := tb) rfl hRx rfl rfl rfl rfl)) ?_ | refine aQ2 ?_)))
  refine QO2_callE Try.call21 rfl rfl fun w hw => (hx0 w hw).mono ?_
  rintro x w' ⟨rfl, ⟨hne, hw'⟩ | ⟨rfl, es', c', hE', hw'⟩⟩
  · (refine .inl ⟨_, rfl, R, _, hw', fun w hw => St.sub (by repeat (first | exact List.Sublist.refl _ | apply List.Sublist.cons_cons | apply List.Sublist.cons)) hw, .inl fun w hw => hw, ?_⟩; clear hw' hw w w')
    repeat ((first | (apply gQR2; first | apply QR2_un | apply QR2_nil) | (apply gQO2; first | refine QO2_v rfl (oL (V_loadC (tb := tb) rfl hRa rfl rfl ga rfl)) ?_ | refine QO2_v rfl (oL (V_loadC (tb := tb) rfl hRb rfl rfl gb rfl)) ?_ | refine QO2_v rfl (oL (V_loadC (tb := tb) rfl hRa rfl rfl ga2 rfl)) ?_ | refine QO2_v rfl (oL (V_loadC (tb := tb) rfl hRb rfl rfl gb2 rfl)) ?_ | refine QO2_v rfl (oL (V_load (tb := tb) rfl hRx rfl rfl rfl rfl)) ?_ | refine aQ2 ?_)))
    refine QO2_callE Try.call70 rfl rfl fun w hw => (hx1 _ es1 c1 w (hw.perm (by (repeat (first | exact List.Perm.refl _ | refine List.Perm.cons _ ?_ | refine (List.perm_middle (l₁ := [_])).trans (List.Perm.cons _ ?_) | refine (List.perm_middle (l₁ := [_, _])).trans (List.Perm.cons _ ?_) | refine (List.perm_middle (l₁ := [_, _, _])).trans (List.Perm.cons _ ?_) | refine (List.perm_middle (l₁ := [_, _, _, _])).trans (List.Perm.cons _ ?_) | refine (List.perm_middle (l₁ := [_, _, _, _, _])).trans (List.Perm.cons _ ?_) | refine (List.perm_middle (l₁ := [_, _, _, _, _, _])).trans (List.Perm.cons _ ?_) | refine (List.perm_middle (l₁ := [_, _, _, _, _, _, _])).trans (List.Perm.cons _ ?_) | refine (List.perm_middle (l₁ := [_, _, _, _, _, _, _, _])).trans (List.Perm.cons _ ?_) | refine (List.perm_middle (l₁ := [_, _, _, _, _, _, _, _, _])).trans (List.Perm.cons _ ?_) | refine (List.perm_middle (l₁ := [_, _, _, _, _, _, _, _, _, _])).trans (List.Perm.cons _ ?_) | refine (List.perm_middle (l₁ := [_, _, _, _, _, _, _, _, _, _, _])).trans (List.Perm.cons _ ?_) | refine (List.perm_middle (l₁ := [_, _, _, _, _, _, _, _, _, _, _, _])).trans (List.Perm.cons _ ?_) | refine (List.perm_middle (l₁ := [_, _, _, _, _, _, _, _, _, _, _, _, _])).trans (List.Perm.cons _ ?_)))))).mono ?_
    rintro x w' ⟨rfl, ⟨_, hw'⟩ | ⟨h0, _⟩⟩
    · (refine .inl ⟨_, rfl, R, _, hw', fun w hw => St.sub (by repeat (first | exact List.Sublist.refl _ | apply List.Sublist.cons_cons | apply List.Sublist.cons)) hw, .inl fun w hw => hw, ?_⟩; clear hw' hw w w')
      clear hx0 hx1 h0 hnw
      repeat ((first | (apply gQR2; first | apply QR2_un | apply QR2_nil) | (apply gQO2; first | refine QO2_v rfl (oL (V_loadC (tb := tb) rfl hRa rfl rfl ga rfl)) ?_ | refine QO2_v rfl (oL (V_loadC (tb := tb) rfl hRb rfl rfl gb rfl)) ?_ | refine QO2_v rfl (oL (V_loadC (tb := tb) rfl hRa rfl rfl ga2 rfl)) ?_ | refine QO2_v rfl (oL (V_loadC (tb := tb) rfl hRb rfl rfl gb2 rfl)) ?_ | refine QO2_v rfl (oL (V_load (tb := tb) rfl hRx rfl rfl rfl rfl)) ?_ | refine aQ2 ?_)))
      repeat (first | (refine sx ?_; try intro _))
      exact JS_ret Try.func34 rfl rfl fun w hw => ⟨rfl, bu1, T1, es1, c1, q1, d1, hs1, hk1, hE1, NEWK.self _ _, hw.perm (by (repeat (first | exact List.Perm.refl _ | refine List.Perm.cons _ ?_ | refine (List.perm_middle (l₁ := [_])).trans (List.Perm.cons _ ?_) | refine (List.perm_middle (l₁ := [_, _])).trans (List.Perm.cons _ ?_) | refine (List.perm_middle (l₁ := [_, _, _])).trans (List.Perm.cons _ ?_) | refine (List.perm_middle (l₁ := [_, _, _, _])).trans (List.Perm.cons _ ?_) | refine (List.perm_middle (l₁ := [_, _, _, _, _])).trans (List.Perm.cons _ ?_) | refine (List.perm_middle (l₁ := [_, _, _, _, _, _])).trans (List.Perm.cons _ ?_) | refine (List.perm_middle (l₁ := [_, _, _, _, _, _, _])).trans (List.Perm.cons _ ?_) | refine (List.perm_middle (l₁ := [_, _, _, _, _, _, _, _])).trans (List.Perm.cons _ ?_) | refine (List.perm_middle (l₁ := [_, _, _, _, _, _, _, _, _])).trans (List.Perm.cons _ ?_) | refine (List.perm_middle (l₁ := [_, _, _, _, _, _, _, _, _, _])).trans (List.Perm.cons _ ?_) | refine (List.perm_middle (l₁ := [_, _, _, _, _, _, _, _, _, _, _])).trans (List.Perm.cons _ ?_) | refine (List.perm_middle (l₁ := [_, _, _, _, _, _, _, _, _, _, _, _])).trans (List.Perm.cons _ ?_) | refine (List.perm_middle (l₁ := [_, _, _, _, _, _, _, _, _, _, _, _, _])).trans (List.Perm.cons _ ?_))))⟩
    · exact absurd h0 hne
  · (refine .inl ⟨_, rfl, R, _, hw', fun w hw => St.sub (by repeat (first | exact List.Sublist.refl _ | apply List.Sublist.cons_cons | apply List.Sublist.cons)) hw, .inl fun w hw => hw, ?_⟩; clear hw' hw w w')
    repeat ((first | (apply gQR2; first | apply QR2_un | apply QR2_nil) | (apply gQO2; first | refine QO2_v rfl (oL (V_loadC (tb := tb) rfl hRa rfl rfl ga rfl)) ?_ | refine QO2_v rfl (oL (V_loadC (tb := tb) rfl hRb rfl rfl gb rfl)) ?_ | refine QO2_v rfl (oL (V_loadC (tb := tb) rfl hRa rfl rfl ga2 rfl)) ?_ | refine QO2_v rfl (oL (V_loadC (tb := tb) rfl hRb rfl rfl gb2 rfl)) ?_ | refine QO2_v rfl (oL (V_load (tb := tb) rfl hRx rfl rfl rfl rfl)) ?_ | refine aQ2 ?_)))
    refine QO2_callE Try.call70 rfl rfl fun w hw => (hx1 _ es' c' w (hw.perm (by (repeat (first | exact List.Perm.refl _ | refine List.Perm.cons _ ?_ | refine (List.perm_middle (l₁ := [_])).trans (List.Perm.cons _ ?_) | refine (List.perm_middle (l₁ := [_, _])).trans (List.Perm.cons _ ?_) | refine (List.perm_middle (l₁ := [_, _, _])).trans (List.Perm.cons _ ?_) | refine (List.perm_middle (l₁ := [_, _, _, _])).trans (List.Perm.cons _ ?_) | refine (List.perm_middle (l₁ := [_, _, _, _, _])).trans (List.Perm.cons _ ?_) | refine (List.perm_middle (l₁ := [_, _, _, _, _, _])).trans (List.Perm.cons _ ?_) | refine (List.perm_middle (l₁ := [_, _, _, _, _, _, _])).trans (List.Perm.cons _ ?_) | refine (List.perm_middle (l₁ := [_, _, _, _, _, _, _, _])).trans (List.Perm.cons _ ?_) | refine (List.perm_middle (l₁ := [_, _, _, _, _, _, _, _, _])).trans (List.Perm.cons _ ?_) | refine (List.perm_middle (l₁ := [_, _, _, _, _, _, _, _, _, _])).trans (List.Perm.cons _ ?_) | refine (List.perm_middle (l₁ := [_, _, _, _, _, _, _, _, _, _, _])).trans (List.Perm.cons _ ?_) | refine (List.perm_middle (l₁ := [_, _, _, _, _, _, _, _, _, _, _, _])).trans (List.Perm.cons _ ?_) | refine (List.perm_middle (l₁ := [_, _, _, _, _, _, _, _, _, _, _, _, _])).trans (List.Perm.cons _ ?_)))))).mono ?_
    rintro x w' ⟨rfl, ⟨hne, _⟩ | ⟨_, q', d', X, hX, hw'⟩⟩
    · exact absurd rfl hne
    · (refine .inl ⟨_, rfl, R, _, hw', fun w hw => St.sub (by repeat (first | exact List.Sublist.refl _ | apply List.Sublist.cons_cons | apply List.Sublist.cons)) hw, .inl fun w hw => hw, ?_⟩; clear hw' hw w w')
      clear hx0 hx1
      obtain ⟨oC, hsw⟩ := h0 rfl
      rw [← hsw]
      repeat ((first | (apply gQR2; first | apply QR2_un | apply QR2_nil) | (apply gQO2; first | refine QO2_v rfl (oL (V_loadC (tb := tb) rfl hRa rfl rfl ga rfl)) ?_ | refine QO2_v rfl (oL (V_loadC (tb := tb) rfl hRb rfl rfl gb rfl)) ?_ | refine QO2_v rfl (oL (V_loadC (tb := tb) rfl hRa rfl rfl ga2 rfl)) ?_ | refine QO2_v rfl (oL (V_loadC (tb := tb) rfl hRb rfl rfl gb2 rfl)) ?_ | refine QO2_v rfl (oL (V_load (tb := tb) rfl hRx rfl rfl rfl rfl)) ?_ | refine aQ2 ?_)))
      repeat (first | (refine sx ?_; try intro _))
      refine JS_ret Try.func34 rfl rfl fun w hw => ?_
      rcases hX with ⟨z0, rfl, rfl, rfl⟩ | ⟨_, rfl⟩
      · obtain rfl := hnil z0
        refine ⟨rfl, bu1, TC, es', c', q', d', oC, kC, hE', hnw, ?_⟩
        have hz := hw.perm (H' := vec 58 2 (.slice none 0 0) 0 [] :: blk h1 (hc m1 b1 gr bu1 (sw TC)) :: mapL b1 es' c' :: blk r1 (rc lo hi dg u g gr bu1 (.slice q' TC.length d')) :: vec 58 2 (.slice q' TC.length d') TC.length (flat TC) :: R) (by (repeat (first | exact List.Perm.refl _ | refine List.Perm.cons _ ?_ | refine (List.perm_middle (l₁ := [_])).trans (List.Perm.cons _ ?_) | refine (List.perm_middle (l₁ := [_, _])).trans (List.Perm.cons _ ?_) | refine (List.perm_middle (l₁ := [_, _, _])).trans (List.Perm.cons _ ?_) | refine (List.perm_middle (l₁ := [_, _, _, _])).trans (List.Perm.cons _ ?_) | refine (List.perm_middle (l₁ := [_, _, _, _, _])).trans (List.Perm.cons _ ?_) | refine (List.perm_middle (l₁ := [_, _, _, _, _, _])).trans (List.Perm.cons _ ?_) | refine (List.perm_middle (l₁ := [_, _, _, _, _, _, _])).trans (List.Perm.cons _ ?_) | refine (List.perm_middle (l₁ := [_, _, _, _, _, _, _, _])).trans (List.Perm.cons _ ?_) | refine (List.perm_middle (l₁ := [_, _, _, _, _, _, _, _, _])).trans (List.Perm.cons _ ?_) | refine (List.perm_middle (l₁ := [_, _, _, _, _, _, _, _, _, _])).trans (List.Perm.cons _ ?_) | refine (List.perm_middle (l₁ := [_, _, _, _, _, _, _, _, _, _, _])).trans (List.Perm.cons _ ?_) | refine (List.perm_middle (l₁ := [_, _, _, _, _, _, _, _, _, _, _, _])).trans (List.Perm.cons _ ?_) | refine (List.perm_middle (l₁ := [_, _, _, _, _, _, _, _, _, _, _, _, _])).trans (List.Perm.cons _ ?_))))
        exact hz.drop
      refine ⟨rfl, bu1, TC, es', c', q', d', oC, kC, hE', hnw, ?_⟩
      have hz := hw.perm (H' := vec 58 2 (.slice q1 T1.length d1) T1.length (flat T1) :: blk h1 (hc m1 b1 gr bu1 (sw TC)) :: mapL b1 es' c' :: blk r1 (rc lo hi dg u g gr bu1 (.slice q' TC.length d')) :: vec 58 2 (.slice q' TC.length d') TC.length (flat TC) :: R) (by (repeat (first | exact List.Perm.refl _ | refine List.Perm.cons _ ?_ | refine (List.perm_middle (l₁ := [_])).trans (List.Perm.cons _ ?_) | refine (List.perm_middle (l₁ := [_, _])).trans (List.Perm.cons _ ?_) | refine (List.perm_middle (l₁ := [_, _, _])).trans (List.Perm.cons _ ?_) | refine (List.perm_middle (l₁ := [_, _, _, _])).trans (List.Perm.cons _ ?_) | refine (List.perm_middle (l₁ := [_, _, _, _, _])).trans (List.Perm.cons _ ?_) | refine (List.perm_middle (l₁ := [_, _, _, _, _, _])).trans (List.Perm.cons _ ?_) | refine (List.perm_middle (l₁ := [_, _, _, _, _, _, _])).trans (List.Perm.cons _ ?_) | refine (List.perm_middle (l₁ := [_, _, _, _, _, _, _, _])).trans (List.Perm.cons _ ?_) | refine (List.perm_middle (l₁ := [_, _, _, _, _, _, _, _, _])).trans (List.Perm.cons _ ?_) | refine (List.perm_middle (l₁ := [_, _, _, _, _, _, _, _, _, _])).trans (List.Perm.cons _ ?_) | refine (List.perm_middle (l₁ := [_, _, _, _, _, _, _, _, _, _, _])).trans (List.Perm.cons _ ?_) | refine (List.perm_middle (l₁ := [_, _, _, _, _, _, _, _, _, _, _, _])).trans (List.Perm.cons _ ?_) | refine (List.perm_middle (l₁ := [_, _, _, _, _, _, _, _, _, _, _, _, _])).trans (List.Perm.cons _ ?_))))
      exact hz.drop
end
end Go.Proofs.Ytmnilpjgkjkecaa

namespace Go.Proofs.Ytmnilpjgkjkecaa
open Sx Go Hd
set_option linter.unusedVariables false
set_option linter.unusedSimpArgs false
section
variable {w0 : World} {H : List Asn} {lo hi dg : Int} {u g : Nat}
set_option maxRecDepth 10000 in
set_option maxHeartbeats 8000000 in
theorem DoOther (pa pb : Addr) (la lb : List Value) (i j bx h1 m1 b1 r1 h2 m2 b2 r2 : Nat) (gr o : Bool) (bu1 : Nat) (T1 T2 : List (Int × Int)) (es1 : List MapEntry) (c1 : Nat) (q1 : Option Addr) (d1 : Nat) (R : List Asn) (k v n e : Int)
    (hi2 : i < 2) (hj2 : j < 2) (hRa : Rd w0 R (.slice (some pa) 2 2) 2 la) (hRb : Rd w0 R (.slice (some pb) 2 2) 2 lb) (ga : la[i]? = some (.pointer (some ⟨h1, 0, none⟩))) (gb : lb[i]? = some (.pointer (some ⟨r1, 0, none⟩)))
    (ga2 : la[j]? = some (.pointer (some ⟨h2, 0, none⟩))) (gb2 : lb[j]? = some (.pointer (some ⟨r2, 0, none⟩))) (hRx : blk bx [.int .u8 k, .bool o, .int .i64 v, .int .u64 n, .int .i64 e] ∈ R) (hRm : blk m1 (mc lo hi dg u g) ∈ R)
    (hug : u + g ≤ 62) (hg : 1 ≤ g ∧ g ≤ 18) (hs1 : OKS (bu1, T1)) (hk1 : KSI u g T1) (hE1 : HM es1 c1 T1) (hl1 : T1.length ≤ 50000) (hk : 0 ≤ k ∧ k < 256) (hv : -9223372036854775808 ≤ v ∧ v < 9223372036854775808) (hn : 0 ≤ n ∧ n < 18446744073709551616) (he : -9223372036854775808 ≤ e ∧ e < 9223372036854775808)
    (h5 : k % 7 = 5) (bu2 : Nat) (es2 : List MapEntry) (c2 : Nat) (q2 : Option Addr) (d2 : Nat) (hs2 : OKS (bu2, T2)) (hk2 : KSI u g T2) (hE2 : HM es2 c2 T2) (hl2 : T2.length ≤ 50000) (hR1 : blk h2 (hc m2 b2 gr bu2 (sw T2)) ∈ R) (hR2 : mapL b2 es2 c2 ∈ R) (hR3 : blk r2 (rc lo hi dg u g gr bu2 (.slice q2 T2.length d2)) ∈ R) (hR4 : Rd w0 R (.slice q2 T2.length d2) T2.length (flat T2)) (hR5 : blk m2 (mc lo hi dg u g) ∈ R) :
    JS Try.prog 34 Try.f34.ntmps (DoP w0 lo hi dg u g gr h1 m1 b1 r1 T1 T2 R) [] w0 (todo Try.f34 [.b, .b, .b, .b, .a])
      [(0, .slice (some pa) 2 2), (1, .slice (some pb) 2 2), (5, .pointer (some ⟨bx, 0, none⟩)), (7, .int .i64 i), (8, .int .i64 j)]
      (blk h1 (hc m1 b1 gr bu1 (sw T1)) :: mapL b1 es1 c1 :: blk r1 (rc lo hi dg u g gr bu1 (.slice q1 T1.length d1)) :: vec 58 2 (.slice q1 T1.length d1) T1.length (flat T1) :: R) := by
  have hx0 := fun w hw => HTake_c (w0 := w0) (H := blk r1 (rc lo hi dg u g gr bu1 (.slice q1 T1.length d1)) :: vec 58 2 (.slice q1 T1.length d1) T1.length (flat T1) :: R) (lo := lo) (hi := hi) (dg := dg) (lo2 := lo) (hi2 := hi) (dg2 := dg) (u2 := u) (g2 := g) h1 m1 b1 h2 m2 b2 gr gr bu1 bu2 es1 es2 c1 c2 T1 T2 (List.Mem.tail _ (List.Mem.tail _ hRm)) (List.Mem.tail _ (List.Mem.tail _ hR5)) (List.Mem.tail _ (List.Mem.tail _ hR1)) (List.Mem.tail _ (List.Mem.tail _ hR2)) hE1 hE2 hs1.gt hs2.gt (by omega) hs1.bu hs2.bu true (by simp) w hw
  have hx1 := fun (a : Asn) (es' : List MapEntry) (c' : Nat) w hw => RTake_c (w0 := w0) (H := a :: mapL b1 es' c' :: vec 58 2 (.slice q1 T1.length d1) T1.length (flat T1) :: R) (lo := lo) (hi := hi) (dg := dg) (u := u) (g := g) r1 r2 gr gr bu1 bu2 T1 T2 q1 q2 d1 d2 (List.Mem.tail _ (List.Mem.tail _ (List.Mem.tail _ hR3))) (vec_rd (List.Mem.tail _ (List.Mem.tail _ (List.Mem.head _)))) (Rd_weak hR4 fun w hw => St.sub (by repeat (first | exact List.Sublist.refl _ | apply List.Sublist.cons_cons | apply List.Sublist.cons)) hw) hs1.gt hs2.gt (by omega) hs1.bu hs2.bu true (by simp) w hw
  have h0 : tkc true (sw T1) (sw T2) = 0 → OKS (max bu1 bu2, takeT T1 T2) ∧ sw (takeT T1 T2) = sw T1 + sw T2 := fun h => by
    have h3 : sw T1 + sw T2 ≤ 4611686018427387904 := by
      unfold tkc at h
      rw [if_neg (by decide)] at h
      split at h
      · exact absurd h (by decide)
      · omega
    obtain ⟨a1, a2, _⟩ := takeT_ok hs1.gt hs2.gt h3 T2.length (Nat.le_refl _)
    rw [List.take_length] at a1 a2
    exact ⟨⟨by have := hs1.bu; have := hs2.bu; show max _ _ ≤ 64; dsimp only at *; omega, a1⟩, a2⟩
  have kC := takeT_ksi hk1 hk2
  have hnw := NEWK.take T1 T2
  have hnil : T2.length = 0 → takeT T1 T2 = T1 := fun h => by rw [List.length_eq_zero_iff.1 h]; rfl
  generalize max bu1 bu2 = bC at *
  generalize takeT T1 T2 = TC at *
  generalize tkc true (sw T1) (sw T2) = c at *
  refine JS_at rfl ?_
  repeat (first | apply hIx 9 | (apply gJO; first | refine JO_v (oL (V_load (tb := tb) rfl (List.Mem.tail _ (List.Mem.tail _ (List.Mem.tail _ (List.Mem.tail _ hRx)))) rfl rfl rfl rfl)) ?_) | first | (refine sx ?_; try intro _))
  refine Hold.go ?_
  refine JS_seq ?_
  refine JS_order2 R [0, 1, 2, 3, 4, 5, 6, 7, 9, 10, 11, 12, 13, 14, 15, 16, 8, 17, 18, 19] [] (fun w hw => St.sub (by repeat (first | exact List.Sublist.refl _ | apply List.Sublist.cons_cons | apply List.Sublist.cons)) hw) (Picks.cons rfl (Picks.cons rfl (Picks.cons rfl (Picks.cons rfl (Picks.cons rfl (Picks.cons rfl (Picks.cons rfl (Picks.cons rfl (Picks.cons rfl (Picks.cons rfl (Picks.cons rfl (Picks.cons rfl (Picks.cons rfl (Picks.cons rfl (Picks.cons rfl (Picks.cons rfl (Picks.cons rfl (Picks.cons rfl (Picks.cons rfl (Picks.cons rfl (Picks.nil))))))))))))))))))))) (by kernel_rfl) (by kernel_rfl) rfl (by decide +kernel) ?_
  repeat ((first | (apply gQR2; first | apply QR2_un | apply QR2_nil) | (apply gQO2; first | refine QO2_v rfl (oL (V_loadC (tb := tb) rfl hRa rfl rfl ga rfl)) ?_ | refine QO2_v rfl (oL (V_loadC (tb := tb) rfl hRb rfl rfl gb rfl)) ?_ | refine QO2_v rfl (oL (V_loadC (tb := tb) rfl hRa rfl rfl ga2 rfl)) ?_ | refine QO2_v rfl (oL (V_loadC (tb := tb) rfl hRb rfl rfl gb2 rfl)) ?_ | refine QO2_v rfl (oL (V_load (tb := tb) rfl hRx rfl rfl rfl rfl)) ?_ | refine aQ2 ?_)))
  refine QO2_callE Try.call21 rfl rfl fun w hw => (hx0 w hw).mono ?_
  rintro x w' ⟨rfl, ⟨hne, hw'⟩ | ⟨rfl, es', c', hE', hw'⟩⟩
  · (refine .inl ⟨_, rfl, R, _, hw', fun w hw => St.sub (by repeat (first | exact List.Sublist.refl _ | apply List.Sublist.cons_cons | apply List.Sublist.cons)) hw, .inl fun w hw => hw, ?_⟩; clear hw' hw w w')
    repeat ((first | (apply gQR2; first | apply QR2_un | apply QR2_nil) | (apply gQO2; first | refine QO2_v rfl (oL (V_loadC (tb := tb) rfl hRa rfl rfl ga rfl)) ?_ | refine QO2_v rfl (oL (V_loadC (tb := tb) rfl hRb rfl rfl gb rfl)) ?_ | refine QO2_v rfl (oL (V_loadC (tb := tb) rfl hRa rfl rfl ga2 rfl)) ?_ | refine QO2_v rfl (oL (V_loadC (tb := tb) rfl hRb rfl rfl gb2 rfl)) ?_ | refine QO2_v rfl (oL (V_load (tb := tb) rfl hRx rfl rfl rfl rfl)) ?_ | refine aQ2 ?_)))
    refine QO2_callE Try.call70 rfl rfl fun w hw => (hx1 _ es1 c1 w (hw.perm (by (repeat (first | exact List.Perm.refl _ | refine List.Perm.cons _ ?_ | refine (List.perm_middle (l₁ := [_])).trans (List.Perm.cons _ ?_) | refine (List.perm_middle (l₁ := [_, _])).trans (List.Perm.cons _ ?_) | refine (List.perm_middle (l₁ := [_, _, _])).trans (List.Perm.cons _ ?_) | refine (List.perm_middle (l₁ := [_, _, _, _])).trans (List.Perm.cons _ ?_) | refine (List.perm_middle (l₁ := [_, _, _, _, _])).trans (List.Perm.cons _ ?_) | refine (List.perm_middle (l₁ := [_, _, _, _, _, _])).trans (List.Perm.cons _ ?_) | refine (List.perm_middle (l₁ := [_, _, _, _, _, _, _])).trans (List.Perm.cons _ ?_) | refine (List.perm_middle (l₁ := [_, _, _, _, _, _, _, _])).trans (List.Perm.cons _ ?_) | refine (List.perm_middle (l₁ := [_, _, _, _, _, _, _, _, _])).trans (List.Perm.cons _ ?_) | refine (List.perm_middle (l₁ := [_, _, _, _, _, _, _, _, _, _])).trans (List.Perm.cons _ ?_) | refine (List.perm_middle (l₁ := [_, _, _, _, _, _, _, _, _, _, _])).trans (List.Perm.cons _ ?_) | refine (List.perm_middle (l₁ := [_, _, _, _, _, _, _, _, _, _, _, _])).trans (List.Perm.cons _ ?_) | refine (List.perm_middle (l₁ := [_, _, _, _, _, _, _, _, _, _, _, _, _])).trans (List.Perm.cons _ ?_)))))).mono ?_
    rintro x w' ⟨rfl, ⟨_, hw'⟩ | ⟨h0, _⟩⟩
    · (refine .inl ⟨_, rfl, R, _, hw', fun w hw => St.sub (by repeat (first | exact List.Sublist.refl _ | apply List.Sublist.cons_cons | apply List.Sublist.cons)) hw, .inl fun w hw => hw, ?_⟩; clear hw' hw w w')
      clear hx0 hx1 h0 hnw
      repeat ((first | (apply gQR2; first | apply QR2_un | apply QR2_nil) | (apply gQO2; first | refine QO2_v rfl (oL (V_loadC (tb := tb) rfl hRa rfl rfl ga rfl)) ?_ | refine QO2_v rfl (oL (V_loadC (tb := tb) rfl hRb rfl rfl gb rfl)) ?_ | refine QO2_v rfl (oL (V_loadC (tb := tb) rfl hRa rfl rfl ga2 rfl)) ?_ | refine QO2_v rfl (oL (V_loadC (tb := tb) rfl hRb rfl rfl gb2 rfl)) ?_ | refine QO2_v rfl (oL (V_load (tb := tb) rfl hRx rfl rfl rfl rfl)) ?_ | refine aQ2 ?_)))
      repeat (first | (refine sx ?_; try intro _))
      exact JS_ret Try.func34 rfl rfl fun w hw => ⟨rfl, bu1, T1, es1, c1, q1, d1, hs1, hk1, hE1, NEWK.self _ _, hw.perm (by (repeat (first | exact List.Perm.refl _ | refine List.Perm.cons _ ?_ | refine (List.perm_middle (l₁ := [_])).trans (List.Perm.cons _ ?_) | refine (List.perm_middle (l₁ := [_, _])).trans (List.Perm.cons _ ?_) | refine (List.perm_middle (l₁ := [_, _, _])).trans (List.Perm.cons _ ?_) | refine (List.perm_middle (l₁ := [_, _, _, _])).trans (List.Perm.cons _ ?_) | refine (List.perm_middle (l₁ := [_, _, _, _, _])).trans (List.Perm.cons _ ?_) | refine (List.perm_middle (l₁ := [_, _, _, _, _, _])).trans (List.Perm.cons _ ?_) | refine (List.perm_middle (l₁ := [_, _, _, _, _, _, _])).trans (List.Perm.cons _ ?_) | refine (List.perm_middle (l₁ := [_, _, _, _, _, _, _, _])).trans (List.Perm.cons _ ?_) | refine (List.perm_middle (l₁ := [_, _, _, _, _, _, _, _, _])).trans (List.Perm.cons _ ?_) | refine (List.perm_middle (l₁ := [_, _, _, _, _, _, _, _, _, _])).trans (List.Perm.cons _ ?_) | refine (List.perm_middle (l₁ := [_, _, _, _, _, _, _, _, _, _, _])).trans (List.Perm.cons _ ?_) | refine (List.perm_middle (l₁ := [_, _, _, _, _, _, _, _, _, _, _, _])).trans (List.Perm.cons _ ?_) | refine (List.perm_middle (l₁ := [_, _, _, _, _, _, _, _, _, _, _, _, _])).trans (List.Perm.cons _ ?_))))⟩
    · exact absurd h0 hne
  · (refine .inl ⟨_, rfl, R, _, hw', fun w hw => St.sub (by repeat (first | exact List.Sublist.refl _ | apply List.Sublist.cons_cons | apply List.Sublist.cons)) hw, .inl fun w hw => hw, ?_⟩; clear hw' hw w w')
    repeat ((first | (apply gQR2; first | apply QR2_un | apply QR2_nil) | (apply gQO2; first | refine QO2_v rfl (oL (V_loadC (tb := tb) rfl hRa rfl rfl ga rfl)) ?_ | refine QO2_v rfl (oL (V_loadC (tb := tb) rfl hRb rfl rfl gb rfl)) ?_ | refine QO2_v rfl (oL (V_loadC (tb := tb) rfl hRa rfl rfl ga2 rfl)) ?_ | refine QO2_v rfl (oL (V_loadC (tb := tb) rfl hRb rfl rfl gb2 rfl)) ?_ | refine QO2_v rfl (oL (V_load (tb := tb) rfl hRx rfl rfl rfl rfl)) ?_ | refine aQ2 ?_)))
    refine QO2_callE Try.call70 rfl rfl fun w hw => (hx1 _ es' c' w (hw.perm (by (repeat (first | exact List.Perm.refl _ | refine List.Perm.cons _ ?_ | refine (List.perm_middle (l₁ := [_])).trans (List.Perm.cons _ ?_) | refine (List.perm_middle (l₁ := [_, _])).trans (List.Perm.cons _ ?_) | refine (List.perm_middle (l₁ := [_, _, _])).trans (List.Perm.cons _ ?_) | refine (List.perm_middle (l₁ := [_, _, _, _])).trans (List.Perm.cons _ ?_) | refine (List.perm_middle (l₁ := [_, _, _, _, _])).trans (List.Perm.cons _ ?_) | refine (List.perm_middle (l₁ := [_, _, _, _, _, _])).trans (List.Perm.cons _ ?_) | refine (List.perm_middle (l₁ := [_, _, _, _, _, _, _])).trans (List.Perm.cons _ ?_) | refine (List.perm_middle (l₁ := [_, _, _, _, _, _, _, _])).trans (List.Perm.cons _ ?_) | refine (List.perm_middle (l₁ := [_, _, _, _, _, _, _, _, _])).trans (List.Perm.cons _ ?_) | refine (List.perm_middle (l₁ := [_, _, _, _, _, _, _, _, _, _])).trans (List.Perm.cons _ ?_) | refine (List.perm_middle (l₁ := [_, _, _, _, _, _, _, _, _, _, _])).trans (List.Perm.cons _ ?_) | refine (List.perm_middle (l₁ := [_, _, _, _, _, _, _, _, _, _, _, _])).trans (List.Perm.cons _ ?_) | refine (List.perm_middle (l₁ := [_, _, _, _, _, _, _, _, _, _, _, _, _])).trans (List.Perm.cons _ ?_)))))).mono ?_
    rintro x w' ⟨rfl, ⟨hne, _⟩ | ⟨_, q', d', X, hX, hw'⟩⟩
    · exact absurd rfl hne
    · (refine .inl ⟨_, rfl, R, _, hw', fun w hw => St.sub (by repeat (first | exact List.Sublist.refl _ | apply List.Sublist.cons_cons | apply List.Sublist.cons)) hw, .inl fun w hw => hw, ?_⟩; clear hw' hw w w')
      clear hx0 hx1
      obtain ⟨oC, hsw⟩ := h0 rfl
      rw [← hsw]
      repeat ((first | (apply gQR2; first | apply QR2_un | apply QR2_nil) | (apply gQO2; first | refine QO2_v rfl (oL (V_loadC (tb := tb) rfl hRa rfl rfl ga rfl)) ?_ | refine QO2_v rfl (oL (V_loadC (tb := tb) rfl hRb rfl rfl gb rfl)) ?_ | refine QO2_v rfl (oL (V_loadC (tb := tb) rfl hRa rfl rfl ga2 rfl)) ?_ | refine QO2_v rfl (oL (V_loadC (tb := tb) rfl hRb rfl rfl gb2 rfl)) ?_ | refine QO2_v rfl (oL (V_load (tb := tb) rfl hRx rfl rfl rfl rfl)) ?_ | refine aQ2 ?_)))
      repeat (first | (refine sx ?_; try intro _))
      refine JS_ret Try.func34 rfl rfl fun w hw => ?_
      rcases hX with ⟨z0, rfl, rfl, rfl⟩ | ⟨_, rfl⟩
      · obtain rfl := hnil z0
        refine ⟨rfl, bC, TC, es', c', q', d', oC, kC, hE', hnw, ?_⟩
        have hz := hw.perm (H' := vec 58 2 (.slice none 0 0) 0 [] :: blk h1 (hc m1 b1 gr bC (sw TC)) :: mapL b1 es' c' :: blk r1 (rc lo hi dg u g gr bC (.slice q' TC.length d')) :: vec 58 2 (.slice q' TC.length d') TC.length (flat TC) :: R) (by (repeat (first | exact List.Perm.refl _ | refine List.Perm.cons _ ?_ | refine (List.perm_middle (l₁ := [_])).trans (List.Perm.cons _ ?_) | refine (List.perm_middle (l₁ := [_, _])).trans (List.Perm.cons _ ?_) | refine (List.perm_middle (l₁ := [_, _, _])).trans (List.Perm.cons _ ?_) | refine (List.perm_middle (l₁ := [_, _, _, _])).trans (List.Perm.cons _ ?_) | refine (List.perm_middle (l₁ := [_, _, _, _, _])).trans (List.Perm.cons _ ?_) | refine (List.perm_middle (l₁ := [_, _, _, _, _, _])).trans (List.Perm.cons _ ?_) | refine (List.perm_middle (l₁ := [_, _, _, _, _, _, _])).trans (List.Perm.cons _ ?_) | refine (List.perm_middle (l₁ := [_, _, _, _, _, _, _, _])).trans (List.Perm.cons _ ?_) | refine (List.perm_middle (l₁ := [_, _, _, _, _, _, _, _, _])).trans (List.Perm.cons _ ?_) | refine (List.perm_middle (l₁ := [_, _, _, _, _, _, _, _, _, _])).trans (List.Perm.cons _ ?_) | refine (List.perm_middle (l₁ := [_, _, _, _, _, _, _, _, _, _, _])).trans (List.Perm.cons _ ?_) | refine (List.perm_middle (l₁ := [_, _, _, _, _, _, _, _, _, _, _, _])).trans (List.Perm.cons _ ?_) | refine (List.perm_middle (l₁ := [_, _, _, _, _, _, _, _, _, _, _, _, _])).trans (List.Perm.cons _ ?_))))
        exact hz.drop
      refine ⟨rfl, bC, TC, es', c', q', d', oC, kC, hE', hnw, ?_⟩
      have hz := hw.perm (H' := vec 58 2 (.slice q1 T1.length d1) T1.length (flat T1) :: blk h1 (hc m1 b1 gr bC (sw TC)) :: mapL b1 es' c' :: blk r1 (rc lo hi dg u g gr bC (.slice q' TC.length d')) :: vec 58 2 (.slice q' TC.length d') TC.length (flat TC) :: R) (by (repeat (first | exact List.Perm.refl _ | refine List.Perm.cons _ ?_ | refine (List.perm_middle (l₁ := [_])).trans (List.Perm.cons _ ?_) | refine (List.perm_middle (l₁ := [_, _])).trans (List.Perm.cons _ ?_) | refine (List.perm_middle (l₁ := [_, _, _])).trans (List.Perm.cons _ ?_) | refine (List.perm_middle (l₁ := [_, _, _, _])).trans (List.Perm.cons _ ?_) | refine (List.perm_middle (l₁ := [_, _, _, _, _])).trans (List.Perm.cons _ ?_) | refine (List.perm_middle (l₁ := [_, _, _, _, _, _])).trans (List.Perm.cons _ ?_) | refine (List.perm_middle (l₁ := [_, _, _, _, _, _, _])).trans (List.Perm.cons _ ?_) | refine (List.perm_middle (l₁ := [_, _, _, _, _, _, _, _])).trans (List.Perm.cons _ ?_) | refine (List.perm_middle (l₁ := [_, _, _, _, _, _, _, _, _])).trans (List.Perm.cons _ ?_) | refine (List.perm_middle (l₁ := [_, _, _, _, _, _, _, _, _, _])).trans (List.Perm.cons _ ?_) | refine (List.perm_middle (l₁ := [_, _, _, _, _, _, _, _, _, _, _])).trans (List.Perm.cons _ ?_) | refine (List.perm_middle (l₁ := [_, _, _, _, _, _, _, _, _, _, _, _])).trans (List.Perm.cons _ ?_) | refine (List.perm_middle (l₁ := [_, _, _, _, _, _, _, _, _, _, _, _, _])).trans (List.Perm.cons _ ?_))))
      exact hz.drop
end
end Go.Proofs.Ytmnilpjgkjkecaa

namespace Go.Proofs.Ytmnilpjgkjkecaa
open Sx Go Hd
set_option linter.unusedVariables false
set_option linter.unusedSimpArgs false
section
variable {w0 : World} {H : List Asn} {lo hi dg : Int} {u g : Nat}
set_option maxRecDepth 10000 in
set_option maxHeartbeats 8000000 in
theorem Do_c (pa pb : Addr) (la lb : List Value) (i j h1 m1 b1 r1 h2 m2 b2 r2 : Nat) (gr o : Bool) (bu1 bu2 : Nat) (T1 T2 : List (Int × Int)) (es1 es2 : List MapEntry) (c1 c2 : Nat) (q1 q2 : Option Addr) (d1 d2 : Nat) (R : List Asn) (k v n e : Int)
    (hoi : (o = false ∧ i = 0 ∧ j = 1) ∨ (o = true ∧ i = 1 ∧ j = 0)) (hRa : Rd w0 R (.slice (some pa) 2 2) 2 la) (hRb : Rd w0 R (.slice (some pb) 2 2) 2 lb) (ga : la[i]? = some (.pointer (some ⟨h1, 0, none⟩))) (gb : lb[i]? = some (.pointer (some ⟨r1, 0, none⟩)))
    (ga2 : la[j]? = some (.pointer (some ⟨h2, 0, none⟩))) (gb2 : lb[j]? = some (.pointer (some ⟨r2, 0, none⟩))) (hRm : blk m1 (mc lo hi dg u g) ∈ R)
    (hug : u + g ≤ 62) (hg : 1 ≤ g ∧ g ≤ 18) (hs1 : OKS (bu1, T1)) (hk1 : KSI u g T1) (hE1 : HM es1 c1 T1) (hl1 : T1.length ≤ 50000) (hs2 : OKS (bu2, T2)) (hk2 : KSI u g T2) (hE2 : HM es2 c2 T2) (hl2 : T2.length ≤ 50000)
    (hR1 : blk h2 (hc m2 b2 gr bu2 (sw T2)) ∈ R) (hR2 : mapL b2 es2 c2 ∈ R) (hR3 : blk r2 (rc lo hi dg u g gr bu2 (.slice q2 T2.length d2)) ∈ R) (hR4 : Rd w0 R (.slice q2 T2.length d2) T2.length (flat T2)) (hR5 : blk m2 (mc lo hi dg u g) ∈ R)
    (hk : 0 ≤ k ∧ k < 256) (hv : -9223372036854775808 ≤ v ∧ v < 9223372036854775808) (hn : 0 ≤ n ∧ n < 18446744073709551616) (he : -9223372036854775808 ≤ e ∧ e < 9223372036854775808) (hfar : k % 7 = 4 → lateN v e ≤ 300 ∨ 4096 < lateN v e) (w : World)
    (hw : St w0 (blk h1 (hc m1 b1 gr bu1 (sw T1)) :: mapL b1 es1 c1 :: blk r1 (rc lo hi dg u g gr bu1 (.slice q1 T1.length d1)) :: vec 58 2 (.slice q1 T1.length d1) T1.length (flat T1) :: R) w) :
    Calls Try.prog 34 #[.slice (some pa) 2 2, .slice (some pb) 2 2, opV k o v n e] w fun x w' => DoP w0 lo hi dg u g gr h1 m1 b1 r1 T1 T2 R x w' := by
  have hi2 : i < 2 := by omega
  have hj2 : j < 2 := by omega
  have all : ∀ bx, JS Try.prog 34 Try.f34.ntmps (DoP w0 lo hi dg u g gr h1 m1 b1 r1 T1 T2 (blk bx [.int .u8 k, .bool o, .int .i64 v, .int .u64 n, .int .i64 e] :: R)) [] w0 (todo Try.f34 [.b, .b, .b, .b, .a])
      [(0, .slice (some pa) 2 2), (1, .slice (some pb) 2 2), (5, .pointer (some ⟨bx, 0, none⟩)), (7, .int .i64 i), (8, .int .i64 j)]
      (blk h1 (hc m1 b1 gr bu1 (sw T1)) :: mapL b1 es1 c1 :: blk r1 (rc lo hi dg u g gr bu1 (.slice q1 T1.length d1)) :: vec 58 2 (.slice q1 T1.length d1) T1.length (flat T1) :: blk bx [.int .u8 k, .bool o, .int .i64 v, .int .u64 n, .int .i64 e] :: R) := fun bx => by
    have kRa : Rd w0 (blk bx [.int .u8 k, .bool o, .int .i64 v, .int .u64 n, .int .i64 e] :: R) (.slice (some pa) 2 2) 2 la := Rd_weak hRa fun w hw => St.sub (by repeat (first | exact List.Sublist.refl _ | apply List.Sublist.cons_cons | apply List.Sublist.cons)) hw
    have kRb : Rd w0 (blk bx [.int .u8 k, .bool o, .int .i64 v, .int .u64 n, .int .i64 e] :: R) (.slice (some pb) 2 2) 2 lb := Rd_weak hRb fun w hw => St.sub (by repeat (first | exact List.Sublist.refl _ | apply List.Sublist.cons_cons | apply List.Sublist.cons)) hw
    by_cases h4 : k % 7 = 4
    · exact DoCor pa pb la lb i j bx h1 m1 b1 r1 h2 m2 b2 r2 gr o bu1 T1 T2 es1 c1 q1 d1 _ k v n e hi2 hj2 kRa kRb ga gb ga2 gb2 (List.Mem.head _) (List.Mem.tail _ hRm) hug hg hs1 hk1 hE1 hl1 hk hv hn he h4 (hfar h4)
    by_cases h5 : k % 7 = 5
    · exact DoOther pa pb la lb i j bx h1 m1 b1 r1 h2 m2 b2 r2 gr o bu1 T1 T2 es1 c1 q1 d1 _ k v n e hi2 hj2 kRa kRb ga gb ga2 gb2 (List.Mem.head _) (List.Mem.tail _ hRm) hug hg hs1 hk1 hE1 hl1 hk hv hn he h5 bu2 es2 c2 q2 d2 hs2 hk2 hE2 hl2 (List.Mem.tail _ hR1) (List.Mem.tail _ hR2) (List.Mem.tail _ hR3) (Rd_weak hR4 fun w hw => St.sub (by repeat (first | exact List.Sublist.refl _ | apply List.Sublist.cons_cons | apply List.Sublist.cons)) hw) (List.Mem.tail _ hR5)
    by_cases h6 : k % 7 = 6
    · exact DoSelf pa pb la lb i j bx h1 m1 b1 r1 h2 m2 b2 r2 gr o bu1 T1 T2 es1 c1 q1 d1 _ k v n e hi2 hj2 kRa kRb ga gb ga2 gb2 (List.Mem.head _) (List.Mem.tail _ hRm) hug hg hs1 hk1 hE1 hl1 hk hv hn he h6
    exact DoRec pa pb la lb i j bx h1 m1 b1 r1 h2 m2 b2 r2 gr o bu1 T1 T2 es1 c1 q1 d1 _ k v n e hi2 hj2 kRa kRb ga gb ga2 gb2 (List.Mem.head _) (List.Mem.tail _ hRm) hug hg hs1 hk1 hE1 hl1 hk hv hn he h4 h5 h6
  have weak : ∀ bx x w', DoP w0 lo hi dg u g gr h1 m1 b1 r1 T1 T2 (blk bx [.int .u8 k, .bool o, .int .i64 v, .int .u64 n, .int .i64 e] :: R) x w' → DoP w0 lo hi dg u g gr h1 m1 b1 r1 T1 T2 R x w' := by
    rintro bx x w' ⟨hx, bu, T, es, c, q, d, a1, a2, a3, a4, hz⟩
    exact ⟨hx, bu, T, es, c, q, d, a1, a2, a3, a4, St.sub (by repeat (first | exact List.Sublist.refl _ | apply List.Sublist.cons_cons | apply List.Sublist.cons)) hz⟩
  clear hR1 hR2 hR3 hR4 hR5 hRa hRb hfar
  refine enter (vs := [.slice (some pa) 2 2, .slice (some pb) 2 2, opV k o v n e]) Try.func34 rfl rfl rfl hw ?_
  clear hw w
  rcases hoi with ⟨rfl, rfl, rfl⟩ | ⟨rfl, rfl, rfl⟩
  all_goals (
    repeat (first | apply hIx 5 | first | (refine sx ?_; try intro _))
    refine Hold.go ?_
    refine JS_R (JS_of_at (fn := Try.f34) (p := [.b, .b, .b, .b, .a]) (JS_weak (all _) (by repeat (first | exact trivial | refine ⟨rfl, ?_⟩ | refine ⟨lookI rfl (by omega), ?_⟩)) (fun w hw => hw.perm (by (repeat (first | exact List.Perm.refl _ | refine List.Perm.cons _ ?_ | refine (List.perm_middle (l₁ := [_])).trans (List.Perm.cons _ ?_) | refine (List.perm_middle (l₁ := [_, _])).trans (List.Perm.cons _ ?_) | refine (List.perm_middle (l₁ := [_, _, _])).trans (List.Perm.cons _ ?_) | refine (List.perm_middle (l₁ := [_, _, _, _])).trans (List.Perm.cons _ ?_) | refine (List.perm_middle (l₁ := [_, _, _, _, _])).trans (List.Perm.cons _ ?_) | refine (List.perm_middle (l₁ := [_, _, _, _, _, _])).trans (List.Perm.cons _ ?_) | refine (List.perm_middle (l₁ := [_, _, _, _, _, _, _])).trans (List.Perm.cons _ ?_) | refine (List.perm_middle (l₁ := [_, _, _, _, _, _, _, _])).trans (List.Perm.cons _ ?_) | refine (List.perm_middle (l₁ := [_, _, _, _, _, _, _, _, _])).trans (List.Perm.cons _ ?_) | refine (List.perm_middle (l₁ := [_, _, _, _, _, _, _, _, _, _])).trans (List.Perm.cons _ ?_) | refine (List.perm_middle (l₁ := [_, _, _, _, _, _, _, _, _, _, _])).trans (List.Perm.cons _ ?_) | refine (List.perm_middle (l₁ := [_, _, _, _, _, _, _, _, _, _, _, _])).trans (List.Perm.cons _ ?_) | refine (List.perm_middle (l₁ := [_, _, _, _, _, _, _, _, _, _, _, _, _])).trans (List.Perm.cons _ ?_)))))) rfl) ?_
    exact weak _)
end
end Go.Proofs.Ytmnilpjgkjkecaa

namespace Go.Proofs.Ytmnilpjgkjkecaa
open Sx Go Go.ChangeShapes Go.WideShapes Go.Deep
set_option linter.unusedVariables false
set_option linter.unusedSimpArgs false
theorem und78 : Try.prog.underlying 78 = some (.struct #[⟨"Kind", 5, 0, false, "", "", 0⟩, ⟨"Who", 4, 1, false, "", "", 1⟩, ⟨"V", 2, 2, false, "", "", 8⟩, ⟨"N", 22, 3, false, "", "", 16⟩, ⟨"Every", 2, 4, false, "", "", 24⟩]) := by kernel_rfl
theorem cells78 : Try.prog.cellsOf 78 = 5 := by kernel_rfl
theorem cellsI5 : Try.prog.cellsOf 5 = 1 := by kernel_rfl
theorem cellsI4 : Try.prog.cellsOf 4 = 1 := by kernel_rfl
theorem cellsI22 : Try.prog.cellsOf 22 = 1 := by kernel_rfl
abbrev Opr := Int × Bool × Int × Int × Int
def opC (p : Opr) : List Value := [.int .u8 p.1, .bool p.2.1, .int .i64 p.2.2.1, .int .u64 p.2.2.2.1, .int .i64 p.2.2.2.2]
abbrev op0 : Opr := (0, false, 0, 0, 0)
def opsF : List Opr → List Value
  | [] => []
  | p :: r => opC p ++ opsF r
theorem opsF_drop : ∀ (L : List Opr) (i : Nat), i < L.length → ((opsF L).drop (i * 5)).take 5 = opC (L.getD i op0)
  | p :: r, 0, _ => by simp [opsF, opC]
  | p :: r, i + 1, h => by
    have h2 := opsF_drop r i (by simpa using h)
    rw [show (i + 1) * 5 = i * 5 + 5 by omega]
    rw [show (opsF (p :: r)).drop (i * 5 + 5) = (opsF r).drop (i * 5) by simp [opsF, opC]]
    rw [h2]; rfl
theorem opsF_inv : ∀ (L : List Opr) (j : Nat) (v : Value), (opsF L)[j]? = some v → ∃ i s, i < L.length ∧ s < 5 ∧ j = i * 5 + s ∧ (opC (L.getD i op0))[s]? = some v
  | [], j, v, h => by simp [opsF] at h
  | p :: r, j, v, h => by
    rcases Nat.lt_or_ge j 5 with h1 | h1
    · refine ⟨0, j, by simp, h1, by omega, ?_⟩
      rw [opsF, List.getElem?_append_left (by simpa [opC] using h1)] at h
      exact h
    · rw [opsF, List.getElem?_append_right (by simpa [opC] using h1)] at h
      obtain ⟨i, s, a, b, c, e⟩ := opsF_inv r _ v h
      have h5 : (opC p).length = 5 := rfl
      exact ⟨i + 1, s, by simpa using a, b, by omega, e⟩
/-- an operation's fields are numbers of their kinds -/
def OKO (L : List Opr) : Prop := ∀ i, i < L.length → (0 ≤ (L.getD i op0).1 ∧ (L.getD i op0).1 < 256) ∧ (-9223372036854775808 ≤ (L.getD i op0).2.2.1 ∧ (L.getD i op0).2.2.1 < 9223372036854775808) ∧ (0 ≤ (L.getD i op0).2.2.2.1 ∧ (L.getD i op0).2.2.2.1 < 18446744073709551616) ∧ (-9223372036854775808 ≤ (L.getD i op0).2.2.2.2 ∧ (L.getD i op0).2.2.2.2 < 9223372036854775808)
set_option maxRecDepth 100000 in
/-- a slice of operations that came in -/
theorem open_ops {H : Type} {enc : TypeId × Value → H} {W : World} {base : Nat} {v : Value} {d : DataW H} {p : List MemPlace} (hval : Value.okWide Try.prog W .any base 71 v) (h : DataW.Trod enc Try.prog W 0 (fun _ => true) true 71 v d p) :
    ∃ (b : Option Addr) (c m : Nat) (L : List Opr), v = .slice b m c ∧ ArgRd W (.slice b m c) m (opsF L) ∧ L.length = m ∧ OKO L := by
  obtain ⟨b, m, c, rfl⟩ := okWide_slice Try.underlying71 hval
  obtain ⟨fuel, hf⟩ := h
  rcases open_slice Try.underlying71 hf with ⟨hc, _⟩ | ⟨a, len, cap, m', k, D, Pl, hc, _, hl, _, hmm, _, hall⟩
  · simp [Value.cells] at hc
    obtain ⟨rfl, rfl, rfl⟩ := hc
    exact ⟨none, 0, 0, [], rfl, argRd_mk ⟨none, 0, rfl, fun _ => rfl, Nat.le_refl _⟩ (fun j v h => by simp [opsF] at h), rfl, fun i hi => by simp at hi⟩
  · simp [Value.cells] at hc
    obtain ⟨rfl, rfl, rfl⟩ := hc
    simp only [if_true] at hmm
    have each : ∀ i, i < m → ∃ q : Opr, (∀ s v, s < 5 → (opC q)[s]? = some v → W.cell? (a.add (i * 5 + s)) = some v) ∧ (0 ≤ q.1 ∧ q.1 < 256) ∧ (-9223372036854775808 ≤ q.2.2.1 ∧ q.2.2.1 < 9223372036854775808) ∧ (0 ≤ q.2.2.2.1 ∧ q.2.2.2.1 < 18446744073709551616) ∧ (-9223372036854775808 ≤ q.2.2.2.2 ∧ q.2.2.2.2 < 9223372036854775808) := by
      intro i hi
      obtain ⟨cs', h1, h2⟩ := hall i (by omega)
      rw [cells78] at h1
      obtain ⟨_, hlen, hcell⟩ := World.cells?_some h1
      obtain ⟨xs, k', hk, hxy, _, hxl, hf⟩ := DataW.trod_struct und78 h2
      match xs, hxl, cs', hlen with
      | [y0, y1, y2, y3, y4], _, [v0, v1, v2, v3, v4], _ =>
        have g0 := hf 0 ⟨"Kind", 5, 0, false, "", "", 0⟩ rfl
        have g1 := hf 1 ⟨"Who", 4, 1, false, "", "", 1⟩ rfl
        have g2 := hf 2 ⟨"V", 2, 2, false, "", "", 8⟩ rfl
        have g3 := hf 3 ⟨"N", 22, 3, false, "", "", 16⟩ rfl
        have g4 := hf 4 ⟨"Every", 2, 4, false, "", "", 24⟩ rfl
        dsimp only at g0 g1 g2 g3 g4
        rw [cellsI5] at g0
        rw [cellsI4] at g1
        rw [cellsI2] at g2 g4
        rw [cellsI22] at g3
        obtain ⟨n0, e0, _, f0⟩ := DataW.trod_int Try.underlying5 (by simpa using g0)
        obtain ⟨n1, e1, _⟩ := DataW.trod_bool Try.underlying4 (by simpa using g1)
        obtain ⟨n2, e2, _, f2⟩ := DataW.trod_int Try.underlying2 (by simpa using g2)
        obtain ⟨n3, e3, _, f3⟩ := DataW.trod_int Try.underlying22 (by simpa using g3)
        obtain ⟨n4, e4, _, f4⟩ := DataW.trod_int Try.underlying2 (by simpa using g4)
        simp only [List.cons.injEq, and_true] at e0 e1 e2 e3 e4
        subst e0 e1 e2 e3 e4
        refine ⟨(n0, n1, n2, n3, n4), fun s v hs hv => ?_, wfu8 f0, wf64 f2, wfu64 f3, wf64 f4⟩
        have := hcell s hs
        rw [Sx.add_add] at this
        rw [this]
        exact hv
    obtain ⟨q, hq⟩ := choose_lt each
    have hget : ∀ i, i < m → ((List.range m).map q).getD i op0 = q i := fun i hi => by simp [hi]
    refine ⟨some a, c, m, (List.range m).map q, rfl, argRd_mk ⟨some a, c, rfl, (fun h => by cases h), hl⟩ (fun j v hv => ?_), by simp, fun i hi => ?_⟩
    · refine ⟨a.add j, cellPtr_eq a m c j, ?_⟩
      have hcell : W.cell? (a.add j) = some v := by
        obtain ⟨i, s, hi, hs, rfl, hv2⟩ := opsF_inv _ j v hv
        have hi' : i < m := by simpa using hi
        rw [hget i hi'] at hv2
        exact (hq i hi').1 s v hs hv2
      exact ⟨by simpa using cell_lt hcell, hcell⟩
    · have hi' : i < m := by simpa using hi
      rw [hget i hi']
      exact (hq i hi').2
end Go.Proofs.Ytmnilpjgkjkecaa

namespace Go.Proofs.Ytmnilpjgkjkecaa
open Sx Go Hd
set_option linter.unusedVariables false
set_option linter.unusedSimpArgs false
/-- a histogram and the document's -/
structure Sd where
  bu : Nat
  T : List (Int × Int)
  es : List MapEntry
  c : Nat
  q : Option Addr
  d : Nat
structure Sd.ok (u g : Nat) (K : List Int) (s : Sd) : Prop where
  oks : OKS (s.bu, s.T)
  ksi : KSI u g s.T
  hm : HM s.es s.c s.T
  key : ∀ x ∈ s.T, x.1 ∈ K
theorem Sd.ok.len {u g : Nat} {K : List Int} {s : Sd} (h : s.ok u g K) : s.T.length ≤ K.length := srt_len h.oks.gt.srt h.key
theorem Sd.ok.more {u g : Nat} {K : List Int} {s : Sd} (h : s.ok u g K) (ks : List Int) : s.ok u g (K ++ ks) := ⟨h.oks, h.ksi, h.hm, fun x hx => List.mem_append_left _ (h.key x hx)⟩
theorem newk_in {A B C : List (Int × Int)} {K : List Int} (hA : ∀ x ∈ A, x.1 ∈ K) (hB : ∀ x ∈ B, x.1 ∈ K) (h : NEWK A B C) : ∃ ks : List Int, ks.length ≤ 301 ∧ ∀ x ∈ C, x.1 ∈ K ++ ks := by
  obtain ⟨ks, h1, h2⟩ := h
  refine ⟨ks, h1, fun x hx => ?_⟩
  rcases h2 x hx with ⟨y, hy, e⟩ | ⟨y, hy, e⟩ | h3
  · exact List.mem_append_left _ (e ▸ hA y hy)
  · exact List.mem_append_left _ (e ▸ hB y hy)
  · exact List.mem_append_right _ h3
section
variable {w0 : World} {lo hi dg : Int} {u g : Nat}
/-- the two laid -/
abbrev sdP (h1 m1 b1 r1 h2 m2 b2 r2 : Nat) (gr : Bool) (lo hi dg : Int) (u g : Nat) (A B : Sd) (R : List Asn) : List Asn :=
  blk h1 (hc m1 b1 gr A.bu (sw A.T)) :: mapL b1 A.es A.c :: blk r1 (rc lo hi dg u g gr A.bu (.slice A.q A.T.length A.d)) :: vec 58 2 (.slice A.q A.T.length A.d) A.T.length (flat A.T) ::
  blk h2 (hc m2 b2 gr B.bu (sw B.T)) :: mapL b2 B.es B.c :: blk r2 (rc lo hi dg u g gr B.bu (.slice B.q B.T.length B.d)) :: vec 58 2 (.slice B.q B.T.length B.d) B.T.length (flat B.T) :: R
set_option maxRecDepth 10000 in
set_option maxHeartbeats 8000000 in
theorem DoBoth_c (pa pb : Addr) (h1 m1 b1 r1 h2 m2 b2 r2 : Nat) (gr o : Bool) (A B : Sd) (K : List Int) (R : List Asn) (k v n e : Int)
    (hRa : Rd w0 R (.slice (some pa) 2 2) 2 [.pointer (some ⟨h1, 0, none⟩), .pointer (some ⟨h2, 0, none⟩)]) (hRb : Rd w0 R (.slice (some pb) 2 2) 2 [.pointer (some ⟨r1, 0, none⟩), .pointer (some ⟨r2, 0, none⟩)]) (hR1 : blk m1 (mc lo hi dg u g) ∈ R) (hR2 : blk m2 (mc lo hi dg u g) ∈ R)
    (hug : u + g ≤ 62) (hg : 1 ≤ g ∧ g ≤ 18) (oA1 : A.ok u g K) (oB1 : B.ok u g K) (hK : K.length ≤ 50000)
    (hk : 0 ≤ k ∧ k < 256) (hv : -9223372036854775808 ≤ v ∧ v < 9223372036854775808) (hn : 0 ≤ n ∧ n < 18446744073709551616) (he : -9223372036854775808 ≤ e ∧ e < 9223372036854775808) (hfar : k % 7 = 4 → lateN v e ≤ 300 ∨ 4096 < lateN v e) (w : World)
    (hw : St w0 (sdP h1 m1 b1 r1 h2 m2 b2 r2 gr lo hi dg u g A B R) w) :
    Calls Try.prog 34 #[.slice (some pa) 2 2, .slice (some pb) 2 2, opV k o v n e] w fun x w' => x = .returned (.bool true) ∧ ∃ (A' B' : Sd) (K' : List Int), K'.length ≤ K.length + 301 ∧ A'.ok u g K' ∧ B'.ok u g K' ∧ St w0 (sdP h1 m1 b1 r1 h2 m2 b2 r2 gr lo hi dg u g A' B' R) w' := by
  have lA := oA1.len
  have lB := oB1.len
  cases o with
  | false =>
    refine (Do_c pa pb _ _ 0 1 h1 m1 b1 r1 h2 m2 b2 r2 gr false A.bu B.bu A.T B.T A.es B.es A.c B.c A.q B.q A.d B.d
      (blk h2 (hc m2 b2 gr B.bu (sw B.T)) :: mapL b2 B.es B.c :: blk r2 (rc lo hi dg u g gr B.bu (.slice B.q B.T.length B.d)) :: vec 58 2 (.slice B.q B.T.length B.d) B.T.length (flat B.T) :: R) k v n e (.inl ⟨rfl, rfl, rfl⟩) (Rd_weak hRa fun w hw => St.sub (by repeat (first | exact List.Sublist.refl _ | apply List.Sublist.cons_cons | apply List.Sublist.cons)) hw) (Rd_weak hRb fun w hw => St.sub (by repeat (first | exact List.Sublist.refl _ | apply List.Sublist.cons_cons | apply List.Sublist.cons)) hw) rfl rfl rfl rfl
      (List.Mem.tail _ (List.Mem.tail _ (List.Mem.tail _ (List.Mem.tail _ hR1)))) hug hg oA1.oks oA1.ksi oA1.hm (by omega) oB1.oks oB1.ksi oB1.hm (by omega) (List.Mem.head _) (List.Mem.tail _ (List.Mem.head _)) (List.Mem.tail _ (List.Mem.tail _ (List.Mem.head _)))
      (vec_rd (List.Mem.tail _ (List.Mem.tail _ (List.Mem.tail _ (List.Mem.head _))))) (List.Mem.tail _ (List.Mem.tail _ (List.Mem.tail _ (List.Mem.tail _ hR2)))) hk hv hn he hfar w hw).mono ?_
    rintro x w' ⟨hx, bu, T, es, c, q, d, a1, a2, a3, a4, hz⟩
    obtain ⟨ks, s1, s2⟩ := newk_in oA1.key oB1.key a4
    exact ⟨hx, ⟨bu, T, es, c, q, d⟩, B, K ++ ks, by rw [List.length_append]; omega, ⟨a1, a2, a3, s2⟩, oB1.more ks, hz⟩
  | true =>
    refine (Do_c pa pb _ _ 1 0 h2 m2 b2 r2 h1 m1 b1 r1 gr true B.bu A.bu B.T A.T B.es A.es B.c A.c B.q A.q B.d A.d
      (blk h1 (hc m1 b1 gr A.bu (sw A.T)) :: mapL b1 A.es A.c :: blk r1 (rc lo hi dg u g gr A.bu (.slice A.q A.T.length A.d)) :: vec 58 2 (.slice A.q A.T.length A.d) A.T.length (flat A.T) :: R) k v n e (.inr ⟨rfl, rfl, rfl⟩) (Rd_weak hRa fun w hw => St.sub (by repeat (first | exact List.Sublist.refl _ | apply List.Sublist.cons_cons | apply List.Sublist.cons)) hw) (Rd_weak hRb fun w hw => St.sub (by repeat (first | exact List.Sublist.refl _ | apply List.Sublist.cons_cons | apply List.Sublist.cons)) hw) rfl rfl rfl rfl
      (List.Mem.tail _ (List.Mem.tail _ (List.Mem.tail _ (List.Mem.tail _ hR2)))) hug hg oB1.oks oB1.ksi oB1.hm (by omega) oA1.oks oA1.ksi oA1.hm (by omega) (List.Mem.head _) (List.Mem.tail _ (List.Mem.head _)) (List.Mem.tail _ (List.Mem.tail _ (List.Mem.head _)))
      (vec_rd (List.Mem.tail _ (List.Mem.tail _ (List.Mem.tail _ (List.Mem.head _))))) (List.Mem.tail _ (List.Mem.tail _ (List.Mem.tail _ (List.Mem.tail _ hR1)))) hk hv hn he hfar w (hw.perm (by (repeat (first | exact List.Perm.refl _ | refine List.Perm.cons _ ?_ | refine (List.perm_middle (l₁ := [_])).trans (List.Perm.cons _ ?_) | refine (List.perm_middle (l₁ := [_, _])).trans (List.Perm.cons _ ?_) | refine (List.perm_middle (l₁ := [_, _, _])).trans (List.Perm.cons _ ?_) | refine (List.perm_middle (l₁ := [_, _, _, _])).trans (List.Perm.cons _ ?_) | refine (List.perm_middle (l₁ := [_, _, _, _, _])).trans (List.Perm.cons _ ?_) | refine (List.perm_middle (l₁ := [_, _, _, _, _, _])).trans (List.Perm.cons _ ?_) | refine (List.perm_middle (l₁ := [_, _, _, _, _, _, _])).trans (List.Perm.cons _ ?_) | refine (List.perm_middle (l₁ := [_, _, _, _, _, _, _, _])).trans (List.Perm.cons _ ?_) | refine (List.perm_middle (l₁ := [_, _, _, _, _, _, _, _, _])).trans (List.Perm.cons _ ?_) | refine (List.perm_middle (l₁ := [_, _, _, _, _, _, _, _, _, _])).trans (List.Perm.cons _ ?_) | refine (List.perm_middle (l₁ := [_, _, _, _, _, _, _, _, _, _, _])).trans (List.Perm.cons _ ?_) | refine (List.perm_middle (l₁ := [_, _, _, _, _, _, _, _, _, _, _, _])).trans (List.Perm.cons _ ?_) | refine (List.perm_middle (l₁ := [_, _, _, _, _, _, _, _, _, _, _, _, _])).trans (List.Perm.cons _ ?_)))))).mono ?_
    rintro x w' ⟨hx, bu, T, es, c, q, d, a1, a2, a3, a4, hz⟩
    obtain ⟨ks, s1, s2⟩ := newk_in oB1.key oA1.key a4
    exact ⟨hx, A, ⟨bu, T, es, c, q, d⟩, K ++ ks, by rw [List.length_append]; omega, oA1.more ks, ⟨a1, a2, a3, s2⟩, hz.perm (by (repeat (first | exact List.Perm.refl _ | refine List.Perm.cons _ ?_ | refine (List.perm_middle (l₁ := [_])).trans (List.Perm.cons _ ?_) | refine (List.perm_middle (l₁ := [_, _])).trans (List.Perm.cons _ ?_) | refine (List.perm_middle (l₁ := [_, _, _])).trans (List.Perm.cons _ ?_) | refine (List.perm_middle (l₁ := [_, _, _, _])).trans (List.Perm.cons _ ?_) | refine (List.perm_middle (l₁ := [_, _, _, _, _])).trans (List.Perm.cons _ ?_) | refine (List.perm_middle (l₁ := [_, _, _, _, _, _])).trans (List.Perm.cons _ ?_) | refine (List.perm_middle (l₁ := [_, _, _, _, _, _, _])).trans (List.Perm.cons _ ?_) | refine (List.perm_middle (l₁ := [_, _, _, _, _, _, _, _])).trans (List.Perm.cons _ ?_) | refine (List.perm_middle (l₁ := [_, _, _, _, _, _, _, _, _])).trans (List.Perm.cons _ ?_) | refine (List.perm_middle (l₁ := [_, _, _, _, _, _, _, _, _, _])).trans (List.Perm.cons _ ?_) | refine (List.perm_middle (l₁ := [_, _, _, _, _, _, _, _, _, _, _])).trans (List.Perm.cons _ ?_) | refine (List.perm_middle (l₁ := [_, _, _, _, _, _, _, _, _, _, _, _])).trans (List.Perm.cons _ ?_) | refine (List.perm_middle (l₁ := [_, _, _, _, _, _, _, _, _, _, _, _, _])).trans (List.Perm.cons _ ?_))))⟩
end
end Go.Proofs.Ytmnilpjgkjkecaa

namespace Go.Proofs.Ytmnilpjgkjkecaa
open Sx Go Hd
set_option linter.unusedVariables false
set_option linter.unusedSimpArgs false
set_option maxRecDepth 10000 in
set_option maxHeartbeats 8000000 in
theorem HdrPlays_l (a0 a1 a2 : Int) (gr : Bool) (lp : Option Addr) (lc lm : Nat) (L : List Opr) (w0 : World) (h0 : 0 ≤ a0 ∧ a0 < 18446744073709551616) (h1 : 0 ≤ a1 ∧ a1 < 256) (h2 : 0 ≤ a2 ∧ a2 < 18446744073709551616)
    (hL : ArgRd w0 (.slice lp lm lc) lm (opsF L)) (lL : L.length = lm) (kL : OKO L) :
    Calls Try.prog 8 #[.int .u64 a0, .int .u8 a1, .int .u64 a2, .bool gr, .slice lp lm lc] w0 fun e w' => e = .returned (.bool true) ∧ RowKit.Below w0.heap.size w0 w' := by
  subst lL
  have hs := law_sh a0 a1 a2 h0 h1 h2.1
  have hl1 : 1 ≤ lawLo a0 ∧ lawLo a0 ≤ 100000 := by unfold lawLo; omega
  have hd1 : 1 ≤ lawDg a1 ∧ lawDg a1 ≤ 5 := by unfold lawDg; omega
  have hi0 : 0 ≤ lawHi a0 a2 := by unfold lawHi; omega
  have hhi : lawHi a0 a2 < 9223372036854775808 := by unfold lawHi; omega
  have hSh := fun {H} w hw => Shape17_c (w0 := w0) (H := H) a0 a1 a2 h0 h1 h2 w hw
  refine enter (vs := [.int .u64 a0, .int .u8 a1, .int .u64 a2, .bool gr, .slice lp L.length lc]) Try.func8 rfl rfl rfl (St.start w0) ?_
  generalize lawLo a0 = lo at *
  generalize lawHi a0 a2 = hi at *
  generalize lawDg a1 = dg at *
  have hug := hs.2
  have hgd := gOf_bd (dg := dg) hd1
  have hg' : 1 ≤ gOf dg ∧ gOf dg ≤ 18 := by omega
  have hb0 : 1 + bkt (uOf lo) (gOf dg) hi.toNat ≤ 64 := by
    have := bkt_63 (u := uOf lo) (g := gOf dg) (v := hi.toNat) (by omega) (by omega)
    omega
  repeat (first | (refine sx ?_; try intro _))
  refine JO_call Try.call9 rfl rfl fun w hw => (alive18_c w hw).mono ?_
  rintro e w' ⟨rfl, hw'⟩
  (refine ⟨_, rfl, _, hw', ?_⟩; clear hw' hw w w')
  repeat (first | (refine sx ?_; try intro _))
  refine JO_call Try.call10 rfl rfl fun w hw => (hSh w hw).mono ?_
  rintro e w' ⟨rfl, hw'⟩
  (refine ⟨_, rfl, _, hw', ?_⟩; clear hw' hw w w')
  repeat (first | (refine sx ?_; try intro _))
  refine JO_call Try.call32 rfl rfl fun w hw => (Pair_c lo hi dg gr hs hhi w hw).mono ?_
  rintro e w' ⟨pa, pb, h1, m1, b1, h2, m2, b2, ra, rb, rfl, hw'⟩
  refine ⟨_, rfl, pA pa pb h1 m1 b1 h2 m2 b2 ra rb lo hi dg (uOf lo) (gOf dg) gr (1 + bkt (uOf lo) (gOf dg) hi.toNat), St.sub (by repeat (first | exact List.Sublist.refl _ | apply List.Sublist.cons_cons | apply List.Sublist.cons)) hw', ?_⟩
  clear hw' w'
  generalize uOf lo = u at *
  generalize gOf dg = g at *
  generalize 1 + bkt u g hi.toNat = bu at *
  repeat (first | (apply gJR; first | (refine sx ?_; try intro _)) | (apply gJO; first | (refine sx ?_; try intro _)) | (apply gJS; refine JS_condF rfl ?_) | apply JS_skip | apply JS_seq | apply JS_region)
  refine JS_block ?_
  generalize hR : ([blk m1 (mc lo hi dg u g), blk m2 (mc lo hi dg u g), vec 29 1 (.slice (some pa) 2 2) 2 [.pointer (some ⟨h1, 0, none⟩), .pointer (some ⟨h2, 0, none⟩)], vec 30 1 (.slice (some pb) 2 2) 2 [.pointer (some ⟨ra, 0, none⟩), .pointer (some ⟨rb, 0, none⟩)]] : List Asn) = R
  have hR1 : blk m1 (mc lo hi dg u g) ∈ R := hR ▸ List.Mem.head _
  have hR2 : blk m2 (mc lo hi dg u g) ∈ R := hR ▸ List.Mem.tail _ (List.Mem.head _)
  have hRa : Rd w0 R (.slice (some pa) 2 2) 2 [.pointer (some ⟨h1, 0, none⟩), .pointer (some ⟨h2, 0, none⟩)] := hR ▸ vec_rd (List.Mem.tail _ (List.Mem.tail _ (List.Mem.head _)))
  have hRb : Rd w0 R (.slice (some pb) 2 2) 2 [.pointer (some ⟨ra, 0, none⟩), .pointer (some ⟨rb, 0, none⟩)] := hR ▸ vec_rd (List.Mem.tail _ (List.Mem.tail _ (List.Mem.tail _ (List.Mem.head _))))
  have hRl : Rd w0 R (.slice lp L.length lc) L.length (opsF L) := hL.rd _
  refine JS_loop3 (fun (i : Nat) (A B : Sd) => [(4, .slice lp L.length lc), (11, .slice (some pa) 2 2), (12, .slice (some pb) 2 2), (13, .int .i64 i)])
    (fun i A B => sdP h1 m1 b1 ra h2 m2 b2 rb gr lo hi dg u g A B R) (fun i A B => i ≤ 40 ∧ i ≤ L.length ∧ ∃ K : List Int, K.length ≤ 301 * i ∧ A.ok u g K ∧ B.ok u g K) (fun i _ _ => 40 - i) 0 ⟨bu, [], [], 0, none, 0⟩ ⟨bu, [], [], 0, none, 0⟩
    ⟨by omega, by omega, [], by simp, ⟨⟨hb0, GT.nil⟩, (fun x hx => by simp at hx), HM.nil, fun x hx => by simp at hx⟩, ⟨⟨hb0, GT.nil⟩, (fun x hx => by simp at hx), HM.nil, fun x hx => by simp at hx⟩⟩ (by repeat (first | exact trivial | refine ⟨rfl, ?_⟩ | refine ⟨lookI rfl (by omega), ?_⟩)) (fun w hw => ?_) ?_
  · rw [← hR]
    exact (St.nilvec (e := 58) (sz := 2) (base := none) (St.nilvec (e := 58) (sz := 2) (base := none) hw)).perm (by (try simp only [sw, List.length_nil, flat]); (repeat (first | exact List.Perm.refl _ | refine List.Perm.cons _ ?_ | refine (List.perm_middle (l₁ := [_])).trans (List.Perm.cons _ ?_) | refine (List.perm_middle (l₁ := [_, _])).trans (List.Perm.cons _ ?_) | refine (List.perm_middle (l₁ := [_, _, _])).trans (List.Perm.cons _ ?_) | refine (List.perm_middle (l₁ := [_, _, _, _])).trans (List.Perm.cons _ ?_) | refine (List.perm_middle (l₁ := [_, _, _, _, _])).trans (List.Perm.cons _ ?_) | refine (List.perm_middle (l₁ := [_, _, _, _, _, _])).trans (List.Perm.cons _ ?_) | refine (List.perm_middle (l₁ := [_, _, _, _, _, _, _])).trans (List.Perm.cons _ ?_) | refine (List.perm_middle (l₁ := [_, _, _, _, _, _, _, _])).trans (List.Perm.cons _ ?_) | refine (List.perm_middle (l₁ := [_, _, _, _, _, _, _, _, _])).trans (List.Perm.cons _ ?_) | refine (List.perm_middle (l₁ := [_, _, _, _, _, _, _, _, _, _])).trans (List.Perm.cons _ ?_) | refine (List.perm_middle (l₁ := [_, _, _, _, _, _, _, _, _, _, _])).trans (List.Perm.cons _ ?_) | refine (List.perm_middle (l₁ := [_, _, _, _, _, _, _, _, _, _, _, _])).trans (List.Perm.cons _ ?_) | refine (List.perm_middle (l₁ := [_, _, _, _, _, _, _, _, _, _, _, _, _])).trans (List.Perm.cons _ ?_))))
  intro i A B ⟨hi1, hi2, K, hK, oA1, oB1⟩ again
  by_cases hlt : i < L.length ∧ i < 40
  · obtain ⟨hlt1, hlt2⟩ := hlt
    have hat := opsF_drop L i hlt1
    obtain ⟨kk, kv, kn, ke⟩ := kL i hlt1
    generalize L.getD i op0 = op at *
    obtain ⟨k, o, v, n, ev⟩ := op
    dsimp only at kk kv kn ke
    have hlA := oA1.len
    have hlB := oB1.len
    repeat (first | (apply gJO; first | refine JO_v (oL (V_loadCA (tb := tb) rfl (hL.rd _) rfl rfl rfl (by decide) hat rfl)) ?_) | first | (refine sx ?_; try intro _))
    refine JO_call Try.call33 rfl rfl fun w hw => (far_c k o v n ev kk kv ke w hw).mono ?_
    rintro e w' ⟨b, rfl, hfar, hw'⟩
    (refine ⟨_, rfl, _, hw', ?_⟩; clear hw' hw w w')
    cases b with
    | true =>
      repeat (first | (refine sx ?_; try intro _))
      exact JS_again3 again (i + 1) A B ⟨by omega, by omega, K, by omega, oA1, oB1⟩ (by omega) (by repeat (first | exact trivial | refine ⟨rfl, ?_⟩ | refine ⟨lookI rfl (by omega), ?_⟩)) (fun w hw => hw)
    | false =>
      repeat (first | apply hIx 10 | first | (refine sx ?_; try intro _))
      refine Hold.go ?_
      refine JS_seq ?_
      refine JS_order2 R [0, 1, 2, 3, 4, 5, 6, 7, 8, 9, 10, 11, 12, 13, 14, 15, 16, 17, 18, 19, 20, 21, 22, 23, 24, 25, 26, 27] [] (fun w hw => St.sub (by repeat (first | exact List.Sublist.refl _ | apply List.Sublist.cons_cons | apply List.Sublist.cons)) hw) (Picks.cons rfl (Picks.cons rfl (Picks.cons rfl (Picks.cons rfl (Picks.cons rfl (Picks.cons rfl (Picks.cons rfl (Picks.cons rfl (Picks.cons rfl (Picks.cons rfl (Picks.cons rfl (Picks.cons rfl (Picks.cons rfl (Picks.cons rfl (Picks.cons rfl (Picks.cons rfl (Picks.cons rfl (Picks.cons rfl (Picks.cons rfl (Picks.cons rfl (Picks.cons rfl (Picks.cons rfl (Picks.cons rfl (Picks.cons rfl (Picks.cons rfl (Picks.cons rfl (Picks.cons rfl (Picks.cons rfl (Picks.nil))))))))))))))))))))))))))))) (by kernel_rfl) (by kernel_rfl) rfl (by decide +kernel) ?_
      repeat ((first | (apply gQR2; first | apply QR2_un | apply QR2_nil | refine QR2_yes rfl rfl ?_ | refine QR2_no rfl rfl rfl rfl ?_ | refine QR2_noU rfl rfl rfl ?_) | (apply gQO2; first | refine QO2_v rfl (oL (V_loadCA (tb := tb) rfl hRl rfl rfl rfl (by decide) hat rfl)) ?_ | refine QO2_v rfl (oL (V_loadC (tb := tb) rfl hRa rfl rfl rfl rfl)) ?_ | refine QO2_v rfl (oL (V_loadC (tb := tb) rfl hRb rfl rfl rfl rfl)) ?_ | refine aQ2 ?_)))
      refine QO2_callE Try.call34 rfl rfl fun w hw => (DoBoth_c pa pb h1 m1 b1 ra h2 m2 b2 rb gr o A B K R k v n ev hRa hRb hR1 hR2 hug hg' oA1 oB1 (by omega) kk kv kn ke (hfar rfl) w hw).mono ?_
      rintro e w' ⟨rfl, A', B', K', hK', oA2, oB2, hw'⟩
      have lA2 := oA2.len
      have lB2 := oB2.len
      (refine .inl ⟨_, rfl, R, _, hw', fun w hw => St.sub (by repeat (first | exact List.Sublist.refl _ | apply List.Sublist.cons_cons | apply List.Sublist.cons)) hw, .inl fun w hw => hw, ?_⟩; clear hw' hw w w')
      repeat ((first | (apply gQR2; first | apply QR2_un | apply QR2_nil | refine QR2_yes rfl rfl ?_ | refine QR2_no rfl rfl rfl rfl ?_ | refine QR2_noU rfl rfl rfl ?_) | (apply gQO2; first | refine QO2_v rfl (oL (V_loadCA (tb := tb) rfl hRl rfl rfl rfl (by decide) hat rfl)) ?_ | refine QO2_v rfl (oL (V_loadC (tb := tb) rfl hRa rfl rfl rfl rfl)) ?_ | refine QO2_v rfl (oL (V_loadC (tb := tb) rfl hRb rfl rfl rfl rfl)) ?_ | refine aQ2 ?_)))
      refine QO2_callE Try.call20 rfl rfl fun w hw => (Same18_c h1 m1 b1 ra gr A'.bu A'.es A'.c A'.T A'.q A'.d (List.Mem.head _) (List.Mem.tail _ (List.Mem.head _)) (List.Mem.tail _ (List.Mem.tail _ (List.Mem.tail _ (List.Mem.tail _ (List.Mem.tail _ (List.Mem.tail _ (List.Mem.tail _ (List.Mem.tail _ hR1)))))))) (List.Mem.tail _ (List.Mem.tail _ (List.Mem.head _))) (vec_rd (List.Mem.tail _ (List.Mem.tail _ (List.Mem.tail _ (List.Mem.head _))))) oA2.hm oA2.oks.gt oA2.ksi hug hg' oA2.oks.bu ⟨by omega, hhi⟩ (by omega) w hw).mono ?_
      rintro e w' ⟨rfl, hw'⟩
      (refine .inl ⟨_, rfl, R, _, hw', fun w hw => St.sub (by repeat (first | exact List.Sublist.refl _ | apply List.Sublist.cons_cons | apply List.Sublist.cons)) hw, .inl fun w hw => hw, ?_⟩; clear hw' hw w w')
      repeat ((first | (apply gQR2; first | apply QR2_un | apply QR2_nil | refine QR2_yes rfl rfl ?_ | refine QR2_no rfl rfl rfl rfl ?_ | refine QR2_noU rfl rfl rfl ?_) | (apply gQO2; first | refine QO2_v rfl (oL (V_loadCA (tb := tb) rfl hRl rfl rfl rfl (by decide) hat rfl)) ?_ | refine QO2_v rfl (oL (V_loadC (tb := tb) rfl hRa rfl rfl rfl rfl)) ?_ | refine QO2_v rfl (oL (V_loadC (tb := tb) rfl hRb rfl rfl rfl rfl)) ?_ | refine aQ2 ?_)))
      refine QO2_callE Try.call20 rfl rfl fun w hw => (Same18_c h2 m2 b2 rb gr B'.bu B'.es B'.c B'.T B'.q B'.d (List.Mem.tail _ (List.Mem.tail _ (List.Mem.tail _ (List.Mem.tail _ (List.Mem.head _))))) (List.Mem.tail _ (List.Mem.tail _ (List.Mem.tail _ (List.Mem.tail _ (List.Mem.tail _ (List.Mem.head _)))))) (List.Mem.tail _ (List.Mem.tail _ (List.Mem.tail _ (List.Mem.tail _ (List.Mem.tail _ (List.Mem.tail _ (List.Mem.tail _ (List.Mem.tail _ hR2)))))))) (List.Mem.tail _ (List.Mem.tail _ (List.Mem.tail _ (List.Mem.tail _ (List.Mem.tail _ (List.Mem.tail _ (List.Mem.head _))))))) (vec_rd (List.Mem.tail _ (List.Mem.tail _ (List.Mem.tail _ (List.Mem.tail _ (List.Mem.tail _ (List.Mem.tail _ (List.Mem.tail _ (List.Mem.head _))))))))) oB2.hm oB2.oks.gt oB2.ksi hug hg' oB2.oks.bu ⟨by omega, hhi⟩ (by omega) w hw).mono ?_
      rintro e w' ⟨rfl, hw'⟩
      (refine .inl ⟨_, rfl, R, _, hw', fun w hw => St.sub (by repeat (first | exact List.Sublist.refl _ | apply List.Sublist.cons_cons | apply List.Sublist.cons)) hw, .inl fun w hw => hw, ?_⟩; clear hw' hw w w')
      repeat ((first | (apply gQR2; first | apply QR2_un | apply QR2_nil | refine QR2_yes rfl rfl ?_ | refine QR2_no rfl rfl rfl rfl ?_ | refine QR2_noU rfl rfl rfl ?_) | (apply gQO2; first | refine QO2_v rfl (oL (V_loadCA (tb := tb) rfl hRl rfl rfl rfl (by decide) hat rfl)) ?_ | refine QO2_v rfl (oL (V_loadC (tb := tb) rfl hRa rfl rfl rfl rfl)) ?_ | refine QO2_v rfl (oL (V_loadC (tb := tb) rfl hRb rfl rfl rfl rfl)) ?_ | refine aQ2 ?_)))
      repeat (first | (refine sx ?_; try intro _))
      exact JS_again3 again (i + 1) A' B' ⟨by omega, by omega, K', by omega, oA2, oB2⟩ (by omega) (by repeat (first | exact trivial | refine ⟨rfl, ?_⟩ | refine ⟨lookI rfl (by omega), ?_⟩)) (fun w hw => hw)
  · clear again
    by_cases hil : i < L.length
    all_goals (
      repeat (first | (apply gJO; first | refine JO_v (oL (V_loadC (tb := tb) rfl (Rd_weak hRa fun w hw => St.sub (by repeat (first | exact List.Sublist.refl _ | apply List.Sublist.cons_cons | apply List.Sublist.cons)) hw) rfl rfl rfl rfl)) ?_) | first | (refine sx ?_; try intro _))
      refine JO_call Try.call21 rfl rfl fun w hw => (HTakeN_c h1 w hw).mono ?_
      rintro e w' ⟨rfl, hw'⟩
      (refine ⟨_, rfl, _, hw', ?_⟩; clear hw' hw w w')
      repeat (first | (refine sx ?_; try intro _))
      exact JS_ret Try.func8 rfl rfl fun w hw => ⟨rfl, hw.grown⟩)
end Go.Proofs.Ytmnilpjgkjkecaa
