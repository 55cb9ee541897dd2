import Derived.Test.YtbiocgenbgbfpaaGreatN4
namespace Go.Proofs.YtbiocgenbgbfpaaGreat
open Sx Go
set_option linter.unusedVariables false
set_option linter.unusedSimpArgs false
attribute [local irreducible] syA fc tk cds grp cw pack descB rv tkv tkS wrS
section
variable {w0 : World} {H : List Asn}
def xT (T : List Tk) (i j s : Nat) (k : Nat) : Int := ((cX (T.take i) k + (if k = 256 then 1 else 0) + (if 1 ≤ j ∧ s = k then 1 else 0) : Nat) : Int)
def yT (T : List Tk) (i j s : Nat) (k : Nat) : Int := ((cY (T.take i) k + (if 2 ≤ j ∧ s = k then 1 else 0) : Nat) : Int)
set_option maxRecDepth 10000 in
set_option maxHeartbeats 8000000 in
theorem Desc1_c (T : List Tk) (hT : T.length ≤ 100000) (hTok : ∀ t ∈ T, TOK t) (qt : Option Addr) (dt : Nat) (px py : Option Addr) (cx cy : Nat) :
    JS Tryz.prog 6 Tryz.f6.ntmps (DscR w0 H (dscT T)) [] w0 (todo Tryz.f6 [.b, .b, .b]) [(3, .slice qt T.length dt), (4, .slice px 286 cx), (5, .slice py 30 cy)]
      (vec 38 1 (.slice px 286 cx) 286 (ints .u64 (tab 286 fun _ => 0)) :: vec 38 1 (.slice py 30 cy) 30 (ints .u64 (tab 30 fun _ => 0)) :: vec 44 3 (.slice qt T.length dt) T.length (tkv T) :: H) := by
  have hl0 := tab_len 286 fun _ => 0
  refine JS_at rfl ?_
  repeat (first | (apply gJR; first | (refine sx ?_; try intro _)) | (apply gJO; first | (refine sx ?_; try intro _)) | apply JS_seq | apply JS_region)
  rw [tab_set]
  refine JS_block ?_
  refine JS_loop1 (fun (i : Nat) => [(3, .slice qt T.length dt), (4, .slice px 286 cx), (5, .slice py 30 cy), (24, .slice qt T.length dt), (25, .int .i64 T.length), (26, .int .i64 i)])
    (fun i => vec 38 1 (.slice px 286 cx) 286 (ints .u64 (tab 286 (xT T i 0 0))) :: vec 38 1 (.slice py 30 cy) 30 (ints .u64 (tab 30 (yT T i 0 0))) :: vec 44 3 (.slice qt T.length dt) T.length (tkv T) :: H) (fun i => i ≤ T.length) (fun i => T.length - i) 0 (Nat.zero_le _) (by repeat (first | exact trivial | refine ⟨rfl, ?_⟩ | refine ⟨lookI rfl (by omega), ?_⟩))
    (fun w hw => by
      have e1 : tab 286 (xT T 0 0 0) = tab 286 fun j => if j = 256 then 1 else 0 := tab_congr fun k _ => by
        unfold xT
        rw [show cX (T.take 0) k = 0 from rfl, if_neg (show ¬ (1 ≤ 0 ∧ 0 = k) by omega)]
        split <;> rfl
      have e2 : tab 30 (yT T 0 0 0) = tab 30 fun _ => 0 := tab_congr fun k _ => by
        unfold yT
        rw [show cY (T.take 0) k = 0 from rfl, if_neg (show ¬ (2 ≤ 0 ∧ 0 = k) by omega)]; rfl
      rw [e1, e2]
      exact hw) ?_
  intro i hi again
  by_cases hil : i < T.length
  · have hat := tkv_at hil
    have hti := hTok _ (List.getElem_mem hil)
    have hsb := splitR_bd hti
    have hsl := splitR_len T[i]
    have htake : T.take (i + 1) = T.take i ++ [T[i]] := by rw [List.take_add_one, List.getElem?_eq_getElem hil]; rfl
    have hx1 : ∀ k, cX (T.take (i + 1)) k = cX (T.take i) k + if tsy1 T[i] = k then 1 else 0 := fun k => by
      rw [htake]
      unfold cX
      rw [List.countP_append, List.countP_singleton]
      simp only [beq_iff_eq]
    have hy1 : ∀ k, cY (T.take (i + 1)) k = cY (T.take i) k + if (splitR T[i]).length = 2 ∧ tsy2 T[i] = k then 1 else 0 := fun k => by
      rw [htake]
      unfold cY
      rw [List.countP_append, List.countP_singleton]
      simp only [Bool.and_eq_true, beq_iff_eq]
    obtain ⟨t, ht⟩ : ∃ t, T[i] = t := ⟨_, rfl⟩
    rw [ht] at hat hti hsb hsl
    simp only [ht] at hx1 hy1
    have hsplit := fun {HH : List Asn} (w : World) (hw : St w0 HH w) => Split_c t hti w hw
    unfold tsy1 at hx1
    unfold tsy2 at hy1
    generalize splitR t = S at *
    repeat (first | (apply gJO; first | refine JO_v (oL (V_loadCA (tb := tb) rfl (vec_rd (e := 44) (by repeat (first | apply List.Mem.head | apply List.Mem.tail))) rfl rfl rfl (by decide) hat rfl)) ?_) | (first | (refine sx ?_; try intro _)))
    rename_i bt
    refine JO_call Tryz.call16 rfl rfl fun w hw => (hsplit w hw).mono ?_
    rintro e w' ⟨qs, ds, rfl, hw'⟩
    refine ⟨_, rfl, _, hw', ?_⟩
    clear hw' hw w w' hsplit
    repeat (first | (apply gJR; first | (refine sx ?_; try intro _)) | (apply gJO; first | (refine sx ?_; try intro _)) | apply JS_seq | apply JS_region)
    refine JS_block ?_
    have hS : 1 ≤ S.length ∧ S.length ≤ 2 := by split at hsl <;> omega
    obtain ⟨s0, hs0⟩ : ∃ s, (S.getD 0 (0, 0, 0)).1 = s := ⟨_, rfl⟩
    obtain ⟨s1, hs1⟩ : ∃ s, (S.getD 1 (0, 0, 0)).1 = s := ⟨_, rfl⟩
    rw [hs0] at hx1
    rw [hs1] at hy1
    refine JS_loop1 (fun (j : Nat) => [(3, .slice qt T.length dt), (4, .slice px 286 cx), (5, .slice py 30 cy), (24, .slice qt T.length dt), (25, .int .i64 T.length), (26, .int .i64 i), (31, .slice qs S.length ds), (32, .int .i64 S.length), (33, .int .i64 j)])
      (fun j => vec 38 1 (.slice px 286 cx) 286 (ints .u64 (tab 286 (xT T i j s0))) :: vec 38 1 (.slice py 30 cy) 30 (ints .u64 (tab 30 (yT T i j s1))) :: vec 48 3 (.slice qs S.length ds) S.length (rv S) :: vec 44 3 (.slice qt T.length dt) T.length (tkv T) :: H)
      (fun j => j ≤ S.length) (fun j => S.length - j) 0 (Nat.zero_le _) (by repeat (first | exact trivial | refine ⟨rfl, ?_⟩ | refine ⟨lookI rfl (by omega), ?_⟩))
      (fun w hw => by
        have e1 : tab 286 (xT T i 0 s0) = tab 286 (xT T i 0 0) := tab_congr fun k _ => by unfold xT; rw [if_neg (show ¬ (1 ≤ 0 ∧ s0 = k) by omega), if_neg (show ¬ (1 ≤ 0 ∧ 0 = k) by omega)]
        have e2 : tab 30 (yT T i 0 s1) = tab 30 (yT T i 0 0) := tab_congr fun k _ => by unfold yT; rw [if_neg (show ¬ (2 ≤ 0 ∧ s1 = k) by omega), if_neg (show ¬ (2 ≤ 0 ∧ 0 = k) by omega)]
        rw [e1, e2]
        exact St.sub (by repeat (first | exact List.Sublist.refl _ | apply List.Sublist.cons_cons | apply List.Sublist.cons)) (hw.perm (show List.Perm _ (vec 38 1 (.slice px 286 cx) 286 (ints .u64 (tab 286 (xT T i 0 0))) :: vec 38 1 (.slice py 30 cy) 30 (ints .u64 (tab 30 (yT T i 0 0))) :: vec 48 3 (.slice qs S.length ds) S.length (rv S) :: blk bt [.int .u8 t.1, .int .i64 t.2.1, .int .i64 t.2.2] :: vec 44 3 (.slice qt T.length dt) T.length (tkv T) :: H) by (repeat (first | exact List.Perm.refl _ | refine List.Perm.cons _ ?_ | refine (List.perm_middle (l₁ := [_])).trans (List.Perm.cons _ ?_) | refine (List.perm_middle (l₁ := [_, _])).trans (List.Perm.cons _ ?_) | refine (List.perm_middle (l₁ := [_, _, _])).trans (List.Perm.cons _ ?_) | refine (List.perm_middle (l₁ := [_, _, _, _])).trans (List.Perm.cons _ ?_) | refine (List.perm_middle (l₁ := [_, _, _, _, _])).trans (List.Perm.cons _ ?_) | refine (List.perm_middle (l₁ := [_, _, _, _, _, _])).trans (List.Perm.cons _ ?_) | refine (List.perm_middle (l₁ := [_, _, _, _, _, _, _])).trans (List.Perm.cons _ ?_) | refine (List.perm_middle (l₁ := [_, _, _, _, _, _, _, _])).trans (List.Perm.cons _ ?_)))))) ?_
    intro j hj again2
    by_cases hjs : j < S.length
    · have hat2 := rv_at hjs
      have hgj : S[j] = S.getD j (0, 0, 0) := by rw [List.getD_eq_getElem?_getD, List.getElem?_eq_getElem hjs]; rfl
      rw [hgj] at hat2
      obtain ⟨k1, _, _⟩ := hsb j hjs
      by_cases h0 : j = 0
      · subst h0
        rw [hs0, if_pos rfl] at k1
        obtain ⟨r, hr⟩ : ∃ r, S.getD 0 (0, 0, 0) = r := ⟨_, rfl⟩
        rw [hr] at hat2 hs0
        obtain ⟨rs, rr, rb⟩ := r
        simp only [] at hat2 hs0
        subst hs0
        have hcx := cX_le (T.take i) rs
        rw [List.length_take] at hcx
        have hlx := tab_len 286 (xT T i 0 rs)
        have gx : (ints .u64 (tab 286 (xT T i 0 rs)))[rs]? = some (.int .u64 (xT T i 0 rs rs)) := by rw [ints_get (by omega), tab_get k1]
        have hxb : 0 ≤ xT T i 0 rs rs ∧ xT T i 0 rs rs ≤ 200000 := by unfold xT; split <;> split <;> omega
        repeat (first | (apply gJO; first | refine JO_v (oL (V_loadCA (tb := tb) rfl (vec_rd (e := 48) (by repeat (first | apply List.Mem.head | apply List.Mem.tail))) rfl rfl rfl (by decide) hat2 rfl)) ?_ | refine JO_v (V_loadC (tb := tb) rfl (vec_rd (e := 38) (v := .slice px 286 cx) (by repeat (first | apply List.Mem.head | apply List.Mem.tail))) rfl rfl gx rfl) ?_) | (first | (refine sx ?_; try intro _)))
        refine JS_again1 again2 1 (by omega) (by omega) (by repeat (first | exact trivial | refine ⟨rfl, ?_⟩ | refine ⟨lookI rfl (by omega), ?_⟩)) (fun w hw => ?_)
        rw [tab_set] at hw
        rw [tab_congr (f := xT T i 1 rs) (g := fun k => if k = rs then xT T i 0 rs rs + 1 else xT T i 0 rs k) fun k _ => ?_, tab_congr (f := yT T i 1 s1) (g := yT T i 0 s1) fun k _ => ?_]
        · exact St.sub (by repeat (first | exact List.Sublist.refl _ | apply List.Sublist.cons_cons | apply List.Sublist.cons)) hw
        · unfold yT; rw [if_neg (show ¬ (2 ≤ 1 ∧ s1 = k) by omega), if_neg (show ¬ (2 ≤ 0 ∧ s1 = k) by omega)]
        · unfold xT
          rw [if_neg (show ¬ (1 ≤ 0 ∧ rs = rs) by omega), if_neg (show ¬ (1 ≤ 0 ∧ rs = k) by omega)]
          by_cases e : k = rs
          · subst e; rw [if_pos rfl, if_pos (show 1 ≤ 1 ∧ k = k by omega)]; omega
          · rw [if_neg e, if_neg (show ¬ (1 ≤ 1 ∧ rs = k) by omega)]
      · obtain rfl : j = 1 := by omega
        rw [hs1, if_neg (by omega)] at k1
        obtain ⟨r, hr⟩ : ∃ r, S.getD 1 (0, 0, 0) = r := ⟨_, rfl⟩
        rw [hr] at hat2 hs1
        obtain ⟨rs, rr, rb⟩ := r
        simp only [] at hat2 hs1
        subst hs1
        have hcy := cY_le (T.take i) rs
        rw [List.length_take] at hcy
        have hly := tab_len 30 (yT T i 1 rs)
        have gy : (ints .u64 (tab 30 (yT T i 1 rs)))[rs]? = some (.int .u64 (yT T i 1 rs rs)) := by rw [ints_get (by omega), tab_get k1]
        have hyb : 0 ≤ yT T i 1 rs rs ∧ yT T i 1 rs rs ≤ 200000 := by unfold yT; split <;> omega
        repeat (first | (apply gJO; first | refine JO_v (oL (V_loadCA (tb := tb) rfl (vec_rd (e := 48) (by repeat (first | apply List.Mem.head | apply List.Mem.tail))) rfl rfl rfl (by decide) hat2 rfl)) ?_ | refine JO_v (V_loadC (tb := tb) rfl (vec_rd (e := 38) (v := .slice py 30 cy) (by repeat (first | apply List.Mem.head | apply List.Mem.tail))) rfl rfl gy rfl) ?_) | (first | (refine sx ?_; try intro _)))
        refine JS_again1 again2 2 (by omega) (by omega) (by repeat (first | exact trivial | refine ⟨rfl, ?_⟩ | refine ⟨lookI rfl (by omega), ?_⟩)) (fun w hw => ?_)
        rw [tab_set] at hw
        rw [tab_congr (f := yT T i 2 rs) (g := fun k => if k = rs then yT T i 1 rs rs + 1 else yT T i 1 rs k) fun k _ => ?_, tab_congr (f := xT T i 2 s0) (g := xT T i 1 s0) fun k _ => ?_]
        · exact St.sub (by repeat (first | exact List.Sublist.refl _ | apply List.Sublist.cons_cons | apply List.Sublist.cons)) hw
        · unfold xT
          by_cases e : s0 = k
          · rw [if_pos (show 1 ≤ 2 ∧ s0 = k by omega), if_pos (show 1 ≤ 1 ∧ s0 = k by omega)]
          · rw [if_neg (show ¬ (1 ≤ 2 ∧ s0 = k) by omega), if_neg (show ¬ (1 ≤ 1 ∧ s0 = k) by omega)]
        · unfold yT
          rw [if_neg (show ¬ (2 ≤ 1 ∧ rs = rs) by omega), if_neg (show ¬ (2 ≤ 1 ∧ rs = k) by omega)]
          by_cases e : k = rs
          · subst e; rw [if_pos rfl, if_pos (show 2 ≤ 2 ∧ k = k by omega)]; omega
          · rw [if_neg e, if_neg (show ¬ (2 ≤ 2 ∧ rs = k) by omega)]
    obtain rfl : j = S.length := by omega
    clear again2
    repeat (first | (refine sx ?_; try intro _))
    refine JS_again1 again (i + 1) (by omega) (by omega) (by repeat (first | exact trivial | refine ⟨rfl, ?_⟩ | refine ⟨lookI rfl (by omega), ?_⟩)) (fun w hw => ?_)
    rw [tab_congr (f := xT T (i + 1) 0 0) (g := xT T i S.length s0) fun k _ => ?_, tab_congr (f := yT T (i + 1) 0 0) (g := yT T i S.length s1) fun k _ => ?_]
    · exact St.sub (by repeat (first | exact List.Sublist.refl _ | apply List.Sublist.cons_cons | apply List.Sublist.cons)) hw
    · unfold yT
      rw [hy1 k, if_neg (show ¬ (2 ≤ 0 ∧ 0 = k) by omega)]
      by_cases e : S.length = 2 ∧ s1 = k
      · rw [if_pos e, if_pos (show 2 ≤ S.length ∧ s1 = k by omega)]
      · rw [if_neg e, if_neg (show ¬ (2 ≤ S.length ∧ s1 = k) by omega)]
    · unfold xT
      rw [hx1 k, if_neg (show ¬ (1 ≤ 0 ∧ 0 = k) by omega)]
      by_cases e : s0 = k
      · rw [if_pos e, if_pos (show 1 ≤ S.length ∧ s0 = k by omega)]; omega
      · rw [if_neg e, if_neg (show ¬ (1 ≤ S.length ∧ s0 = k) by omega)]; omega
  obtain rfl : i = T.length := by omega
  clear again
  have hd := Desc2_c (w0 := w0) (H := H) T hT hTok qt dt px py cx cy
  have e1 : tab 286 (xT T T.length 0 0) = nats (wX T) := by
    unfold wX
    rw [nats_map]
    refine tab_congr fun k _ => ?_
    unfold xT
    rw [List.take_length, if_neg (show ¬ (1 ≤ 0 ∧ 0 = k) by omega), Nat.add_zero]
  have e2 : tab 30 (yT T T.length 0 0) = nats (wY T) := by
    unfold wY
    rw [nats_map]
    refine tab_congr fun k _ => ?_
    unfold yT
    rw [List.take_length, if_neg (show ¬ (2 ≤ 0 ∧ 0 = k) by omega), Nat.add_zero]
  rw [e1, e2]
  repeat (first | exact JS_of_at (fn := Tryz.f6) (p := [.b, .b, .b, .b, .b]) (JS_ov (by repeat (first | exact trivial | refine ⟨rfl, ?_⟩ | refine ⟨lookI rfl (by omega), ?_⟩)) hd) rfl | (first | (refine sx ?_; try intro _)))
set_option maxRecDepth 10000 in
set_option maxHeartbeats 4000000 in
/-- the described block of a text -/
theorem Described_c (p : Option Addr) (c m : Nat) (B : List Int) (hr : Rd w0 H (.slice p m c) m (ints .u8 B)) (hm : B.length = m) (hB : OKB B) (h4 : m ≤ 100000) (w : World) (hw : St w0 H w) :
    Calls Tryz.prog 6 #[.slice p m c] w fun e w' => ∃ q d, e = .returned (.slice q (pack (dscL B)).length d) ∧ St w0 (vec 5 1 (.slice q (pack (dscL B)).length d) (pack (dscL B)).length (ints .u8 (pack (dscL B))) :: H) w' := by
  have hD : dscL B = dscT (toks B m 0) := by unfold dscL dscT; rw [hm]
  rw [hD]
  have hTok := toks_TOK hB m 0
  have hTl := toks_len (B := B) m 0
  refine enter (vs := [.slice p m c]) Tryz.func6 rfl rfl rfl hw ?_
  clear hw w
  repeat (first | (refine sx ?_; try intro _))
  refine JO_call Tryz.call15 rfl rfl fun w hw => (Find_c p c m B hr hm hB h4 w hw).mono ?_
  rintro e w' ⟨qt, dt, rfl, hw'⟩
  generalize toks B m 0 = T at *
  refine ⟨_, rfl, _, hw', ?_⟩
  clear hw' hw w w'
  have hd := fun px cx py cy => Desc1_c (w0 := w0) (H := H) T (by omega) hTok qt dt px py cx cy
  repeat ((fail_if_success refine gIdU 2 ?_); first | (refine sx ?_; try intro _))
  refine JS_seq ?_
  refine JS_tree (.node [] 0 (.leaf [2, 1, 3]) 1 (.leaf [0, 2, 3])) [] (.node Picks.nil rfl (.leaf (Picks.cons rfl (Picks.cons rfl (Picks.cons rfl (Picks.nil))))) rfl (.leaf (Picks.cons rfl (Picks.cons rfl (Picks.cons rfl (Picks.nil)))))) (by kernel_rfl) (by kernel_rfl) rfl (by decide +kernel) ?_
  refine QR_node ?_
  refine QR_both ?_ ?_
  · apply QR_un
    refine QO_e (E_make (tb := tb) rfl rfl rfl rfl rfl rfl (by omega) rfl) rfl (.inr fun _ w hw => hw.drop) ?_
    intro px
    refine QR_leaf ?_
    repeat (first | (refine sx ?_; try intro _))
    refine QO_e (E_make (tb := tb) rfl rfl rfl rfl rfl rfl (by omega) rfl) rfl (.inr fun _ w hw => hw.drop) ?_
    intro py
    rw [show (286 : Int).toNat = 286 from rfl, show (30 : Int).toNat = 30 from rfl, ints_rep, ints_rep, tab_const, tab_const]
    repeat (first | exact JS_of_at (fn := Tryz.f6) (p := [.b, .b, .b]) (JS_weak (hd (some px) 286 (some py) 30) (by repeat (first | exact trivial | refine ⟨rfl, ?_⟩ | refine ⟨lookI rfl (by omega), ?_⟩)) (fun w hw => hw.perm (by (repeat (first | exact List.Perm.refl _ | refine List.Perm.cons _ ?_ | refine (List.perm_middle (l₁ := [_])).trans (List.Perm.cons _ ?_) | refine (List.perm_middle (l₁ := [_, _])).trans (List.Perm.cons _ ?_) | refine (List.perm_middle (l₁ := [_, _, _])).trans (List.Perm.cons _ ?_) | refine (List.perm_middle (l₁ := [_, _, _, _])).trans (List.Perm.cons _ ?_) | refine (List.perm_middle (l₁ := [_, _, _, _, _])).trans (List.Perm.cons _ ?_) | refine (List.perm_middle (l₁ := [_, _, _, _, _, _])).trans (List.Perm.cons _ ?_) | refine (List.perm_middle (l₁ := [_, _, _, _, _, _, _])).trans (List.Perm.cons _ ?_) | refine (List.perm_middle (l₁ := [_, _, _, _, _, _, _, _])).trans (List.Perm.cons _ ?_)))))) rfl | (first | (refine sx ?_; try intro _)))
  · apply QR_un
    refine QO_e (E_make (tb := tb) rfl rfl rfl rfl rfl rfl (by omega) rfl) rfl (.inr fun _ w hw => hw.drop) ?_
    intro py
    refine QR_leaf ?_
    repeat (first | (refine sx ?_; try intro _))
    refine QO_e (E_make (tb := tb) rfl rfl rfl rfl rfl rfl (by omega) rfl) rfl (.inr fun _ w hw => hw.drop) ?_
    intro px
    rw [show (286 : Int).toNat = 286 from rfl, show (30 : Int).toNat = 30 from rfl, ints_rep, ints_rep, tab_const, tab_const]
    repeat (first | exact JS_of_at (fn := Tryz.f6) (p := [.b, .b, .b]) (JS_weak (hd (some px) 286 (some py) 30) (by repeat (first | exact trivial | refine ⟨rfl, ?_⟩ | refine ⟨lookI rfl (by omega), ?_⟩)) (fun w hw => hw.perm (by (repeat (first | exact List.Perm.refl _ | refine List.Perm.cons _ ?_ | refine (List.perm_middle (l₁ := [_])).trans (List.Perm.cons _ ?_) | refine (List.perm_middle (l₁ := [_, _])).trans (List.Perm.cons _ ?_) | refine (List.perm_middle (l₁ := [_, _, _])).trans (List.Perm.cons _ ?_) | refine (List.perm_middle (l₁ := [_, _, _, _])).trans (List.Perm.cons _ ?_) | refine (List.perm_middle (l₁ := [_, _, _, _, _])).trans (List.Perm.cons _ ?_) | refine (List.perm_middle (l₁ := [_, _, _, _, _, _])).trans (List.Perm.cons _ ?_) | refine (List.perm_middle (l₁ := [_, _, _, _, _, _, _])).trans (List.Perm.cons _ ?_) | refine (List.perm_middle (l₁ := [_, _, _, _, _, _, _, _])).trans (List.Perm.cons _ ?_)))))) rfl | (first | (refine sx ?_; try intro _)))
end
end Go.Proofs.YtbiocgenbgbfpaaGreat

set_option linter.unusedVariables false
set_option linter.unusedSimpArgs false
namespace Sx
open Go
section
variable {P : Program} {f n : Nat} {R : Ending → World → Prop} {D : List Deferred} {w0 : World} {k : List Item} {ov : Ov} {H H' : List Asn}
  {T : Nat} {pos : String} {af : Array Edge} {v : Value}
/-- recover, and one operation more in its region -/
theorem enterR2 {o2 : Oper} {fn : Func} {id : Nat} {dd : Nat} {rest : Code} {ts : Array Nat} {vs : List Value} {u u' : FrameMode} {w : World} (hf : P.funcs[f]? = some fn) (hb : fn.body = some (.seq (.region id #[⟨some dd, .call ⟨.builtin .recover, #[], ts⟩, T, pos, af, none⟩, o2] false) rest)) (hn : fn.ntmps = n) (hl : Nat.ble vs.length n = true) (hd : Nat.blt dd n = true)
    (hw : St w0 H w) (hu : (u = .returning ∧ v = .nilIface ∧ u' = .returning) ∨ (∃ older, u = .panicking ({ v, recovered := false } :: older) ∧ u' = .panicking ({ v, recovered := true } :: older)))
    (h : JR P f n R [] w0 #[⟨some dd, .call ⟨.builtin .recover, #[], ts⟩, T, pos, af, none⟩, o2] [o2] [.code rest] ((dd, v) :: argsOv 0 vs) H) : CallsD P f vs.toArray u w fun e u2 w' => u2 = u' ∧ R e w' := by
  intro c₀ cs hm
  let b : Frame := { (default : Frame) with fn := f, kind := .deferred }
  have hl' : vs.length ≤ n := Nat.le_of_ble_eq_true hl
  have hd' : dd < n := by rwa [Nat.blt_eq] at hd
  let o : Oper := ⟨some dd, .call ⟨.builtin .recover, #[], ts⟩, T, pos, af, none⟩
  let a0 : Act := { tmps := vs.toArray ++ Array.replicate (fn.ntmps - vs.toArray.size) undef, defers := [] }
  have henter : Frame.enter P f vs.toArray .deferred = b.at a0 [.code (.seq (.region id #[o, o2] false) rest)] := by
    simp [Frame.enter, Frame.at, hf, hb, b, a0, o]
  have hrep : Rep n [] (argsOv 0 vs) a0 := by
    refine ⟨by simp [a0, hn]; omega, rfl, ?_⟩
    intro t v ht
    obtain ⟨_, h2⟩ := look_args vs 0 t v ht
    simp only [Nat.sub_zero] at h2
    have hlt : t < vs.length := (List.getElem?_eq_some_iff.1 h2).1
    simp only [a0]
    rw [Array.getElem?_append_left (by simpa using hlt)]
    simpa using h2
  have hrep' : Rep n [] ((dd, v) :: argsOv 0 vs) (a0.put (some dd) v) := hrep.put (d := some dd) (by simp [dOk, Nat.blt_eq, hd']) v
  have hrec : recoverD (c₀ :: cs) = match u with
      | .returning => none
      | _ => some (v, { c₀ with mode := u' } :: cs) := by
    rcases hu with ⟨rfl, rfl, rfl⟩ | ⟨older, rfl, rfl⟩
    · simp [recoverD, hm]
    · simp [recoverD, hm]
  have hrun : (execOp a0.eval o).run P w = .ok .recover w := by simp [o, execOp, resolve, invoke, builtin]
  have htr : tryRecover (b.at a0 (.inRegion #[o, o2] [0, 1] :: [.code rest])) (c₀ :: cs) = recoverD (c₀ :: cs) := tryRecover_deferred rfl _
  have hfin : ∀ v, (b.at a0 (.inRegion #[o, o2] (0 :: [1]) :: [.code rest])).finish v = b.at (a0.put o.dst v) (.inRegion #[o, o2] [1] :: [.code rest]) := by
    intro v; rw [Frame.finish_at]; rfl
  have hg := stepG_op (P := P) (b := b) (a := a0) (k := [.code rest]) (cs := c₀ :: cs) (w := w) (ops := #[o, o2]) (i := 0) (rest := [1]) (o := o) rfl rfl
  have h1 : step P (lone (b.at a0 [.code (.seq (.region id #[o, o2] false) rest)]) (c₀ :: cs) w) = .next (lone (b.at a0 [.code (.region id #[o, o2] false), .code rest]) (c₀ :: cs) w) := step_seq
  have h2 : step P (lone (b.at a0 [.code (.region id #[o, o2] false), .code rest]) (c₀ :: cs) w) = .next (lone (b.at a0 [.inRegion #[o, o2] [0, 1], .code rest]) (c₀ :: cs) w) := step_region
  have h3 : step P (lone (b.at a0 [.inRegion #[o, o2] [0, 1], .code rest]) (c₀ :: cs) w) = .next (lone (b.at (a0.put (some dd) v) [.inRegion #[o, o2] [1], .code rest]) ({ c₀ with mode := u' } :: cs) w) := by
    refine step_lone_go ?_
    rw [hg]
    have hf' := hfin v
    rcases hu with ⟨rfl, rfl, rfl⟩ | ⟨older, rfl, rfl⟩
    · have hc : ({ c₀ with mode := .returning } : Frame) = c₀ := by rw [← hm]
      rw [hc, ← hf']
      simp only [Frame.at] at htr hrec ⊢
      simp [stepG.apply, hrun, htr, hrec]
    · rw [← hf']
      simp only [Frame.at] at htr hrec ⊢
      simp [stepG.apply, hrun, htr, hrec]
  unfold JR at h; have h := h [1] rfl
  unfold JS J at h
  obtain ⟨e, w', fr, hR, hcm, hfn, hk, hgo⟩ := h _ w hrep' hw b ({ c₀ with mode := u' } :: cs) rfl (.inr rfl)
  rw [henter]
  exact ⟨e, u', w', fr, ⟨rfl, hR⟩, Comes.of_steps (.head h1 (.head h2 (.one h3))) hcm, hk, hgo⟩
end
section
variable {P : Program} {tb : Tb P} {n : Nat} {D : List Deferred} {w0 : World} {ov : Ov} {H : List Asn} {d : Option Nat} {x y : Operand} {T t s1 b1 T2 : Nat} {z1 : Option (List Value)} {pos : String} {af : Array Edge} {g : Option (Nat × Bool)}
/-- nil is not unequal to nil -/
theorem V_neIN (hx : ev ov x = some .nilIface) (h : tlook tb.l t = some ⟨.iface, s1, b1, z1⟩) (hd : dOk d n = true) :
    OpV P n D w0 ov H ⟨d, .binOp .neq t x (.const .nilIface) T2, T, pos, af, g⟩ (.bool false) := by
  unfold OpV
  exact ⟨hd, fun a w ha _ => by
    obtain ⟨ms, e1⟩ := und_iface h
    have hg : (eqGuard .neq t x (.const .nilIface) .nilIface .nilIface).run P w = .ok () w := by simp [eqGuard]
    have e2 := run_eqIN (P := P) w 9999 e1
    have hb : (binOp .neq t .nilIface .nilIface).run P w = .ok (.bool false) w := by
      simp only [binOp, Op.equal, Op.maxDepth, Sem.run_bind, e2, Result.andThen_ok, Sem.run_pure]; rfl
    have hc : a.eval (.const .nilIface) = .nilIface := rfl
    simp [execOp, ha.ev hx, hc, hg, hb]⟩
/-- nil has no type -/
theorem V_assertN {tx t9 s2 b2 : Nat} {ty : Ty} {z : List Value} {zv : Value} (hx : ev ov x = some .nilIface) (h : tlook tb.l t9 = some ⟨ty, s2, b2, some z⟩) (hz : ∀ w : World, (zeroValue t9).run P w = .ok zv w) (hd : dOk d n = true) :
    OpV P n D w0 ov H ⟨d, .typeAssert x tx t9 true, T, pos, af, g⟩ (.tuple #[zv, .bool false]) := by
  unfold OpV
  exact ⟨hd, fun a w ha _ => by
    obtain ⟨dd, e1, e2⟩ := Tb.und h
    cases dd <;> simp [execOp, ha.ev hx, Instr.typeAssert, run_underlying e1, hz]⟩
/-- equality of arrays -/
theorem V_eqArr {us vs : List Value} {r : Bool} (hx : ev ov x = some (.agg us.toArray)) (hy : ev ov y = some (.agg vs.toArray)) (hm : P.eqGuardType P.depth t = false)
    (hr : ∀ w, (Op.equalIn 10000 t (.agg us.toArray) (.agg vs.toArray)).run P w = .ok r w) (hd : dOk d n = true) : OpV P n D w0 ov H ⟨d, .binOp .eql t x y T2, T, pos, af, g⟩ (.bool r) := by
  unfold OpV
  exact ⟨hd, fun a w ha _ => by
    have e1 := run_eqGuard_agg (P := P) (w := w) .eql t x y us.toArray vs.toArray hm
    have e3 := run_eql_struct (P := P) (w := w) t us.toArray vs.toArray
    simp only [execOp, ha.ev hx, ha.ev hy, Sem.run_bind, e1, Result.andThen_ok, e3, hr w, Sem.run_pure]⟩
end
end Sx

set_option linter.unusedVariables false
set_option linter.unusedSimpArgs false
namespace Go.Proofs.YtbiocgenbgbfpaaGreat
open Sx Go
section
variable {w0 : World} {H : List Asn}
/-- what zlib throws -/
def FZ (r : Int) : List PanicEntry := [{ v := .iface 83 (.agg #[.int .i64 r]), recovered := false }]
theorem Need_c (b : Bool) (r : Int) (w : World) (hw : St w0 H w) :
    Calls Tryz.prog 86 #[.bool b, .int .i64 r] w fun e w' => (b = true ∧ e = .returned (.tuple #[]) ∧ St w0 H w') ∨ (b = false ∧ e = .panicked (FZ r) ∧ St w0 H w') := by
  refine enter (vs := [.bool b, .int .i64 r]) Tryz.func86 rfl rfl rfl hw ?_
  cases b
  · repeat (first | (apply gJO; refine JO_v (V_mkI (tb := tb) rfl rfl (by simp) rfl) ?_) | first | (refine sx ?_; try intro _))
    refine JO_panic Tryz.func86 rfl ?_
    intro a w _ hw
    exact .inr ⟨rfl, rfl, hw⟩
  · repeat (first | (refine sx ?_; try intro _))
    refine JS_fin Tryz.func86 rfl rfl ?_
    intro w hw
    exact .inl ⟨rfl, rfl, hw⟩
theorem zz70 (w : World) : (zeroValue 83).run Tryz.prog w = .ok (.agg #[.int .i64 0]) w := by
  have h : (Tryz.prog.info? 83).bind (·.zero) = some (.agg #[.int .i64 0]) := by kernel_rfl
  obtain ⟨x, h1, h2⟩ := Option.bind_eq_some_iff.1 h
  simp [zeroValue, typeInfo, h1, h2]
/-- nothing is to be caught -/
theorem ZC_idle (bo be : Nat) (w : World) (hw : St w0 H w) :
    CallsD Tryz.prog 42 #[.pointer (some ⟨bo, 0, none⟩), .pointer (some ⟨be, 0, none⟩)] .returning w fun e u' w' => u' = .returning ∧ e = .returned (.tuple #[]) ∧ St w0 H w' := by
  refine enterR2 (vs := [.pointer (some ⟨bo, 0, none⟩), .pointer (some ⟨be, 0, none⟩)]) Tryz.func42 rfl rfl rfl rfl hw (.inl ⟨rfl, rfl, rfl⟩) ?_
  repeat (first | (apply gJO; first | refine JO_v (V_neIN (tb := tb) rfl rfl rfl) ?_ | refine JO_v (V_assertN (tb := tb) rfl rfl zz70 rfl) ?_) | first | (refine sx ?_; try intro _))
  exact JS_fin Tryz.func42 rfl rfl fun w hw => ⟨rfl, St.sub (by repeat (first | exact List.Sublist.refl _ | apply List.Sublist.cons_cons | apply List.Sublist.cons)) hw⟩
set_option maxRecDepth 10000 in
/-- a refusal is caught -/
theorem ZC_got (bo be : Nat) (r : Int) (w : World) (hw : St w0 (blk bo [.slice none 0 0] :: blk be [.int .i64 0] :: H) w) :
    CallsD Tryz.prog 42 #[.pointer (some ⟨bo, 0, none⟩), .pointer (some ⟨be, 0, none⟩)] (.panicking (FZ r)) w fun e u' w' => u' = .panicking [{ v := .iface 83 (.agg #[.int .i64 r]), recovered := true }] ∧ e = .returned (.tuple #[]) ∧ St w0 (blk bo [.slice none 0 0] :: blk be [.int .i64 r] :: H) w' := by
  refine enterR2 (vs := [.pointer (some ⟨bo, 0, none⟩), .pointer (some ⟨be, 0, none⟩)]) Tryz.func42 rfl rfl rfl rfl hw (.inr ⟨[], rfl, rfl⟩) ?_
  repeat (first | (apply gJO; first | refine JO_v (V_eqIV (tb := tb) rfl rfl rfl) ?_ | refine JO_v (V_assertT (tb := tb) rfl rfl (by simp) rfl) ?_) | apply hIx' 3 | first | (refine sx ?_; try intro _))
  refine Hold.go ?_
  rename_i b
  refine JS_order2 [blk b [.int .i64 r]] [0, 1, 2, 3] [] (fun w hw => St.sub (by repeat (first | exact List.nil_sublist _ | apply List.Sublist.cons_cons | apply List.Sublist.cons)) hw) (Picks.cons rfl (Picks.cons rfl (Picks.cons rfl (Picks.cons rfl (Picks.nil))))) (by kernel_rfl) (by kernel_rfl) rfl (by decide +kernel) ?_
  repeat (first | (apply gQR2; first | apply QR2_un | apply QR2_nil) | (apply gQO2; first | refine aQ2 ?_ | (refine aK2 ?_ ?_; exact fun w hw => St.sub (by repeat (first | exact List.nil_sublist _ | apply List.Sublist.cons_cons | apply List.Sublist.cons)) hw)))
  exact JS_fin Tryz.func42 rfl rfl fun w hw => ⟨rfl, St.sub (by repeat (first | exact List.Sublist.refl _ | apply List.Sublist.cons_cons | apply List.Sublist.cons)) hw⟩
/-- the cells of the results -/
abbrev resZ (bo be : Nat) (H : List Asn) : List Asn := blk bo [.slice none 0 0] :: blk be [.int .i64 0] :: H
abbrev defZ (bo be : Nat) : List Deferred := [⟨.fn (.func 42) #[.pointer (some ⟨bo, 0, none⟩), .pointer (some ⟨be, 0, none⟩)], #[]⟩]
/-- the way out when it was refused -/
theorem LvZ_err {R : Ending → World → Prop} {n : Nat} {bo be : Nat} {r : Int} {a : Act} {D : List Deferred} (ha : Rep n D [(4, .pointer (some ⟨bo, 0, none⟩)), (5, .pointer (some ⟨be, 0, none⟩))] a) {w : World} (hw : St w0 (resZ bo be H) w)
    (hR : ∀ w, St w0 H w → R (.returned (.tuple #[.slice none 0 0, .int .i64 r])) w) : Leaves Tryz.prog Tryz.f11 a.tmps R (defZ bo be) (.panicking (FZ r)) w := by
  refine leaves_cons (f := 42) (args := #[.pointer (some ⟨bo, 0, none⟩), .pointer (some ⟨be, 0, none⟩)]) (by simp) (inv_fn Tryz.call42) ?_
  refine (ZC_got bo be r w hw).mono ?_
  rintro e u' w' ⟨rfl, rfl, hw'⟩
  show Leaves _ _ _ _ _ (settle _) _
  rw [show settle (.panicking [{ v := .iface 83 (.agg #[.int .i64 r]), recovered := true }]) = .returning from rfl]
  exact ⟨_, results_cells (tb := tb) (vs := [.slice none 0 0, .int .i64 r]) (ResV.one (tb := tb) rfl (by repeat (first | apply List.Mem.head | apply List.Mem.tail)) rfl rfl rfl (ResV.one (tb := tb) rfl (by repeat (first | apply List.Mem.head | apply List.Mem.tail)) rfl rfl rfl ResV.nil)) ha hw', hR w' hw'.drop.drop⟩
/-- the way out when all went well -/
theorem LvZ_ok {R : Ending → World → Prop} {n : Nat} {bo be : Nat} {v1 : Value} {a : Act} {D : List Deferred} (ha : Rep n D [(4, .pointer (some ⟨bo, 0, none⟩)), (5, .pointer (some ⟨be, 0, none⟩))] a) {w : World} (hw : St w0 (blk bo [v1] :: blk be [.int .i64 0] :: H) w)
    (hR : ∀ w, St w0 H w → R (.returned (.tuple #[v1, .int .i64 0])) w) : Leaves Tryz.prog Tryz.f11 a.tmps R (defZ bo be) .returning w := by
  refine leaves_cons (f := 42) (args := #[.pointer (some ⟨bo, 0, none⟩), .pointer (some ⟨be, 0, none⟩)]) (by simp) (inv_fn Tryz.call42) ?_
  refine (ZC_idle bo be w hw).mono ?_
  rintro e u' w' ⟨rfl, rfl, hw'⟩
  show Leaves _ _ _ _ _ (settle _) _
  rw [show settle .returning = .returning from rfl]
  exact ⟨_, results_cells (tb := tb) (vs := [v1, .int .i64 0]) (ResV.one (tb := tb) rfl (by repeat (first | apply List.Mem.head | apply List.Mem.tail)) rfl rfl rfl (ResV.one (tb := tb) rfl (by repeat (first | apply List.Mem.head | apply List.Mem.tail)) rfl rfl rfl ResV.nil)) ha hw', hR w' hw'.drop.drop⟩
end
end Go.Proofs.YtbiocgenbgbfpaaGreat

set_option linter.unusedVariables false
namespace Sx
open Go
/-! an assertion with a value that is not told -/
def anyA {ι : Type} (f : ι → Asn) : Asn where
  holds w fp := ∃ i, (f i).holds w fp
  frame w w' fp h hk := h.elim fun i h => ⟨i, (f i).frame w w' fp h hk⟩
  live w fp h := h.elim fun i h => (f i).live w fp h
section
variable {P : Program} {n : Nat} {D : List Deferred} {w0 : World} {ov : Ov} {Hi H : List Asn} {K : KC}
  {Z : Array Oper × List Nat} {l : List Oper} {d : Option Nat} {T : Nat} {pos : String} {af : Array Edge} {g : Option (Nat × Bool)} {v : Value} {op : Op} {o : Oper} {ι : Type} {f : ι → Asn}
theorem St.any {w : World} (i : ι) (h : St w0 (f i :: H) w) : St w0 (anyA f :: H) w := by
  refine (St.conv (H := H) (bs := [anyA f]) (show St w0 ([f i] ++ H) w from h) ?_)
  rintro fp ⟨f1, f2, e, h1, h2⟩
  exact ⟨f1, f2, e, ⟨i, h1⟩, h2⟩
theorem St.any_out {w : World} (h : St w0 (anyA f :: H) w) : ∃ i, St w0 (f i :: H) w := by
  obtain ⟨fp, h1, h2, f1, f2, e, ⟨i, h3⟩, h4⟩ := h.own
  exact ⟨i, h.os, h.tape, h.output, h.size, h.old, fp, h1, h2, f1, f2, e, h3, h4⟩
theorem OpV_any (h : ∀ i, OpV P n D w0 ov (f i :: H) o v) (i0 : ι) : OpV P n D w0 ov (anyA f :: H) o v := by
  unfold OpV at *
  refine ⟨(h i0).1, fun a w ha hw => ?_⟩
  obtain ⟨i, hi⟩ := hw.any_out
  exact (h i).2 a w ha hi
theorem QO2_e {κ : Type} {v : κ → Value} {H' : κ → List Asn} (h : OpE P n D w0 ov H ⟨d, op, T, pos, af, g⟩ v H') (hlo : loud op = true) (hI : ∀ c w, St w0 (H' c) w → St w0 Hi w) (hn : ∀ c, QR2 P n D w0 Z l (put d (v c) ov) Hi (H' c) K) : QO2 P n D w0 Z ⟨d, op, T, pos, af, g⟩ l ov Hi H K := by
  unfold QO2
  intro a ha
  refine .inr ⟨hlo, fun w hw => ?_⟩
  obtain ⟨hd, h⟩ := h
  obtain ⟨c, w', hrun, hw'⟩ := h a w ha hw
  simp only [Oper.wpN, hrun, Oper.upN]
  refine ⟨St w0 Hi, St w0 (H' c), hw', hI c, .inl fun _ h => h, ?_⟩
  have := hn c
  unfold QR2 at this
  exact this _ (ha.put hd _)
theorem QO2_kS {H' : List Asn} (hlo : loud op = true) (h : OpK P n D w0 ov H ⟨d, op, T, pos, af, g⟩ H') (hs : Z.2.contains l.length = true) (hn : QR2 P n D w0 Z l (put d undef ov) H' H' K) : QO2 P n D w0 Z ⟨d, op, T, pos, af, g⟩ l ov Hi H K := by
  unfold QO2
  intro a ha
  unfold OpK at h
  refine .inr ⟨hlo, fun w hw => ?_⟩
  obtain ⟨w', hrun, hw'⟩ := h.2 a w ha hw
  simp only [Oper.wpN, hrun, Oper.upN]
  refine ⟨St w0 H', St w0 H', hw', fun _ h => h, .inr hs, ?_⟩
  unfold QR2 at hn
  exact hn _ (ha.put h.1 undef)
end
end Sx
namespace Go.Proofs.YtbiocgenbgbfpaaGreat
open Sx Go
theorem aK2S {n : Nat} {D : List Deferred} {w0 : World} {ov : Ov} {Hi H H' : List Asn} {K : KC} {Z : Array Oper × List Nat} {l : List Oper} {d : Option Nat} {T : Nat} {pos : String} {af : Array Edge} {g : Option (Nat × Bool)} {op : Op}
    (hs : Z.2.contains l.length = true) (hn : QR2 Tryz.prog n D w0 Z l (put d undef ov) H' H' K) (h : OpK Tryz.prog n D w0 ov H ⟨d, op, T, pos, af, g⟩ H' := by first | exact K_store (tb := tb) rfl rfl (by repeat (first | apply Upd.here | apply Upd.there)) rfl rfl rfl (by repeat (first | exact trivial | refine ⟨rfl, ?_⟩)) rfl rfl | exact K_storeC1 (tb := tb) rfl rfl ints_set (by repeat (first | apply Upd.here | apply Upd.there)) rfl rfl (by rw [ints_len]; omega) rfl) (hlo : loud op = true := by rfl) : QO2 Tryz.prog n D w0 Z ⟨d, op, T, pos, af, g⟩ l ov Hi H K := QO2_kS hlo h hs hn
end Go.Proofs.YtbiocgenbgbfpaaGreat

namespace Go.Proofs.YtbiocgenbgbfpaaGreat
open Sx Go
set_option linter.unusedVariables false
set_option linter.unusedSimpArgs false
attribute [local irreducible] syA fc tk cds
theorem bitB_drop (B : List Int) (m n : Nat) (hm : B.length = m) : (fun j => ((bitsL B m).drop n).getD j 0) = bitB B n := by
  funext j
  rw [List.getD_eq_getElem?_getD, List.getElem?_drop, ← List.getD_eq_getElem?_getD]
  rcases Nat.lt_or_ge (n + j) (8 * m) with h | h
  · rw [bitsL_get B m (n + j) h]; simp [bitB]
  · rw [List.getD_eq_getElem?_getD, List.getElem?_eq_none (by rw [bitsL_len]; exact h)]
    unfold bitB
    rw [List.getD_eq_getElem?_getD (l := B), List.getElem?_eq_none (by omega)]; simp
section
variable {w0 : World} {H : List Asn}
/-- lengths that can't be a set's -/
theorem RBad_c (p : Option Addr) (c n : Nat) (L : List Int) (hr : Rd w0 H (.slice p n c) n (ints .u8 L)) (hL : L.length = n) (hB : OKB L) (hn : n ≤ 140737488355328) (w : World) (hw : St w0 H w) :
    Calls Tryz.prog 83 #[.slice p n c] w fun e w' => ∃ b : Bool, e = .returned (.bool b) ∧ (b = true ↔ ¬ OKL L) ∧ St w0 H w' := by
  refine enter (vs := [.slice p n c]) Tryz.func83 rfl rfl rfl hw ?_
  repeat (first | (refine sx ?_; try intro _))
  refine JO_call Tryz.call81 rfl rfl fun w hw => (RCheck5_c p c n L hr hL hB hn w hw).mono ?_
  rintro e w' ⟨r, o, rfl, hw', h⟩
  refine ⟨_, rfl, _, hw', ?_⟩
  clear hw' hw w w'
  repeat (first | (refine sx ?_; try intro _))
  refine JS_ret Tryz.func83 rfl rfl fun w hw => ⟨_, rfl, ?_, hw⟩
  subst hL
  rcases h with ⟨h, rfl, _⟩ | ⟨h1, h2, h3, rfl, _⟩ | ⟨h1, h2, h3, rfl, _⟩
  · refine ⟨fun _ h' => ?_, fun _ => rfl⟩
    rcases h with h | ⟨j, h⟩
    · have := h'.1; omega
    · have := h'.2.1 j; omega
  · exact ⟨fun _ h' => h3 h'.2.2, fun _ => rfl⟩
  · exact ⟨fun h => absurd h (by decide), fun h => absurd ⟨h1, h2, h3⟩ h⟩
variable {bs : Nat} {q : Option Addr} {d m : Nat} {B : List Int} {lim : Nat} {po : Option Addr} {co : Nat} {o : List Int}
theorem RSymE_c (v : Value) (a : Nat) (E : Int) (hE : E ≠ 0) (w : World) (hw : St w0 (strL bs q d m B lim a po co o E H) w) :
    Calls Tryz.prog 77 #[.pointer (some ⟨bs, 0, none⟩), v] w fun e w' => e = .returned (.int .i64 0) ∧ St w0 (strL bs q d m B lim a po co o E H) w' := by
  refine enter (vs := [.pointer (some ⟨bs, 0, none⟩), v]) Tryz.func77 rfl rfl rfl hw ?_
  repeat (first | (refine sx ?_; try intro _))
  exact JS_ret Tryz.func77 rfl rfl fun w hw => ⟨rfl, hw⟩
set_option maxHeartbeats 1000000 in
theorem RSym_c (hK : InfK m B lim) (a : Nat) (ha : a ≤ 8 * m) (hm2 : m ≤ 17592186044410) (p : Option Addr) (c n : Nat) (L : List Int) (hr : Rd w0 H (.slice p n c) n (ints .u8 L)) (hL : L.length = n) (hB : OKB L) (hk : OKL L) (w : World) (hw : St w0 (strL bs q d m B lim a po co o 0 H) w) :
    Calls Tryz.prog 77 #[.pointer (some ⟨bs, 0, none⟩), .slice p n c] w fun e w' =>
      symP (bitB B 0) m L a (fun r => r ≠ 0 ∧ e = .returned (.int .i64 0) ∧ ∃ a', St w0 (strL bs q d m B lim a' po co o r H) w') (fun i a1 => e = .returned (.int .i64 i) ∧ St w0 (strL bs q d m B lim a1 po co o 0 H) w') := by
  refine enter (vs := [.pointer (some ⟨bs, 0, none⟩), .slice p n c]) Tryz.func77 rfl rfl rfl hw ?_
  have hbl := bitsL_len B m
  have hcap : ∀ w, St w0 (strL bs q d m B lim a po co o 0 H) w → 8 * m ≤ d := fun w hw => by
    have := (Rd.lcap (vec_rd (e := 5) (size := 1) (v := .slice q (8 * m) d) (n := 8 * m) (cs := ints .u8 (bitsL B m)) (by repeat (first | apply List.Mem.head | apply List.Mem.tail))) hw).1; omega
  repeat (first | (apply gJR; first | (refine sx ?_; try intro _)) | (apply gJO; first | (refine sx ?_; try intro _)) | (apply gQR; first | (refine sx ?_; try intro _)) | (apply gQO; first | refine QO_v rfl (V_slice (tb := tb) (lo := a) (hi := 8 * m) rfl rfl rfl rfl rfl (by rfl) (by omega) (fun w hw => ⟨by omega, hcap w hw⟩) rfl) ?_ | first | (refine sx ?_; try intro _)) | (apply gJS; first | (refine sx ?_; try intro _)))
  have hrs := Rd_sub (lo := a) (hi := 8 * m) (sz := 1) (vec_rd (w0 := w0) (H := strL bs q d m B lim a po co o 0 H) (e := 5) (size := 1) (v := .slice q (8 * m) d) (n := 8 * m) (cs := ints .u8 (bitsL B m)) (by repeat (first | apply List.Mem.head | apply List.Mem.tail))) (by omega) (by omega)
  simp only [Nat.mul_one, ints_drop, ints_take] at hrs
  rw [List.take_of_length_le (by rw [List.length_drop]; omega)] at hrs
  have hbd := bitB_drop B m a hK.hm
  have hr' : Rd w0 (strL bs q d m B lim a po co o 0 H) (.slice p n c) n (ints .u8 L) := Rd_weak hr fun w hw => St.sub (by repeat (first | exact List.Sublist.refl _ | apply List.Sublist.cons_cons | apply List.Sublist.cons)) hw
  refine QO_call Tryz.call109 rfl rfl fun w hw => (RRead_c p _ c _ n (8 * m - a) L _ hr' hL hB hk hrs (by rw [List.length_drop]; omega) (fun j => by rw [show ((bitsL B m).drop a).getD j 0 = bitB B a j from congrFun hbd j]; exact bitB_01 _ _ _) (by omega) w hw).mono ?_
  rintro e w' ⟨i, u, r, rfl, hw', hrd⟩
  refine ⟨_, rfl, _, hw', .inl fun w hw => hw, ?_⟩
  clear hw' hw w w' hrs
  rw [hbd, ← bitB_fun] at hrd
  have hsy := symS_of hB hk (bitB_01 B 0) hrd
  have hu : u ≤ 8 * m - a := by
    rcases hrd with ⟨j, rfl, _, ⟨n', hj, h0, hn, hle, _⟩, hu⟩ | ⟨_, _, ⟨_, h, _⟩ | ⟨_, _, h, _⟩ | ⟨_, _, ⟨_, h, _⟩ | ⟨h0, h, _⟩⟩⟩
    · rw [hu] at hn; omega
    · omega
    · omega
    · omega
    · omega
  have hi : r = 0 → 0 ≤ i ∧ i < L.length ∧ 0 < u := by
    intro hr0
    rcases hrd with ⟨j, rfl, _, ⟨n', hj, h0, hn, _⟩, hu⟩ | ⟨_, _, h | h | ⟨_, _, h | h⟩⟩
    · rw [hu] at hn; omega
    · omega
    · omega
    · omega
    · omega
  have hi0 : r ≠ 0 → i = 0 := by
    intro hr0
    rcases hrd with ⟨j, rfl, h, _⟩ | ⟨_, h, _⟩
    · exact absurd h hr0
    · exact h
  repeat (first | (refine sx ?_; try intro _))
  refine JS_ret Tryz.func77 rfl rfl fun w hw => ?_
  unfold symP
  rw [hsy]
  by_cases h0 : r = 0
  · subst h0
    rw [if_pos rfl]
    obtain ⟨g1, g2, g3⟩ := hi rfl
    exact ⟨g1, g2, by omega, by omega, rfl, hw⟩
  · rw [if_neg h0, hi0 h0]
    exact ⟨h0, rfl, a + u, hw⟩
/-- what a piece of the reference does to its memory -/
def RP (w0 : World) (bs : Nat) (q : Option Addr) (d m : Nat) (B : List Int) (lim : Nat) (H : List Asn) (r : Res) (w' : World) : Prop :=
  resP r (fun r => r ≠ 0 ∧ ∃ a po co o, St w0 (strL bs q d m B lim a po co o r H) w') (fun a' o' => a' ≤ 8 * m ∧ o'.length ≤ lim ∧ ∃ po co, St w0 (strL bs q d m B lim a' po co o' 0 H) w')
end
end Go.Proofs.YtbiocgenbgbfpaaGreat

namespace Go.Proofs.YtbiocgenbgbfpaaGreat
open Sx Go
set_option linter.unusedVariables false
set_option linter.unusedSimpArgs false
attribute [local irreducible] syA fc tk cds
theorem byts_succ (bt : Nat → Int) (a n : Nat) : byts bt a (n + 1) = byts bt a n ++ [nbt bt (a + 8 * n) 8] := by simp [byts, List.range_succ]
section
variable {w0 : World} {H : List Asn} {bs : Nat} {q : Option Addr} {d m : Nat} {B : List Int} {lim : Nat} {po : Option Addr} {co : Nat} {o : List Int}
set_option maxRecDepth 10000 in
set_option maxHeartbeats 2000000 in
theorem RSto_c (hK : InfK m B lim) (a : Nat) (ha : a ≤ 8 * m) (hm2 : m ≤ 17592186044410) (ho : o.length ≤ lim) (w : World) (hw : St w0 (strL bs q d m B lim a po co o 0 H) w) :
    Calls Tryz.prog 36 #[.pointer (some ⟨bs, 0, none⟩)] w fun e w' => e = .returned (.tuple #[]) ∧ RP w0 bs q d m B lim H (stoF (bitB B 0) (8 * m) lim a o) w' := by
  have hl := hK.hl
  have hbl := bitsL_len B m
  have hu := upto8_le ha
  have hu8 := upto8_8 a
  refine enter (vs := [.pointer (some ⟨bs, 0, none⟩)]) Tryz.func36 rfl rfl rfl hw ?_
  unfold stoF RP
  repeat (first | (refine sx ?_; try intro _))
  refine JO_call Tryz.call76 rfl rfl fun w hw => (RUp_c a (by omega) w hw).mono ?_
  rintro e w' ⟨rfl, hw'⟩
  refine ⟨_, rfl, _, hw', ?_⟩
  clear hw' hw w w'
  generalize upto8 a = u at *
  obtain ⟨n, hn⟩ := Int.eq_ofNat_of_zero_le (nbt_bd (bitB B 0) (bitB_01 B 0) u 16).1
  have hn1 := (nbt_bd (bitB B 0) (bitB_01 B 0) u 16).2
  obtain ⟨x, hx⟩ := Int.eq_ofNat_of_zero_le (nbt_bd (bitB B 0) (bitB_01 B 0) (u + 16) 16).1
  have hx1 := (nbt_bd (bitB B 0) (bitB_01 B 0) (u + 16) 16).2
  have hp16 : (2 : Int) ^ 16 = 65536 := by decide
  rw [hn, hp16] at hn1
  rw [hx, hp16] at hx1
  rw [hn, hx]
  repeat (first | (refine sx ?_; try intro _))
  refine JO_call Tryz.call35 rfl rfl fun w hw => (RGrp4_c hK u 16 (by omega) (by omega) hm2 w hw).mono ?_
  rintro e w' (⟨h, rfl, hw'⟩ | ⟨h1, he, hw'⟩)
  · refine ⟨_, rfl, _, hw', ?_⟩
    clear hw' hw w w'
    repeat (first | (refine sx ?_; try intro _))
    refine JO_call Tryz.call35 rfl rfl fun w hw => (RGrpE_c 16 u 20 (by decide) w hw).mono ?_
    rintro e w' ⟨rfl, hw'⟩
    refine ⟨_, rfl, _, hw', ?_⟩
    clear hw' hw w w'
    repeat (first | (apply gJS; apply JS_loop') | first | (refine sx ?_; try intro _))
    refine JS_fin Tryz.func36 rfl rfl fun w hw => ⟨rfl, ?_⟩
    rw [if_pos h]
    exact ⟨by decide, _, _, _, _, hw⟩
  rw [hn] at he; subst he
  refine ⟨_, rfl, _, hw', ?_⟩
  clear hw' hw w w'
  rw [if_neg (by omega)]
  repeat (first | (refine sx ?_; try intro _))
  refine JO_call Tryz.call35 rfl rfl fun w hw => (RGrp4_c hK (u + 16) 16 (by omega) (by omega) hm2 w hw).mono ?_
  rintro e w' (⟨h, rfl, hw'⟩ | ⟨h2, he, hw'⟩)
  · refine ⟨_, rfl, _, hw', ?_⟩
    clear hw' hw w w'
    rcases Nat.eq_zero_or_pos n with hn0 | hn0
    all_goals (repeat (first | (apply gJS; apply JS_loop') | first | (refine sx ?_; try intro _)))
    all_goals (refine JS_fin Tryz.func36 rfl rfl fun w hw => ⟨rfl, ?_⟩)
    all_goals (rw [if_pos (by omega)]; exact ⟨by decide, _, _, _, _, hw⟩)
  rw [hx] at he; subst he
  refine ⟨_, rfl, _, hw', ?_⟩
  clear hw' hw w w'
  rw [if_neg (by omega)]
  by_cases h3 : (n : Int) + x ≠ 65535
  · rcases Nat.eq_zero_or_pos n with hn0 | hn0
    all_goals (repeat (first | (apply gJS; apply JS_loop') | first | (refine sx ?_; try intro _)))
    all_goals (refine JS_fin Tryz.func36 rfl rfl fun w hw => ⟨rfl, ?_⟩)
    all_goals (rw [if_pos h3]; exact ⟨by decide, _, _, _, _, hw⟩)
  rw [if_neg h3]
  have h3' : (n : Int) + x = 65535 := by omega
  by_cases h4 : (lim : Int) - o.length < n
  · have hn0 : 0 < n := by omega
    repeat (first | (apply gJS; apply JS_loop') | first | (refine sx ?_; try intro _))
    refine JS_fin Tryz.func36 rfl rfl fun w hw => ⟨rfl, ?_⟩
    rw [if_pos h4]; exact ⟨by decide, _, _, _, _, hw⟩
  rw [if_neg h4]
  by_cases h5 : ((8 * m : Nat) : Int) < u + 32 + 8 * n
  · have hn0 : 0 < n := by omega
    repeat (first | (apply gJS; apply JS_loop') | first | (refine sx ?_; try intro _))
    refine JS_fin Tryz.func36 rfl rfl fun w hw => ⟨rfl, ?_⟩
    rw [if_pos h5]; exact ⟨by decide, _, _, _, _, hw⟩
  rw [if_neg h5, Int.toNat_natCast]
  repeat (first | (apply gJR; first | (refine sx ?_; try intro _)) | (apply gJO; first | (refine sx ?_; try intro _)) | (apply gQR; first | (refine sx ?_; try intro _)) | (apply gQO; first | (refine sx ?_; try intro _)) | apply JS_seq | apply JS_region | refine JS_draw [] (by kernel_rfl) (by kernel_rfl) (by decide +kernel) ?_ | refine JS_condF rfl ?_ | refine JS_cond_F rfl (by omega) ?_ | apply JS_skip)
  refine JS_block ?_
  refine JS_loop3 (fun (i : Nat) (p : Option Addr) (c : Nat) => [(0, .pointer (some ⟨bs, 0, none⟩)), (2, .int .i64 n), (4, .int .i64 i)]) (fun i p c => strL bs q d m B lim (u + 32 + 8 * i) p c (o ++ byts (bitB B 0) (u + 32) i) 0 H)
    (fun i _ _ => i ≤ n) (fun i _ _ => n - i) 0 po co (Nat.zero_le _) (by repeat (first | exact trivial | refine ⟨rfl, ?_⟩ | refine ⟨lookI rfl (by omega), ?_⟩)) (fun _ h => by rw [show byts (bitB B 0) (u + 32) 0 = [] from rfl, List.append_nil]; exact h) ?_
  intro i p c hi again
  by_cases hin : i < n
  · have hcs : o ++ byts (bitB B 0) (u + 32) (i + 1) = (o ++ byts (bitB B 0) (u + 32) i) ++ [nbt (bitB B 0) (u + 32 + 8 * i) 8] := by rw [byts_succ, List.append_assoc]
    have hlen : (o ++ byts (bitB B 0) (u + 32) i).length ≤ lim := by rw [List.length_append, byts_len]; omega
    generalize o ++ byts (bitB B 0) (u + 32) i = L at *
    repeat (first | (apply gJR; first | (refine sx ?_; try intro _)) | (apply gJO; first | (refine sx ?_; try intro _)) | apply JS_seq | apply JS_region | apply JS_block | refine JS_condT rfl ?_ | refine JS_cond_T rfl (by omega) ?_ | apply JS_skip)
    refine JS_order2 [anyA fun (x : Int) => blk bs [.slice q (8 * m) d, .int .i64 x, .slice p L.length c, .int .i64 lim, .int .i64 0]] [0, 1, 2, 3, 4, 5, 6, 7, 8, 9, 10, 11, 12] [0]
      (fun w hw => St.any (f := fun (x : Int) => blk bs [.slice q (8 * m) d, .int .i64 x, .slice p L.length c, .int .i64 lim, .int .i64 0]) ((u + 32 + 8 * i : Nat) : Int) (St.sub (by repeat (first | exact List.nil_sublist _ | apply List.Sublist.cons_cons | apply List.Sublist.cons)) hw)) (Picks.cons rfl (Picks.cons rfl (Picks.cons rfl (Picks.cons rfl (Picks.cons rfl (Picks.cons rfl (Picks.cons rfl (Picks.cons rfl (Picks.cons rfl (Picks.cons rfl (Picks.cons rfl (Picks.cons rfl (Picks.cons rfl (Picks.nil)))))))))))))) (by kernel_rfl) (by kernel_rfl) rfl (by decide +kernel) ?_
    repeat (first | (apply gQR2; apply QR2_un) | (apply gQO2; first | refine QO2_v rfl (OpV_any (fun x => V_load (tb := tb) rfl (by repeat (first | apply List.Mem.head | apply List.Mem.tail)) rfl rfl rfl rfl) 0) ?_ | refine aQ2 ?_))
    have hby := nbt_bd (bitB B 0) (bitB_01 B 0) (u + 32 + 8 * i) 8
    refine QO2_callE Tryz.call35 rfl rfl fun w hw => (RGrp4_c hK (u + 32 + 8 * i) 8 (by omega) (by omega) hm2 w hw).mono ?_
    rintro e w' (⟨h, _⟩ | ⟨h6, rfl, hw'⟩)
    · exact absurd h (by omega)
    generalize nbt (bitB B 0) (u + 32 + 8 * i) 8 = y at *
    have hy0 : 0 ≤ y ∧ y < 256 := hby
    refine .inl ⟨_, rfl, [anyA fun (x : Int) => blk bs [.slice q (8 * m) d, .int .i64 x, .slice p L.length c, .int .i64 lim, .int .i64 0]], _, hw', fun w hw => St.any (f := fun (x : Int) => blk bs [.slice q (8 * m) d, .int .i64 x, .slice p L.length c, .int .i64 lim, .int .i64 0]) ((u + 32 + 8 * i + 8 : Nat) : Int) (St.sub (by repeat (first | exact List.nil_sublist _ | apply List.Sublist.cons_cons | apply List.Sublist.cons)) hw), .inl fun w hw => hw, ?_⟩
    clear hw' hw w w'
    repeat (first | (apply gQR2; apply QR2_un) | (apply gQO2; refine aQ2 ?_))
    refine QO2_e (E_buildSlice (tb := tb) rfl rfl rfl rfl rfl rfl rfl rfl rfl) rfl (fun _ w hw => St.any (f := fun (x : Int) => blk bs [.slice q (8 * m) d, .int .i64 x, .slice p L.length c, .int .i64 lim, .int .i64 0]) ((u + 32 + 8 * i + 8 : Nat) : Int) (St.sub (by repeat (first | exact List.nil_sublist _ | apply List.Sublist.cons_cons | apply List.Sublist.cons)) hw)) ?_
    intro p1
    repeat (first | (apply gQR2; apply QR2_un) | (apply gQO2; refine aQ2 ?_))
    refine QO2_e (E_appendB (tb := tb) rfl rfl rfl rfl rfl rfl (by repeat (first | exact Sel.here _ _ | apply Sel.there)) (by first | exact vec_rd (by repeat (first | apply List.Mem.head | apply List.Mem.tail)) | assumption | exact ArgRd.rd (by assumption) _ | (apply Rd_weak; assumption; intro _ hx; exact St.sub (by repeat (first | exact List.Sublist.refl _ | apply List.Sublist.cons_cons | apply List.Sublist.cons)) hx)) (by simp only [ints_len, List.length_cons, List.length_nil]; first | omega | rfl) (by repeat (first | exact trivial | refine ⟨rfl, ?_⟩)) (by omega) (by omega) rfl) rfl (fun _ w hw => St.any (f := fun (x : Int) => blk bs [.slice q (8 * m) d, .int .i64 x, .slice p L.length c, .int .i64 lim, .int .i64 0]) ((u + 32 + 8 * i + 8 : Nat) : Int) (St.sub (by repeat (first | exact List.nil_sublist _ | apply List.Sublist.cons_cons | apply List.Sublist.cons)) hw)) ?_
    intro c1
    repeat (first | (apply gQR2; first | apply QR2_un | apply QR2_nil) | (apply gQO2; first | refine aQ2 ?_ | refine aK2S rfl ?_))
    repeat (first | (refine sx ?_; try intro _))
    exact JS_again3 again (i + 1) c1.1 c1.2 (by omega) (by omega) (by exact ⟨rfl, rfl, rfl, trivial⟩) (fun w hw => by rw [hcs, show u + 32 + 8 * (i + 1) = u + 32 + 8 * i + 8 by omega]; unfold strL; rw [show (L ++ [y]).length = L.length + 1 by simp, ← ints_app1]; have g := vecB_fwd (by repeat (first | exact Sel.here _ _ | apply Sel.there)) hw; exact St.sub (by repeat (first | exact List.Sublist.refl _ | apply List.Sublist.cons_cons | apply List.Sublist.cons)) g)
  · obtain rfl : i = n := by omega
    clear again
    repeat (first | (refine sx ?_; try intro _))
    refine JS_fin Tryz.func36 rfl rfl fun w hw => ⟨rfl, by omega, ?_, p, c, hw⟩
    rw [List.length_append, byts_len]; omega
end
end Go.Proofs.YtbiocgenbgbfpaaGreat

namespace Sx
open Go
theorem JS_joinQ4 {P : Program} {f n : Nat} {R : Ending → World → Prop} {D : List Deferred} {w0 : World} {k : List Item} {ov : Ov} {H : List Asn} {α β γ δ : Type} {c1 c2 c3 c4 c5 rest : Code} (o : α → β → γ → δ → Ov) (H' : α → β → γ → δ → List Asn) (I : α → β → γ → δ → Prop)
    (cont : ∀ (x1 : α) (x2 : β) (x3 : γ) (x4 : δ), I x1 x2 x3 x4 → JS P f n R D w0 (.code rest :: k) (o x1 x2 x3 x4) (H' x1 x2 x3 x4))
    (h : (∀ (x1 : α) (x2 : β) (x3 : γ) (x4 : δ), I x1 x2 x3 x4 → JS P f n R D w0 (.code rest :: k) (o x1 x2 x3 x4) (H' x1 x2 x3 x4)) → JS P f n R D w0 (.code (.seq c1 (.seq c2 (.seq c3 (.seq c4 (.seq c5 rest))))) :: k) ov H) :
    JS P f n R D w0 (.code (.seq c1 (.seq c2 (.seq c3 (.seq c4 (.seq c5 rest))))) :: k) ov H := h cont
theorem JS_joinQ1 {P : Program} {f n : Nat} {R : Ending → World → Prop} {D : List Deferred} {w0 : World} {k : List Item} {ov : Ov} {H : List Asn} {α : Type} {c1 rest : Code} (o : α → Ov) (H' : α → List Asn) (I : α → Prop)
    (cont : ∀ (x1 : α), I x1 → JS P f n R D w0 (.code rest :: k) (o x1) (H' x1))
    (h : (∀ (x1 : α), I x1 → JS P f n R D w0 (.code rest :: k) (o x1) (H' x1)) → JS P f n R D w0 (.code (.seq c1 rest) :: k) ov H) :
    JS P f n R D w0 (.code (.seq c1 rest) :: k) ov H := h cont
end Sx
namespace Go.Proofs.YtbiocgenbgbfpaaGreat
open Sx Go
set_option linter.unusedVariables false
set_option linter.unusedSimpArgs false
attribute [local irreducible] syA fc tk cds
section
variable {w0 : World} {H : List Asn} {bs : Nat} {q : Option Addr} {d m : Nat} {B : List Int} {lim : Nat} {po : Option Addr} {co : Nat} {o : List Int}
set_option maxRecDepth 10000 in
set_option maxHeartbeats 4000000 in
theorem RBlk_c (hK : InfK m B lim) (a : Nat) (ha : a ≤ 8 * m) (hm2 : m ≤ 17592186044410) (ho : o.length ≤ lim) (p1 p2 : Option Addr) (c1 c2 n1 n2 : Nat) (L D : List Int) (hr1 : Rd w0 H (.slice p1 n1 c1) n1 (ints .u8 L)) (hL : L.length = n1) (hB1 : OKB L) (hk1 : OKL L)
    (hr2 : Rd w0 H (.slice p2 n2 c2) n2 (ints .u8 D)) (hD : D.length = n2) (hB2 : OKB D) (hk2 : OKL D) (w : World) (hw : St w0 (strL bs q d m B lim a po co o 0 H) w) :
    Calls Tryz.prog 37 #[.pointer (some ⟨bs, 0, none⟩), .slice p1 n1 c1, .slice p2 n2 c2] w fun e w' => e = .returned (.tuple #[]) ∧ ∃ r, It (blkF (bitB B 0) (8 * m) lim L D) a o r ∧ RP w0 bs q d m B lim H r w' := by
  have hl := hK.hl
  have hm1 := hK.hm1
  have hL320 := hk1.1
  have hD320 := hk2.1
  refine enter (vs := [.pointer (some ⟨bs, 0, none⟩), .slice p1 n1 c1, .slice p2 n2 c2]) Tryz.func37 rfl rfl rfl hw ?_
  refine JS_block ?_
  refine JS_loop4 (fun (a1 : Nat) (o1 : List Int) (p : Option Addr) (c : Nat) => [(0, .pointer (some ⟨bs, 0, none⟩)), (1, .slice p1 n1 c1), (2, .slice p2 n2 c2)]) (fun a1 o1 p c => strL bs q d m B lim a1 p c o1 0 H)
    (fun a1 o1 _ _ => a1 ≤ 8 * m ∧ o1.length ≤ lim ∧ ∀ r, It (blkF (bitB B 0) (8 * m) lim L D) a1 o1 r → It (blkF (bitB B 0) (8 * m) lim L D) a o r) (fun a1 _ _ _ => 8 * m - a1) a o po co ⟨ha, ho, fun _ h => h⟩ (by repeat (first | exact trivial | refine ⟨rfl, ?_⟩ | refine ⟨lookI rfl (by omega), ?_⟩)) (fun _ h => h) ?_
  intro a1 o1 p c ⟨ha1, ho1, hinv⟩ again
  repeat (first | (refine sx ?_; try intro _))
  refine JO_call Tryz.call77 rfl rfl fun w hw => (RSym_c hK a1 ha1 hm2 p1 c1 n1 L hr1 hL hB1 hk1 w hw).mono ?_
  intro e w' h
  unfold symP at h
  cases hsy : symS (bitB B 0) (8 * m) L a1 with
  | err r =>
    rw [hsy] at h
    obtain ⟨hr0, rfl, a', hw'⟩ := h
    refine ⟨_, rfl, _, hw', ?_⟩
    clear hw' hw w w' again
    repeat (first | (refine sx ?_; try intro _))
    refine JS_ret Tryz.func37 rfl rfl fun w hw => ⟨rfl, .err r, hinv _ (.err (by unfold blkF; rw [hsy])), hr0, _, _, _, _, hw⟩
  | ok i a2 =>
  rw [hsy] at h
  obtain ⟨hi0, hiL, ha12, ha2, rfl, hw'⟩ := h
  refine ⟨_, rfl, _, hw', ?_⟩
  clear hw' hw w w'
  have hF : blkF (bitB B 0) (8 * m) lim L D a1 o1 = if i = 256 then .stop a2 o1
    else if i < 256 then (if (lim : Int) - o1.length < 1 then .err 64 else .go a2 (o1 ++ [i]))
    else if (lbase i).1 = 0 then .err 62
    else if 8 * m < a2 + (lbase i).2.toNat then .err 20
    else blk2 (bitB B 0) (8 * m) lim D o1 ((lbase i).1 + nbt (bitB B 0) a2 (lbase i).2.toNat) (a2 + (lbase i).2.toNat) := by unfold blkF; rw [hsy]
  by_cases h256 : i = 256
  · rw [if_pos h256] at hF
    clear again
    repeat (first | (refine sx ?_; try intro _))
    exact JS_ret Tryz.func37 rfl rfl fun w hw => ⟨rfl, .ok a2 o1, hinv _ (.stop hF), ha2, ho1, p, c, hw⟩
  rw [if_neg h256] at hF
  by_cases hlt : i < 256
  · rw [if_pos hlt] at hF
    by_cases h : (lim : Int) - o1.length < 1
    · rw [if_pos h] at hF
      clear again
      repeat (first | (refine sx ?_; try intro _))
      exact JS_ret Tryz.func37 rfl rfl fun w hw => ⟨rfl, .err 64, hinv _ (.err hF), by decide, _, _, _, _, hw⟩
    · rw [if_neg h] at hF
      repeat (first | (refine sx ?_; try intro _))
      refine JO_app (tb := tb) rfl rfl rfl rfl rfl rfl (by repeat (first | exact Sel.here _ _ | apply Sel.there)) (vec_rd (List.Mem.head _)) rfl (by repeat (first | exact trivial | refine ⟨rfl, ?_⟩)) (by omega) rfl ?_
      intro p3 c3
      repeat (first | (refine sx ?_; try intro _))
      exact JS_again4 again a2 (o1 ++ [i]) p3 c3 ⟨ha2, by simp; omega, fun r hr => hinv r (.go hF hr)⟩ (by omega) (by exact ⟨rfl, rfl, rfl, trivial⟩) (fun w hw => by unfold strL; rw [show (o1 ++ [i]).length = o1.length + 1 by simp, ← ints_app1]; exact St.sub (by repeat (first | exact List.Sublist.refl _ | apply List.Sublist.cons_cons | apply List.Sublist.cons)) hw)
  rw [if_neg hlt] at hF
  repeat (first | (refine sx ?_; try intro _))
  refine JO_call Tryz.call78 rfl rfl fun w hw => (RBase_c i (by omega) w hw).mono ?_
  rintro e w' ⟨rfl, hw'⟩
  refine ⟨_, rfl, _, hw', ?_⟩
  clear hw' hw w w'
  by_cases hb0 : (lbase i).1 = 0
  · rw [if_pos hb0] at hF
    clear again
    generalize lbase i = lb at *
    repeat (first | (refine sx ?_; try intro _))
    exact JS_ret Tryz.func37 rfl rfl fun w hw => ⟨rfl, .err 62, hinv _ (.err hF), by decide, _, _, _, _, hw⟩
  rw [if_neg hb0] at hF
  obtain ⟨_, _, g1, g2, g3, g4⟩ := lbase_ok hb0
  obtain ⟨⟨lb1, lb2⟩, hlb⟩ : ∃ x, lbase i = x := ⟨_, rfl⟩
  rw [hlb] at hF hb0 g1 g2 g3 g4 ⊢
  simp only at hF hb0 g1 g2 g3 g4 ⊢
  obtain ⟨k1, rfl⟩ : ∃ k : Nat, lb2 = k := ⟨lb2.toNat, by omega⟩
  simp only [Int.toNat_natCast] at hF
  obtain ⟨hn0, hn1⟩ := nbt_bd (bitB B 0) (bitB_01 B 0) a2 k1
  have hp1 : (2 : Int) ^ k1 ≤ 32 := by
    have : ∀ k : Fin 6, (2 : Int) ^ k.val ≤ 32 := by decide
    exact this ⟨k1, by omega⟩
  obtain ⟨x1, hn1e⟩ := Int.eq_ofNat_of_zero_le hn0
  rw [hn1e] at hF hn1
  repeat (first | (apply gJR; first | (refine sx ?_; try intro _)) | (apply gJO; first | (refine sx ?_; try intro _)))
  apply JS_seq
  apply JS_seq
  apply JS_region
  repeat (first | (apply gJR; first | (refine sx ?_; try intro _)) | (apply gJO; first | (refine sx ?_; try intro _)))
  refine JS_condF rfl ?_
  apply JS_skip
  refine JS_joinQ4 (fun (a4 : Nat) (E : Int) (ln bk : Nat) => [(0, .pointer (some ⟨bs, 0, none⟩)), (1, .slice p1 n1 c1), (2, .slice p2 n2 c2), (9, .int .i64 ln), (13, .int .i64 bk)]) (fun a4 E ln bk => strL bs q d m B lim a4 p c o1 E H)
    (fun a4 E ln bk => 3 ≤ ln ∧ ln ≤ 1000 ∧ bk ≤ 100000 ∧ ((E = 0 ∧ 0 < bk ∧ a4 ≤ 8 * m ∧ a1 < a4 ∧ blkF (bitB B 0) (8 * m) lim L D a1 o1 = if o1.length < bk then .err 63 else if (lim : Int) - o1.length < ln then .err 64 else .go a4 (cpy o1 bk ln)) ∨ (E ≠ 0 ∧ It (blkF (bitB B 0) (8 * m) lim L D) a o (.err E)))) ?_ ?_
  · clear hF hsy
    intro a4 E ln bk ⟨hln1, hln2, hbk2, hmode⟩
    refine JS_joinQ1 (fun (E' : Int) => [(0, .pointer (some ⟨bs, 0, none⟩)), (1, .slice p1 n1 c1), (2, .slice p2 n2 c2), (9, .int .i64 ln), (13, .int .i64 bk)]) (fun E' => strL bs q d m B lim a4 p c o1 E' H)
      (fun E' => (E' = 0 ∧ 0 < bk ∧ a4 ≤ 8 * m ∧ a1 < a4 ∧ bk ≤ o1.length ∧ blkF (bitB B 0) (8 * m) lim L D a1 o1 = if (lim : Int) - o1.length < ln then .err 64 else .go a4 (cpy o1 bk ln)) ∨ (E' ≠ 0 ∧ It (blkF (bitB B 0) (8 * m) lim L D) a o (.err E'))) ?_ ?_
    · clear hmode E
      intro E hmode
      rcases hmode with ⟨rfl, hbk1, ha4, ha14, hbl, hF⟩ | ⟨hE, hIt⟩
      · by_cases h2 : (lim : Int) - o1.length < ln
        · rw [if_pos h2] at hF
          clear again
          repeat (first | (refine sx ?_; try intro _))
          refine JO_call Tryz.call80 rfl rfl fun w hw => (RFail_c 64 a4 0 w hw).mono ?_
          rintro e w' ⟨rfl, hw'⟩
          rw [if_pos rfl] at hw'
          refine ⟨_, rfl, _, hw', ?_⟩
          clear hw' hw w w'
          (repeat (first | (apply gJS; first | apply JS_loop' | apply JS_inLoop) | first | (refine sx ?_; try intro _)))
          exact JS_fin Tryz.func37 rfl rfl fun w hw => ⟨rfl, .err 64, hinv _ (.err hF), by decide, _, _, _, _, hw⟩
        · rw [if_neg h2] at hF
          repeat (first | (apply gJR; first | (refine sx ?_; try intro _)) | (apply gJO; first | (refine sx ?_; try intro _)) | (apply gQR; first | (refine sx ?_; try intro _)) | (apply gQO; first | (refine sx ?_; try intro _)) | apply JS_seq | apply JS_region | refine JS_draw [] (by kernel_rfl) (by kernel_rfl) (by decide +kernel) ?_ | refine JS_condF rfl ?_ | refine JS_cond_F rfl (by omega) ?_ | apply JS_skip)
          refine JS_block ?_
          refine JS_loop3 (fun (i : Nat) (p : Option Addr) (c : Nat) => [(0, .pointer (some ⟨bs, 0, none⟩)), (1, .slice p1 n1 c1), (2, .slice p2 n2 c2), (9, .int .i64 ln), (13, .int .i64 bk), (14, .int .i64 i)]) (fun i p c => strL bs q d m B lim a4 p c (cpy o1 bk i) 0 H)
            (fun i _ _ => i ≤ ln) (fun i _ _ => ln - i) 0 p c (Nat.zero_le _) (by repeat (first | exact trivial | refine ⟨rfl, ?_⟩ | refine ⟨lookI rfl (by omega), ?_⟩)) (fun _ h => h) ?_
          intro j p' c' hj again2
          have hcl := cpy_len o1 bk j
          by_cases hil : j < ln
          · clear again
            have hcs : cpy o1 bk (j + 1) = cpy o1 bk j ++ [(cpy o1 bk j).getD ((cpy o1 bk j).length - bk) 0] := rfl
            generalize cpy o1 bk j = L1 at *
            have gi : (ints .u8 L1)[L1.length - bk]? = some (.int .u8 (L1.getD (L1.length - bk) 0)) := ints_get (by omega)
            generalize L1.getD (L1.length - bk) 0 = x at *
            repeat (first | (apply gQO; first | refine QO_v rfl (V_index (tb := tb) (j := L1.length - bk) rfl rfl rfl rfl (Rd.sl (vec_rd (by repeat (first | apply List.Mem.head | apply List.Mem.tail)))) (by omega) (by omega) rfl) ?_ | refine QO_v rfl (V_loadC (tb := tb) rfl (vec_rd (by repeat (first | apply List.Mem.head | apply List.Mem.tail))) rfl rfl gi rfl) ?_ | (refine QO_e (E_buildSlice (tb := tb) rfl rfl rfl rfl rfl rfl rfl rfl rfl) rfl (.inr fun _ _ hw => St.sub (by repeat (first | exact List.Sublist.refl _ | apply List.Sublist.cons_cons | apply List.Sublist.cons)) hw) ?_; intro _) | (refine QO_e (E_appendB (tb := tb) rfl rfl rfl rfl rfl rfl (by repeat (first | exact Sel.here _ _ | apply Sel.there)) (by first | exact vec_rd (by repeat (first | apply List.Mem.head | apply List.Mem.tail)) | assumption | exact ArgRd.rd (by assumption) _ | (apply Rd_weak; assumption; intro _ hx; exact St.sub (by repeat (first | exact List.Sublist.refl _ | apply List.Sublist.cons_cons | apply List.Sublist.cons)) hx)) (by simp only [ints_len, List.length_cons, List.length_nil]; first | omega | rfl) (by first | exact ints_one | (repeat (first | exact trivial | refine ⟨rfl, ?_⟩))) (by omega) (by omega) rfl) rfl (.inr fun _ _ hw => vecB_back (by repeat (first | exact Sel.here _ _ | apply Sel.there)) hw) ?_; intro _)) | (first | (refine sx ?_; try intro _)))
            rename_i p5 c5
            exact JS_again3 again2 (j + 1) c5.1 c5.2 (by omega) (by omega) (by exact ⟨rfl, rfl, rfl, rfl, rfl, rfl, trivial⟩) (fun w hw => by rw [hcs]; unfold strL; rw [show (L1 ++ [x]).length = L1.length + 1 by simp, ← ints_app1]; have g := vecB_fwd (by repeat (first | exact Sel.here _ _ | apply Sel.there)) hw; exact St.sub (by repeat (first | exact List.Sublist.refl _ | apply List.Sublist.cons_cons | apply List.Sublist.cons)) g)
          · obtain rfl : j = ln := by omega
            clear again2
            repeat (first | (refine sx ?_; try intro _))
            exact JS_again4 again a4 (cpy o1 bk j) p' c' ⟨ha4, by omega, fun r hr => hinv r (.go hF hr)⟩ (by omega) (by exact ⟨rfl, rfl, rfl, trivial⟩) (fun w hw => hw)
      · clear again
        by_cases h2 : (lim : Int) - o1.length < ln
        · repeat (first | (refine sx ?_; try intro _))
          refine JO_call Tryz.call80 rfl rfl fun w hw => (RFail_c 64 a4 E w hw).mono ?_
          rintro e w' ⟨rfl, hw'⟩
          rw [if_neg hE] at hw'
          refine ⟨_, rfl, _, hw', ?_⟩
          clear hw' hw w w'
          (repeat (first | (apply gJS; first | apply JS_loop' | apply JS_inLoop) | first | (refine sx ?_; try intro _)))
          exact JS_fin Tryz.func37 rfl rfl fun w hw => ⟨rfl, .err E, hIt, hE, _, _, _, _, hw⟩
        · (repeat (first | (apply gJS; first | apply JS_loop' | apply JS_inLoop) | first | (refine sx ?_; try intro _)))
          exact JS_fin Tryz.func37 rfl rfl fun w hw => ⟨rfl, .err E, hIt, hE, _, _, _, _, hw⟩
    · clear again
      intro K
      by_cases h1 : o1.length < bk
      · repeat (first | (refine sx ?_; try intro _))
        refine JO_call Tryz.call80 rfl rfl fun w hw => (RFail_c 63 a4 E w hw).mono ?_
        rintro e w' ⟨rfl, hw'⟩
        refine ⟨_, rfl, _, hw', ?_⟩
        clear hw' hw w w'
        repeat (first | (apply gJR; first | (refine sx ?_; try intro _)) | (apply gJO; first | (refine sx ?_; try intro _)))
        rcases hmode with ⟨rfl, hbk1, ha4, ha14, hF⟩ | ⟨hE, hIt⟩
        · rw [if_pos rfl]
          exact JS_to1 K 63 (.inr ⟨by decide, hinv _ (.err (by rw [hF, if_pos h1]))⟩) (by repeat (first | exact trivial | refine ⟨rfl, ?_⟩ | refine ⟨lookI rfl (by omega), ?_⟩)) (fun w hw => hw)
        · rw [if_neg hE]
          exact JS_to1 K E (.inr ⟨hE, hIt⟩) (by repeat (first | exact trivial | refine ⟨rfl, ?_⟩ | refine ⟨lookI rfl (by omega), ?_⟩)) (fun w hw => hw)
      · apply JS_seq
        apply JS_seq
        apply JS_region
        repeat (first | (apply gJR; first | (refine sx ?_; try intro _)) | (apply gJO; first | (refine sx ?_; try intro _)))
        refine JS_condF rfl ?_
        apply JS_skip
        rcases hmode with ⟨rfl, hbk1, ha4, ha14, hF⟩ | ⟨hE, hIt⟩
        · rw [if_neg h1] at hF
          exact JS_to1 K 0 (.inl ⟨rfl, hbk1, ha4, ha14, by omega, hF⟩) (by repeat (first | exact trivial | refine ⟨rfl, ?_⟩ | refine ⟨lookI rfl (by omega), ?_⟩)) (fun w hw => hw)
        · exact JS_to1 K E (.inr ⟨hE, hIt⟩) (by repeat (first | exact trivial | refine ⟨rfl, ?_⟩ | refine ⟨lookI rfl (by omega), ?_⟩)) (fun w hw => hw)
  · clear again
    intro K
    have hf0 : lfar 0 = (1, 0) := by decide
    repeat (first | (refine sx ?_; try intro _))
    refine JO_call Tryz.call35 rfl rfl fun w hw => (RGrp4_c hK a2 k1 (by omega) ha2 hm2 w hw).mono ?_
    rintro e w' (⟨h, rfl, hw'⟩ | ⟨h1, he, hw'⟩)
    · refine ⟨_, rfl, _, hw', ?_⟩
      clear hw' hw w w'
      rw [if_pos h] at hF
      repeat (first | (refine sx ?_; try intro _))
      refine JO_call Tryz.call77 rfl rfl fun w hw => (RSymE_c _ a2 20 (by decide) w hw).mono ?_
      rintro e w' ⟨rfl, hw'⟩
      refine ⟨_, rfl, _, hw', ?_⟩
      clear hw' hw w w'
      repeat (first | (refine sx ?_; try intro _))
      refine JO_call Tryz.call79 rfl rfl fun w hw => (RFar_c 0 (by omega) w hw).mono ?_
      rw [hf0]
      rintro e w' ⟨rfl, hw'⟩
      refine ⟨_, rfl, _, hw', ?_⟩
      clear hw' hw w w'
      repeat (first | (refine sx ?_; try intro _))
      refine JO_call Tryz.call35 rfl rfl fun w hw => (RGrpE_c 0 a2 20 (by decide) w hw).mono ?_
      rintro e w' ⟨rfl, hw'⟩
      refine ⟨_, rfl, _, hw', ?_⟩
      clear hw' hw w w'
      repeat (first | (apply gJR; first | (refine sx ?_; try intro _)) | (apply gJO; first | (refine sx ?_; try intro _)))
      exact JS_to4 K a2 20 lb1.toNat 1 ⟨by omega, by omega, by omega, .inr ⟨by decide, hinv _ (.err hF)⟩⟩ (by repeat (first | exact trivial | refine ⟨rfl, ?_⟩ | refine ⟨lookI rfl (by omega), ?_⟩)) (fun w hw => hw)
    rw [hn1e] at he; subst he
    refine ⟨_, rfl, _, hw', ?_⟩
    clear hw' hw w w'
    rw [if_neg (by omega)] at hF
    obtain ⟨ln, hln⟩ : ∃ ln : Nat, lb1 + (x1 : Int) = ln := ⟨(lb1 + (x1 : Int)).toNat, by omega⟩
    rw [hln] at hF
    repeat (first | (refine sx ?_; try intro _))
    simp only [hln]
    refine JO_call Tryz.call77 rfl rfl fun w hw => (RSym_c hK (a2 + k1) h1 hm2 p2 c2 n2 D hr2 hD hB2 hk2 w hw).mono ?_
    intro e w' h
    unfold symP at h
    cases hsy2 : symS (bitB B 0) (8 * m) D (a2 + k1) with
    | err r =>
      rw [hsy2] at h
      obtain ⟨hr0, rfl, a', hw'⟩ := h
      refine ⟨_, rfl, _, hw', ?_⟩
      clear hw' hw w w'
      have hIt := hinv _ (.err (show blkF (bitB B 0) (8 * m) lim L D a1 o1 = .err r by rw [hF]; unfold blk2; rw [hsy2]))
      repeat (first | (refine sx ?_; try intro _))
      refine JO_call Tryz.call79 rfl rfl fun w hw => (RFar_c 0 (by omega) w hw).mono ?_
      rw [hf0]
      rintro e w' ⟨rfl, hw'⟩
      refine ⟨_, rfl, _, hw', ?_⟩
      clear hw' hw w w'
      repeat (first | (refine sx ?_; try intro _))
      refine JO_call Tryz.call35 rfl rfl fun w hw => (RGrpE_c 0 a' r hr0 w hw).mono ?_
      rintro e w' ⟨rfl, hw'⟩
      refine ⟨_, rfl, _, hw', ?_⟩
      clear hw' hw w w'
      repeat (first | (apply gJR; first | (refine sx ?_; try intro _)) | (apply gJO; first | (refine sx ?_; try intro _)))
      exact JS_to4 K a' r ln 1 ⟨by omega, by omega, by omega, .inr ⟨hr0, hIt⟩⟩ (by repeat (first | exact trivial | refine ⟨rfl, ?_⟩ | refine ⟨lookI rfl (by omega), ?_⟩)) (fun w hw => hw)
    | ok dd a3 =>
    rw [hsy2] at h
    obtain ⟨hd0, hdD, ha23, ha3, rfl, hw'⟩ := h
    refine ⟨_, rfl, _, hw', ?_⟩
    clear hw' hw w w'
    have hF2 : blk2 (bitB B 0) (8 * m) lim D o1 ln (a2 + k1) = if (lfar dd).1 = 0 then .err 62
      else if 8 * m < a3 + (lfar dd).2.toNat then .err 20
      else if (o1.length : Int) < (lfar dd).1 + nbt (bitB B 0) a3 (lfar dd).2.toNat then .err 63
      else if (lim : Int) - o1.length < ln then .err 64
      else .go (a3 + (lfar dd).2.toNat) (cpy o1 ((lfar dd).1 + nbt (bitB B 0) a3 (lfar dd).2.toNat).toNat (ln : Int).toNat) := by unfold blk2; rw [hsy2]
    rw [hF2] at hF
    clear hF2
    repeat (first | (refine sx ?_; try intro _))
    refine JO_call Tryz.call79 rfl rfl fun w hw => (RFar_c dd (by omega) w hw).mono ?_
    rintro e w' ⟨rfl, hw'⟩
    refine ⟨_, rfl, _, hw', ?_⟩
    clear hw' hw w w'
    by_cases hz : (lfar dd).1 = 0
    · rw [if_pos hz] at hF
      have hz2 : (lfar dd) = (0, 0) := by
        by_cases h : dd < 0 ∨ 29 < dd
        · unfold lfar; rw [if_pos h]
        · obtain ⟨k, rfl⟩ : ∃ k : Nat, dd = k := ⟨dd.toNat, by omega⟩
          have := lfar_bd k (by omega)
          omega
      rw [hz2]
      clear hz hz2
      repeat (first | (refine sx ?_; try intro _))
      refine JO_call Tryz.call80 rfl rfl fun w hw => (RFail_c 62 a3 0 w hw).mono ?_
      rw [if_pos rfl]
      rintro e w' ⟨rfl, hw'⟩
      refine ⟨_, rfl, _, hw', ?_⟩
      clear hw' hw w w'
      repeat (first | (refine sx ?_; try intro _))
      refine JO_call Tryz.call35 rfl rfl fun w hw => (RGrpE_c 0 a3 62 (by decide) w hw).mono ?_
      rintro e w' ⟨rfl, hw'⟩
      refine ⟨_, rfl, _, hw', ?_⟩
      clear hw' hw w w'
      repeat (first | (apply gJR; first | (refine sx ?_; try intro _)) | (apply gJO; first | (refine sx ?_; try intro _)))
      exact JS_to4 K a3 62 ln 0 ⟨by omega, by omega, by omega, .inr ⟨by decide, hinv _ (.err hF)⟩⟩ (by repeat (first | exact trivial | refine ⟨rfl, ?_⟩ | refine ⟨lookI rfl (by omega), ?_⟩)) (fun w hw => hw)
    rw [if_neg hz] at hF
    obtain ⟨_, _, d1, d2, d3, d4⟩ := lfar_ok hz
    obtain ⟨⟨lf1, lf2⟩, hlf⟩ : ∃ x, lfar dd = x := ⟨_, rfl⟩
    rw [hlf] at hF hz d1 d2 d3 d4 ⊢
    simp only at hF hz d1 d2 d3 d4 ⊢
    obtain ⟨k2, rfl⟩ : ∃ k : Nat, lf2 = k := ⟨lf2.toNat, by omega⟩
    simp only [Int.toNat_natCast] at hF
    obtain ⟨hm0, hm1'⟩ := nbt_bd (bitB B 0) (bitB_01 B 0) a3 k2
    have hp2 : (2 : Int) ^ k2 ≤ 8192 := by
      have : ∀ k : Fin 14, (2 : Int) ^ k.val ≤ 8192 := by decide
      exact this ⟨k2, by omega⟩
    obtain ⟨x2, hn2e⟩ := Int.eq_ofNat_of_zero_le hm0
    rw [hn2e] at hF hm1'
    repeat (first | (refine sx ?_; try intro _))
    refine JO_call Tryz.call35 rfl rfl fun w hw => (RGrp4_c hK a3 k2 (by omega) ha3 hm2 w hw).mono ?_
    rintro e w' (⟨h, rfl, hw'⟩ | ⟨h2, he, hw'⟩)
    · refine ⟨_, rfl, _, hw', ?_⟩
      clear hw' hw w w'
      rw [if_pos h] at hF
      repeat (first | (apply gJR; first | (refine sx ?_; try intro _)) | (apply gJO; first | (refine sx ?_; try intro _)))
      exact JS_to4 K a3 20 ln lf1.toNat ⟨by omega, by omega, by omega, .inr ⟨by decide, hinv _ (.err hF)⟩⟩ (by repeat (first | exact trivial | refine ⟨rfl, ?_⟩ | refine ⟨lookI rfl (by omega), ?_⟩)) (fun w hw => hw)
    rw [hn2e] at he; subst he
    refine ⟨_, rfl, _, hw', ?_⟩
    clear hw' hw w w'
    rw [if_neg (by omega)] at hF
    obtain ⟨bk, hbk⟩ : ∃ bk : Nat, lf1 + (x2 : Int) = bk := ⟨(lf1 + (x2 : Int)).toNat, by omega⟩
    rw [hbk, Int.toNat_natCast] at hF
    repeat (first | (apply gJR; first | (refine sx ?_; try intro _)) | (apply gJO; first | (refine sx ?_; try intro _)))
    refine JS_to4 K (a3 + k2) 0 ln bk ⟨by omega, by omega, by omega, .inl ⟨rfl, by omega, h2, by omega, ?_⟩⟩ (by repeat (first | exact trivial | refine ⟨rfl, ?_⟩ | refine ⟨lookI rfl (by omega), ?_⟩)) (fun w hw => hw)
    rw [hF]
    by_cases h : o1.length < bk
    · rw [if_pos (by omega), if_pos h]
    · rw [if_neg (by omega), if_neg h]
end
end Go.Proofs.YtbiocgenbgbfpaaGreat

namespace Sx
open Go
theorem JS_joinQ46 {P : Program} {f n : Nat} {R : Ending → World → Prop} {D : List Deferred} {w0 : World} {k : List Item} {ov : Ov} {H : List Asn} {α β γ δ : Type} {c1 c2 c3 c4 c5 c6 rest : Code} (o : α → β → γ → δ → Ov) (H' : α → β → γ → δ → List Asn) (I : α → β → γ → δ → Prop)
    (cont : ∀ (x1 : α) (x2 : β) (x3 : γ) (x4 : δ), I x1 x2 x3 x4 → JS P f n R D w0 (.code rest :: k) (o x1 x2 x3 x4) (H' x1 x2 x3 x4))
    (h : (∀ (x1 : α) (x2 : β) (x3 : γ) (x4 : δ), I x1 x2 x3 x4 → JS P f n R D w0 (.code rest :: k) (o x1 x2 x3 x4) (H' x1 x2 x3 x4)) → JS P f n R D w0 (.code (.seq c1 (.seq c2 (.seq c3 (.seq c4 (.seq c5 (.seq c6 rest)))))) :: k) ov H) :
    JS P f n R D w0 (.code (.seq c1 (.seq c2 (.seq c3 (.seq c4 (.seq c5 (.seq c6 rest)))))) :: k) ov H := h cont
end Sx
namespace Go.Proofs.YtbiocgenbgbfpaaGreat
open Sx Go
set_option linter.unusedVariables false
set_option linter.unusedSimpArgs false
attribute [local irreducible] syA fc tk cds
section
variable {w0 : World} {H : List Asn} {bs : Nat} {q : Option Addr} {d m : Nat} {B : List Int} {lim : Nat} {po : Option Addr} {co : Nat} {o : List Int}
theorem strL_in {w : World} {a : Nat} {E : Int} {x : Asn} (h : St w0 (x :: strL bs q d m B lim a po co o E H) w) : St w0 (strL bs q d m B lim a po co o E (x :: H)) w :=
  h.perm (List.perm_append_comm_assoc [x] [_, _, _] H)
set_option maxRecDepth 10000 in
set_option maxHeartbeats 4000000 in
theorem RLens_c (hK : InfK m B lim) (a : Nat) (ha : a ≤ 8 * m) (hm2 : m ≤ 17592186044410) (many : Nat) (hmn : many ≤ 1000) (pC : Option Addr) (cC : Nat) (C : List Int) (hrC : Rd w0 H (.slice pC 19 cC) 19 (ints .u8 C)) (hC : C.length = 19) (hBC : OKB C) (hkC : OKL C) (w : World) (hw : St w0 (strL bs q d m B lim a po co o 0 H) w) :
    Calls Tryz.prog 82 #[.pointer (some ⟨bs, 0, none⟩), .slice pC 19 cC, .int .i64 many] w fun e w' => ∃ r, It (lenF (bitB B 0) (8 * m) C many) a [] r ∧ resP r (fun r => r ≠ 0 ∧ (∃ v, e = .returned v) ∧ ∃ a', St w0 (strL bs q d m B lim a' po co o r H) w')
      (fun a' l => a' ≤ 8 * m ∧ l.length = many ∧ OKB l ∧ ∃ p c, e = .returned (.slice p many c) ∧ St w0 (strL bs q d m B lim a' po co o 0 (vec 5 1 (.slice p many c) many (ints .u8 l) :: H)) w') := by
  have hl := hK.hl
  have hm1 := hK.hm1
  refine enter (vs := [.pointer (some ⟨bs, 0, none⟩), .slice pC 19 cC, .int .i64 many]) Tryz.func82 rfl rfl rfl hw ?_
  repeat (first | (apply gJR; first | (refine sx ?_; try intro _)) | (apply gJO; first | (refine sx ?_; try intro _)) | apply JS_seq | apply JS_region)
  refine JS_block ?_
  refine JS_loop4 (fun (a1 : Nat) (l : List Int) (p : Option Addr) (c : Nat) => [(0, .pointer (some ⟨bs, 0, none⟩)), (1, .slice pC 19 cC), (2, .int .i64 many), (7, .slice p l.length c)]) (fun a1 l p c => strL bs q d m B lim a1 po co o 0 (vec 5 1 (.slice p l.length c) l.length (ints .u8 l) :: H))
    (fun a1 l _ _ => a1 ≤ 8 * m ∧ l.length ≤ many ∧ OKB l ∧ ∀ r, It (lenF (bitB B 0) (8 * m) C many) a1 l r → It (lenF (bitB B 0) (8 * m) C many) a [] r) (fun a1 _ _ _ => 8 * m - a1) a [] none 0 ⟨ha, Nat.zero_le _, OKB_nil, fun _ h => h⟩ (by repeat (first | exact trivial | refine ⟨rfl, ?_⟩ | refine ⟨lookI rfl (by omega), ?_⟩)) (fun _ h => strL_in (St.nilvec h)) ?_
  intro a1 l p c ⟨ha1, hll, hOl, hinv⟩ again
  by_cases hmany : many ≤ l.length
  · obtain rfl : many = l.length := by omega
    clear again
    repeat (first | (refine sx ?_; try intro _))
    refine JS_ret Tryz.func82 rfl rfl ?_
    intro w hw
    exact ⟨.ok a1 l, hinv _ (.stop (by unfold lenF; rw [if_pos (Nat.le_refl _)])), ha1, rfl, hOl, p, c, rfl, hw⟩
  have hrC' : Rd w0 (vec 5 1 (.slice p l.length c) l.length (ints .u8 l) :: H) (.slice pC 19 cC) 19 (ints .u8 C) := Rd_weak hrC fun w hw => St.sub (by repeat (first | exact List.Sublist.refl _ | apply List.Sublist.cons_cons | apply List.Sublist.cons)) hw
  repeat (first | (apply gJR; first | (refine sx ?_; try intro _)) | (apply gJO; first | (refine sx ?_; try intro _)) | apply JS_region | refine JS_condT rfl ?_ | refine JS_cond_T rfl (by omega) ?_)
  apply JS_seq
  apply JS_seq
  apply JS_region
  repeat (first | (apply gJR; first | (refine sx ?_; try intro _)) | (apply gJO; first | (refine sx ?_; try intro _)))
  refine JS_condT rfl ?_
  apply JS_skip
  refine JS_block ?_
  refine JS_joinQ46 (fun (E : Int) (t : Nat) (x : Int) (a3 : Nat) => [(0, .pointer (some ⟨bs, 0, none⟩)), (1, .slice pC 19 cC), (2, .int .i64 many), (7, .slice p l.length c), (9, .int .i64 t), (10, .int .u8 x)])
    (fun E t x a3 => strL bs q d m B lim a3 po co o E (vec 5 1 (.slice p l.length c) l.length (ints .u8 l) :: H))
    (fun E t x a3 => 1 ≤ t ∧ t ≤ 1000 ∧ 0 ≤ x ∧ x < 256 ∧ ((E = 0 ∧ a3 ≤ 8 * m ∧ a1 < a3 ∧ lenF (bitB B 0) (8 * m) C many a1 l = lenP many l x t a3) ∨ (E ≠ 0 ∧ It (lenF (bitB B 0) (8 * m) C many) a [] (.err E)))) ?_ ?_
  · intro E t x a3 ⟨ht0, ht, hx0, hx1, hmode⟩
    by_cases h : (many : Int) < l.length + t
    · clear again
      repeat (first | (refine sx ?_; try intro _))
      refine JO_call Tryz.call80 rfl rfl fun w hw => (RFail_c 62 a3 E w hw).mono ?_
      rintro e w' ⟨rfl, hw'⟩
      refine ⟨_, rfl, _, hw', ?_⟩
      clear hw' hw w w'
      obtain ⟨E2, hE2, hIt, heq⟩ : ∃ E2 : Int, E2 ≠ 0 ∧ It (lenF (bitB B 0) (8 * m) C many) a [] (.err E2) ∧ (if E = 0 then 62 else E) = E2 := by
        rcases hmode with ⟨rfl, ha4, ha14, hF⟩ | ⟨hE, hIt⟩
        · exact ⟨62, by decide, hinv _ (.err (by rw [hF]; unfold lenP; rw [if_pos h])), rfl⟩
        · exact ⟨E, hE, hIt, if_neg hE⟩
      rw [heq]
      (repeat (first | (apply gJS; first | apply JS_loop' | apply JS_inLoop) | first | (refine sx ?_; try intro _)))
      exact JS_ret Tryz.func82 rfl rfl fun w hw => ⟨.err E2, hIt, hE2, ⟨_, rfl⟩, a3, St.sub (by repeat (first | exact List.Sublist.refl _ | apply List.Sublist.cons_cons | apply List.Sublist.cons)) hw⟩
    · rcases hmode with ⟨rfl, ha4, ha14, hF⟩ | ⟨hE, hIt⟩
      · have hF : lenF (bitB B 0) (8 * m) C many a1 l = .go a3 (l ++ List.replicate t x) := by rw [hF]; unfold lenP; rw [if_neg h, Int.toNat_natCast]
        repeat (first | (apply gJR; first | (refine sx ?_; try intro _)) | (apply gJO; first | (refine sx ?_; try intro _)) | apply JS_seq | apply JS_region | refine JS_condF rfl ?_ | refine JS_cond_F rfl (by omega) ?_ | apply JS_skip)
        refine JS_block ?_
        refine JS_loop3 (fun (j : Nat) (p : Option Addr) (c : Nat) => [(0, .pointer (some ⟨bs, 0, none⟩)), (1, .slice pC 19 cC), (2, .int .i64 many), (7, .slice p (l.length + j) c), (9, .int .i64 t), (10, .int .u8 x), (11, .int .i64 j)]) (fun j p c => strL bs q d m B lim a3 po co o 0 (vec 5 1 (.slice p (l.length + j) c) (l.length + j) (ints .u8 (l ++ List.replicate j x)) :: H))
          (fun j _ _ => j ≤ t) (fun j _ _ => t - j) 0 p c (Nat.zero_le _) (by repeat (first | exact trivial | refine ⟨rfl, ?_⟩ | refine ⟨lookI rfl (by omega), ?_⟩)) (fun _ h => by rw [show List.replicate 0 x = [] from rfl, List.append_nil]; exact h) ?_
        intro j p' c' hj again2
        by_cases hjt : j < t
        · clear again
          have hcs : l ++ List.replicate (j + 1) x = (l ++ List.replicate j x) ++ [x] := by rw [List.replicate_succ', List.append_assoc]
          have hlen : (l ++ List.replicate j x).length = l.length + j := by simp
          generalize l ++ List.replicate j x = L1 at *
          repeat (first | (refine sx ?_; try intro _))
          refine JO_app (tb := tb) rfl rfl rfl rfl rfl rfl (by repeat (first | exact Sel.here _ _ | apply Sel.there)) (vec_rd (List.Mem.head _)) rfl (by repeat (first | exact trivial | refine ⟨rfl, ?_⟩)) (by omega) rfl ?_
          intro p5 c5
          repeat (first | (refine sx ?_; try intro _))
          exact JS_again3 again2 (j + 1) p5 c5 (by omega) (by omega) (by repeat (first | exact trivial | refine ⟨rfl, ?_⟩ | refine ⟨lookI rfl (by omega), ?_⟩)) (fun w hw => by rw [hcs, ← ints_app1]; exact St.sub (by repeat (first | exact List.Sublist.refl _ | apply List.Sublist.cons_cons | apply List.Sublist.cons)) hw)
        · obtain rfl : j = t := by omega
          clear again2
          repeat (first | (refine sx ?_; try intro _))
          exact JS_again4 again a3 (l ++ List.replicate j x) p' c' ⟨ha4, by simp; omega, OKB_app hOl (OKB_rep ⟨hx0, hx1⟩ j), fun r hr => hinv r (.go hF hr)⟩ (by omega)
            (by rw [List.length_append, List.length_replicate]; exact ⟨rfl, rfl, rfl, rfl, trivial⟩) (fun w hw => by rw [List.length_append, List.length_replicate]; exact hw)
      · clear again
        (repeat (first | (apply gJS; first | apply JS_loop' | apply JS_inLoop) | first | (refine sx ?_; try intro _)))
        exact JS_ret Tryz.func82 rfl rfl fun w hw => ⟨.err E, hIt, hE, ⟨_, rfl⟩, a3, St.sub (by repeat (first | exact List.Sublist.refl _ | apply List.Sublist.cons_cons | apply List.Sublist.cons)) hw⟩
  · clear again
    intro K
    repeat (first | (refine sx ?_; try intro _))
    refine JO_call Tryz.call77 rfl rfl fun w hw => (RSym_c hK a1 ha1 hm2 pC cC 19 C hrC' hC hBC hkC w hw).mono ?_
    intro e w' h
    unfold symP at h
    cases hsy : symS (bitB B 0) (8 * m) C a1 with
    | err r =>
      rw [hsy] at h
      obtain ⟨hr0, rfl, a', hw'⟩ := h
      refine ⟨_, rfl, _, hw', ?_⟩
      clear hw' hw w w'
      have hIt := hinv _ (.err (show lenF (bitB B 0) (8 * m) C many a1 l = .err r by unfold lenF; rw [if_neg hmany, hsy]))
      (repeat (first | (apply gJR; first | (refine sx ?_; try intro _)) | (apply gJO; first | (refine sx ?_; try intro _))))
      (apply JS_seq; apply JS_region; repeat (first | (apply gJR; first | (refine sx ?_; try intro _)) | (apply gJO; first | (refine sx ?_; try intro _))))
      (apply JS_seq; apply JS_region; repeat (first | (apply gJR; first | (refine sx ?_; try intro _)) | (apply gJO; first | (refine sx ?_; try intro _))))
      (apply JS_seq; apply JS_seq; apply JS_region; (repeat (first | (apply gJR; first | (refine sx ?_; try intro _)) | (apply gJO; first | (refine sx ?_; try intro _)))); refine JS_condF rfl ?_; apply JS_skip)
      (apply JS_seq; apply JS_seq; apply JS_region; (repeat (first | (apply gJR; first | (refine sx ?_; try intro _)) | (apply gJO; first | (refine sx ?_; try intro _)))); refine JS_condF rfl ?_; apply JS_skip)
      (apply JS_seq; apply JS_seq; apply JS_region; (repeat (first | (apply gJR; first | (refine sx ?_; try intro _)) | (apply gJO; first | (refine sx ?_; try intro _)))); refine JS_condF rfl ?_; apply JS_skip)
      exact JS_to4 K r 1 0 a' ⟨by omega, by omega, by omega, by omega, .inr ⟨hr0, hIt⟩⟩ (by repeat (first | exact trivial | refine ⟨rfl, ?_⟩ | refine ⟨lookI rfl (by omega), ?_⟩)) (fun w hw => hw)
    | ok i a2 =>
    rw [hsy] at h
    obtain ⟨hi0, hiC, ha12, ha2, rfl, hw'⟩ := h
    refine ⟨_, rfl, _, hw', ?_⟩
    clear hw' hw w w'
    have hF : lenF (bitB B 0) (8 * m) C many a1 l = if i = 16 then (if l.length = 0 then .err 62 else if 8 * m < a2 + 2 then .err 20 else lenP many l (l.getD (l.length - 1) 0) (3 + nbt (bitB B 0) a2 2) (a2 + 2))
      else if i = 17 then (if 8 * m < a2 + 3 then .err 20 else lenP many l 0 (3 + nbt (bitB B 0) a2 3) (a2 + 3))
      else if i = 18 then (if 8 * m < a2 + 7 then .err 20 else lenP many l 0 (11 + nbt (bitB B 0) a2 7) (a2 + 7))
      else lenP many l i 1 a2 := by unfold lenF; rw [if_neg hmany, hsy]
    by_cases h16 : i = 16
    · rw [if_pos h16] at hF
      by_cases hl0 : l.length = 0
      · rw [if_pos hl0] at hF
        repeat (first | (refine sx ?_; try intro _))
        refine JO_call Tryz.call80 rfl rfl fun w hw => (RFail_c 62 a2 0 w hw).mono ?_
        rw [if_pos rfl]
        rintro e w' ⟨rfl, hw'⟩
        refine ⟨_, rfl, _, hw', ?_⟩
        clear hw' hw w w'
        repeat (first | (refine sx ?_; try intro _))
        exact JS_ret Tryz.func82 rfl rfl fun w hw => ⟨.err 62, hinv _ (.err hF), by decide, ⟨_, rfl⟩, a2, St.sub (by repeat (first | exact List.Sublist.refl _ | apply List.Sublist.cons_cons | apply List.Sublist.cons)) hw⟩
      rw [if_neg hl0] at hF
      have hlst := hOl (l.length - 1)
      have gl : (ints .u8 l)[l.length - 1]? = some (.int .u8 (l.getD (l.length - 1) 0)) := ints_get (by omega)
      generalize l.getD (l.length - 1) 0 = x at *
      repeat (first | (apply gJO; first | refine JO_v (V_index (tb := tb) (j := l.length - 1) rfl rfl rfl rfl (Rd.sl (vec_rd (by repeat (first | apply List.Mem.head | apply List.Mem.tail)))) (by omega) (by omega) rfl) ?_ | refine JO_v (V_loadC (tb := tb) rfl (vec_rd (by repeat (first | apply List.Mem.head | apply List.Mem.tail))) rfl rfl gl rfl) ?_) | first | (refine sx ?_; try intro _))
      refine JO_call Tryz.call35 rfl rfl fun w hw => (RGrp4_c hK a2 2 (by omega) ha2 hm2 w hw).mono ?_
      rintro e w' (⟨h, rfl, hw'⟩ | ⟨h1, he, hw'⟩)
      · refine ⟨_, rfl, _, hw', ?_⟩
        clear hw' hw w w'
        rw [if_pos h] at hF
        (repeat (first | (apply gJR; first | (refine sx ?_; try intro _)) | (apply gJO; first | (refine sx ?_; try intro _))))
        (apply JS_seq; apply JS_seq; apply JS_region; (repeat (first | (apply gJR; first | (refine sx ?_; try intro _)) | (apply gJO; first | (refine sx ?_; try intro _)))); refine JS_condF rfl ?_; apply JS_skip)
        (apply JS_seq; apply JS_seq; apply JS_region; (repeat (first | (apply gJR; first | (refine sx ?_; try intro _)) | (apply gJO; first | (refine sx ?_; try intro _)))); refine JS_condF rfl ?_; apply JS_skip)
        exact JS_to4 K 20 3 x a2 ⟨by omega, by omega, hlst.1, hlst.2, .inr ⟨by decide, hinv _ (.err hF)⟩⟩ (by repeat (first | exact trivial | refine ⟨rfl, ?_⟩ | refine ⟨lookI rfl (by omega), ?_⟩)) (fun w hw => hw)
      rw [if_neg (by omega)] at hF
      obtain ⟨n, hn⟩ := Int.eq_ofNat_of_zero_le (nbt_bd (bitB B 0) (bitB_01 B 0) a2 2).1
      have hn1 := (nbt_bd (bitB B 0) (bitB_01 B 0) a2 2).2
      rw [hn] at he hn1 hF
      subst he
      have hn2 : (n : Int) < 4 := hn1
      refine ⟨_, rfl, _, hw', ?_⟩
      clear hw' hw w w'
      (repeat (first | (apply gJR; first | (refine sx ?_; try intro _)) | (apply gJO; first | (refine sx ?_; try intro _))))
      (apply JS_seq; apply JS_seq; apply JS_region; (repeat (first | (apply gJR; first | (refine sx ?_; try intro _)) | (apply gJO; first | (refine sx ?_; try intro _)))); refine JS_condF rfl ?_; apply JS_skip)
      (apply JS_seq; apply JS_seq; apply JS_region; (repeat (first | (apply gJR; first | (refine sx ?_; try intro _)) | (apply gJO; first | (refine sx ?_; try intro _)))); refine JS_condF rfl ?_; apply JS_skip)
      exact JS_to4 K 0 (3 + n) x (a2 + 2) ⟨by omega, by omega, hlst.1, hlst.2, .inl ⟨rfl, h1, by omega, hF⟩⟩ (by repeat (first | exact trivial | refine ⟨rfl, ?_⟩ | refine ⟨lookI rfl (by omega), ?_⟩)) (fun w hw => hw)
    rw [if_neg h16] at hF
    (repeat (first | (apply gJR; first | (refine sx ?_; try intro _)) | (apply gJO; first | (refine sx ?_; try intro _))))
    (apply JS_seq; apply JS_region; repeat (first | (apply gJR; first | (refine sx ?_; try intro _)) | (apply gJO; first | (refine sx ?_; try intro _))))
    (apply JS_seq; apply JS_region; repeat (first | (apply gJR; first | (refine sx ?_; try intro _)) | (apply gJO; first | (refine sx ?_; try intro _))))
    (apply JS_seq; apply JS_seq; apply JS_region; (repeat (first | (apply gJR; first | (refine sx ?_; try intro _)) | (apply gJO; first | (refine sx ?_; try intro _)))); refine JS_condF rfl ?_; apply JS_skip)
    by_cases h17 : i = 17
    · rw [if_pos h17] at hF
      repeat (first | (refine sx ?_; try intro _))
      refine JO_call Tryz.call35 rfl rfl fun w hw => (RGrp4_c hK a2 3 (by omega) ha2 hm2 w hw).mono ?_
      rintro e w' (⟨h, rfl, hw'⟩ | ⟨h1, he, hw'⟩)
      · refine ⟨_, rfl, _, hw', ?_⟩
        clear hw' hw w w'
        rw [if_pos h] at hF
        (repeat (first | (apply gJR; first | (refine sx ?_; try intro _)) | (apply gJO; first | (refine sx ?_; try intro _))))
        (apply JS_seq; apply JS_seq; apply JS_region; (repeat (first | (apply gJR; first | (refine sx ?_; try intro _)) | (apply gJO; first | (refine sx ?_; try intro _)))); refine JS_condF rfl ?_; apply JS_skip)
        exact JS_to4 K 20 3 0 a2 ⟨by omega, by omega, by omega, by omega, .inr ⟨by decide, hinv _ (.err hF)⟩⟩ (by repeat (first | exact trivial | refine ⟨rfl, ?_⟩ | refine ⟨lookI rfl (by omega), ?_⟩)) (fun w hw => hw)
      rw [if_neg (by omega)] at hF
      obtain ⟨n, hn⟩ := Int.eq_ofNat_of_zero_le (nbt_bd (bitB B 0) (bitB_01 B 0) a2 3).1
      have hn1 := (nbt_bd (bitB B 0) (bitB_01 B 0) a2 3).2
      rw [hn] at he hn1 hF
      subst he
      have hn2 : (n : Int) < 8 := hn1
      refine ⟨_, rfl, _, hw', ?_⟩
      clear hw' hw w w'
      (repeat (first | (apply gJR; first | (refine sx ?_; try intro _)) | (apply gJO; first | (refine sx ?_; try intro _))))
      (apply JS_seq; apply JS_seq; apply JS_region; (repeat (first | (apply gJR; first | (refine sx ?_; try intro _)) | (apply gJO; first | (refine sx ?_; try intro _)))); refine JS_condF rfl ?_; apply JS_skip)
      exact JS_to4 K 0 (3 + n) 0 (a2 + 3) ⟨by omega, by omega, by omega, by omega, .inl ⟨rfl, h1, by omega, hF⟩⟩ (by repeat (first | exact trivial | refine ⟨rfl, ?_⟩ | refine ⟨lookI rfl (by omega), ?_⟩)) (fun w hw => hw)
    rw [if_neg h17] at hF
    (apply JS_seq; apply JS_seq; apply JS_region; (repeat (first | (apply gJR; first | (refine sx ?_; try intro _)) | (apply gJO; first | (refine sx ?_; try intro _)))); refine JS_condF rfl ?_; apply JS_skip)
    by_cases h18 : i = 18
    · rw [if_pos h18] at hF
      repeat (first | (refine sx ?_; try intro _))
      refine JO_call Tryz.call35 rfl rfl fun w hw => (RGrp4_c hK a2 7 (by omega) ha2 hm2 w hw).mono ?_
      rintro e w' (⟨h, rfl, hw'⟩ | ⟨h1, he, hw'⟩)
      · refine ⟨_, rfl, _, hw', ?_⟩
        clear hw' hw w w'
        rw [if_pos h] at hF
        (repeat (first | (apply gJR; first | (refine sx ?_; try intro _)) | (apply gJO; first | (refine sx ?_; try intro _))))
        exact JS_to4 K 20 11 0 a2 ⟨by omega, by omega, by omega, by omega, .inr ⟨by decide, hinv _ (.err hF)⟩⟩ (by repeat (first | exact trivial | refine ⟨rfl, ?_⟩ | refine ⟨lookI rfl (by omega), ?_⟩)) (fun w hw => hw)
      rw [if_neg (by omega)] at hF
      obtain ⟨n, hn⟩ := Int.eq_ofNat_of_zero_le (nbt_bd (bitB B 0) (bitB_01 B 0) a2 7).1
      have hn1 := (nbt_bd (bitB B 0) (bitB_01 B 0) a2 7).2
      rw [hn] at he hn1 hF
      subst he
      have hn2 : (n : Int) < 128 := hn1
      refine ⟨_, rfl, _, hw', ?_⟩
      clear hw' hw w w'
      (repeat (first | (apply gJR; first | (refine sx ?_; try intro _)) | (apply gJO; first | (refine sx ?_; try intro _))))
      exact JS_to4 K 0 (11 + n) 0 (a2 + 7) ⟨by omega, by omega, by omega, by omega, .inl ⟨rfl, h1, by omega, hF⟩⟩ (by repeat (first | exact trivial | refine ⟨rfl, ?_⟩ | refine ⟨lookI rfl (by omega), ?_⟩)) (fun w hw => hw)
    rw [if_neg h18] at hF
    (apply JS_seq; apply JS_seq; apply JS_region; (repeat (first | (apply gJR; first | (refine sx ?_; try intro _)) | (apply gJO; first | (refine sx ?_; try intro _)))); refine JS_condF rfl ?_; apply JS_skip)
    exact JS_to4 K 0 1 i a2 ⟨by omega, by omega, hi0, by omega, .inl ⟨rfl, ha2, ha12, hF⟩⟩ (by repeat (first | exact trivial | refine ⟨rfl, ?_⟩ | refine ⟨lookI rfl (by omega), ?_⟩)) (fun w hw => hw)
end
end Go.Proofs.YtbiocgenbgbfpaaGreat

namespace Sx
open Go
theorem JS_joinQ53 {P : Program} {f n : Nat} {R : Ending → World → Prop} {D : List Deferred} {w0 : World} {k : List Item} {ov : Ov} {H : List Asn} {α β γ δ ε : Type} {c1 c2 c3 rest : Code} (o : α → β → γ → δ → ε → Ov) (H' : α → β → γ → δ → ε → List Asn) (I : α → β → γ → δ → ε → Prop)
    (cont : ∀ (x1 : α) (x2 : β) (x3 : γ) (x4 : δ) (x5 : ε), I x1 x2 x3 x4 x5 → JS P f n R D w0 (.code rest :: k) (o x1 x2 x3 x4 x5) (H' x1 x2 x3 x4 x5))
    (h : (∀ (x1 : α) (x2 : β) (x3 : γ) (x4 : δ) (x5 : ε), I x1 x2 x3 x4 x5 → JS P f n R D w0 (.code rest :: k) (o x1 x2 x3 x4 x5) (H' x1 x2 x3 x4 x5)) → JS P f n R D w0 (.code (.seq c1 (.seq c2 (.seq c3 rest))) :: k) ov H) :
    JS P f n R D w0 (.code (.seq c1 (.seq c2 (.seq c3 rest))) :: k) ov H := h cont
theorem JS_joinQ54 {P : Program} {f n : Nat} {R : Ending → World → Prop} {D : List Deferred} {w0 : World} {k : List Item} {ov : Ov} {H : List Asn} {α β γ δ ε : Type} {c1 c2 c3 c4 rest : Code} (o : α → β → γ → δ → ε → Ov) (H' : α → β → γ → δ → ε → List Asn) (I : α → β → γ → δ → ε → Prop)
    (cont : ∀ (x1 : α) (x2 : β) (x3 : γ) (x4 : δ) (x5 : ε), I x1 x2 x3 x4 x5 → JS P f n R D w0 (.code rest :: k) (o x1 x2 x3 x4 x5) (H' x1 x2 x3 x4 x5))
    (h : (∀ (x1 : α) (x2 : β) (x3 : γ) (x4 : δ) (x5 : ε), I x1 x2 x3 x4 x5 → JS P f n R D w0 (.code rest :: k) (o x1 x2 x3 x4 x5) (H' x1 x2 x3 x4 x5)) → JS P f n R D w0 (.code (.seq c1 (.seq c2 (.seq c3 (.seq c4 rest)))) :: k) ov H) :
    JS P f n R D w0 (.code (.seq c1 (.seq c2 (.seq c3 (.seq c4 rest)))) :: k) ov H := h cont
end Sx
namespace Go.Proofs.YtbiocgenbgbfpaaGreat
open Sx Go
set_option linter.unusedVariables false
set_option linter.unusedSimpArgs false
attribute [local irreducible] syA fc tk cds
theorem OKB_set {C : List Int} (h : OKB C) {x : Int} (hx : 0 ≤ x ∧ x < 256) (k : Nat) : OKB (C.set k x) := by
  intro j
  rw [List.getD_eq_getElem?_getD, List.getElem?_set]
  split
  · split
    · exact hx
    · exact ⟨by decide, by decide⟩
  · have := h j; rwa [List.getD_eq_getElem?_getD] at this
open Classical in
noncomputable def des1b (bt : Nat → Int) (N lim lit sp : Nat) (C : List Int) (a : Nat) (o : List Int) : Res :=
  if ¬ OKL C ∨ ¬ tk C = 32768 then .err 62
  else match itF (lenF bt N C (lit + sp)) a [] with
    | .err e => .err e
    | .ok a' l => des2 bt N lim lit l a' o
theorem des1_b (bt : Nat → Int) (N lim lit sp ln : Nat) (a : Nat) (o : List Int) : des1 bt N lim lit sp ln a o = if 286 < lit ∨ 30 < sp then .err 62 else if N < a + 3 * ln then .err 20 else des1b bt N lim lit sp (ccl bt a ln) (a + 3 * ln) o := rfl
theorem des1b_bad {bt : Nat → Int} {N lim lit sp : Nat} {C : List Int} {a : Nat} {o : List Int} (h : ¬ OKL C ∨ ¬ tk C = 32768) : des1b bt N lim lit sp C a o = .err 62 := by
  unfold des1b; rw [if_pos h]
theorem des1b_ok {bt : Nat → Int} {N lim lit sp : Nat} {C : List Int} {a : Nat} {o : List Int} (h : ¬ (¬ OKL C ∨ ¬ tk C = 32768)) : des1b bt N lim lit sp C a o = match itF (lenF bt N C (lit + sp)) a [] with
    | .err e => .err e
    | .ok a' l => des2 bt N lim lit l a' o := by
  unfold des1b; rw [if_neg h]
section
variable {w0 : World} {H : List Asn} {bs : Nat} {q : Option Addr} {d m : Nat} {B : List Int} {lim : Nat} {po : Option Addr} {co : Nat} {o : List Int}
theorem RP_drop {x : Asn} {r : Res} {w : World} (h : RP w0 bs q d m B lim (x :: H) r w) : RP w0 bs q d m B lim H r w := by
  unfold RP at *
  cases r with
  | err r => exact ⟨h.1, h.2.elim fun a h => h.elim fun po h => h.elim fun co h => h.elim fun o h => ⟨a, po, co, o, St.sub (by repeat (first | exact List.Sublist.refl _ | apply List.Sublist.cons_cons | apply List.Sublist.cons)) h⟩⟩
  | ok a o => exact ⟨h.1, h.2.1, h.2.2.elim fun po h => h.elim fun co h => ⟨po, co, St.sub (by repeat (first | exact List.Sublist.refl _ | apply List.Sublist.cons_cons | apply List.Sublist.cons)) h⟩⟩
theorem strL_ins {w : World} {a : Nat} {E : Int} (X : List Asn) (h : St w0 (X ++ strL bs q d m B lim a po co o E H) w) : St w0 (strL bs q d m B lim a po co o E (X ++ H)) w :=
  h.perm (List.perm_append_comm_assoc X [_, _, _] H)
set_option maxRecDepth 10000 in
set_option maxHeartbeats 4000000 in
theorem RDes_c (hK : InfK m B lim) (a : Nat) (ha : a ≤ 8 * m) (hm2 : m ≤ 17592186044410) (ho : o.length ≤ lim) (w : World) (hw : St w0 (strL bs q d m B lim a po co o 0 H) w) :
    Calls Tryz.prog 39 #[.pointer (some ⟨bs, 0, none⟩)] w fun e w' => e = .returned (.tuple #[]) ∧ RP w0 bs q d m B lim H (desF (bitB B 0) (8 * m) lim a o) w' := by
  have hl := hK.hl
  have hm1 := hK.hm1
  refine enter (vs := [.pointer (some ⟨bs, 0, none⟩)]) Tryz.func39 rfl rfl rfl hw ?_
  obtain ⟨F, hFd⟩ : ∃ F, desF (bitB B 0) (8 * m) lim a o = F := ⟨_, rfl⟩
  rw [hFd]
  refine JS_joinQ53 (fun (E : Int) (a3 lit sp ln : Nat) => [(0, .pointer (some ⟨bs, 0, none⟩)), (2, .int .i64 lit), (3, .int .i64 sp), (4, .int .i64 ln)]) (fun E a3 _ _ _ => strL bs q d m B lim a3 po co o E H)
    (fun E a3 lit sp ln => lit ≤ 300 ∧ 257 ≤ lit ∧ 1 ≤ sp ∧ sp ≤ 40 ∧ 4 ≤ ln ∧ ln ≤ 19 ∧ ((E = 0 ∧ a3 ≤ 8 * m ∧ F = des1 (bitB B 0) (8 * m) lim lit sp ln a3 o) ∨ (E ≠ 0 ∧ F = .err E))) ?_ ?_
  · clear hFd
    intro E a3 lit sp ln ⟨hlit, hlit2, hsp1, hsp, hln1, hln2, hmode⟩
    refine JS_joinQ54 (fun (E : Int) (a4 : Nat) (C : List Int) (pC : Option Addr) (cC : Nat) => [(0, .pointer (some ⟨bs, 0, none⟩)), (2, .int .i64 lit), (3, .int .i64 sp), (6, .slice pC 19 cC)]) (fun E a4 C pC cC => strL bs q d m B lim a4 po co o E (vec 5 1 (.slice pC 19 cC) 19 (ints .u8 C) :: H))
      (fun E a4 C pC cC => C.length = 19 ∧ OKB C ∧ ((E = 0 ∧ a4 ≤ 8 * m ∧ F = des1b (bitB B 0) (8 * m) lim lit sp C a4 o) ∨ (E ≠ 0 ∧ F = .err E))) ?_ ?_
    · clear hmode E
      intro E a4 C pC cC ⟨hC, hBC, hmode⟩
      repeat (first | (refine sx ?_; try intro _))
      refine JO_call Tryz.call81 rfl rfl fun w hw => (RCheck5_c pC cC 19 C (vec_rd (by repeat (first | apply List.Mem.head | apply List.Mem.tail))) hC hBC (by omega) w hw).mono ?_
      rintro e w' ⟨r, ob, rfl, hw', hcase⟩
      refine ⟨_, rfl, _, hw', ?_⟩
      clear hw' hw w w'
      have hbad : (r ≠ 0 ∨ ob = false) ↔ (¬ OKL C ∨ ¬ tk C = 32768) := by
        rcases hcase with ⟨h, rfl, rfl⟩ | ⟨h1, h2, h3, rfl, rfl⟩ | ⟨h1, h2, h3, rfl, rfl⟩
        · refine ⟨fun _ => .inl fun h' => ?_, fun _ => .inr rfl⟩
          rcases h with h | ⟨j, h⟩
          · omega
          · have := h'.2.1 j; omega
        · exact ⟨fun _ => .inl fun h' => h3 h'.2.2, fun _ => .inr rfl⟩
        · have hok : OKL C := ⟨by omega, h2, h3⟩
          constructor
          · rintro (h | h)
            · exact absurd rfl h
            · exact .inr (by simpa using h)
          · rintro (h | h)
            · exact absurd hok h
            · exact .inr (by simpa using h)
      by_cases hb : r ≠ 0 ∨ ob = false
      · obtain ⟨E2, hE2, hF2, heq⟩ : ∃ E2 : Int, E2 ≠ 0 ∧ F = .err E2 ∧ (if E = 0 then 62 else E) = E2 := by
          rcases hmode with ⟨rfl, ha4, hF⟩ | ⟨hE, hF⟩
          · exact ⟨62, by decide, by rw [hF, des1b_bad (hbad.1 hb)], rfl⟩
          · exact ⟨E, hE, hF, if_neg hE⟩
        have hb' : r ≠ 0 ∨ (r = 0 ∧ ob = false) := by
          by_cases h : r = 0
          · exact .inr ⟨h, hb.resolve_left fun h' => h' h⟩
          · exact .inl h
        rcases hb' with h | ⟨rfl, rfl⟩
        all_goals (repeat (first | (refine sx ?_; try intro _)))
        all_goals (refine JO_call Tryz.call80 rfl rfl fun w hw => (RFail_c 62 a4 E w hw).mono ?_)
        all_goals (rw [heq]; rintro e w' ⟨rfl, hw'⟩; refine ⟨_, rfl, _, hw', ?_⟩; clear hw' hw w w'; repeat (first | (refine sx ?_; try intro _)))
        all_goals (refine JS_ret Tryz.func39 rfl rfl fun w hw => ⟨rfl, ?_⟩; rw [hF2]; exact ⟨hE2, a4, _, _, _, St.sub (by repeat (first | exact List.Sublist.refl _ | apply List.Sublist.cons_cons | apply List.Sublist.cons)) hw⟩)
      · obtain rfl : r = 0 := by
          by_cases h : r = 0
          · exact h
          · exact absurd (.inl h) hb
        obtain rfl : ob = true := by
          cases ob with
          | true => rfl
          | false => exact absurd (.inr rfl) hb
        rcases hmode with ⟨rfl, ha4, hF⟩ | ⟨hE, hF⟩
        rotate_left
        · repeat (first | (refine sx ?_; try intro _))
          refine JS_ret Tryz.func39 rfl rfl fun w hw => ⟨rfl, ?_⟩
          rw [hF]
          exact ⟨hE, a4, _, _, _, St.sub (by repeat (first | exact List.Sublist.refl _ | apply List.Sublist.cons_cons | apply List.Sublist.cons)) hw⟩
        rw [des1b_ok (fun h => hb (hbad.2 h))] at hF
        have hkC : OKL C := by
          rcases hcase with ⟨_, h, _⟩ | ⟨_, _, _, h, _⟩ | ⟨h1, h2, h3, _, _⟩
          · exact absurd h (by decide)
          · exact absurd h (by decide)
          · exact ⟨by omega, h2, h3⟩
        have hls : (lit : Int) + sp = ((lit + sp : Nat) : Int) := by omega
        repeat (first | (refine sx ?_; try intro _))
        simp only [hls]
        refine JO_call Tryz.call82 rfl rfl fun w hw => (RLens_c hK a4 ha4 hm2 (lit + sp) (by omega) pC cC C (vec_rd (List.Mem.head _)) hC hBC hkC w hw).mono ?_
        rintro e w' ⟨r, hr, h⟩
        rw [itF_of hr] at hF
        clear hr
        cases r with
        | err r =>
          obtain ⟨hr0, ⟨v, rfl⟩, a', hw'⟩ := h
          refine ⟨_, rfl, _, hw', ?_⟩
          clear hw' hw w w'
          simp only at hF
          repeat (first | (refine sx ?_; try intro _))
          refine JS_ret Tryz.func39 rfl rfl fun w hw => ⟨rfl, ?_⟩
          rw [hF]
          exact ⟨hr0, a', _, _, _, St.sub (by repeat (first | exact List.Sublist.refl _ | apply List.Sublist.cons_cons | apply List.Sublist.cons)) hw⟩
        | ok a' l =>
        obtain ⟨ha', hll, hol, p, c, rfl, hw'⟩ := h
        have hcap : lit + sp ≤ c := (Rd.lcap (vec_rd (e := 5) (size := 1) (v := .slice p (lit + sp) c) (n := lit + sp) (cs := ints .u8 l) (by repeat (first | apply List.Mem.head | apply List.Mem.tail))) hw').1
        refine ⟨_, rfl, _, hw', ?_⟩
        clear hw' hw w w'
        simp only at hF
        unfold des2 at hF
        have g256 : (ints .u8 l)[256]? = some (.int .u8 (l.getD 256 0)) := ints_get (by omega)
        have h256 := hol 256
        by_cases hz : l.getD 256 0 = 0
        · rw [if_pos hz] at hF
          repeat (first | (apply gJO; first | refine JO_v (V_loadC (tb := tb) rfl (vec_rd (e := 5) (size := 1) (v := .slice p (lit + sp) c) (n := lit + sp) (cs := ints .u8 l) (by repeat (first | apply List.Mem.head | apply List.Mem.tail))) rfl rfl g256 rfl) ?_ | refine JO_v (V_slice (tb := tb) (lo := 0) (hi := lit) rfl rfl rfl rfl rfl (by rfl) (by rfl) (fun w hw => ⟨by omega, by omega⟩) rfl) ?_ | refine JO_v (V_slice (tb := tb) (lo := lit) (hi := lit + sp) rfl rfl rfl rfl rfl (by rfl) (by rfl) (fun w hw => ⟨by omega, by omega⟩) rfl) ?_) | first | (refine sx ?_; try intro _))
          refine JS_ret Tryz.func39 rfl rfl fun w hw => ⟨rfl, ?_⟩
          rw [hF]
          exact ⟨by decide, a', _, _, _, St.sub (by repeat (first | exact List.Sublist.refl _ | apply List.Sublist.cons_cons | apply List.Sublist.cons)) hw⟩
        rw [if_neg hz] at hF
        have hl1 : (l.take lit).length = lit := by rw [List.length_take]; omega
        have hl2 : (l.drop lit).length = sp := by rw [List.length_drop]; omega
        have ho1 : OKB (l.take lit) := Byt_take hol _
        have ho2 : OKB (l.drop lit) := Byt_drop hol _
        have e2 : lit + sp - lit = sp := by omega
        have R1 : Rd w0 (vec 5 1 (.slice p (lit + sp) c) (lit + sp) (ints .u8 l) :: vec 5 1 (.slice pC 19 cC) 19 (ints .u8 C) :: H) (.slice p lit c) lit (ints .u8 (l.take lit)) := by
          have := Rd_sub (lo := 0) (hi := lit) (sz := 1) (vec_rd (w0 := w0) (H := vec 5 1 (.slice p (lit + sp) c) (lit + sp) (ints .u8 l) :: vec 5 1 (.slice pC 19 cC) 19 (ints .u8 C) :: H) (e := 5) (size := 1) (v := .slice p (lit + sp) c) (n := lit + sp) (cs := ints .u8 l) (by repeat (first | apply List.Mem.head | apply List.Mem.tail))) (by omega) (by omega)
          simp only [subB_0, Nat.sub_zero, Nat.zero_mul, Nat.mul_one, List.drop_zero, ints_take] at this
          exact this
        have R2 : Rd w0 (vec 5 1 (.slice p (lit + sp) c) (lit + sp) (ints .u8 l) :: vec 5 1 (.slice pC 19 cC) 19 (ints .u8 C) :: H) (.slice (subB p lit c 1) sp (c - lit)) sp (ints .u8 (l.drop lit)) := by
          have := Rd_sub (lo := lit) (hi := lit + sp) (sz := 1) (vec_rd (w0 := w0) (H := vec 5 1 (.slice p (lit + sp) c) (lit + sp) (ints .u8 l) :: vec 5 1 (.slice pC 19 cC) 19 (ints .u8 C) :: H) (e := 5) (size := 1) (v := .slice p (lit + sp) c) (n := lit + sp) (cs := ints .u8 l) (by repeat (first | apply List.Mem.head | apply List.Mem.tail))) (by omega) (by omega)
          simp only [e2, Nat.mul_one, ints_drop, ints_take] at this
          rw [List.take_of_length_le (by omega)] at this
          exact this
        repeat (first | (apply gJO; first | refine JO_v (V_loadC (tb := tb) rfl (vec_rd (e := 5) (size := 1) (v := .slice p (lit + sp) c) (n := lit + sp) (cs := ints .u8 l) (by repeat (first | apply List.Mem.head | apply List.Mem.tail))) rfl rfl g256 rfl) ?_ | refine JO_v (V_slice (tb := tb) (lo := 0) (hi := lit) rfl rfl rfl rfl rfl (by rfl) (by rfl) (fun w hw => ⟨by omega, by omega⟩) rfl) ?_ | refine JO_v (V_slice (tb := tb) (lo := lit) (hi := lit + sp) rfl rfl rfl rfl rfl (by rfl) (by rfl) (fun w hw => ⟨by omega, by omega⟩) rfl) ?_) | first | (refine sx ?_; try intro _))
        simp only [subB_0, Nat.sub_zero]
        refine JO_call Tryz.call83 rfl rfl fun w hw => (RBad_c p c lit (l.take lit) (Rd_weak R1 fun w hw => St.sub (by repeat (first | exact List.Sublist.refl _ | apply List.Sublist.cons_cons | apply List.Sublist.cons)) hw) hl1 ho1 (by omega) w hw).mono ?_
        rintro e w' ⟨b1, rfl, hb1, hw'⟩
        refine ⟨_, rfl, _, hw', ?_⟩
        clear hw' hw w w'
        cases b1 with
        | true =>
          rw [if_pos (hb1.1 rfl)] at hF
          repeat (first | (apply gJO; first | refine JO_v (V_loadC (tb := tb) rfl (vec_rd (e := 5) (size := 1) (v := .slice p (lit + sp) c) (n := lit + sp) (cs := ints .u8 l) (by repeat (first | apply List.Mem.head | apply List.Mem.tail))) rfl rfl g256 rfl) ?_ | refine JO_v (V_slice (tb := tb) (lo := 0) (hi := lit) rfl rfl rfl rfl rfl (by rfl) (by rfl) (fun w hw => ⟨by omega, by omega⟩) rfl) ?_ | refine JO_v (V_slice (tb := tb) (lo := lit) (hi := lit + sp) rfl rfl rfl rfl rfl (by rfl) (by rfl) (fun w hw => ⟨by omega, by omega⟩) rfl) ?_) | first | (refine sx ?_; try intro _))
          refine JS_ret Tryz.func39 rfl rfl fun w hw => ⟨rfl, ?_⟩
          rw [hF]
          exact ⟨by decide, a', _, _, _, St.sub (by repeat (first | exact List.Sublist.refl _ | apply List.Sublist.cons_cons | apply List.Sublist.cons)) hw⟩
        | false =>
        have hk1 : OKL (l.take lit) := Classical.byContradiction fun h => by have := hb1.2 h; cases this
        rw [if_neg (fun h => h hk1)] at hF
        repeat (first | (apply gJO; first | refine JO_v (V_loadC (tb := tb) rfl (vec_rd (e := 5) (size := 1) (v := .slice p (lit + sp) c) (n := lit + sp) (cs := ints .u8 l) (by repeat (first | apply List.Mem.head | apply List.Mem.tail))) rfl rfl g256 rfl) ?_ | refine JO_v (V_slice (tb := tb) (lo := 0) (hi := lit) rfl rfl rfl rfl rfl (by rfl) (by rfl) (fun w hw => ⟨by omega, by omega⟩) rfl) ?_ | refine JO_v (V_slice (tb := tb) (lo := lit) (hi := lit + sp) rfl rfl rfl rfl rfl (by rfl) (by rfl) (fun w hw => ⟨by omega, by omega⟩) rfl) ?_) | first | (refine sx ?_; try intro _))
        simp only [e2]
        refine JO_call Tryz.call83 rfl rfl fun w hw => (RBad_c _ _ sp (l.drop lit) (Rd_weak R2 fun w hw => St.sub (by repeat (first | exact List.Sublist.refl _ | apply List.Sublist.cons_cons | apply List.Sublist.cons)) hw) hl2 ho2 (by omega) w hw).mono ?_
        rintro e w' ⟨b2, rfl, hb2, hw'⟩
        refine ⟨_, rfl, _, hw', ?_⟩
        clear hw' hw w w'
        cases b2 with
        | true =>
          rw [if_pos (hb2.1 rfl)] at hF
          repeat (first | (apply gJO; first | refine JO_v (V_loadC (tb := tb) rfl (vec_rd (e := 5) (size := 1) (v := .slice p (lit + sp) c) (n := lit + sp) (cs := ints .u8 l) (by repeat (first | apply List.Mem.head | apply List.Mem.tail))) rfl rfl g256 rfl) ?_ | refine JO_v (V_slice (tb := tb) (lo := 0) (hi := lit) rfl rfl rfl rfl rfl (by rfl) (by rfl) (fun w hw => ⟨by omega, by omega⟩) rfl) ?_ | refine JO_v (V_slice (tb := tb) (lo := lit) (hi := lit + sp) rfl rfl rfl rfl rfl (by rfl) (by rfl) (fun w hw => ⟨by omega, by omega⟩) rfl) ?_) | first | (refine sx ?_; try intro _))
          refine JS_ret Tryz.func39 rfl rfl fun w hw => ⟨rfl, ?_⟩
          rw [hF]
          exact ⟨by decide, a', _, _, _, St.sub (by repeat (first | exact List.Sublist.refl _ | apply List.Sublist.cons_cons | apply List.Sublist.cons)) hw⟩
        | false =>
        have hk2 : OKL (l.drop lit) := Classical.byContradiction fun h => by have := hb2.2 h; cases this
        rw [if_neg (fun h => h hk2)] at hF
        repeat (first | (apply gQO; first | refine QO_v rfl (V_slice (tb := tb) (lo := 0) (hi := lit) rfl rfl rfl rfl rfl (by rfl) (by rfl) (fun w hw => ⟨by omega, by omega⟩) rfl) ?_ | refine QO_v rfl (V_slice (tb := tb) (lo := lit) (hi := lit + sp) rfl rfl rfl rfl rfl (by rfl) (by rfl) (fun w hw => ⟨by omega, by omega⟩) rfl) ?_) | (apply gJO; first | refine JO_v (V_loadC (tb := tb) rfl (vec_rd (e := 5) (size := 1) (v := .slice p (lit + sp) c) (n := lit + sp) (cs := ints .u8 l) (by repeat (first | apply List.Mem.head | apply List.Mem.tail))) rfl rfl g256 rfl) ?_ | refine JO_v (V_slice (tb := tb) (lo := 0) (hi := lit) rfl rfl rfl rfl rfl (by rfl) (by rfl) (fun w hw => ⟨by omega, by omega⟩) rfl) ?_ | refine JO_v (V_slice (tb := tb) (lo := lit) (hi := lit + sp) rfl rfl rfl rfl rfl (by rfl) (by rfl) (fun w hw => ⟨by omega, by omega⟩) rfl) ?_) | first | (refine sx ?_; try intro _))
        simp only [subB_0, Nat.sub_zero, e2]
        refine QO_call Tryz.call37 rfl rfl fun w hw => (RBlk_c hK a' ha' hm2 ho p (subB p lit c 1) c (c - lit) lit sp (l.take lit) (l.drop lit) R1 hl1 ho1 hk1 R2 hl2 ho2 hk2 w hw).mono ?_
        rintro e w' ⟨rfl, r, hr, hrp⟩
        rw [itF_of hr] at hF
        clear hr
        have hrp2 := RP_drop (RP_drop hrp)
        clear hrp
        subst hF
        unfold RP at hrp2
        cases F with
        | err E =>
          obtain ⟨hE, a2, po2, co2, o2, hw'⟩ := hrp2
          refine ⟨_, rfl, _, hw', .inr rfl, ?_⟩
          clear hw' hw w w'
          repeat (first | (refine sx ?_; try intro _))
          exact JS_fin Tryz.func39 rfl rfl fun w hw => ⟨rfl, hE, a2, po2, co2, o2, hw⟩
        | ok a2 o2 =>
          obtain ⟨h1, h2, po2, co2, hw'⟩ := hrp2
          refine ⟨_, rfl, _, hw', .inr rfl, ?_⟩
          clear hw' hw w w'
          repeat (first | (refine sx ?_; try intro _))
          exact JS_fin Tryz.func39 rfl rfl fun w hw => ⟨rfl, h1, h2, po2, co2, hw⟩
    · intro K
      by_cases hbig : 286 < lit ∨ 30 < sp
      · obtain ⟨E2, hE2, hF2, heq⟩ : ∃ E2 : Int, E2 ≠ 0 ∧ F = .err E2 ∧ (if E = 0 then 62 else E) = E2 := by
          rcases hmode with ⟨rfl, ha4, hF⟩ | ⟨hE, hF⟩
          · exact ⟨62, by decide, by rw [hF, des1_b, if_pos hbig], rfl⟩
          · exact ⟨E, hE, hF, if_neg hE⟩
        have : (286 < lit) ∨ (¬ 286 < lit ∧ 30 < sp) := by omega
        rcases this with h | ⟨h, h'⟩
        all_goals (repeat (first | (refine sx ?_; try intro _)))
        all_goals (refine JO_call Tryz.call80 rfl rfl fun w hw => (RFail_c 62 a3 E w hw).mono ?_)
        all_goals (rw [heq]; rintro e w' ⟨rfl, hw'⟩; refine ⟨_, rfl, _, hw', ?_⟩; clear hw' hw w w'; (repeat (first | (apply gJR; first | (refine sx ?_; try intro _)) | (apply gJO; first | (refine sx ?_; try intro _)))))
        all_goals ((apply JS_seq; apply JS_region; repeat (first | (apply gJR; first | (refine sx ?_; try intro _)) | (apply gJO; first | (refine sx ?_; try intro _)))))
        all_goals ((apply JS_seq; apply JS_region; repeat (first | (apply gJR; first | (refine sx ?_; try intro _)) | (apply gJO; first | (refine sx ?_; try intro _)))))
        all_goals (rename_i p5 p6; apply JS_seq; apply JS_seq; apply JS_region; (repeat (first | (apply gJR; first | (refine sx ?_; try intro _)) | (apply gJO; first | (refine sx ?_; try intro _)))); apply JS_block; apply JS_loop'; apply JS_seq; apply JS_seq; apply JS_region; (repeat (first | (apply gJR; first | (refine sx ?_; try intro _)) | (apply gJO; first | (refine sx ?_; try intro _)))); refine JS_condF rfl ?_; refine JS_exit rfl ?_)
        all_goals (exact JS_to5 K E2 a3 (List.replicate 19 0) (some p6) 19 ⟨rfl, OKB_rep ⟨by decide, by decide⟩ 19, .inr ⟨hE2, hF2⟩⟩ (by repeat (first | exact trivial | refine ⟨rfl, ?_⟩ | refine ⟨lookI rfl (by omega), ?_⟩)) (fun w hw => strL_ins [vec 5 1 (.slice (some p6) 19 19) 19 (ints .u8 (List.replicate 19 0))] (St.sub (by repeat (first | exact List.Sublist.refl _ | apply List.Sublist.cons_cons | apply List.Sublist.cons)) hw)))
      rcases hmode with ⟨rfl, ha4, hF⟩ | ⟨hE, hF⟩
      rotate_left
      · (apply JS_seq; apply JS_seq; apply JS_region; (repeat (first | (apply gJR; first | (refine sx ?_; try intro _)) | (apply gJO; first | (refine sx ?_; try intro _)))); refine JS_condF rfl ?_; apply JS_skip)
        (apply JS_seq; apply JS_region; repeat (first | (apply gJR; first | (refine sx ?_; try intro _)) | (apply gJO; first | (refine sx ?_; try intro _))))
        (apply JS_seq; apply JS_region; repeat (first | (apply gJR; first | (refine sx ?_; try intro _)) | (apply gJO; first | (refine sx ?_; try intro _))))
        rename_i p5 p6
        apply JS_seq; apply JS_seq; apply JS_region; (repeat (first | (apply gJR; first | (refine sx ?_; try intro _)) | (apply gJO; first | (refine sx ?_; try intro _)))); apply JS_block; apply JS_loop'; apply JS_seq; apply JS_seq; apply JS_region; (repeat (first | (apply gJR; first | (refine sx ?_; try intro _)) | (apply gJO; first | (refine sx ?_; try intro _)))); refine JS_condF rfl ?_; refine JS_exit rfl ?_
        exact JS_to5 K E a3 (List.replicate 19 0) (some p6) 19 ⟨rfl, OKB_rep ⟨by decide, by decide⟩ 19, .inr ⟨hE, hF⟩⟩ (by repeat (first | exact trivial | refine ⟨rfl, ?_⟩ | refine ⟨lookI rfl (by omega), ?_⟩)) (fun w hw => strL_ins [vec 5 1 (.slice (some p6) 19 19) 19 (ints .u8 (List.replicate 19 0))] (St.sub (by repeat (first | exact List.Sublist.refl _ | apply List.Sublist.cons_cons | apply List.Sublist.cons)) hw))
      rw [des1_b, if_neg hbig] at hF
      (apply JS_seq; apply JS_seq; apply JS_region; (repeat (first | (apply gJR; first | (refine sx ?_; try intro _)) | (apply gJO; first | (refine sx ?_; try intro _)))); refine JS_condF rfl ?_; apply JS_skip)
      (apply JS_seq; apply JS_region; repeat (first | (apply gJR; first | (refine sx ?_; try intro _)) | (apply gJO; first | (refine sx ?_; try intro _))))
      (apply JS_seq; apply JS_region; repeat (first | (apply gJR; first | (refine sx ?_; try intro _)) | (apply gJO; first | (refine sx ?_; try intro _))))
      rename_i p5 p6
      apply JS_seq; apply JS_seq; apply JS_region; (repeat (first | (apply gJR; first | (refine sx ?_; try intro _)) | (apply gJO; first | (refine sx ?_; try intro _))))
      refine JS_block ?_
      refine JS_loop1 (fun (i : Nat) => [(0, .pointer (some ⟨bs, 0, none⟩)), (2, .int .i64 lit), (3, .int .i64 sp), (4, .int .i64 ln), (5, .slice (some p5) 19 19), (6, .slice (some p6) 19 19), (7, .int .i64 i)])
        (fun i => strL bs q d m B lim (a3 + 3 * i) po co o 0 (vec 5 1 (.slice (some p6) 19 19) 19 (ints .u8 (ccl (bitB B 0) a3 i)) :: vec 3 1 (.slice (some p5) 19 19) 19 (ints .i64 ordI) :: H)) (fun i => i ≤ ln ∧ a3 + 3 * i ≤ 8 * m) (fun i => ln - i) 0 ⟨Nat.zero_le _, by omega⟩ (by repeat (first | exact trivial | refine ⟨rfl, ?_⟩ | refine ⟨lookI rfl (by omega), ?_⟩))
        (fun w h => strL_ins [vec 5 1 (.slice (some p6) 19 19) 19 (ints .u8 (ccl (bitB B 0) a3 0)), vec 3 1 (.slice (some p5) 19 19) 19 (ints .i64 ordI)] h) ?_
      intro i ⟨hi, hai⟩ again
      have hcc := ccl_len (bitB B 0) a3 i
      have hco := ccl_okb (bitB B 0) (bitB_01 B 0) a3 i
      by_cases hil : i < ln
      · have gi : (ints .i64 ordI)[i]? = some (.int .i64 (ordI.getD i 0)) := ints_get (by show i < 19; omega)
        have ho19 := ordL_get i (by omega)
        have hcs : ccl (bitB B 0) a3 (i + 1) = (ccl (bitB B 0) a3 i).set (ordL.getD i 0) (nbt (bitB B 0) (a3 + 3 * i) 3) := rfl
        have hco1 := ccl_okb (bitB B 0) (bitB_01 B 0) a3 (i + 1)
        rw [ordI_get i (by omega)] at gi
        generalize ordL.getD i 0 = k at *
        generalize ccl (bitB B 0) a3 i = C at *
        apply JS_seq; apply JS_seq; apply JS_region; (repeat (first | (apply gJR; first | (refine sx ?_; try intro _)) | (apply gJO; first | (refine sx ?_; try intro _))))
        refine JS_condT rfl ?_
        apply JS_skip
        apply JS_seq
        apply JS_block
        refine JS_order2 [vec 5 1 (.slice (some p6) 19 19) 19 (ints .u8 C), vec 3 1 (.slice (some p5) 19 19) 19 (ints .i64 ordI)] [0, 1, 2, 3, 4, 5, 6, 7, 8, 9] [0] (fun w hw => St.sub (by repeat (first | exact List.nil_sublist _ | apply List.Sublist.cons_cons | apply List.Sublist.cons)) hw) (Picks.cons rfl (Picks.cons rfl (Picks.cons rfl (Picks.cons rfl (Picks.cons rfl (Picks.cons rfl (Picks.cons rfl (Picks.cons rfl (Picks.cons rfl (Picks.cons rfl (Picks.nil))))))))))) (by kernel_rfl) (by kernel_rfl) rfl (by decide +kernel) ?_
        repeat (first | (apply gQR2; apply QR2_un) | (apply gQO2; first | refine QO2_v rfl (V_index (tb := tb) (j := i) rfl rfl rfl rfl (Rd.sl (vec_rd (cs := ints .i64 ordI) (by repeat (first | apply List.Mem.head | apply List.Mem.tail)))) (by omega) (by (try simp only [tn, tna, tn1, tn2, tn3, tn4, tnd16, tnd8, Int.reduceToNat]); first | exact Nat.mul_one _ | exact rfl) rfl) ?_ | refine QO2_v rfl (V_loadC (tb := tb) rfl (vec_rd (cs := ints .i64 ordI) (by repeat (first | apply List.Mem.head | apply List.Mem.tail))) rfl rfl gi rfl) ?_ | refine aQ2 ?_))
        refine QO2_callE Tryz.call35 rfl rfl fun w hw => (RGrp4_c hK (a3 + 3 * i) 3 (by omega) (by omega) hm2 w hw).mono ?_
        rintro e w' (⟨h, rfl, hw'⟩ | ⟨h1, he, hw'⟩)
        · refine .inl ⟨_, rfl, [vec 5 1 (.slice (some p6) 19 19) 19 (ints .u8 C), vec 3 1 (.slice (some p5) 19 19) 19 (ints .i64 ordI)], _, hw', fun w hw => St.sub (by repeat (first | exact List.nil_sublist _ | apply List.Sublist.cons_cons | apply List.Sublist.cons)) hw, .inl fun w hw => hw, ?_⟩
          clear hw' hw w w' again
          rw [if_pos (by omega)] at hF
          repeat (first | (apply gQR2; first | apply QR2_un | apply QR2_nil) | (apply gQO2; first | refine QO2_v rfl (V_index (tb := tb) (j := k) rfl rfl rfl rfl (Rd.sl (vec_rd (cs := ints .u8 C) (by repeat (first | apply List.Mem.head | apply List.Mem.tail)))) (by omega) (by (try simp only [tn, tna, tn1, tn2, tn3, tn4, tnd16, tnd8, Int.reduceToNat]); first | exact Nat.mul_one _ | exact rfl) rfl) ?_ | refine aQ2 ?_ | refine aK2S rfl ?_))
          apply JS_inBlock; apply JS_region; (repeat (first | (apply gJR; first | (refine sx ?_; try intro _)) | (apply gJO; first | (refine sx ?_; try intro _))))
          apply JS_inLoop; apply JS_seq; apply JS_seq; apply JS_region
          by_cases hnx : (i : Int) + 1 < ln
          all_goals ((repeat (first | (apply gJR; first | (refine sx ?_; try intro _)) | (apply gJO; first | (refine sx ?_; try intro _)))); refine JS_condF rfl ?_; refine JS_exit rfl ?_)
          all_goals (exact JS_to5 K 20 (a3 + 3 * i) (C.set k 0) (some p6) 19 ⟨by rw [List.length_set]; exact hcc, OKB_set hco ⟨by decide, by decide⟩ k, .inr ⟨by decide, hF⟩⟩ (by repeat (first | exact trivial | refine ⟨rfl, ?_⟩ | refine ⟨lookI rfl (by omega), ?_⟩)) (fun w hw => St.sub (by repeat (first | exact List.Sublist.refl _ | apply List.Sublist.cons_cons | apply List.Sublist.cons)) hw))
        obtain ⟨x, hx⟩ := Int.eq_ofNat_of_zero_le (nbt_bd (bitB B 0) (bitB_01 B 0) (a3 + 3 * i) 3).1
        have hx1 := (nbt_bd (bitB B 0) (bitB_01 B 0) (a3 + 3 * i) 3).2
        rw [hx] at he hx1 hcs
        subst he
        have hx2 : (x : Int) < 8 := hx1
        refine .inl ⟨_, rfl, [vec 5 1 (.slice (some p6) 19 19) 19 (ints .u8 C), vec 3 1 (.slice (some p5) 19 19) 19 (ints .i64 ordI)], _, hw', fun w hw => St.sub (by repeat (first | exact List.nil_sublist _ | apply List.Sublist.cons_cons | apply List.Sublist.cons)) hw, .inl fun w hw => hw, ?_⟩
        clear hw' hw w w'
        repeat (first | (apply gQR2; first | apply QR2_un | apply QR2_nil) | (apply gQO2; first | refine QO2_v rfl (V_index (tb := tb) (j := k) rfl rfl rfl rfl (Rd.sl (vec_rd (cs := ints .u8 C) (by repeat (first | apply List.Mem.head | apply List.Mem.tail)))) (by omega) (by (try simp only [tn, tna, tn1, tn2, tn3, tn4, tnd16, tnd8, Int.reduceToNat]); first | exact Nat.mul_one _ | exact rfl) rfl) ?_ | refine aQ2 ?_ | refine aK2S rfl ?_))
        repeat (first | (refine sx ?_; try intro _))
        exact JS_again1 again (i + 1) ⟨by omega, by omega⟩ (by omega) (by repeat (first | exact trivial | refine ⟨rfl, ?_⟩ | refine ⟨lookI rfl (by omega), ?_⟩)) (fun w hw => by rw [hcs]; exact hw)
      · obtain rfl : i = ln := by omega
        clear again
        rw [if_neg (by omega)] at hF
        apply JS_seq; apply JS_seq; apply JS_region; (repeat (first | (apply gJR; first | (refine sx ?_; try intro _)) | (apply gJO; first | (refine sx ?_; try intro _))))
        refine JS_condF rfl ?_
        refine JS_exit rfl ?_
        exact JS_to5 K 0 (a3 + 3 * i) (ccl (bitB B 0) a3 i) (some p6) 19 ⟨hcc, hco, .inl ⟨rfl, hai, hF⟩⟩ (by repeat (first | exact trivial | refine ⟨rfl, ?_⟩ | refine ⟨lookI rfl (by omega), ?_⟩)) (fun w hw => St.sub (by repeat (first | exact List.Sublist.refl _ | apply List.Sublist.cons_cons | apply List.Sublist.cons)) hw)
  · intro K
    unfold desF at hFd
    obtain ⟨n1, hn1⟩ := Int.eq_ofNat_of_zero_le (nbt_bd (bitB B 0) (bitB_01 B 0) a 5).1
    have hb1 := (nbt_bd (bitB B 0) (bitB_01 B 0) a 5).2
    obtain ⟨n2, hn2⟩ := Int.eq_ofNat_of_zero_le (nbt_bd (bitB B 0) (bitB_01 B 0) (a + 5) 5).1
    have hb2 := (nbt_bd (bitB B 0) (bitB_01 B 0) (a + 5) 5).2
    obtain ⟨n3, hn3⟩ := Int.eq_ofNat_of_zero_le (nbt_bd (bitB B 0) (bitB_01 B 0) (a + 10) 4).1
    have hb3 := (nbt_bd (bitB B 0) (bitB_01 B 0) (a + 10) 4).2
    rw [hn1] at hb1
    rw [hn2] at hb2
    rw [hn3] at hb3
    have hb1' : (n1 : Int) < 32 := hb1
    have hb2' : (n2 : Int) < 32 := hb2
    have hb3' : (n3 : Int) < 16 := hb3
    rw [hn1, hn2, hn3, show ((n1 : Int) + 257).toNat = n1 + 257 by omega, show ((n2 : Int) + 1).toNat = n2 + 1 by omega, show ((n3 : Int) + 4).toNat = n3 + 4 by omega] at hFd
    repeat (first | (refine sx ?_; try intro _))
    refine JO_call Tryz.call35 rfl rfl fun w hw => (RGrp4_c hK a 5 (by omega) ha hm2 w hw).mono ?_
    rintro e w' (⟨h, rfl, hw'⟩ | ⟨h1, he, hw'⟩)
    · refine ⟨_, rfl, _, hw', ?_⟩
      clear hw' hw w w'
      rw [if_pos h] at hFd
      repeat (first | (refine sx ?_; try intro _))
      refine JO_call Tryz.call35 rfl rfl fun w hw => (RGrpE_c 5 a 20 (by decide) w hw).mono ?_
      rintro e w' ⟨rfl, hw'⟩
      refine ⟨_, rfl, _, hw', ?_⟩
      clear hw' hw w w'
      repeat (first | (refine sx ?_; try intro _))
      refine JO_call Tryz.call35 rfl rfl fun w hw => (RGrpE_c 4 a 20 (by decide) w hw).mono ?_
      rintro e w' ⟨rfl, hw'⟩
      refine ⟨_, rfl, _, hw', ?_⟩
      clear hw' hw w w'
      (repeat (first | (apply gJR; first | (refine sx ?_; try intro _)) | (apply gJO; first | (refine sx ?_; try intro _))))
      exact JS_to5 K 20 a 257 1 4 ⟨by omega, by omega, by omega, by omega, by omega, by omega, .inr ⟨by decide, hFd.symm⟩⟩ (by repeat (first | exact trivial | refine ⟨rfl, ?_⟩ | refine ⟨lookI rfl (by omega), ?_⟩)) (fun w hw => hw)
    rw [hn1] at he; subst he
    refine ⟨_, rfl, _, hw', ?_⟩
    clear hw' hw w w'
    rw [if_neg (by omega)] at hFd
    repeat (first | (refine sx ?_; try intro _))
    refine JO_call Tryz.call35 rfl rfl fun w hw => (RGrp4_c hK (a + 5) 5 (by omega) h1 hm2 w hw).mono ?_
    rintro e w' (⟨h, rfl, hw'⟩ | ⟨h2, he, hw'⟩)
    · refine ⟨_, rfl, _, hw', ?_⟩
      clear hw' hw w w'
      rw [if_pos (by omega)] at hFd
      repeat (first | (refine sx ?_; try intro _))
      refine JO_call Tryz.call35 rfl rfl fun w hw => (RGrpE_c 4 (a + 5) 20 (by decide) w hw).mono ?_
      rintro e w' ⟨rfl, hw'⟩
      refine ⟨_, rfl, _, hw', ?_⟩
      clear hw' hw w w'
      (repeat (first | (apply gJR; first | (refine sx ?_; try intro _)) | (apply gJO; first | (refine sx ?_; try intro _))))
      exact JS_to5 K 20 (a + 5) (n1 + 257) 1 4 ⟨by omega, by omega, by omega, by omega, by omega, by omega, .inr ⟨by decide, hFd.symm⟩⟩ (by repeat (first | exact trivial | refine ⟨rfl, ?_⟩ | refine ⟨lookI rfl (by omega), ?_⟩)) (fun w hw => hw)
    rw [hn2] at he; subst he
    refine ⟨_, rfl, _, hw', ?_⟩
    clear hw' hw w w'
    rw [if_neg (by omega)] at hFd
    repeat (first | (refine sx ?_; try intro _))
    refine JO_call Tryz.call35 rfl rfl fun w hw => (RGrp4_c hK (a + 10) 4 (by omega) h2 hm2 w hw).mono ?_
    rintro e w' (⟨h, rfl, hw'⟩ | ⟨h3, he, hw'⟩)
    · refine ⟨_, rfl, _, hw', ?_⟩
      clear hw' hw w w'
      rw [if_pos (by omega)] at hFd
      (repeat (first | (apply gJR; first | (refine sx ?_; try intro _)) | (apply gJO; first | (refine sx ?_; try intro _))))
      exact JS_to5 K 20 (a + 10) (n1 + 257) (n2 + 1) 4 ⟨by omega, by omega, by omega, by omega, by omega, by omega, .inr ⟨by decide, hFd.symm⟩⟩ (by repeat (first | exact trivial | refine ⟨rfl, ?_⟩ | refine ⟨lookI rfl (by omega), ?_⟩)) (fun w hw => hw)
    rw [hn3] at he; subst he
    refine ⟨_, rfl, _, hw', ?_⟩
    clear hw' hw w w'
    rw [if_neg (by omega)] at hFd
    (repeat (first | (apply gJR; first | (refine sx ?_; try intro _)) | (apply gJO; first | (refine sx ?_; try intro _))))
    exact JS_to5 K 0 (a + 14) (n1 + 257) (n2 + 1) (n3 + 4) ⟨by omega, by omega, by omega, by omega, by omega, by omega, .inl ⟨rfl, h3, hFd.symm⟩⟩ (by repeat (first | exact trivial | refine ⟨rfl, ?_⟩ | refine ⟨lookI rfl (by omega), ?_⟩)) (fun w hw => hw)
end
end Go.Proofs.YtbiocgenbgbfpaaGreat

namespace Sx
open Go
theorem JS_joinQ51 {P : Program} {f n : Nat} {R : Ending → World → Prop} {D : List Deferred} {w0 : World} {k : List Item} {ov : Ov} {H : List Asn} {α β γ δ ε : Type} {c1 rest : Code} (o : α → β → γ → δ → ε → Ov) (H' : α → β → γ → δ → ε → List Asn) (I : α → β → γ → δ → ε → Prop)
    (cont : ∀ (x1 : α) (x2 : β) (x3 : γ) (x4 : δ) (x5 : ε), I x1 x2 x3 x4 x5 → JS P f n R D w0 (.code rest :: k) (o x1 x2 x3 x4 x5) (H' x1 x2 x3 x4 x5))
    (h : (∀ (x1 : α) (x2 : β) (x3 : γ) (x4 : δ) (x5 : ε), I x1 x2 x3 x4 x5 → JS P f n R D w0 (.code rest :: k) (o x1 x2 x3 x4 x5) (H' x1 x2 x3 x4 x5)) → JS P f n R D w0 (.code (.seq c1 rest) :: k) ov H) :
    JS P f n R D w0 (.code (.seq c1 rest) :: k) ov H := h cont
end Sx
namespace Go.Proofs.YtbiocgenbgbfpaaGreat
open Sx Go
set_option linter.unusedVariables false
set_option linter.unusedSimpArgs false
attribute [local irreducible] syA fc tk cds
theorem reps_set (x : Int) (k n : Nat) (h : k < n) : (reps x k n).set k x = reps x (k + 1) n := by
  unfold reps
  rw [List.set_append_right _ _ (by simp)]
  simp only [List.length_replicate, Nat.sub_self]
  obtain ⟨d, hd⟩ : ∃ d, n - k = d + 1 := ⟨n - k - 1, by omega⟩
  rw [hd, show n - (k + 1) = d by omega, List.replicate_succ, List.set_cons_zero, List.replicate_succ', List.append_assoc]
  rfl
section
variable {w0 : World} {H : List Asn}
set_option maxRecDepth 10000 in
set_option maxHeartbeats 4000000 in
theorem RIRead_c (p : Option Addr) (c m : Nat) (B : List Int) (hr : Rd w0 H (.slice p m c) m (ints .u8 B)) (hm : B.length = m) (hB : OKB B) (hm2 : m ≤ 17592186044410) (L : Int) (hL : -9223372036854775808 ≤ L ∧ L < 9223372036854775808) (w : World) (hw : St w0 H w) :
    Calls Tryz.prog 9 #[.slice p m c, .int .i64 L] w fun e w' => ((L < 0 ∨ 1048576 < L) ∧ e = .returned (.tuple #[.slice none 0 0, .int .i64 0, .int .i64 1]) ∧ St w0 H w') ∨
      (0 ≤ L ∧ L ≤ 1048576 ∧ ∃ r, ALLR B L.toNat r ∧ resP r (fun x => x ≠ 0 ∧ e = .returned (.tuple #[.slice none 0 0, .int .i64 0, .int .i64 x]) ∧ St w0 H w')
        (fun a o => a ≤ 8 * m ∧ o.length ≤ L.toNat ∧ ∃ p c, e = .returned (.tuple #[.slice p o.length c, .int .i64 ((a + 7) / 8 : Nat), .int .i64 0]) ∧ St w0 (vec 5 1 (.slice p o.length c) o.length (ints .u8 o) :: H) w')) := by
  refine enter (vs := [.slice p m c, .int .i64 L]) Tryz.func9 rfl rfl rfl hw ?_
  subst hm
  obtain ⟨m, hm⟩ : ∃ m, B.length = m := ⟨_, rfl⟩
  unfold ALLR
  rw [hm] at hr hm2 ⊢
  by_cases hbad : L < 0 ∨ 1048576 < L
  · have : (L < 0) ∨ (¬ L < 0 ∧ 1048576 < L) := by omega
    rcases this with h | ⟨h, h'⟩
    · repeat (first | (refine sx ?_; try intro _))
      exact JS_ret Tryz.func9 rfl rfl fun w hw => .inl ⟨hbad, rfl, hw⟩
    · repeat (first | (refine sx ?_; try intro _))
      exact JS_ret Tryz.func9 rfl rfl fun w hw => .inl ⟨hbad, rfl, hw⟩
  obtain ⟨lim, rfl⟩ : ∃ lim : Nat, L = lim := ⟨L.toNat, by omega⟩
  have hK : InfK m B lim := ⟨hm, hB, by omega, by omega⟩
  have hl := hK.hl
  rw [Int.toNat_natCast]
  repeat (first | (refine sx ?_; try intro _))
  refine JO_call Tryz.call34 rfl rfl fun w hw => (Bits4_c p c m B hr hm hB hm2 w hw).mono ?_
  rintro e w' ⟨q, d, rfl, hw'⟩
  refine ⟨_, rfl, _, hw', ?_⟩
  clear hw' hw w w'
  (repeat (first | (apply gJR; first | (refine sx ?_; try intro _)) | (apply gJO; first | (refine sx ?_; try intro _))))
  rename_i bs
  apply JS_seq; apply JS_region; (repeat (first | (apply gJR; first | (refine sx ?_; try intro _)) | (apply gJO; first | (refine sx ?_; try intro _))))
  refine JS_joinQ51 (fun (E : Int) (a : Nat) (o : List Int) (po : Option Addr) (co : Nat) => [(7, .pointer (some ⟨bs, 0, none⟩))]) (fun E a o po co => strL bs q d m B lim a po co o E H)
    (fun E a o po co => (E = 0 ∧ a ≤ 8 * m ∧ o.length ≤ lim ∧ It (rdF (bitB B 0) (8 * m) lim) 0 [] (.ok a o)) ∨ (E ≠ 0 ∧ It (rdF (bitB B 0) (8 * m) lim) 0 [] (.err E))) ?_ ?_
  · intro E a o po co hmode
    rcases hmode with ⟨rfl, ha, ho, hIt⟩ | ⟨hE, hIt⟩
    · repeat (first | (refine sx ?_; try intro _))
      refine JS_ret Tryz.func9 rfl rfl fun w hw => .inr ⟨by omega, by omega, .ok a o, hIt, ha, ho, po, co, ?_, St.sub (by repeat (first | exact List.Sublist.refl _ | apply List.Sublist.cons_cons | apply List.Sublist.cons)) hw⟩
      have hx : ((a : Int) + 7) / 8 = (((a + 7) / 8 : Nat) : Int) := by omega
      rw [← hx]; rfl
    · repeat (first | (refine sx ?_; try intro _))
      exact JS_ret Tryz.func9 rfl rfl fun w hw => .inr ⟨by omega, by omega, .err E, hIt, hE, rfl, St.sub (by repeat (first | exact List.Sublist.refl _ | apply List.Sublist.cons_cons | apply List.Sublist.cons)) hw⟩
  intro K
  apply JS_seq
  refine JS_block ?_
  refine JS_loop5 (fun (a : Nat) (o : List Int) (po : Option Addr) (co : Nat) (last : Int) => [(7, .pointer (some ⟨bs, 0, none⟩)), (8, .int .i64 last)])
    (fun a o po co _ => strL bs q d m B lim a po co o 0 H)
    (fun a o _ _ last => a ≤ 8 * m ∧ o.length ≤ lim ∧ ((last = 0 ∧ ∀ r, It (rdF (bitB B 0) (8 * m) lim) a o r → It (rdF (bitB B 0) (8 * m) lim) 0 [] r) ∨ (last ≠ 0 ∧ It (rdF (bitB B 0) (8 * m) lim) 0 [] (.ok a o))))
    (fun a _ _ _ _ => 8 * m - a) 0 [] none 0 0 ⟨Nat.zero_le _, Nat.zero_le _, .inl ⟨rfl, fun _ h => h⟩⟩ (by repeat (first | exact trivial | refine ⟨rfl, ?_⟩ | refine ⟨lookI rfl (by omega), ?_⟩)) (fun w h => (St.nilvec (e := 5) (sz := 1) (base := none) h).perm (List.Perm.swap _ _ _)) ?_
  intro a o po co last ⟨ha, ho, hinv⟩ again
  rcases hinv with ⟨rfl, hinv⟩ | ⟨hl0, hfin⟩
  · have hF : rdF (bitB B 0) (8 * m) lim a o = if 8 * m < a + 1 then .err 20
      else if 8 * m < a + 3 then .err 20
      else match kndF (bitB B 0) (8 * m) lim (nbt (bitB B 0) (a + 1) 2) (a + 3) o with
        | .err e => .err e
        | .ok a' o' => if nbt (bitB B 0) a 1 = 0 then .go a' o' else .stop a' o' := rfl
    obtain ⟨x1, hx1⟩ := Int.eq_ofNat_of_zero_le (nbt_bd (bitB B 0) (bitB_01 B 0) a 1).1
    have hb1 := (nbt_bd (bitB B 0) (bitB_01 B 0) a 1).2
    obtain ⟨k, hk⟩ := Int.eq_ofNat_of_zero_le (nbt_bd (bitB B 0) (bitB_01 B 0) (a + 1) 2).1
    have hb2 := (nbt_bd (bitB B 0) (bitB_01 B 0) (a + 1) 2).2
    rw [hx1] at hb1 hF
    rw [hk] at hb2 hF
    have hb1 : (x1 : Int) < 2 := hb1
    have hb2 : (k : Int) < 4 := hb2
    repeat (first | (refine sx ?_; try intro _))
    refine JO_call Tryz.call35 rfl rfl fun w hw => (RGrp4_c hK a 1 (by omega) ha hm2 w hw).mono ?_
    rintro e w' (⟨h, rfl, hw'⟩ | ⟨h1, he, hw'⟩)
    · refine ⟨_, rfl, _, hw', ?_⟩
      clear hw' hw w w' again
      repeat (first | (refine sx ?_; try intro _))
      refine JO_call Tryz.call35 rfl rfl fun w hw => (RGrpE_c 2 a 20 (by decide) w hw).mono ?_
      rintro e w' ⟨rfl, hw'⟩
      refine ⟨_, rfl, _, hw', ?_⟩
      clear hw' hw w w'
      (repeat (first | (apply gJR; first | (refine sx ?_; try intro _)) | (apply gJO; first | (refine sx ?_; try intro _))))
      apply JS_seq; apply JS_seq; apply JS_region; (repeat (first | (apply gJR; first | (refine sx ?_; try intro _)) | (apply gJO; first | (refine sx ?_; try intro _))))
      refine JS_condT rfl ?_
      refine JS_exit rfl ?_
      exact JS_to5 K 20 a o po co (.inr ⟨by decide, hinv _ (.err (by rw [hF, if_pos h]))⟩) (by repeat (first | exact trivial | refine ⟨rfl, ?_⟩ | refine ⟨lookI rfl (by omega), ?_⟩)) (fun w hw => hw)
    rw [hx1] at he; subst he
    refine ⟨_, rfl, _, hw', ?_⟩
    clear hw' hw w w'
    rw [if_neg (by omega)] at hF
    repeat (first | (refine sx ?_; try intro _))
    refine JO_call Tryz.call35 rfl rfl fun w hw => (RGrp4_c hK (a + 1) 2 (by omega) h1 hm2 w hw).mono ?_
    rintro e w' (⟨h, rfl, hw'⟩ | ⟨h2, he, hw'⟩)
    · refine ⟨_, rfl, _, hw', ?_⟩
      clear hw' hw w w' again
      (repeat (first | (apply gJR; first | (refine sx ?_; try intro _)) | (apply gJO; first | (refine sx ?_; try intro _))))
      apply JS_seq; apply JS_seq; apply JS_region; (repeat (first | (apply gJR; first | (refine sx ?_; try intro _)) | (apply gJO; first | (refine sx ?_; try intro _))))
      refine JS_condT rfl ?_
      refine JS_exit rfl ?_
      exact JS_to5 K 20 (a + 1) o po co (.inr ⟨by decide, hinv _ (.err (by rw [hF, if_pos (by omega)]))⟩) (by repeat (first | exact trivial | refine ⟨rfl, ?_⟩ | refine ⟨lookI rfl (by omega), ?_⟩)) (fun w hw => hw)
    rw [hk] at he; subst he
    refine ⟨_, rfl, _, hw', ?_⟩
    clear hw' hw w w'
    rw [if_neg (by omega)] at hF
    have hgo : ∀ a' o', kndF (bitB B 0) (8 * m) lim k (a + 3) o = .ok a' o' → a' ≤ 8 * m → o'.length ≤ lim → (a' ≤ 8 * m ∧ o'.length ≤ lim ∧ (((x1 : Int) = 0 ∧ ∀ r, It (rdF (bitB B 0) (8 * m) lim) a' o' r → It (rdF (bitB B 0) (8 * m) lim) 0 [] r) ∨ ((x1 : Int) ≠ 0 ∧ It (rdF (bitB B 0) (8 * m) lim) 0 [] (.ok a' o')))) ∧ 8 * m - a' < 8 * m - a := by
      intro a' o' hkn h3 h4
      have hge := kndF_ge hkn
      rw [hkn] at hF
      simp only at hF
      refine ⟨⟨h3, h4, ?_⟩, by omega⟩
      by_cases h0 : (x1 : Int) = 0
      · rw [if_pos h0] at hF
        exact .inl ⟨h0, fun r hr => hinv r (.go hF hr)⟩
      · rw [if_neg h0] at hF
        exact .inr ⟨h0, hinv _ (.stop hF)⟩
    have herr : ∀ r, kndF (bitB B 0) (8 * m) lim k (a + 3) o = .err r → It (rdF (bitB B 0) (8 * m) lim) 0 [] (.err r) := by
      intro r hkn
      rw [hkn] at hF
      exact hinv _ (.err hF)
    clear hF hinv
    rcases (show k = 0 ∨ k = 1 ∨ k = 2 ∨ k = 3 by omega) with rfl | rfl | rfl | rfl
    · repeat (first | (refine sx ?_; try intro _))
      refine JO_call Tryz.call36 rfl rfl fun w hw => (RSto_c hK (a + 3) (by omega) hm2 ho w hw).mono ?_
      rintro e w' ⟨rfl, h⟩
      obtain ⟨r, hr⟩ : ∃ r, stoF (bitB B 0) (8 * m) lim (a + 3) o = r := ⟨_, rfl⟩
      rw [hr] at h
      unfold RP at h
      cases r with
      | err r =>
        obtain ⟨hr0, a', po', co', o', hw'⟩ := h
        refine ⟨_, rfl, _, hw', ?_⟩
        clear hw' hw w w' again
        repeat (first | (refine sx ?_; try intro _))
        apply JS_inLoop; apply JS_seq; apply JS_seq; apply JS_region
        by_cases hx0 : (x1 : Int) = 0
        all_goals ((repeat (first | (apply gJR; first | (refine sx ?_; try intro _)) | (apply gJO; first | (refine sx ?_; try intro _)))); refine JS_condF rfl ?_; refine JS_exit rfl ?_)
        all_goals (exact JS_to5 K r a' o' po' co' (.inr ⟨hr0, herr r hr⟩) (by repeat (first | exact trivial | refine ⟨rfl, ?_⟩ | refine ⟨lookI rfl (by omega), ?_⟩)) (fun w hw => St.sub (by repeat (first | exact List.Sublist.refl _ | apply List.Sublist.cons_cons | apply List.Sublist.cons)) hw))
      | ok a' o' =>
        obtain ⟨h3, h4, po', co', hw'⟩ := h
        obtain ⟨g1, g2⟩ := hgo a' o' hr h3 h4
        refine ⟨_, rfl, _, hw', ?_⟩
        clear hw' hw w w'
        repeat (first | (refine sx ?_; try intro _))
        exact JS_again5 again a' o' po' co' x1 g1 g2 (by repeat (first | exact trivial | refine ⟨rfl, ?_⟩ | refine ⟨lookI rfl (by omega), ?_⟩)) (fun w hw => St.sub (by repeat (first | exact List.Sublist.refl _ | apply List.Sublist.cons_cons | apply List.Sublist.cons)) hw)
    · repeat (first | (refine sx ?_; try intro _))
      rename_i p5
      refine JS_loop1 (fun (i : Nat) => [(7, .pointer (some ⟨bs, 0, none⟩)), (8, .int .i64 x1), (10, .slice (some p5) 32 32), (11, .int .i64 i)]) (fun i => vec 5 1 (.slice (some p5) 32 32) 32 (ints .u8 (reps 5 i 32)) :: strL bs q d m B lim (a + 3) po co o 0 H) (fun i => i ≤ 32) (fun i => 32 - i) 0 (by omega) (by repeat (first | exact trivial | refine ⟨rfl, ?_⟩ | refine ⟨lookI rfl (by omega), ?_⟩)) (fun _ h => h) ?_
      intro i hi again2
      by_cases hil : i < 32
      · clear again
        have hrs := reps_set 5 i 32 hil
        have hrl := reps_len 5 i 32 hi
        repeat (first | (refine sx ?_; try intro _))
        exact JS_again1 again2 (i + 1) (by omega) (by omega) (by repeat (first | exact trivial | refine ⟨rfl, ?_⟩ | refine ⟨lookI rfl (by omega), ?_⟩)) (fun w hw => by rw [← hrs]; exact hw)
      · obtain rfl : i = 32 := by omega
        clear again2
        rw [reps_full]
        repeat (first | (refine sx ?_; try intro _))
        refine JO_call Tryz.call38 rfl rfl fun w hw => (RFixed_c w hw).mono ?_
        rintro e w' ⟨p6, c6, rfl, hw'⟩
        refine ⟨_, rfl, _, hw', ?_⟩
        clear hw' hw w w'
        repeat (first | (refine sx ?_; try intro _))
        refine JO_call Tryz.call37 rfl rfl fun w hw => (RBlk_c hK (a + 3) (by omega) hm2 ho p6 (some p5) c6 32 288 32 (tab 288 fixF) (List.replicate 32 5) (vec_rd (H := [vec 5 1 (.slice p6 288 c6) 288 (ints .u8 (tab 288 fixF)), vec 5 1 (.slice (some p5) 32 32) 32 (ints .u8 (List.replicate 32 5))] ++ H) (by repeat (first | apply List.Mem.head | apply List.Mem.tail))) (tab_len _ _) fix_okb fix_okl (vec_rd (H := [vec 5 1 (.slice p6 288 c6) 288 (ints .u8 (tab 288 fixF)), vec 5 1 (.slice (some p5) 32 32) 32 (ints .u8 (List.replicate 32 5))] ++ H) (by repeat (first | apply List.Mem.head | apply List.Mem.tail))) (List.length_replicate ..) spans_okb spans_okl w (strL_ins [vec 5 1 (.slice p6 288 c6) 288 (ints .u8 (tab 288 fixF)), vec 5 1 (.slice (some p5) 32 32) 32 (ints .u8 (List.replicate 32 5))] hw)).mono ?_
        rintro e w' ⟨rfl, r, hr, h⟩
        unfold RP at h
        cases r with
        | err r =>
          obtain ⟨hr0, a', po', co', o', hw'⟩ := h
          refine ⟨_, rfl, _, hw', ?_⟩
          clear hw' hw w w' again
          repeat (first | (refine sx ?_; try intro _))
          apply JS_inLoop; apply JS_seq; apply JS_seq; apply JS_region
          by_cases hx0 : (x1 : Int) = 0
          all_goals ((repeat (first | (apply gJR; first | (refine sx ?_; try intro _)) | (apply gJO; first | (refine sx ?_; try intro _)))); refine JS_condF rfl ?_; refine JS_exit rfl ?_)
          all_goals (exact JS_to5 K r a' o' po' co' (.inr ⟨hr0, herr r (itF_of hr)⟩) (by repeat (first | exact trivial | refine ⟨rfl, ?_⟩ | refine ⟨lookI rfl (by omega), ?_⟩)) (fun w hw => St.sub (by repeat (first | exact List.Sublist.refl _ | apply List.Sublist.cons_cons | apply List.Sublist.cons)) hw))
        | ok a' o' =>
          obtain ⟨h3, h4, po', co', hw'⟩ := h
          obtain ⟨g1, g2⟩ := hgo a' o' (itF_of hr) h3 h4
          refine ⟨_, rfl, _, hw', ?_⟩
          clear hw' hw w w'
          repeat (first | (refine sx ?_; try intro _))
          exact JS_again5 again a' o' po' co' x1 g1 g2 (by repeat (first | exact trivial | refine ⟨rfl, ?_⟩ | refine ⟨lookI rfl (by omega), ?_⟩)) (fun w hw => St.sub (by repeat (first | exact List.Sublist.refl _ | apply List.Sublist.cons_cons | apply List.Sublist.cons)) hw)
    · repeat (first | (refine sx ?_; try intro _))
      refine JO_call Tryz.call39 rfl rfl fun w hw => (RDes_c hK (a + 3) (by omega) hm2 ho w hw).mono ?_
      rintro e w' ⟨rfl, h⟩
      obtain ⟨r, hr⟩ : ∃ r, desF (bitB B 0) (8 * m) lim (a + 3) o = r := ⟨_, rfl⟩
      rw [hr] at h
      unfold RP at h
      cases r with
      | err r =>
        obtain ⟨hr0, a', po', co', o', hw'⟩ := h
        refine ⟨_, rfl, _, hw', ?_⟩
        clear hw' hw w w' again
        repeat (first | (refine sx ?_; try intro _))
        apply JS_inLoop; apply JS_seq; apply JS_seq; apply JS_region
        by_cases hx0 : (x1 : Int) = 0
        all_goals ((repeat (first | (apply gJR; first | (refine sx ?_; try intro _)) | (apply gJO; first | (refine sx ?_; try intro _)))); refine JS_condF rfl ?_; refine JS_exit rfl ?_)
        all_goals (exact JS_to5 K r a' o' po' co' (.inr ⟨hr0, herr r hr⟩) (by repeat (first | exact trivial | refine ⟨rfl, ?_⟩ | refine ⟨lookI rfl (by omega), ?_⟩)) (fun w hw => St.sub (by repeat (first | exact List.Sublist.refl _ | apply List.Sublist.cons_cons | apply List.Sublist.cons)) hw))
      | ok a' o' =>
        obtain ⟨h3, h4, po', co', hw'⟩ := h
        obtain ⟨g1, g2⟩ := hgo a' o' hr h3 h4
        refine ⟨_, rfl, _, hw', ?_⟩
        clear hw' hw w w'
        repeat (first | (refine sx ?_; try intro _))
        exact JS_again5 again a' o' po' co' x1 g1 g2 (by repeat (first | exact trivial | refine ⟨rfl, ?_⟩ | refine ⟨lookI rfl (by omega), ?_⟩)) (fun w hw => St.sub (by repeat (first | exact List.Sublist.refl _ | apply List.Sublist.cons_cons | apply List.Sublist.cons)) hw)
    · clear again
      repeat (first | (refine sx ?_; try intro _))
      apply JS_inLoop; apply JS_seq; apply JS_seq; apply JS_region
      by_cases hx0 : (x1 : Int) = 0
      all_goals ((repeat (first | (apply gJR; first | (refine sx ?_; try intro _)) | (apply gJO; first | (refine sx ?_; try intro _)))); refine JS_condF rfl ?_; refine JS_exit rfl ?_)
      all_goals (exact JS_to5 K 60 (a + 1 + 2) o po co (.inr ⟨by decide, herr 60 rfl⟩) (by repeat (first | exact trivial | refine ⟨rfl, ?_⟩ | refine ⟨lookI rfl (by omega), ?_⟩)) (fun w hw => hw))
  · clear again
    apply JS_seq; apply JS_seq; apply JS_region; (repeat (first | (apply gJR; first | (refine sx ?_; try intro _)) | (apply gJO; first | (refine sx ?_; try intro _))))
    refine JS_condF rfl ?_
    refine JS_exit rfl ?_
    exact JS_to5 K 0 a o po co (.inl ⟨rfl, ha, ho, hfin⟩) (by repeat (first | exact trivial | refine ⟨rfl, ?_⟩ | refine ⟨lookI rfl (by omega), ?_⟩)) (fun w hw => hw)
end
end Go.Proofs.YtbiocgenbgbfpaaGreat

set_option linter.unusedVariables false
set_option linter.unusedSimpArgs false
namespace Go.Proofs.YtbiocgenbgbfpaaGreat
open Sx Go
/-! what inflate.Read hands out are bytes -/
theorem symS_nn {bt : Nat → Int} {N a a1 : Nat} {L : List Int} {i : Int} (h : symS bt N L a = .ok i a1) : 0 ≤ i := by
  obtain ⟨i', u, r, h1, h2⟩ := symS_RD bt N L a
  rw [h2] at h
  split at h
  · rename_i hr
    subst hr
    simp only [Sy.ok.injEq] at h
    obtain ⟨rfl, rfl⟩ := h
    rcases h1 with ⟨j, rfl, _, ⟨n, hj, h0, hn, hle, _⟩, hu⟩ | ⟨_, _, h | h | ⟨_, _, h | h⟩⟩ <;> omega
  · cases h
theorem It_okb {f : Nat → List Int → Stp} (hg : ∀ a o a' o', OKB o → f a o = .go a' o' → OKB o') (hs : ∀ a o a' o', OKB o → f a o = .stop a' o' → OKB o') {a : Nat} {o : List Int} {r : Res} (h : It f a o r) : OKB o → ∀ a' o', r = .ok a' o' → OKB o' := by
  induction h with
  | err h => intro ho a' o' he; cases he
  | stop h => intro ho a' o' he; cases he; exact hs _ _ _ _ ho h
  | go h _ ih => intro ho; exact ih (hg _ _ _ _ ho h)
theorem cpy_okb {o : List Int} (ho : OKB o) (back : Nat) : ∀ n, OKB (cpy o back n)
  | 0 => ho
  | n + 1 => OKB_app (cpy_okb ho back n) (OKB_rep (cpy_okb ho back n _) 1)
theorem blk2_okb {bt : Nat → Int} {N lim a a' : Nat} {D o o' : List Int} {len : Int} (ho : OKB o) (h : blk2 bt N lim D o len a = .go a' o') : OKB o' := by
  unfold blk2 at h
  split at h
  · cases h
  · split at h
    · cases h
    · split at h
      · cases h
      · split at h
        · cases h
        · split at h
          · cases h
          · simp only [Stp.go.injEq] at h
            rw [← h.2]; exact cpy_okb ho _ _
theorem blk2_nostop {bt : Nat → Int} {N lim a a' : Nat} {D o o' : List Int} {len : Int} (h : blk2 bt N lim D o len a = .stop a' o') : False := by
  unfold blk2 at h
  split at h
  · cases h
  · split at h
    · cases h
    · split at h
      · cases h
      · split at h
        · cases h
        · split at h <;> cases h
theorem blkF_okb {bt : Nat → Int} {N lim a a' : Nat} {L D o o' : List Int} (ho : OKB o) (h : blkF bt N lim L D a o = .go a' o' ∨ blkF bt N lim L D a o = .stop a' o') : OKB o' := by
  unfold blkF at h
  split at h
  · rcases h with h | h <;> cases h
  · rename_i i a1 hs
    have hi := symS_nn hs
    split at h
    · rcases h with h | h
      · cases h
      · simp only [Stp.stop.injEq] at h; rw [← h.2]; exact ho
    · split at h
      · split at h
        · rcases h with h | h <;> cases h
        · rcases h with h | h
          · simp only [Stp.go.injEq] at h
            rw [← h.2]; exact OKB_app ho (OKB_rep ⟨hi, by omega⟩ 1)
          · cases h
      · split at h
        · rcases h with h | h <;> cases h
        · split at h
          · rcases h with h | h <;> cases h
          · rcases h with h | h
            · exact blk2_okb ho h
            · exact (blk2_nostop h).elim
theorem itblk_okb {bt : Nat → Int} {N lim a a' : Nat} {L D o o' : List Int} (ho : OKB o) (h : itF (blkF bt N lim L D) a o = .ok a' o') : OKB o' :=
  It_okb (fun _ _ _ _ ho h => blkF_okb ho (.inl h)) (fun _ _ _ _ ho h => blkF_okb ho (.inr h)) (itF_ok h) ho _ _ rfl
theorem byts_okb {bt : Nat → Int} (hb : ∀ j, bt j = 0 ∨ bt j = 1) (a n : Nat) : OKB (byts bt a n) := by
  refine OKB_of (List.all_eq_true.2 fun x hx => ?_)
  obtain ⟨j, _, rfl⟩ := List.mem_map.1 hx
  have := nbt_bd bt hb (a + 8 * j) 8
  exact decide_eq_true ⟨this.1, this.2⟩
theorem kndF_okb {bt : Nat → Int} (hb : ∀ j, bt j = 0 ∨ bt j = 1) {N lim a a' : Nat} {k : Int} {o o' : List Int} (ho : OKB o) (h : kndF bt N lim k a o = .ok a' o') : OKB o' := by
  unfold kndF at h
  split at h
  · unfold stoF at h
    split at h; · cases h
    split at h; · cases h
    split at h; · cases h
    split at h; · cases h
    split at h; · cases h
    simp only [Res.ok.injEq] at h
    rw [← h.2]; exact OKB_app ho (byts_okb hb _ _)
  · split at h
    · exact itblk_okb ho h
    · split at h
      · unfold desF at h
        split at h; · cases h
        split at h; · cases h
        split at h; · cases h
        unfold des1 at h
        split at h; · cases h
        split at h; · cases h
        split at h; · cases h
        split at h; · cases h
        unfold des2 at h
        split at h; · cases h
        split at h; · cases h
        split at h; · cases h
        exact itblk_okb ho h
      · cases h
theorem rdF_okb {bt : Nat → Int} (hb : ∀ j, bt j = 0 ∨ bt j = 1) {N lim a a' : Nat} {o o' : List Int} (ho : OKB o) (h : rdF bt N lim a o = .go a' o' ∨ rdF bt N lim a o = .stop a' o') : OKB o' := by
  unfold rdF at h
  split at h; · rcases h with h | h <;> cases h
  split at h; · rcases h with h | h <;> cases h
  split at h
  · rcases h with h | h <;> cases h
  · rename_i a1 o1 hk
    have := kndF_okb hb ho hk
    split at h
    · rcases h with h | h
      · simp only [Stp.go.injEq] at h; rw [← h.2]; exact this
      · cases h
    · rcases h with h | h
      · cases h
      · simp only [Stp.stop.injEq] at h; rw [← h.2]; exact this
theorem ALLR_okb {B : List Int} {lim a : Nat} {o : List Int} (h : ALLR B lim (.ok a o)) : OKB o :=
  It_okb (fun _ _ _ _ ho h => rdF_okb (bitB_01 B 0) ho (.inl h)) (fun _ _ _ _ ho h => rdF_okb (bitB_01 B 0) ho (.inr h)) h (fun j => by simp) _ _ rfl
end Go.Proofs.YtbiocgenbgbfpaaGreat

set_option linter.unusedVariables false
set_option linter.unusedSimpArgs false
namespace Go.Proofs.YtbiocgenbgbfpaaGreat
open Sx Go
/-- what comes behind the deflated part -/
def ZT (B : List Int) (r : Res) (e : Int) (o : List Int) : Prop :=
  match r with
  | .err x => e = x ∧ o = []
  | .ok a o' => ((B.drop (2 + (a + 7) / 8)).length < 4 ∧ e = 20 ∧ o = []) ∨ (4 ≤ (B.drop (2 + (a + 7) / 8)).length ∧
      (((B.drop (2 + (a + 7) / 8)).take 4 ≠ sb4 (adl o') ∧ e = 91 ∧ o = []) ∨ ((B.drop (2 + (a + 7) / 8)).take 4 = sb4 (adl o') ∧
        ((4 < (B.drop (2 + (a + 7) / 8)).length ∧ e = 92 ∧ o = []) ∨ ((B.drop (2 + (a + 7) / 8)).length = 4 ∧ e = 0 ∧ o = o')))))
/-- what opening answers -/
def ZR (B : List Int) (L : Int) (e : Int) (o : List Int) : Prop :=
  ((L < 0 ∨ 1048576 < L) ∧ e = 1 ∧ o = []) ∨ ((0 ≤ L ∧ L ≤ 1048576) ∧ ((B.length < 2 ∧ e = 20 ∧ o = []) ∨ (2 ≤ B.length ∧
    ((¬ hdOK B ∧ e = 90 ∧ o = []) ∨ (hdOK B ∧ ∃ r, ALLR (B.drop 2) L.toNat r ∧ ZT B r e o)))))
theorem ZT_one {B : List Int} {r : Res} {e e' : Int} {o o' : List Int} (h : ZT B r e o) (h' : ZT B r e' o') : e = e' ∧ o = o' := by
  cases r with
  | err x => exact ⟨h.1.trans h'.1.symm, h.2.trans h'.2.symm⟩
  | ok a q =>
    rcases h with ⟨h1, rfl, rfl⟩ | ⟨h1, h | ⟨h2, h | h⟩⟩ <;> rcases h' with ⟨g1, rfl, rfl⟩ | ⟨g1, g | ⟨g2, g | g⟩⟩ <;> first | (exfalso; omega) | skip
    · exact ⟨rfl, rfl⟩
    · exact ⟨h.2.1.trans g.2.1.symm, h.2.2.trans g.2.2.symm⟩
    · exact absurd g2 h.1
    · exact absurd g2 h.1
    · exact absurd h2 g.1
    · exact ⟨h.2.1.trans g.2.1.symm, h.2.2.trans g.2.2.symm⟩
    · exact absurd h2 g.1
    · exact ⟨h.2.1.trans g.2.1.symm, h.2.2.trans g.2.2.symm⟩
theorem ZR_one {B : List Int} {L e e' : Int} {o o' : List Int} (h : ZR B L e o) (h' : ZR B L e' o') : e = e' ∧ o = o' := by
  rcases h with ⟨h1, rfl, rfl⟩ | ⟨h1, ⟨h2, rfl, rfl⟩ | ⟨h2, ⟨h3, rfl, rfl⟩ | ⟨h3, r, h4, h5⟩⟩⟩ <;> rcases h' with ⟨g1, rfl, rfl⟩ | ⟨g1, ⟨g2, rfl, rfl⟩ | ⟨g2, ⟨g3, rfl, rfl⟩ | ⟨g3, r', g4, g5⟩⟩⟩ <;> first | (exfalso; omega) | exact ⟨rfl, rfl⟩ | exact absurd g3 h3 | exact absurd h3 g3 | skip
  rw [It.one h4 g4] at h5
  exact ZT_one h5 g5
section
variable {w0 : World} {H : List Asn}
end
end Go.Proofs.YtbiocgenbgbfpaaGreat

set_option linter.unusedVariables false
set_option linter.unusedSimpArgs false
namespace Go.Proofs.YtbiocgenbgbfpaaGreat
open Sx Go
theorem eq66 (a b : List Int) (ha : a.length = 4) (hb : b.length = 4) (w : World) : (Op.equalIn 10000 134 (.agg (ints .u8 a).toArray) (.agg (ints .u8 b).toArray)).run Tryz.prog w = .ok (decide (a = b)) w := by
  match a, ha, b, hb with
  | [a0, a1, a2, a3], _, [b0, b1, b2, b3], _ =>
  have hu : Tryz.prog.underlying 134 = some (.array 4 5) := by kernel_rfl
  have hs : (Tryz.prog.info? 5).isSome = true := by kernel_rfl
  obtain ⟨i, hi⟩ := Option.isSome_iff_exists.1 hs
  have e0 := und_int (tb := tb) (t := 5) rfl
  have hc : Tryz.prog.cellsOf 5 = 1 := by kernel_rfl
  have hp : Tryz.prog.plainKey 5 = true := by kernel_rfl
  have E : ∀ x y : Int, (Op.equalIn 9999 5 (.int .u8 x) (.int .u8 y)).run Tryz.prog w = .ok (x == y) w := fun x y => run_equalIn_int (P := Tryz.prog) w 9998 5 .u8 .u8 x y e0
  have P : ∀ (xs : Array Value) (j : Nat) (v : Value), xs[j]? = some v → (part 5 xs j).run Tryz.prog w = .ok v w := fun xs j v h => run_part_plain (P := Tryz.prog) (w := w) (e := 5) hp h
  rw [run_equalIn_array (P := Tryz.prog) (w := w) 9999 _ _ hu hi, hc]
  have r4 : List.range 4 = [0, 1, 2, 3] := rfl
  have p0 := P (ints .u8 [a0, a1, a2, a3]).toArray 0 (.int .u8 a0) rfl
  have p1 := P (ints .u8 [a0, a1, a2, a3]).toArray 1 (.int .u8 a1) rfl
  have p2 := P (ints .u8 [a0, a1, a2, a3]).toArray 2 (.int .u8 a2) rfl
  have p3 := P (ints .u8 [a0, a1, a2, a3]).toArray 3 (.int .u8 a3) rfl
  have q0 := P (ints .u8 [b0, b1, b2, b3]).toArray 0 (.int .u8 b0) rfl
  have q1 := P (ints .u8 [b0, b1, b2, b3]).toArray 1 (.int .u8 b1) rfl
  have q2 := P (ints .u8 [b0, b1, b2, b3]).toArray 2 (.int .u8 b2) rfl
  have q3 := P (ints .u8 [b0, b1, b2, b3]).toArray 3 (.int .u8 b3) rfl
  rw [r4]
  simp only [Op.eqItems, Nat.zero_mul, Nat.mul_one, Sem.run_bind, p0, p1, p2, p3, q0, q1, q2, q3, E, Result.andThen_ok, Sem.run_ite, Sem.run_pure]
  by_cases h0 : a0 = b0 <;> by_cases h1 : a1 = b1 <;> by_cases h2 : a2 = b2 <;> by_cases h3 : a3 = b3 <;> simp [h0, h1, h2, h3]
theorem m66 : Tryz.prog.eqGuardType Tryz.prog.depth 134 = false := by kernel_rfl
section
variable {w0 : World} {H : List Asn}
set_option maxRecDepth 10000 in
theorem Opened_c (p : Option Addr) (c m : Nat) (B : List Int) (hr : Rd w0 H (.slice p m c) m (ints .u8 B)) (hm : B.length = m) (hB : OKB B) (h4 : m ≤ 100000) (L : Int) (hL : -9223372036854775808 ≤ L ∧ L < 9223372036854775808) (w : World) (hw : St w0 H w) :
    Calls Tryz.prog 43 #[.slice p m c, .int .i64 L] w fun e w' => (∃ x, ZR B L x [] ∧ x ≠ 0 ∧ e = .panicked (FZ x) ∧ St w0 H w') ∨ (∃ o q d, ZR B L 0 o ∧ e = .returned (.slice q o.length d) ∧ St w0 (vec 5 1 (.slice q o.length d) o.length (ints .u8 o) :: H) w') := by
  have hmc : m ≤ c := (hr.lcap hw).1
  refine enter (vs := [.slice p m c, .int .i64 L]) Tryz.func43 rfl rfl rfl hw ?_
  clear hw w
  obtain ⟨b1, hb1⟩ : ∃ b, decide (0 ≤ L ∧ L ≤ 1048576) = b := ⟨_, rfl⟩
  by_cases h1 : L < 0
  · repeat (first | (refine sx ?_; try intro _))
    refine JO_callE Tryz.func43 Tryz.call86 rfl rfl fun A hA w hw => (Need_c _ 1 w hw).mono ?_
    rintro e w' (⟨h, rfl, hw'⟩ | ⟨h, rfl, hw'⟩)
    · cases h
    · exact .inr ⟨_, rfl, .inl ⟨1, .inl ⟨.inl h1, rfl, rfl⟩, by decide, rfl, hw'⟩⟩
  by_cases h2 : 1048576 < L
  · repeat (first | (refine sx ?_; try intro _))
    refine JO_callE Tryz.func43 Tryz.call86 rfl rfl fun A hA w hw => (Need_c _ 1 w hw).mono ?_
    rintro e w' (⟨h, rfl, hw'⟩ | ⟨h, rfl, hw'⟩)
    · cases h
    · exact .inr ⟨_, rfl, .inl ⟨1, .inl ⟨.inr h2, rfl, rfl⟩, by decide, rfl, hw'⟩⟩
  have hrr : ∀ {x o}, ((B.length < 2 ∧ x = 20 ∧ o = []) ∨ (2 ≤ B.length ∧ ((¬ hdOK B ∧ x = 90 ∧ o = []) ∨ (hdOK B ∧ ∃ r, ALLR (B.drop 2) L.toNat r ∧ ZT B r x o)))) → ZR B L x o := fun h => .inr ⟨⟨by omega, by omega⟩, h⟩
  repeat (first | (refine sx ?_; try intro _))
  refine JO_callE Tryz.func43 Tryz.call86 rfl rfl fun A hA w hw => (Need_c _ 1 w hw).mono ?_
  rintro e w' (⟨h, rfl, hw'⟩ | ⟨h, rfl, hw'⟩)
  rotate_left
  · exact absurd h (by first | (simp; done) | (simp; omega))
  refine .inl ⟨_, rfl, _, hw', ?_⟩
  clear hw' hw w w' hA A h
  by_cases h3 : m < 2
  · repeat (first | (refine sx ?_; try intro _))
    refine JO_callE Tryz.func43 Tryz.call86 rfl rfl fun A hA w hw => (Need_c _ 20 w hw).mono ?_
    rintro e w' (⟨h, rfl, hw'⟩ | ⟨h, rfl, hw'⟩)
    · exact absurd h (by first | (simp; done) | (simp; omega))
    · exact .inr ⟨_, rfl, .inl ⟨20, hrr (.inl ⟨by omega, rfl, rfl⟩), by decide, rfl, hw'⟩⟩
  repeat (first | (refine sx ?_; try intro _))
  refine JO_callE Tryz.func43 Tryz.call86 rfl rfl fun A hA w hw => (Need_c _ 20 w hw).mono ?_
  rintro e w' (⟨h, rfl, hw'⟩ | ⟨h, rfl, hw'⟩)
  rotate_left
  · exact absurd h (by first | (simp; done) | (simp; omega))
  refine .inl ⟨_, rfl, _, hw', ?_⟩
  clear hw' hw w w' hA A h
  repeat (first | (refine sx ?_; try intro _))
  refine JO_call Tryz.call87 rfl rfl fun w hw => (ZHead_c p c m B (Rd_weak hr fun w hw => St.sub (by repeat (first | exact List.Sublist.refl _ | apply List.Sublist.cons_cons | apply List.Sublist.cons)) hw) hm hB w hw).mono ?_
  rintro e w' ⟨rfl, hw'⟩
  refine ⟨_, rfl, _, hw', ?_⟩
  clear hw' hw w w'
  by_cases h5 : hdOK B
  rotate_left
  · rw [show decide (hdOK B) = false from decide_eq_false h5]
    repeat (first | (refine sx ?_; try intro _))
    refine JO_callE Tryz.func43 Tryz.call86 rfl rfl fun A hA w hw => (Need_c _ 90 w hw).mono ?_
    rintro e w' (⟨h, rfl, hw'⟩ | ⟨h, rfl, hw'⟩)
    · exact absurd h (by first | (simp; done) | (simp; omega))
    · exact .inr ⟨_, rfl, .inl ⟨90, hrr (.inr ⟨by omega, .inl ⟨h5, rfl, rfl⟩⟩), by decide, rfl, hw'⟩⟩
  rw [show decide (hdOK B) = true from decide_eq_true h5]
  repeat (first | (refine sx ?_; try intro _))
  refine JO_callE Tryz.func43 Tryz.call86 rfl rfl fun A hA w hw => (Need_c _ 90 w hw).mono ?_
  rintro e w' (⟨h, rfl, hw'⟩ | ⟨h, rfl, hw'⟩)
  rotate_left
  · exact absurd h (by first | (simp; done) | (simp; omega))
  refine .inl ⟨_, rfl, _, hw', ?_⟩
  clear hw' hw w w' hA A h
  repeat (first | (apply gJO; refine JO_v (V_slice (tb := tb) (lo := 2) (hi := m) rfl rfl rfl rfl rfl rfl (by omega) (fun w hw => ⟨by omega, by omega⟩) rfl) ?_) | first | (refine sx ?_; try intro _))
  refine JO_call Tryz.call8 rfl rfl fun w hw => (IRead_c (subB p 2 c 1) (c - 2) (m - 2) (B.drop 2) (Rd_weak (Rd_drop hr hm (by omega)) fun w hw => St.sub (by repeat (first | exact List.Sublist.refl _ | apply List.Sublist.cons_cons | apply List.Sublist.cons)) hw) (by rw [List.length_drop]; omega) (OKB_drop hB 2) (by omega) L hL w hw).mono ?_
  rintro e w' (⟨h, _⟩ | ⟨_, _, r, hA, hp⟩)
  · omega
  obtain ⟨hz, hz'⟩ : (∀ {x o}, ZT B r x o → ZR B L x o) ∧ True := ⟨fun h => hrr (.inr ⟨by omega, .inr ⟨h5, r, hA, h⟩⟩), trivial⟩
  clear hrr hz'
  cases r with
  | err x =>
    obtain ⟨rfl, hw'⟩ := hp
    have hx := ALLR_ne hA
    refine ⟨_, rfl, _, hw', ?_⟩
    clear hw' hw w w'
    repeat (first | (refine sx ?_; try intro _))
    refine JO_callE Tryz.func43 Tryz.call86 rfl rfl fun A hA w hw => (Need_c _ x w hw).mono ?_
    rintro e w' (⟨h, rfl, hw'⟩ | ⟨h, rfl, hw'⟩)
    · exact absurd h (by simp [hx])
    · exact .inr ⟨_, rfl, .inl ⟨x, hz ⟨rfl, rfl⟩, hx, rfl, hw'⟩⟩
  | ok a o =>
  obtain ⟨ha, ho, q, d, rfl, hw'⟩ := hp
  refine ⟨_, rfl, _, hw', ?_⟩
  clear hw' hw w w'
  obtain ⟨t, ht⟩ : ∃ t, (a + 7) / 8 = t := ⟨_, rfl⟩
  have hto : t ≤ m - 2 := by omega
  have hTl : (B.drop (2 + t)).length = m - (2 + t) := by rw [List.length_drop, hm]
  have hrT := Rd_drop (n := 2 + t) hr hm (by omega)
  obtain ⟨T, hT⟩ : ∃ T, B.drop (2 + t) = T := ⟨_, rfl⟩
  have hz2 : ∀ {x o'}, ((T.length < 4 ∧ x = 20 ∧ o' = []) ∨ (4 ≤ T.length ∧ ((T.take 4 ≠ sb4 (adl o) ∧ x = 91 ∧ o' = []) ∨ (T.take 4 = sb4 (adl o) ∧ ((4 < T.length ∧ x = 92 ∧ o' = []) ∨ (T.length = 4 ∧ x = 0 ∧ o' = o)))))) → ZR B L x o' := fun h => hz (by unfold ZT; dsimp only; rw [ht, hT]; exact h)
  have hoB : OKB o := ALLR_okb hA
  rw [hT] at hTl hrT
  rw [ht]
  clear hz
  repeat (first | (refine sx ?_; try intro _))
  refine JO_callE Tryz.func43 Tryz.call86 rfl rfl fun A hA w hw => (Need_c _ 0 w hw).mono ?_
  rintro e w' (⟨h, rfl, hw'⟩ | ⟨h, rfl, hw'⟩)
  rotate_left
  · exact absurd h (by first | (simp; done) | (simp; omega))
  refine .inl ⟨_, rfl, _, hw', ?_⟩
  clear hw' hw w w' hA A h
  repeat (first | (apply gJO; refine JO_v (V_slice (tb := tb) (lo := 2 + t) (hi := m) rfl rfl rfl rfl rfl (by omega) (by omega) (fun w hw => ⟨by omega, by omega⟩) rfl) ?_) | first | (refine sx ?_; try intro _))
  by_cases h6 : m - (2 + t) < 4
  · refine JO_callE Tryz.func43 Tryz.call86 rfl rfl fun A hA w hw => (Need_c _ 20 w hw).mono ?_
    rintro e w' (⟨h, rfl, hw'⟩ | ⟨h, rfl, hw'⟩)
    · exact absurd h (by first | (simp; done) | (simp; omega))
    · exact .inr ⟨_, rfl, .inl ⟨20, hz2 (.inl ⟨by omega, rfl, rfl⟩), by decide, rfl, hw'.drop⟩⟩
  refine JO_callE Tryz.func43 Tryz.call86 rfl rfl fun A hA w hw => (Need_c _ 20 w hw).mono ?_
  rintro e w' (⟨h, rfl, hw'⟩ | ⟨h, rfl, hw'⟩)
  rotate_left
  · exact absurd h (by first | (simp; done) | (simp; omega))
  refine .inl ⟨_, rfl, _, hw', ?_⟩
  clear hw' hw w w' hA A h
  have hr4 := Rd_take (n := 4) hrT hTl (by omega)
  have hl4 : (T.take 4).length = 4 := by rw [List.length_take]; omega
  have hadl := adl_bd hoB
  obtain ⟨s, hs⟩ : ∃ s, adl o = s := ⟨_, rfl⟩
  repeat (first | apply hIx 8 | first | (refine sx ?_; try intro _))
  refine Hold.go ?_
  have hv : ((ints .u8 T).drop (0 * 1)).take 4 = ints .u8 (T.take 4) := by simp [ints, List.map_take]
  have hvl : (ints .u8 (T.take 4)).length = 4 := by simp only [ints_len]; exact hl4
  have heq := eq66 (T.take 4) (sb4 s) hl4 rfl
  refine JS_seq ?_
  refine JS_draw [0] (by kernel_rfl) (by kernel_rfl) (by decide +kernel) ?_
  repeat (first | (apply gQO; first | refine QO_v rfl (V_slice (tb := tb) (lo := 0) (hi := 4) rfl rfl rfl rfl rfl (by rfl) (by rfl) (fun w hw => ⟨by omega, by omega⟩) rfl) ?_ | refine QO_v rfl (V_arrayAt (tb := tb) rfl rfl (by omega) rfl) ?_ | refine QO_v rfl (V_loadSub (tb := tb) (lo := 0) (q := 4) rfl (Rd_weak hrT fun w hw => St.sub (by repeat (first | exact List.Sublist.refl _ | apply List.Sublist.cons_cons | apply List.Sublist.cons)) hw) rfl rfl (by omega) rfl (by decide) hvl hv rfl) ?_) | first | (refine sx ?_; try intro _))
  refine QO_call Tryz.call88 rfl rfl fun w hw => (ZSum_c q d o.length o (vec_rd (by repeat (first | apply List.Mem.head | apply List.Mem.tail))) rfl hoB (by omega) w hw).mono ?_
  rintro e w' ⟨rfl, hw'⟩
  refine ⟨_, rfl, _, hw', .inl fun w hw => hw, ?_⟩
  clear hw' hw w w'
  rw [hs] at hz2 hadl ⊢
  repeat (first | (apply gQO; refine QO_v rfl (V_eqArr (us := ints .u8 (T.take 4)) (vs := ints .u8 (sb4 s)) rfl rfl m66 heq rfl) ?_) | first | (refine sx ?_; try intro _))
  refine QO_callE Tryz.call86 rfl rfl fun w hw => (Need_c _ 91 w hw).mono ?_
  rintro e w' (⟨h, rfl, hw'⟩ | ⟨h, rfl, hw'⟩)
  rotate_left
  · exact .inr ⟨_, rfl, QK_e Tryz.func43 (.inl ⟨91, hz2 (.inr ⟨by omega, .inl ⟨of_decide_eq_false h, rfl, rfl⟩⟩), by decide, rfl, hw'.drop⟩)⟩
  have h7 := of_decide_eq_true h
  refine .inl ⟨_, rfl, _, hw', .inr rfl, ?_⟩
  clear hw' hw w w' h
  by_cases h8 : 4 < m - (2 + t)
  · repeat (first | (refine sx ?_; try intro _))
    refine JO_callE Tryz.func43 Tryz.call86 rfl rfl fun A hA w hw => (Need_c _ 92 w hw).mono ?_
    rintro e w' (⟨h, rfl, hw'⟩ | ⟨h, rfl, hw'⟩)
    · exact absurd h (by first | (simp; done) | (simp; omega))
    · exact .inr ⟨_, rfl, .inl ⟨92, hz2 (.inr ⟨by omega, .inr ⟨h7, .inl ⟨by omega, rfl, rfl⟩⟩⟩), by decide, rfl, hw'.drop⟩⟩
  repeat (first | (refine sx ?_; try intro _))
  refine JO_callE Tryz.func43 Tryz.call86 rfl rfl fun A hA w hw => (Need_c _ 92 w hw).mono ?_
  rintro e w' (⟨h, rfl, hw'⟩ | ⟨h, rfl, hw'⟩)
  rotate_left
  · exact absurd h (by first | (simp; done) | (simp; omega))
  refine .inl ⟨_, rfl, _, hw', ?_⟩
  clear hw' hw w w' hA A h
  repeat (first | (refine sx ?_; try intro _))
  exact JS_ret Tryz.func43 rfl rfl fun w hw => .inr ⟨o, q, d, hz2 (.inr ⟨by omega, .inr ⟨h7, .inr ⟨by omega, rfl, rfl⟩⟩⟩), rfl, hw⟩
set_option maxRecDepth 10000 in
/-- zlib.Open -/
theorem ZOpen_c (p : Option Addr) (c m : Nat) (B : List Int) (hr : Rd w0 H (.slice p m c) m (ints .u8 B)) (hm : B.length = m) (hB : OKB B) (h4 : m ≤ 100000) (L : Int) (hL : -9223372036854775808 ≤ L ∧ L < 9223372036854775808) (w : World) (hw : St w0 H w) :
    Calls Tryz.prog 11 #[.slice p m c, .int .i64 L] w fun e w' => ∃ x o q d, ZR B L x o ∧ e = .returned (.tuple #[.slice q o.length d, .int .i64 x]) ∧ St w0 (vec 5 1 (.slice q o.length d) o.length (ints .u8 o) :: H) w' := by
  refine enter (vs := [.slice p m c, .int .i64 L]) Tryz.func11 rfl rfl rfl hw ?_
  clear hw w
  repeat (first | (apply gJR; first | (refine sx ?_; try intro _)) | (apply gJO; first | (refine JO_deferv rfl rfl rfl ?_) | (refine JO_defer rfl rfl ?_) | first | (refine sx ?_; try intro _)) | apply JS_seq | apply JS_region)
  rename_i bo be
  refine JO_callE Tryz.func11 Tryz.call43 rfl rfl fun A hA w hw => (Opened_c p c m B (Rd_weak hr fun w hw => St.sub (by repeat (first | exact List.Sublist.refl _ | apply List.Sublist.cons_cons | apply List.Sublist.cons)) hw) hm hB h4 L hL w hw).mono ?_
  rintro e w' (⟨x, hz, hx, rfl, hw'⟩ | ⟨o, q, d, hz, rfl, hw'⟩)
  · exact .inr ⟨_, rfl, LvZ_err (hA.sub (by repeat (first | exact trivial | refine ⟨rfl, ?_⟩ | refine ⟨lookI rfl (by omega), ?_⟩))) (hw'.perm (List.Perm.swap _ _ _)) fun w hw => ⟨x, [], none, 0, hz, rfl, hw.nilvec⟩⟩
  refine .inl ⟨_, rfl, _, hw', ?_⟩
  clear hw' hw w w' hA A
  repeat (first | (refine sx ?_; try intro _))
  refine JS_retD Tryz.func11 fun A w hA hw => LvZ_ok (H := vec 5 1 (.slice q o.length d) o.length (ints .u8 o) :: H) (hA.sub (by repeat (first | exact trivial | refine ⟨rfl, ?_⟩ | refine ⟨lookI rfl (by omega), ?_⟩))) (hw.perm (by (repeat (first | exact List.Perm.refl _ | refine List.Perm.cons _ ?_ | refine (List.perm_middle (l₁ := [_])).trans (List.Perm.cons _ ?_) | refine (List.perm_middle (l₁ := [_, _])).trans (List.Perm.cons _ ?_) | refine (List.perm_middle (l₁ := [_, _, _])).trans (List.Perm.cons _ ?_) | refine (List.perm_middle (l₁ := [_, _, _, _])).trans (List.Perm.cons _ ?_) | refine (List.perm_middle (l₁ := [_, _, _, _, _])).trans (List.Perm.cons _ ?_) | refine (List.perm_middle (l₁ := [_, _, _, _, _, _])).trans (List.Perm.cons _ ?_) | refine (List.perm_middle (l₁ := [_, _, _, _, _, _, _])).trans (List.Perm.cons _ ?_) | refine (List.perm_middle (l₁ := [_, _, _, _, _, _, _, _])).trans (List.Perm.cons _ ?_))))) fun w hw => ⟨0, o, q, d, hz, rfl, hw⟩
end
end Go.Proofs.YtbiocgenbgbfpaaGreat

namespace Go.Proofs.YtbiocgenbgbfpaaGreat
open Sx Go
set_option linter.unusedVariables false
set_option linter.unusedSimpArgs false
attribute [local irreducible] syA fc tk cds grp cw pack descB rv tkv tkS wrS
/-- the shorter of the two ways -/
def sqB (B : List Int) : List Int := if (pack (dscL B)).length < (bestB B).length then pack (dscL B) else bestB B
theorem okb_ap {A C : List Int} (hA : OKB A) (hC : OKB C) : OKB (A ++ C) := fun j => by
  rw [List.getD_eq_getElem?_getD]
  rcases Nat.lt_or_ge j A.length with h | h
  · rw [List.getElem?_append_left h, ← List.getD_eq_getElem?_getD]; exact hA j
  · rw [List.getElem?_append_right h, ← List.getD_eq_getElem?_getD]; exact hC _
theorem sqB_le {B : List Int} (hB : OKB B) : (sqB B).length ≤ (32 * B.length + 19) / 8 := by
  have := bestB_len hB
  unfold sqB; split <;> omega
theorem dsc_okb {B : List Int} (hB : OKB B) (h4 : B.length ≤ 100000) : OKB (pack (dscL B)) := pack_okb' (dscL B) (ALLR_dsc (S := []) hB (Nat.le_refl _) h4).1
theorem sqB_okb {B : List Int} (hB : OKB B) (h4 : B.length ≤ 100000) : OKB (sqB B) := by
  have o1 := pack_okb' (fixL B) (fixL_01 B)
  have o2 := sbs_okb hB
  have o3 : OKB (bestB B) := by unfold bestB; split <;> assumption
  have o4 := dsc_okb hB h4
  unfold sqB; split <;> assumption
theorem ALLR_sq {B S : List Int} {lim : Nat} (hB : OKB B) (h4 : B.length ≤ 100000) (hS : OKB S) (hl : B.length ≤ lim) : ∃ a, (a + 7) / 8 = (sqB B).length ∧ ALLR (sqB B ++ S) lim (.ok a B) := by
  unfold sqB
  split
  · exact ⟨_, (pack_len _).symm, (ALLR_dsc hB hl h4).2⟩
  · exact ALLR_best hB (okb_ap (sbs_okb hB) hS) hl
theorem dscL_len {B : List Int} (hB : OKB B) (h4 : B.length ≤ 100000) : (dscL B).length ≤ 20100 + 56 * B.length := by
  have hTok := toks_TOK hB B.length 0
  have hTl := toks_len (B := B) B.length 0
  unfold dscL
  generalize toks B B.length 0 = T at *
  have hT : T.length ≤ 100000 := by omega
  obtain ⟨x1, x2, x3⟩ := llset (askX T hT)
  obtain ⟨y1, y2, y3⟩ := llset (askY T hT)
  have hx : ∀ j, (nats (pX T)).getD j 0 ≤ 15 := by unfold pX; exact (cut_okl x1 x2).2.1.2.1
  have hy : ∀ j, (nats (pY T)).getD j 0 ≤ 15 := by unfold pY; exact (cut_okl y1 y2).2.1.2.1
  have lX : (pX T).length ≤ 286 := by
    unfold pX
    rw [cutN_len, lln_len, wX_len]
    exact cutm_le _ _ _
  have lY : (pY T).length ≤ 30 := by
    unfold pY
    rw [cutN_len, lln_len, wY_len]
    exact cutm_le _ _ _
  have hd := descB_len (X := pX T) (Y := pY T) (fun x hx' => by
    rcases List.mem_append.1 hx' with h | h
    · obtain ⟨j, hj, rfl⟩ := List.mem_iff_getElem.1 h
      have := hx j
      rw [nats_getD, List.getD_eq_getElem?_getD, List.getElem?_eq_getElem hj, Option.getD_some] at this
      omega
    · obtain ⟨j, hj, rfl⟩ := List.mem_iff_getElem.1 h
      have := hy j
      rw [nats_getD, List.getD_eq_getElem?_getD, List.getElem?_eq_getElem hj, Option.getD_some] at this
      omega) (by rw [List.length_append]; omega)
  have ht := flatb_len (tkS (nats (pX T)) (nats (pY T))) 56 T fun t ht => by
    unfold tkS
    have := flatb_len (fun i => wrS (nats (pX T)) (nats (pY T)) i ((splitR t).getD i (0, 0, 0))) 28 (List.range (splitR t).length) fun i hi => by
      have hi' := List.mem_range.1 hi
      have hb := splitR_bd (hTok t ht) i hi'
      have e1 := hx ((splitR t).getD i (0, 0, 0)).1
      have e2 := hy ((splitR t).getD i (0, 0, 0)).1
      unfold wrS
      rw [List.length_append, grp_len]
      split
      · rw [cw_len]; omega
      · rw [cw_len]; omega
    have hl : (splitR t).length ≤ 2 := by rw [splitR_len]; split <;> omega
    rw [List.length_range] at this
    omega
  have he := hx 256
  simp only [List.length_append, grp_len, cw_len]
  omega
/-- the packed bytes -/
def pkS (B : List Int) : List Int := [120, 1] ++ sqB B ++ sb4 (adl B)
theorem pkS_len (B : List Int) : (pkS B).length = (sqB B).length + 6 := by simp [pkS, sb4]
theorem pkS_head (B : List Int) : hdOK (pkS B) := by
  have h0 : (pkS B).getD 0 0 = 120 := rfl
  have h1 : (pkS B).getD 1 0 = 1 := rfl
  unfold hdOK
  rw [h0, h1]
  refine ⟨by rw [pkS_len]; omega, by decide, by decide, by decide, by decide⟩
theorem pkS_drop2 (B : List Int) : (pkS B).drop 2 = sqB B ++ sb4 (adl B) := by simp [pkS]
theorem pkS_dropn (B : List Int) : (pkS B).drop (2 + (sqB B).length) = sb4 (adl B) := by
  rw [← List.drop_drop, pkS_drop2]
  simp
theorem sb4_ok {s : Int} (h : 0 ≤ s ∧ s < 4294967296) : OKB (sb4 s) := OKB_of (by simp only [sb4, List.all_cons, List.all_nil, Bool.and_true, Bool.and_eq_true, decide_eq_true_eq]; omega)
theorem pkS_okb {B : List Int} (hB : OKB B) (h4 : B.length ≤ 100000) : OKB (pkS B) := okb_ap (okb_ap (okb_small (by decide)) (sqB_okb hB h4)) (sb4_ok (adl_bd hB))
theorem ZR_sq {B : List Int} (hB : OKB B) (h4 : B.length ≤ 100000) : ZR (pkS B) B.length 0 B := by
  obtain ⟨a, ha, hA⟩ := ALLR_sq (lim := B.length) (S := sb4 (adl B)) hB h4 (sb4_ok (adl_bd hB)) (Nat.le_refl _)
  refine .inr ⟨by omega, .inr ⟨by rw [pkS_len]; omega, .inr ⟨pkS_head B, _, by rw [pkS_drop2]; exact hA, ?_⟩⟩⟩
  have hl : (sb4 (adl B)).length = 4 := rfl
  unfold ZT
  dsimp only
  rw [ha, pkS_dropn, hl]
  exact .inr ⟨by omega, .inr ⟨List.take_of_length_le (by rw [hl]; omega), .inr ⟨rfl, rfl, rfl⟩⟩⟩
section
variable {w0 : World} {H : List Asn}
set_option maxRecDepth 10000 in
theorem SqBestOf_c (p : Option Addr) (c m : Nat) (B : List Int) (hr : Rd w0 H (.slice p m c) m (ints .u8 B)) (hm : B.length = m) (hB : OKB B) (h4 : m ≤ 100000) (w : World) (hw : St w0 H w) :
    Calls Tryz.prog 7 #[.slice p m c] w fun e w' => ∃ q d, e = .returned (.slice q (sqB B).length d) ∧ St w0 (vec 5 1 (.slice q (sqB B).length d) (sqB B).length (ints .u8 (sqB B)) :: H) w' := by
  refine enter (vs := [.slice p m c]) Tryz.func7 rfl rfl rfl hw ?_
  clear hw w
  repeat (first | (refine sx ?_; try intro _))
  refine JO_call Tryz.call6 rfl rfl fun w hw => (Described_c p c m B hr hm hB h4 w hw).mono ?_
  rintro e w' ⟨q1, d1, rfl, hw'⟩
  refine ⟨_, rfl, _, hw', ?_⟩
  clear hw' hw w w'
  repeat (first | (refine sx ?_; try intro _))
  refine JO_call Tryz.call24 rfl rfl fun w hw => (DBest_c p c m B (Rd_weak hr fun w hw => St.sub (by repeat (first | exact List.Sublist.refl _ | apply List.Sublist.cons_cons | apply List.Sublist.cons)) hw) hm hB h4 w hw).mono ?_
  rintro e w' ⟨q2, d2, rfl, hw'⟩
  refine ⟨_, rfl, _, hw', ?_⟩
  clear hw' hw w w'
  unfold sqB
  by_cases hlt : (pack (dscL B)).length < (bestB B).length
  · rw [if_pos hlt]
    repeat (first | (refine sx ?_; try intro _))
    exact JS_ret Tryz.func7 rfl rfl fun w hw => ⟨q1, d1, rfl, St.sub (by repeat (first | exact List.Sublist.refl _ | apply List.Sublist.cons_cons | apply List.Sublist.cons)) hw⟩
  · rw [if_neg hlt]
    repeat (first | (refine sx ?_; try intro _))
    exact JS_ret Tryz.func7 rfl rfl fun w hw => ⟨q2, d2, rfl, St.sub (by repeat (first | exact List.Sublist.refl _ | apply List.Sublist.cons_cons | apply List.Sublist.cons)) hw⟩
attribute [local irreducible] sqB dscL bestB sbs fixL
set_option maxRecDepth 10000 in
set_option maxHeartbeats 2000000 in
/-- squeeze.Pack -/
theorem SqPack_c (p : Option Addr) (c m : Nat) (B : List Int) (hr : Rd w0 H (.slice p m c) m (ints .u8 B)) (hm : B.length = m) (hB : OKB B) (h4 : m ≤ 100000) (w : World) (hw : St w0 H w) :
    Calls Tryz.prog 10 #[.slice p m c] w fun e w' => ∃ q d, e = .returned (.slice q (pkS B).length d) ∧ St w0 (vec 5 1 (.slice q (pkS B).length d) (pkS B).length (ints .u8 (pkS B)) :: H) w' := by
  have hbd := adl_bd hB
  have hsl := sqB_le hB
  refine enter (vs := [.slice p m c]) Tryz.func10 rfl rfl rfl hw ?_
  clear hw w
  repeat (first | (refine sx ?_; try intro _))
  refine JO_call Tryz.call40 rfl rfl fun w hw => (ASum_c p c m B hr hm hB (by omega) w hw).mono ?_
  rintro e w' ⟨rfl, hw'⟩
  obtain ⟨s, hs⟩ : ∃ s, adl B = s := ⟨_, rfl⟩
  have hP : pkS B = [120, 1] ++ sqB B ++ sb4 s := by unfold pkS; rw [hs]
  rw [hs] at hbd ⊢
  refine ⟨_, rfl, _, hw', ?_⟩
  clear hw' hw w w'
  repeat (first | (refine sx ?_; try intro _))
  rename_i pa
  refine JO_call Tryz.call7 rfl rfl fun w hw => (SqBestOf_c p c m B (Rd_weak hr fun w hw => St.sub (by repeat (first | exact List.Sublist.refl _ | apply List.Sublist.cons_cons | apply List.Sublist.cons)) hw) hm hB h4 w hw).mono ?_
  rintro e w' ⟨q1, d1, rfl, hw'⟩
  refine ⟨_, rfl, _, hw', ?_⟩
  clear hw' hw w w'
  obtain ⟨E, hE⟩ : ∃ E, sqB B = E := ⟨_, rfl⟩
  rw [hE] at hP hsl ⊢
  have c1 : IntKind.u8.wrap (s / 2 ^ 24) = s / 16777216 := wu8 (by omega)
  have c2 : IntKind.u8.wrap (s / 2 ^ 16) = s / 65536 % 256 := (mu8 _).trans (by omega)
  have c3 : IntKind.u8.wrap (s / 2 ^ 8) = s / 256 % 256 := (mu8 _).trans (by omega)
  have c4 : IntKind.u8.wrap s = s % 256 := mu8 _
  repeat (first | (apply gJO; refine JO_v (V_shr (m := 24) rfl rfl (by decide) rfl rfl rfl) ?_) | (apply gJO; refine JO_v (V_shr (m := 16) rfl rfl (by decide) rfl rfl rfl) ?_) | (apply gJO; refine JO_v (V_shr (m := 8) rfl rfl (by decide) rfl rfl rfl) ?_) | (apply gJO; first | refine JO_v (oCv (V_conv (tb := tb) rfl rfl rfl c1 rfl)) ?_ | refine JO_v (oCv (V_conv (tb := tb) rfl rfl rfl c2 rfl)) ?_ | refine JO_v (oCv (V_conv (tb := tb) rfl rfl rfl c3 rfl)) ?_ | refine JO_v (oCv (V_conv (tb := tb) rfl rfl rfl c4 rfl)) ?_) | (first | (refine sx ?_; try intro _)))
  rename_i pb pc
  have hcat : cat (fun i => ([[120, 1], E, sb4 s] : List (List Int)).getD i []) 3 = pkS B := hP.symm
  have hcl : (pkS B).length = E.length + 6 := by rw [pkS_len, hE]
  refine JO_call Tryz.call41 rfl rfl fun w hw => (Concat_c (some pc) 3 3 [.slice (some pa) 2 2, .slice q1 E.length d1, .slice (some pb) 4 4] (fun i => ([[120, 1], E, sb4 s] : List (List Int)).getD i []) (fun i => ([some pa, q1, some pb] : List (Option Addr)).getD i none) (fun i => ([2, d1, 4] : List Nat).getD i 0) (vec_rd (List.Mem.head _)) (fun i hi => ?_) (fun i hi => ?_) (by rw [hcat, hcl]; omega) (by rw [hcat, hcl]; omega) (by omega) w hw).mono ?_
  · rcases (show i = 0 ∨ i = 1 ∨ i = 2 by omega) with rfl | rfl | rfl <;> rfl
  · rcases (show i = 0 ∨ i = 1 ∨ i = 2 by omega) with rfl | rfl | rfl
    · exact vec_rd (List.Mem.tail _ (List.Mem.tail _ (List.Mem.tail _ (List.Mem.head _))))
    · exact vec_rd (List.Mem.tail _ (List.Mem.tail _ (List.Mem.head _)))
    · exact vec_rd (List.Mem.tail _ (List.Mem.head _))
  rw [hcat]
  rintro e w' ⟨q2, d2, rfl, hw'⟩
  refine ⟨_, rfl, _, hw', ?_⟩
  clear hw' hw w w'
  repeat (first | (refine sx ?_; try intro _))
  exact JS_ret Tryz.func10 rfl rfl fun w hw => ⟨q2, d2, rfl, St.sub (by repeat (first | exact List.Sublist.refl _ | apply List.Sublist.cons_cons | apply List.Sublist.cons)) hw⟩
end
end Go.Proofs.YtbiocgenbgbfpaaGreat

namespace Go.Proofs.YtbiocgenbgbfpaaGreat
open Sx Go Go.ChangeShapes Go.WideShapes
set_option linter.unusedVariables false
set_option linter.unusedSimpArgs false
theorem cells5 : Tryz.prog.cellsOf 5 = 1 := by kernel_rfl
set_option maxRecDepth 100000 in
/-- a slice of bytes that came in -/
theorem open_bytes {H : Type} {enc : TypeId × Value → H} {W : World} {base : Nat} {v : Value} {d : DataW H} {p : List MemPlace} (hval : Value.okWide Tryz.prog W .any base 22 v) (h : DataW.Trod enc Tryz.prog W 0 (fun _ => true) true 22 v d p) :
    ∃ (b : Option Addr) (c m : Nat) (B : List Int), v = .slice b m c ∧ ArgRd W (.slice b m c) m (ints .u8 B) ∧ B.length = m ∧ (OKB B ∧ (b = none → m = 0)) ∧ (m = 0 ∨ ∃ E S, d = .slice E S ∧ E.length = m) := by
  obtain ⟨b, m, c, rfl⟩ := okWide_slice Tryz.underlying22 hval
  obtain ⟨fuel, hf⟩ := h
  rcases Go.ChangeShapes.open_ints Tryz.underlying22 Tryz.underlying5 cells5 hf with ⟨hcs, _⟩ | ⟨a, len', cap', zs, hcs, _, hl, hm, hz, hx, hcell, hwz⟩
  · simp [Value.cells] at hcs
    obtain ⟨rfl, rfl, rfl⟩ := hcs
    exact ⟨none, 0, 0, [], rfl, argRd_mk ⟨none, 0, rfl, fun _ => rfl, Nat.le_refl _⟩ (fun j v h => by simp [ints] at h), rfl, ⟨fun j => by simp, fun _ => rfl⟩, .inl rfl⟩
  · simp [Value.cells] at hcs
    obtain ⟨rfl, rfl, rfl⟩ := hcs
    simp only [if_true] at hz
    refine ⟨some a, c, m, zs.take m, rfl, argRd_mk ⟨some a, c, rfl, (fun h => by cases h), hl⟩ (fun j v hv => ?_), by simp; omega, ⟨fun j => ?_, fun h => (by cases h)⟩, .inr ⟨_, _, congrArg Prod.fst hx, by simp [lits]; omega⟩⟩
    · have hj : j < m := by
        have := (List.getElem?_eq_some_iff.1 hv).1
        simp [ints] at this; omega
      have e : (ints .u8 (zs.take m))[j]? = some (.int .u8 (zs.getD j 0)) := by
        have := ints_get (K := .u8) (l := zs.take m) (j := j) (by simp; omega)
        rw [this]
        congr 2
        simp [List.getD_eq_getElem?_getD, List.getElem?_take, hj]
      rw [e] at hv
      obtain rfl := Option.some.inj hv
      exact ⟨a.add j, cellPtr_eq a m c j, by simpa using cell_lt (hcell j (by omega)), hcell j (by omega)⟩
    · rcases Nat.lt_or_ge j m with hj | hj
      · have : (zs.take m).getD j 0 = zs[j]'(by omega) := by simp [List.getD_eq_getElem?_getD, List.getElem?_take, hj, show j < zs.length by omega]
        rw [this]
        exact wfu8 (hwz _ (List.getElem_mem _))
      · have : (zs.take m).getD j 0 = 0 := by
          rw [List.getD_eq_getElem?_getD, List.getElem?_eq_none (by simp; omega)]; rfl
        rw [this]; decide
end Go.Proofs.YtbiocgenbgbfpaaGreat

namespace Go.Proofs.YtbiocgenbgbfpaaGreat
open Sx Go
set_option linter.unusedVariables false
set_option linter.unusedSimpArgs false
attribute [local irreducible] syA fc tk cds grp cw pack descB dscL rv tkv tkS wrS
section
variable {w0 : World} {H : List Asn}
theorem RIRead_ok (p : Option Addr) (c m : Nat) (B : List Int) (hr : Rd w0 H (.slice p m c) m (ints .u8 B)) (hm : B.length = m) (hB : OKB B) (hm1 : m ≤ 17592186044410) (lim : Nat) (hlim : lim ≤ 1048576) {a : Nat} {o : List Int} (hA : ALLR B lim (.ok a o)) (w : World) (hw : St w0 H w) :
    Calls Tryz.prog 9 #[.slice p m c, .int .i64 lim] w fun e w' => ∃ p c, e = .returned (.tuple #[.slice p o.length c, .int .i64 ((a + 7) / 8 : Nat), .int .i64 0]) ∧ St w0 (vec 5 1 (.slice p o.length c) o.length (ints .u8 o) :: H) w' := by
  refine (RIRead_c p c m B hr hm hB hm1 lim (by omega) w hw).mono ?_
  rintro e w' (⟨h, _⟩ | ⟨_, _, r, h, hp⟩)
  · omega
  · rw [Int.toNat_natCast] at h
    obtain rfl := ALLR.one h hA
    obtain ⟨_, _, h'⟩ := hp
    exact h'
set_option maxRecDepth 10000 in
set_option maxHeartbeats 2000000 in
theorem Text29_c (p : Option Addr) (c m : Nat) (B : List Int) (wide : Bool) (hr : Rd w0 H (.slice p m c) m (ints .u8 B)) (hm : B.length = m) (hB : OKB B) (hmx : m ≤ 140737488351232) (w : World) (hw : St w0 H w) :
    Calls Tryz.prog 5 #[.slice p m c, .bool wide] w fun e w' => ∃ q d, e = .returned (.slice q (txt B wide).length d) ∧ St w0 (vec 5 1 (.slice q (txt B wide).length d) (txt B wide).length (ints .u8 (txt B wide)) :: H) w' := by
  refine enter (vs := [.slice p m c, .bool wide]) Tryz.func5 rfl rfl rfl hw ?_
  clear hw w
  repeat (first | (refine sx ?_; try intro _))
  refine JS_loop3 (fun (i : Nat) (q : Option Addr) (d : Nat) => [(0, .slice p m c), (1, .bool wide), (5, .slice q i d), (6, .int .i64 i)]) (fun i q d => vec 5 1 (.slice q i d) i (ints .u8 ((B.take i).map fun x => if wide then x else x % 3)) :: H) (fun i q d => i ≤ m ∧ i ≤ 300) (fun i _ _ => m - i) 0 none 0 ⟨Nat.zero_le _, by omega⟩ (by repeat (first | exact trivial | refine ⟨rfl, ?_⟩ | refine ⟨lookI rfl (by omega), ?_⟩)) (fun w h => St.nilvec h) ?_
  intro i q d ⟨hi, hi3⟩ again
  by_cases hstop : i < m ∧ i < 300
  · have gB : (ints .u8 B)[i]? = some (.int .u8 (B.getD i 0)) := ints_get (by omega)
    have hb := hB i
    have hgi : B[i]? = some (B.getD i 0) := by rw [List.getD_eq_getElem?_getD, List.getElem?_eq_getElem (by omega)]; rfl
    obtain ⟨x, hx⟩ : ∃ x, B.getD i 0 = x := ⟨_, rfl⟩
    rw [hx] at gB hb hgi
    have htl : ((B.take i).map fun x => if wide then x else x % 3).length = i := by rw [List.length_map, List.length_take]; omega
    have hts : ((B.take (i + 1)).map fun x => if wide then x else x % 3) = ((B.take i).map fun x => if wide then x else x % 3) ++ [if wide then x else x % 3] := by
      rw [List.take_add_one, hgi, List.map_append]; rfl
    cases wide
    all_goals
      repeat (first | (apply gJO; refine JO_v (oL (V_loadC (tb := tb) rfl (Rd_weak hr fun w hw => St.sub (by repeat (first | exact List.Sublist.refl _ | apply List.Sublist.cons_cons | apply List.Sublist.cons)) hw) rfl rfl gB rfl)) ?_) | (apply gJO; (refine JO_app (tb := tb) rfl rfl rfl rfl rfl rfl (by repeat (first | exact Sel.here _ _ | apply Sel.there)) (by first | exact vec_rd (by repeat (first | apply List.Mem.head | apply List.Mem.tail)) | assumption | exact ArgRd.rd (by assumption) _ | (apply Rd_weak; assumption; intro _ hx; exact St.sub (by repeat (first | exact List.Sublist.refl _ | apply List.Sublist.cons_cons | apply List.Sublist.cons)) hx)) (by simp only [ints_len, List.length_cons, List.length_nil]; first | omega | rfl) (by first | exact ints_one | (repeat (first | exact trivial | refine ⟨rfl, ?_⟩))) (by omega) rfl ?_; intro _ _)) | (first | (refine sx ?_; try intro _)))
      rename_i ps q2 d2
      exact JS_again3 again (i + 1) q2 d2 ⟨by omega, by omega⟩ (by omega) (by repeat (first | exact trivial | refine ⟨rfl, ?_⟩ | refine ⟨lookI rfl (by omega), ?_⟩)) (fun w hw => by rw [hts, ← ints_app]; exact St.sub (by repeat (first | exact List.Sublist.refl _ | apply List.Sublist.cons_cons | apply List.Sublist.cons)) hw)
  · clear again
    have hfin : ((B.take i).map fun x => if wide then x else x % 3) = txt B wide := by
      unfold txt
      rcases (show i = m ∨ i = 300 by omega) with h | h
      · rw [List.take_of_length_le (by omega), List.take_of_length_le (by omega)]
      · rw [h]
    have hlf : (txt B wide).length = i := by rw [← hfin, List.length_map, List.length_take]; omega
    rw [hlf, hfin]
    rcases (show i = m ∨ (i < m ∧ i = 300) by omega) with h | ⟨h, h'⟩
    all_goals
      repeat (first | (refine sx ?_; try intro _))
      refine JS_ret Tryz.func5 rfl rfl fun w hw => ⟨q, d, rfl, hw⟩
attribute [local irreducible] sbs fixL bestB txt ALLR sqB pkS
set_option maxRecDepth 10000 in
set_option maxHeartbeats 8000000 in
theorem SqueezeBack_c (p : Option Addr) (c m : Nat) (B0 : List Int) (wide : Bool) (p2 : Option Addr) (c2 m2 : Nat) (S : List Int) (hr : Rd w0 H (.slice p m c) m (ints .u8 B0)) (hm : B0.length = m) (hB0 : OKB B0) (hmx : m ≤ 140737488351232)
    (hr2 : Rd w0 H (.slice p2 m2 c2) m2 (ints .u8 S)) (hm2 : S.length = m2) (hS : OKB S) (w : World) (hw : St w0 H w) :
    Calls Tryz.prog 3 #[.slice p m c, .bool wide, .slice p2 m2 c2] w fun e w' => e = .returned (.bool true) ∧ St w0 H w' := by
  refine enter (vs := [.slice p m c, .bool wide, .slice p2 m2 c2]) Tryz.func3 rfl rfl rfl hw ?_
  clear hw w
  repeat (first | (refine sx ?_; try intro _))
  refine JO_call Tryz.call4 rfl rfl fun w hw => (alive29_c w hw).mono ?_
  rintro e w' ⟨rfl, hw'⟩
  refine ⟨_, rfl, _, hw', ?_⟩
  clear hw' hw w w'
  by_cases hbig : 100 < m2
  · repeat (first | (refine sx ?_; try intro _))
    exact JS_ret Tryz.func3 rfl rfl fun w hw => ⟨rfl, hw⟩
  repeat (first | (refine sx ?_; try intro _))
  refine JO_call Tryz.call5 rfl rfl fun w hw => (Text29_c p c m B0 wide hr hm hB0 hmx w hw).mono ?_
  have hB := txt_okb hB0 wide
  have hBl := txt_len B0 wide
  obtain ⟨B, hBe⟩ : ∃ B, txt B0 wide = B := ⟨_, rfl⟩
  rw [hBe] at hB hBl ⊢
  clear hBe
  rintro e w' ⟨qx, dx, rfl, hw'⟩
  refine ⟨_, rfl, _, hw', ?_⟩
  clear hw' hw w w'
  have o1 := dsc_okb hB (by omega)
  have o2 := sqB_okb hB (by omega)
  have A1 := (ALLR_dsc (S := S) hB (Nat.le_refl _) (by omega)).2
  obtain ⟨a3, e3, A3⟩ := ALLR_sq (S := S) hB (by omega) hS (Nat.le_refl _)
  have e1 := pack_len (dscL B)
  have l1 := dscL_len hB (by omega)
  have l2 := sqB_le hB
  have hZ := ZR_sq hB (by omega)
  have okP := pkS_okb hB (by omega)
  have lP := pkS_len B
  obtain ⟨s, hs⟩ : ∃ s, adl B = s := ⟨_, rfl⟩
  have hsb := adl_bd hB
  have hP : pkS B = [120, 1] ++ sqB B ++ sb4 s := by unfold pkS; rw [hs]
  rw [hs] at hsb
  have g0 : (ints .u8 (pkS B))[0]? = some (.int .u8 120) := by rw [hP]; rfl
  have g1 : (ints .u8 (pkS B))[1]? = some (.int .u8 1) := by rw [hP]; rfl
  have gl : (ints .u8 (pkS B))[(pkS B).length - 1]? = some (.int .u8 (s % 256)) := by
    rw [ints_get (by omega)]
    have : (pkS B).getD ((pkS B).length - 1) 0 = s % 256 := by
      rw [lP, hP, List.getD_eq_getElem?_getD, List.getElem?_append_right (by simp)]
      have e : (sqB B).length + 6 - 1 - ([120, 1] ++ sqB B : List Int).length = 3 := by simp
      rw [e]; rfl
    rw [this]
  obtain ⟨b, hb⟩ : ∃ b, B.length = b := ⟨_, rfl⟩
  rw [hb] at A1 A3 hBl l1 l2 hZ ⊢
  obtain ⟨F, hF⟩ : ∃ F, pack (dscL B) = F := ⟨_, rfl⟩
  rw [hF] at o1 A1 e1
  obtain ⟨G, hG⟩ : ∃ G, sqB B = G := ⟨_, rfl⟩
  rw [hG] at o2 A3 e3 l2 lP
  obtain ⟨P, hPe⟩ : ∃ P, pkS B = P := ⟨_, rfl⟩
  rw [hPe] at hZ okP lP g0 g1 gl
  clear hP
  repeat (first | (refine sx ?_; try intro _))
  refine JO_call Tryz.call6 rfl rfl fun w hw => (Described_c qx dx b B (vec_rd (by repeat (first | apply List.Mem.head | apply List.Mem.tail))) hb hB (by omega) w hw).mono ?_
  rw [hF]
  rintro e w' ⟨q1, d1, rfl, hw'⟩
  refine ⟨_, rfl, _, hw', ?_⟩
  clear hw' hw w w'
  repeat (first | (refine sx ?_; try intro _))
  refine JO_call Tryz.call7 rfl rfl fun w hw => (SqBestOf_c qx dx b B (vec_rd (by repeat (first | apply List.Mem.head | apply List.Mem.tail))) hb hB (by omega) w hw).mono ?_
  rw [hG]
  rintro e w' ⟨q3, d3, rfl, hw'⟩
  refine ⟨_, rfl, _, hw', ?_⟩
  clear hw' hw w w'
  repeat (first | (refine sx ?_; try intro _))
  rename_i p9
  refine JS_H (H' := vec 22 1 (.slice (some p9) 2 2) 2 [.slice q1 F.length d1, .slice q3 G.length d3] :: vec 5 1 (.slice q3 G.length d3) G.length (ints .u8 G) :: vec 5 1 (.slice q1 F.length d1) F.length (ints .u8 F) :: vec 5 1 (.slice qx b dx) b (ints .u8 B) :: H) (fun w hw => hw) ?_
  obtain ⟨Hb, hHb⟩ : ∃ Hb, Hb = vec 22 1 (.slice (some p9) 2 2) 2 [.slice q1 F.length d1, .slice q3 G.length d3] :: vec 5 1 (.slice q3 G.length d3) G.length (ints .u8 G) :: vec 5 1 (.slice q1 F.length d1) F.length (ints .u8 F) :: vec 5 1 (.slice qx b dx) b (ints .u8 B) :: H := ⟨_, rfl⟩
  have hrt : Rd w0 Hb (.slice (some p9) 2 2) 2 [.slice q1 F.length d1, .slice q3 G.length d3] := by rw [hHb]; exact vec_rd (List.Mem.head _)
  have hrB : Rd w0 Hb (.slice qx b dx) b (ints .u8 B) := by rw [hHb]; exact vec_rd (by repeat (first | apply List.Mem.head | apply List.Mem.tail))
  have hrS : Rd w0 Hb (.slice p2 m2 c2) m2 (ints .u8 S) := by rw [hHb]; exact Rd_weak hr2 fun w hw => St.sub (by repeat (first | exact List.Sublist.refl _ | apply List.Sublist.cons_cons | apply List.Sublist.cons)) hw
  have hback : ∀ w, St w0 Hb w → St w0 H w := by rw [hHb]; exact fun w hw => St.sub (by repeat (first | exact List.Sublist.refl _ | apply List.Sublist.cons_cons | apply List.Sublist.cons)) hw
  have key : ∀ i, i < 2 → ∃ (q : Option Addr) (d : Nat) (X : List Int) (a : Nat), ([.slice q1 F.length d1, .slice q3 G.length d3] : List Value)[i]? = some (.slice q X.length d) ∧ Rd w0 Hb (.slice q X.length d) X.length (ints .u8 X) ∧ OKB X ∧ X.length ≤ 10000 ∧ ALLR (X ++ S) b (.ok a B) ∧ (a + 7) / 8 = X.length := by
    intro i hi
    rcases (show i = 0 ∨ i = 1 by omega) with rfl | rfl
    · exact ⟨q1, d1, F, _, rfl, by rw [hHb]; exact vec_rd (by repeat (first | apply List.Mem.head | apply List.Mem.tail)), o1, by omega, A1, e1.symm⟩
    · exact ⟨q3, d3, G, _, rfl, by rw [hHb]; exact vec_rd (by repeat (first | apply List.Mem.head | apply List.Mem.tail)), o2, by omega, A3, e3⟩
  rw [← hHb]
  clear hHb
  refine JS_loop1 (fun (i : Nat) => [(2, .slice p2 m2 c2), (7, .slice qx b dx), (33, .slice (some p9) 2 2), (34, .int .i64 2), (35, .int .i64 i)]) (fun _ => Hb) (fun i => i ≤ 2) (fun i => 2 - i) 0 (by omega) (by repeat (first | exact trivial | refine ⟨rfl, ?_⟩ | refine ⟨lookI rfl (by omega), ?_⟩)) (fun w h => h) ?_
  intro i hi again
  have hbyt : Byt B := hB
  by_cases hi3 : i < 2
  · obtain ⟨q, d, X, a, hget, hrX, hX, hXl, hA, ha⟩ := key i hi3
    clear key
    have hXS : OKB (X ++ S) := okb_ap hX hS
    have hlS : (X ++ S).length = X.length + m2 := by rw [List.length_append, hm2]
    have hget' : ([.slice q1 F.length d1, .slice q3 G.length d3] : List Value)[i * 1]? = some (.slice q X.length d) := by rw [Nat.mul_one]; exact hget
    obtain ⟨x, hx⟩ : ∃ x, X.length = x := ⟨_, rfl⟩
    rw [hx] at hrX hXl ha hlS hget hget'
    repeat (first | (apply gJO; refine JO_v (oL (V_loadC (tb := tb) rfl hrt rfl rfl hget rfl)) ?_) | (apply gJO; refine JO_v (oL (V_loadC (tb := tb) rfl hrt rfl rfl hget' rfl)) ?_) | (apply gJO; (refine JO_app (tb := tb) rfl rfl rfl rfl rfl rfl (by repeat (first | exact Sel.here _ _ | apply Sel.there)) (by first | exact vec_rd (by repeat (first | apply List.Mem.head | apply List.Mem.tail)) | assumption | exact ArgRd.rd (by assumption) _ | (apply Rd_weak; assumption; intro _ hx; exact St.sub (by repeat (first | exact List.Sublist.refl _ | apply List.Sublist.cons_cons | apply List.Sublist.cons)) hx)) (by simp only [ints_len, List.length_cons, List.length_nil]; first | omega | rfl) (by first | exact ints_one | (repeat (first | exact trivial | refine ⟨rfl, ?_⟩))) (by omega) rfl ?_; intro _ _)) | (first | (refine sx ?_; try intro _)))
    rename_i pa qa da
    rw [Nat.zero_add, show rep 0 [Value.int .u8 0] = [] from rfl, List.nil_append, ints_app]
    refine JO_call Tryz.call8 rfl rfl fun w hw => (IRead_ok qa da (x + m2) (X ++ S) (vec_rd (List.Mem.head _)) hlS hXS (by omega) b (by omega) hA w hw).mono ?_
    rw [ha, hb]
    rintro e w' ⟨q4, d4, rfl, hw'⟩
    refine ⟨_, rfl, _, hw', ?_⟩
    clear hw' hw w w'
    repeat (first | (refine sx ?_; try intro _))
    refine JO_call Tryz.call9 rfl rfl fun w hw => (RIRead_ok qa da (x + m2) (X ++ S) (vec_rd (List.Mem.tail _ (List.Mem.head _))) hlS hXS (by omega) b (by omega) hA w hw).mono ?_
    rw [ha, hb]
    rintro e w' ⟨q5, d5, rfl, hw'⟩
    refine ⟨_, rfl, _, hw', ?_⟩
    clear hw' hw w w'
    repeat (first | (apply gJO; refine JO_v (V_neStrF (A := B) rfl rfl hbyt rfl) ?_) | first | (refine sx ?_; try intro _))
    exact JS_again1 again (i + 1) (by omega) (by omega) (by repeat (first | exact trivial | refine ⟨rfl, ?_⟩ | refine ⟨lookI rfl (by omega), ?_⟩)) (fun w hw => St.sub (by repeat (first | exact List.Sublist.refl _ | apply List.Sublist.cons_cons | apply List.Sublist.cons)) hw)
  · obtain rfl : i = 2 := by omega
    clear again key
    repeat (first | (refine sx ?_; try intro _))
    refine JO_call Tryz.call10 rfl rfl fun w hw => (SqPack_c qx dx b B hrB hb hB (by omega) w hw).mono ?_
    rw [hPe]
    rintro e w' ⟨q6, d6, rfl, hw'⟩
    refine ⟨_, rfl, _, hw', ?_⟩
    clear hw' hw w w'
    repeat (first | (refine sx ?_; try intro _))
    refine JO_call Tryz.call11 rfl rfl fun w hw => (ZOpen_c q6 d6 P.length P (vec_rd (List.Mem.head _)) rfl okP (by omega) b (by omega) w hw).mono ?_
    rintro e w' ⟨x, o, q7, d7, hz, rfl, hw'⟩
    obtain ⟨rfl, rfl⟩ := ZR_one hz hZ
    refine ⟨_, rfl, _, hw', ?_⟩
    clear hw' hw w w' hz
    repeat (first | (refine sx ?_; try intro _))
    refine JO_call Tryz.call12 rfl rfl fun w hw => (RSum3_c qx dx b o (Rd_weak hrB fun w hw => St.sub (by repeat (first | exact List.Sublist.refl _ | apply List.Sublist.cons_cons | apply List.Sublist.cons)) hw) hb hB (by omega) w hw).mono ?_
    rw [hs]
    rintro e w' ⟨rfl, hw'⟩
    refine ⟨_, rfl, _, hw', ?_⟩
    clear hw' hw w w'
    obtain ⟨n, hn⟩ : ∃ n, P.length = n := ⟨_, rfl⟩
    rw [hn] at gl lP ⊢
    have gl' : (ints .u8 P)[(n - 1) * 1]? = some (.int .u8 (s % 256)) := by rw [Nat.mul_one]; exact gl
    have c4 : IntKind.u8.wrap s = s % 256 := mu8 _
    have c5 : IntKind.i64.wrap ((n : Int) - 1) = ((n - 1 : Nat) : Int) := (wi64 (by omega)).trans (by omega)
    repeat (first | (apply gJO; first | refine JO_v (V_eqStr1 (s := bstr o) rfl rfl rfl) ?_ | refine JO_v (V_str (tb := tb) rfl (vec_rd (cs := ints .u8 o) (List.Mem.head _)) rfl rfl rfl rfl rfl) ?_ | refine JO_v (V_sub rfl rfl c5 rfl) ?_ | refine JO_v (oCv (V_conv (tb := tb) rfl rfl rfl c4 rfl)) ?_ | refine JO_v (oL (V_loadC (tb := tb) rfl (vec_rd (cs := ints .u8 P) (List.Mem.tail _ (List.Mem.head _))) rfl rfl g0 rfl)) ?_ | refine JO_v (oL (V_loadC (tb := tb) rfl (vec_rd (cs := ints .u8 P) (List.Mem.tail _ (List.Mem.head _))) rfl rfl g1 rfl)) ?_ | refine JO_v (oL (V_loadC (tb := tb) rfl (vec_rd (cs := ints .u8 P) (List.Mem.tail _ (List.Mem.head _))) rfl rfl gl rfl)) ?_ | refine JO_v (oL (V_loadC (tb := tb) rfl (vec_rd (cs := ints .u8 P) (List.Mem.tail _ (List.Mem.head _))) rfl rfl gl' rfl)) ?_) | first | (refine sx ?_; try intro _))
    exact JS_ret Tryz.func3 rfl rfl fun w hw => ⟨rfl, hback w (St.sub (by repeat (first | exact List.Sublist.refl _ | apply List.Sublist.cons_cons | apply List.Sublist.cons)) hw)⟩
end
theorem SqueezeBack_l (p : Option Addr) (c m : Nat) (B : List Int) (wide : Bool) (p2 : Option Addr) (c2 m2 : Nat) (S : List Int) (w0 : World) (ha : ArgRd w0 (.slice p m c) m (ints .u8 B)) (hm : B.length = m) (hO : OKB B ∧ (p = none → m = 0) ∧ m ≤ 140737488351232)
    (ha2 : ArgRd w0 (.slice p2 m2 c2) m2 (ints .u8 S)) (hm2 : S.length = m2) (hO2 : OKB S ∧ (p2 = none → m2 = 0) ∧ m2 ≤ 140737488351232) :
    Calls Tryz.prog 3 #[.slice p m c, .bool wide, .slice p2 m2 c2] w0 fun e w' => e = .returned (.bool true) ∧ RowKit.Below w0.heap.size w0 w' :=
  (SqueezeBack_c (w0 := w0) (H := []) p c m B wide p2 c2 m2 S (ha.rd _) hm hO.1 hO.2.2 (ha2.rd _) hm2 hO2.1 w0 (St.start w0)).mono fun e w' h => ⟨h.1, h.2.grown⟩
end Go.Proofs.YtbiocgenbgbfpaaGreat
