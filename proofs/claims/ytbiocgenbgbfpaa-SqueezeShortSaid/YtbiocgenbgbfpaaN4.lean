import Derived.Test.YtbiocgenbgbfpaaN3
namespace Sx
open Go
section
variable {P : Program} {n : Nat} {D : List Deferred} {w0 : World} {ov : Ov} {H : List Asn} {d : Option Nat} {T : Nat} {pos : String} {af : Array Edge} {g : Option (Nat × Bool)} {x y : Operand} {v : Value} {tb : Tb P}
theorem E_alloc {e : Nat} {ty : Ty} {sz by' : Nat} {cs : List Value} (hT : tlook tb.l e = some ⟨ty, sz, by', some cs⟩) (hd : dOk d n = true) : OpE (ι := Nat) P n D w0 ov H ⟨d, .alloc e, T, pos, af, g⟩ (fun b => .pointer (some ⟨b, 0, none⟩)) (fun b => blk b cs :: H) :=
  ⟨hd, fun a w ha hw => ⟨w.heap.size, w.alloc (.cells cs.toArray e), by
    obtain ⟨zv, hc, hz⟩ := Tb.run_zero w hT
    simp [execOp, Instr.alloc, newVar, newRow, cellsL_eq, hc, hz], hw.new cs e _ fun w' h' => blk_holds.2 ⟨rfl, e, h'⟩⟩⟩
theorem E_make {t e sz by' s1 b1 : Nat} {ty2 : Ty} {z1 : Option (List Value)} {z : List Value} {K1 K2 : IntKind} {m : Int} (hx : ev ov x = some (.int K1 m)) (hy : ev ov y = some (.int K2 m)) (h : tlook tb.l t = some ⟨.slice e, s1, b1, z1⟩) (h2 : tlook tb.l e = some ⟨ty2, sz, by', some z⟩) (hzl : Nat.beq z.length sz = true) (hsz : Nat.blt 0 sz = true)
    (hb : 0 ≤ m ∧ (by' : Int) * m ≤ 281474976710656 ∧ m ≤ 281474976710656) (hd : dOk d n = true) :
    OpE (ι := Addr) P n D w0 ov H ⟨d, .makeSlice t x y, T, pos, af, g⟩ (fun p => .slice (some p) m.toNat m.toNat) (fun p => vec e sz (.slice (some p) m.toNat m.toNat) m.toNat (rep m.toNat z) :: H) :=
  ⟨hd, fun a w ha hw => by
    have e1 := und_slice h
    obtain ⟨inf, zv, hi, hs1, hs2, hs3, hz⟩ := Tb.inf' h2
    have hsz' : 0 < sz := by rw [Nat.blt_eq] at hsz; exact hsz
    have hzl' := Nat.eq_of_beq_eq_true hzl
    have hr := run_make (P := P) w t e inf zv e1 hi hs3 K1 K2 m m hb.1 (Int.le_refl _) (by rw [hs2]; exact hb.2.1) (by omega)
    rw [cellsL_eq, hz, hs1] at hr
    have hmr := made_rep z (by omega) m.toNat
    rw [hzl'] at hmr
    rw [show madeCells z.toArray (m.toNat * sz) = (rep m.toNat z).toArray from by rw [← hmr]] at hr
    refine ⟨⟨w.heap.size, 0, none⟩, _, by simp only [execOp, ha.ev hx, ha.ev hy, Sem.run_bind, hr, Result.andThen_ok, Sem.run_pure], hw.new (rep m.toNat z) e _ fun w' h' => ?_⟩
    rw [vec_holds]
    refine ⟨by rw [length_rep, hzl'], .inr ⟨_, m.toNat, _, rfl, rfl, h', Nat.le_refl _, ?_, by simp [length_rep, hzl'], by rw [← hzl', ← length_rep]; simp⟩⟩
    unfold maxLen; omega⟩
end
end Sx
namespace Go.Proofs.Ytbiocgenbgbfpaa
open Sx Go
set_option linter.unusedVariables false
set_option linter.unusedSimpArgs false
attribute [local irreducible] syA fc tk cds grp cw pack descB rv tkv tkS wrS lln wX wY splitR
section
variable {w0 : World} {H : List Asn}
/-- what the described block ends with -/
def DscR (w0 : World) (H : List Asn) (D : List Int) (e : Ending) (w' : World) : Prop := ∃ q d, e = .returned (.slice q (pack D).length d) ∧ St w0 (vec 5 1 (.slice q (pack D).length d) (pack D).length (ints .u8 (pack D)) :: H) w'
def dscT (T : List Tk) : List Int := grp 1 1 ++ grp 2 2 ++ descB (pX T) (pY T) ++ T.flatMap (tkS (nats (pX T)) (nats (pY T))) ++ cw (nats (pX T)) 256
set_option maxRecDepth 10000 in
set_option maxHeartbeats 8000000 in
theorem Desc3_c (T : List Tk) (hT : T.length ≤ 100000) (hTok : ∀ t ∈ T, TOK t) (qt : Option Addr) (dt : Nat) (bw ba bb : Nat) (q : Option Addr) (d : Nat) (G : List Asn) (gT : Rd w0 G (.slice qt T.length dt) T.length (tkv T)) (gA : IsSet w0 G ba (nats (pX T))) (gB : IsSet w0 G bb (nats (pY T)))
    (gH : ∀ w a q d L, St w0 (a :: wtA bw L q d [ptr ba, ptr bb] :: wrV L q d :: G) w → St w0 (a :: H) w) (h2 : (grp 1 1 ++ grp 2 2 ++ descB (pX T) (pY T)).length ≤ 30000) :
    JS Try.prog 27 Try.f27.ntmps (DscR w0 H (dscT T)) [] w0 (todo Try.f27 [.b, .b, .b, .b, .b, .b, .b, .b, .b, .b, .b, .b]) [(3, .slice qt T.length dt), (12, ptr bw)]
      (wtA bw (grp 1 1 ++ grp 2 2 ++ descB (pX T) (pY T)) q d [ptr ba, ptr bb] :: wrV (grp 1 1 ++ grp 2 2 ++ descB (pX T) (pY T)) q d :: G) := by
  have hdsc : dscT T = grp 1 1 ++ grp 2 2 ++ descB (pX T) (pY T) ++ T.flatMap (tkS (nats (pX T)) (nats (pY T))) ++ cw (nats (pX T)) 256 := rfl
  have o0 : ∀ j, (grp 1 1 ++ grp 2 2 ++ descB (pX T) (pY T)).getD j 0 = 0 ∨ (grp 1 1 ++ grp 2 2 ++ descB (pX T) (pY T)).getD j 0 = 1 := app_01 (app_01 (grp_01 _ _) (grp_01 _ _)) (descB_01 _ _)
  generalize grp 1 1 ++ grp 2 2 ++ descB (pX T) (pY T) = L0 at *
  have hasX : ∀ t ∈ T, HAS (nats (pX T)) (tsy1 t) ((nats (pX T)).getD (tsy1 t) 0).toNat ∧ ((nats (pX T)).getD (tsy1 t) 0).toNat ≤ 15 := fun t ht => by
    have hb0 := (splitR_bd (hTok t ht) 0 (by rw [splitR_len]; split <;> omega)).1
    rw [if_pos rfl] at hb0
    have hb : tsy1 t < 286 := hb0
    refine cut_has (askX T hT) (by rw [wX_len]; exact hb) ?_
    rw [wX_get T hb]
    have : 0 < cX T (tsy1 t) := List.countP_pos_iff.2 ⟨t, ht, by simp⟩
    show 0 < cX T (tsy1 t) + _
    omega
  have hasY : ∀ t ∈ T, (splitR t).length = 2 → HAS (nats (pY T)) (tsy2 t) ((nats (pY T)).getD (tsy2 t) 0).toNat ∧ ((nats (pY T)).getD (tsy2 t) 0).toNat ≤ 15 := fun t ht h2 => by
    have hb0 := (splitR_bd (hTok t ht) 1 (by omega)).1
    rw [if_neg (by omega)] at hb0
    have hb : tsy2 t < 30 := hb0
    refine cut_has (askY T hT) (by rw [wY_len]; exact hb) ?_
    rw [wY_get T hb]
    exact List.countP_pos_iff.2 ⟨t, ht, by simp [h2, tsy2]⟩
  have hasE : HAS (nats (pX T)) (256 : Nat) ((nats (pX T)).getD 256 0).toNat ∧ ((nats (pX T)).getD 256 0).toNat ≤ 15 := cut_has (askX T hT) (by rw [wX_len]; omega) (by rw [wX_get T (by omega), if_pos rfl]; omega)
  have htl : ∀ t ∈ T, (tkS (nats (pX T)) (nats (pY T)) t).length ≤ 56 := fun t ht => by
    unfold tkS
    have := flatb_len (fun i => wrS (nats (pX T)) (nats (pY T)) i ((splitR t).getD i (0, 0, 0))) 28 (List.range (splitR t).length) fun i hi => by
      have hi' := List.mem_range.1 hi
      have hb := splitR_bd (hTok t ht) i hi'
      have hl := splitR_len t
      unfold wrS
      rw [List.length_append, grp_len]
      by_cases h0 : i = 0
      · subst h0
        have := (hasX t ht).2
        rw [if_pos rfl, cw_len]
        unfold tsy1 at this
        omega
      · have h1 : i = 1 := by split at hl <;> omega
        subst h1
        have := (hasY t ht (by split at hl <;> omega)).2
        rw [if_neg h0, cw_len]
        unfold tsy2 at this
        omega
    rw [List.length_range] at this
    have hl := splitR_len t
    split at hl <;> omega
  refine JS_at rfl ?_
  refine JS_seq ?_
  refine JS_draw [0] (by kernel_rfl) (by kernel_rfl) (by decide +kernel) ?_
  repeat (first | (apply gQO; refine QO_v rfl (V_buildA (tb := tb) rfl rfl rfl rfl rfl) ?_) | (first | (refine sx ?_; try intro _)))
  refine QO_e (E_alloc (tb := tb) rfl rfl) rfl (.inr fun b w hw => hw.drop) ?_
  intro bs
  repeat (first | (apply gJR; first | (refine sx ?_; try intro _)) | (apply gJO; first | (refine sx ?_; try intro _)) | (apply gQR; first | (refine sx ?_; try intro _)) | (apply gQO; first | (refine sx ?_; try intro _)) | apply JS_seq | apply JS_region)
  refine JS_block ?_
  have gBs : ∀ L q d, blk bs [ptr ba, ptr bb] ∈ wtA bw L q d [ptr ba, ptr bb] :: wrV L q d :: blk bs [ptr ba, ptr bb] :: G := fun L q d => List.Mem.tail _ (List.Mem.tail _ (List.Mem.head _))
  have gT2 : Rd w0 (blk bs [ptr ba, ptr bb] :: G) (.slice qt T.length dt) T.length (tkv T) := Rd_weak gT fun w hw => hw.drop
  have gA2 := gA.sub ((List.Sublist.refl G).cons (blk bs [ptr ba, ptr bb]))
  have gB2 := gB.sub ((List.Sublist.refl G).cons (blk bs [ptr ba, ptr bb]))
  have gH2 : ∀ w a q d L, St w0 (a :: wtA bw L q d [ptr ba, ptr bb] :: wrV L q d :: blk bs [ptr ba, ptr bb] :: G) w → St w0 (a :: H) w := fun w a q d L hw => gH w a q d L (St.sub (by repeat (first | exact List.Sublist.refl _ | apply List.Sublist.cons_cons | apply List.Sublist.cons)) hw)
  refine JS_H (H' := wtA bw L0 q d [ptr ba, ptr bb] :: wrV L0 q d :: blk bs [ptr ba, ptr bb] :: G) (fun w hw => hw.perm (by (repeat (first | exact List.Perm.refl _ | refine List.Perm.cons _ ?_ | refine (List.perm_middle (l₁ := [_])).trans (List.Perm.cons _ ?_) | refine (List.perm_middle (l₁ := [_, _])).trans (List.Perm.cons _ ?_) | refine (List.perm_middle (l₁ := [_, _, _])).trans (List.Perm.cons _ ?_) | refine (List.perm_middle (l₁ := [_, _, _, _])).trans (List.Perm.cons _ ?_) | refine (List.perm_middle (l₁ := [_, _, _, _, _])).trans (List.Perm.cons _ ?_) | refine (List.perm_middle (l₁ := [_, _, _, _, _, _])).trans (List.Perm.cons _ ?_) | refine (List.perm_middle (l₁ := [_, _, _, _, _, _, _])).trans (List.Perm.cons _ ?_) | refine (List.perm_middle (l₁ := [_, _, _, _, _, _, _, _])).trans (List.Perm.cons _ ?_))))) ?_
  have gBs2 : blk bs [ptr ba, ptr bb] ∈ blk bs [ptr ba, ptr bb] :: G := List.Mem.head _
  clear gBs gT gA gB gH
  generalize blk bs [ptr ba, ptr bb] :: G = G at *
  refine JS_loop3 (fun (i : Nat) (q : Option Addr) (d : Nat) => [(12, ptr bw), (13, ptr bs), (101, .slice qt T.length dt), (102, .int .i64 T.length), (103, .int .i64 i)])
    (fun i q d => wtA bw (L0 ++ (T.take i).flatMap (tkS (nats (pX T)) (nats (pY T)))) q d [ptr ba, ptr bb] :: wrV (L0 ++ (T.take i).flatMap (tkS (nats (pX T)) (nats (pY T)))) q d :: G) (fun i _ _ => i ≤ T.length) (fun i _ _ => T.length - i) 0 q d (Nat.zero_le _) (by repeat (first | exact trivial | refine ⟨rfl, ?_⟩ | refine ⟨lookI rfl (by omega), ?_⟩))
    (fun w hw => by rw [List.take_zero, List.flatMap_nil, List.append_nil]; exact hw) ?_
  intro i q d hi again
  have o1 := app_01 o0 (flat_01 (tkS (nats (pX T)) (nats (pY T))) (tkS_01 _ _) (T.take i))
  have l1 := flatb_len (tkS (nats (pX T)) (nats (pY T))) 56 (T.take i) fun t ht => htl t (List.mem_of_mem_take ht)
  rw [List.length_take] at l1
  have l2 : (L0 ++ (T.take i).flatMap (tkS (nats (pX T)) (nats (pY T)))).length ≤ 30000 + 5600000 := by rw [List.length_append]; omega
  by_cases hil : i < T.length
  · have hat := tkv_at hil
    have htk := flat_take (tkS (nats (pX T)) (nats (pY T))) hil
    have hti := hTok _ (List.getElem_mem hil)
    have hx := hasX _ (List.getElem_mem hil)
    have hy := hasY _ (List.getElem_mem hil)
    have hsb := splitR_bd hti
    have hsl := splitR_len T[i]
    obtain ⟨t, ht⟩ : ∃ t, T[i] = t := ⟨_, rfl⟩
    rw [ht] at hat htk hti hx hy hsb hsl
    generalize hL1 : L0 ++ (T.take i).flatMap (tkS (nats (pX T)) (nats (pY T))) = L1 at *
    have hsplit := fun {HH : List Asn} (w : World) (hw : St w0 HH w) => Split_c t hti w hw
    have htkS : tkS (nats (pX T)) (nats (pY T)) t = (List.range (splitR t).length).flatMap fun i => wrS (nats (pX T)) (nats (pY T)) i ((splitR t).getD i (0, 0, 0)) := by unfold tkS; rfl
    unfold tsy1 at hx
    unfold tsy2 at hy
    generalize splitR t = S at *
    repeat (first | (apply gJO; first | refine JO_v (oL (V_loadCA (tb := tb) rfl (rd2 gT2) rfl rfl rfl (by decide) hat rfl)) ?_ | refine JO_v (V_index (tb := tb) rfl rfl rfl rfl (Rd.sl (rd2 gT2)) (by omega) (by (try simp only [tn, tna, tn1, tn2, tn3, tn4, tnd16, tnd8, Int.reduceToNat]); first | exact Nat.mul_one _ | exact rfl) rfl) ?_) | (first | (refine sx ?_; try intro _)))
    rename_i bt
    refine JO_call Try.call44 rfl rfl fun w hw => (hsplit w hw).mono ?_
    rintro e w' ⟨qs, ds, rfl, hw'⟩
    refine ⟨_, rfl, _, hw', ?_⟩
    clear hw' hw w w' hsplit
    repeat (first | (apply gJR; first | (refine sx ?_; try intro _)) | (apply gJO; first | (refine sx ?_; try intro _)) | apply JS_seq | apply JS_region)
    refine JS_block ?_
    have hS : S.length ≤ 2 := by split at hsl <;> omega
    refine JS_loop3 (fun (j : Nat) (q : Option Addr) (d : Nat) => [(12, ptr bw), (13, ptr bs), (101, .slice qt T.length dt), (102, .int .i64 T.length), (103, .int .i64 i), (108, .slice qs S.length ds), (109, .int .i64 S.length), (110, .int .i64 j)])
      (fun j q d => wtA bw (L1 ++ (List.range j).flatMap fun i => wrS (nats (pX T)) (nats (pY T)) i (S.getD i (0, 0, 0))) q d [ptr ba, ptr bb] :: wrV (L1 ++ (List.range j).flatMap fun i => wrS (nats (pX T)) (nats (pY T)) i (S.getD i (0, 0, 0))) q d :: vec 83 3 (.slice qs S.length ds) S.length (rv S) :: G)
      (fun j _ _ => j ≤ S.length) (fun j _ _ => S.length - j) 0 q d (Nat.zero_le _) (by repeat (first | exact trivial | refine ⟨rfl, ?_⟩ | refine ⟨lookI rfl (by omega), ?_⟩))
      (fun w hw => by
        rw [List.range_zero, List.flatMap_nil, List.append_nil]
        exact St.sub (by repeat (first | exact List.Sublist.refl _ | apply List.Sublist.cons_cons | apply List.Sublist.cons)) (hw.perm (show List.Perm _ (wtA bw L1 q d [ptr ba, ptr bb] :: wrV L1 q d :: vec 83 3 (.slice qs S.length ds) S.length (rv S) :: blk bt [.int .u8 t.1, .int .i64 t.2.1, .int .i64 t.2.2] :: G) by (repeat (first | exact List.Perm.refl _ | refine List.Perm.cons _ ?_ | refine (List.perm_middle (l₁ := [_])).trans (List.Perm.cons _ ?_) | refine (List.perm_middle (l₁ := [_, _])).trans (List.Perm.cons _ ?_) | refine (List.perm_middle (l₁ := [_, _, _])).trans (List.Perm.cons _ ?_) | refine (List.perm_middle (l₁ := [_, _, _, _])).trans (List.Perm.cons _ ?_) | refine (List.perm_middle (l₁ := [_, _, _, _, _])).trans (List.Perm.cons _ ?_) | refine (List.perm_middle (l₁ := [_, _, _, _, _, _])).trans (List.Perm.cons _ ?_) | refine (List.perm_middle (l₁ := [_, _, _, _, _, _, _])).trans (List.Perm.cons _ ?_) | refine (List.perm_middle (l₁ := [_, _, _, _, _, _, _, _])).trans (List.Perm.cons _ ?_)))))) ?_
    intro j q d hj again2
    by_cases hjs : j < S.length
    · obtain ⟨k1, k2, k3⟩ := hsb j hjs
      have hat2 := rv_at hjs
      have hgj : S[j] = S.getD j (0, 0, 0) := by rw [List.getD_eq_getElem?_getD, List.getElem?_eq_getElem hjs]; rfl
      rw [hgj] at hat2
      obtain ⟨bj, Bj, n, q1, q2, q3, q4, q5⟩ : ∃ bj Bj n, nth [ptr ba, ptr bb] (0 + ((j : Nat) : Int).toNat * 1) = some (ptr bj) ∧ IsSet w0 G bj Bj ∧ HAS Bj ((S.getD j (0, 0, 0)).1 : Nat) n ∧ n ≤ 15 ∧ wrS (nats (pX T)) (nats (pY T)) j (S.getD j (0, 0, 0)) = cw Bj (S.getD j (0, 0, 0)).1 ++ grp (S.getD j (0, 0, 0)).2.1 (S.getD j (0, 0, 0)).2.2 := by
        by_cases h0 : j = 0
        · subst h0
          exact ⟨ba, nats (pX T), _, rfl, gA2, hx.1, hx.2, by unfold wrS; rw [if_pos rfl]⟩
        · obtain rfl : j = 1 := by omega
          obtain ⟨y1, y2⟩ := hy (by omega)
          exact ⟨bb, nats (pY T), _, rfl, gB2, y1, y2, by unfold wrS; rw [if_neg (by omega)]⟩
      have hrg := range_succ_flat (fun i => wrS (nats (pX T)) (nats (pY T)) i (S.getD i (0, 0, 0))) j
      rw [q5] at hrg
      have o2 := app_01 o1 (flat_01 (fun i => wrS (nats (pX T)) (nats (pY T)) i (S.getD i (0, 0, 0))) (fun i => wrS_01 _ _ i _) (List.range j))
      have l3 : ((List.range j).flatMap fun i => wrS (nats (pX T)) (nats (pY T)) i (S.getD i (0, 0, 0))).length ≤ 56 := by
        have e1 := htl t (by rw [← ht]; exact List.getElem_mem hil)
        rw [htkS, show S.length = j + (S.length - j) by omega, List.range_add, List.flatMap_append, List.length_append] at e1
        omega
      have l4 : (L1 ++ (List.range j).flatMap fun i => wrS (nats (pX T)) (nats (pY T)) i (S.getD i (0, 0, 0))).length ≤ 6000000 := by rw [List.length_append]; omega
      generalize hL2 : (L1 ++ (List.range j).flatMap fun i => wrS (nats (pX T)) (nats (pY T)) i (S.getD i (0, 0, 0))) = L2 at *
      obtain ⟨r, hr⟩ : ∃ r, S.getD j (0, 0, 0) = r := ⟨_, rfl⟩
      rw [hr] at hat2 k2 k3 q3 hrg
      obtain ⟨rs, rr, rb⟩ := r
      simp only [] at hat2 k2 k3 q3 hrg
      have hpw : (2 : Nat) ^ rb ≤ 2 ^ 13 := Nat.pow_le_pow_right (by omega) k2
      have hpc : ((2 ^ rb : Nat) : Int) = 2 ^ rb := by simp
      have n1 : 0 ≤ (rr : Int) ∧ (rr : Int) < 2 ^ rb := by rw [← hpc]; omega
      have e1 : IntKind.u32.wrap (rr : Int) = (rr : Int) := wu32 (by omega)
      have o3 := app_01 o2 (cw_01 Bj rs)
      obtain ⟨h1', h2', h3', h4'⟩ := q3
      have q3 : HAS Bj rs n := ⟨h1', h2', h3', h4'⟩
      have hcl : (cw Bj rs).length ≤ 15 := by rw [cw_len]; rw [Int.toNat_natCast] at h4'; rw [h4']; omega
      have gBs3 : blk bs [ptr ba, ptr bb] ∈ wtA bw L2 q d [ptr ba, ptr bb] :: wrV L2 q d :: vec 83 3 (.slice qs S.length ds) S.length (rv S) :: G := List.Mem.tail _ (List.Mem.tail _ (List.Mem.tail _ gBs2))
      repeat ((fail_if_success refine gIdR 29 ?_); first | (apply gJO; first | refine JO_v (oL (V_loadCA (tb := tb) rfl (vec_rd (e := 83) (by repeat (first | apply List.Mem.head | apply List.Mem.tail))) rfl rfl rfl (by decide) hat2 rfl)) ?_) | (first | (refine sx ?_; try intro _)))
      rename_i br
      refine JS_H (H' := wtA bw L2 q d [ptr ba, ptr bb] :: wrV L2 q d :: blk br [.int .i64 rs, .int .i64 rr, .int .i64 rb] :: vec 83 3 (.slice qs S.length ds) S.length (rv S) :: G) (fun w hw => hw.perm (by (repeat (first | exact List.Perm.refl _ | refine List.Perm.cons _ ?_ | refine (List.perm_middle (l₁ := [_])).trans (List.Perm.cons _ ?_) | refine (List.perm_middle (l₁ := [_, _])).trans (List.Perm.cons _ ?_) | refine (List.perm_middle (l₁ := [_, _, _])).trans (List.Perm.cons _ ?_) | refine (List.perm_middle (l₁ := [_, _, _, _])).trans (List.Perm.cons _ ?_) | refine (List.perm_middle (l₁ := [_, _, _, _, _])).trans (List.Perm.cons _ ?_) | refine (List.perm_middle (l₁ := [_, _, _, _, _, _])).trans (List.Perm.cons _ ?_) | refine (List.perm_middle (l₁ := [_, _, _, _, _, _, _])).trans (List.Perm.cons _ ?_) | refine (List.perm_middle (l₁ := [_, _, _, _, _, _, _, _])).trans (List.Perm.cons _ ?_))))) ?_
      have gBs4 : blk bs [ptr ba, ptr bb] ∈ wtA bw L2 q d [ptr ba, ptr bb] :: wrV L2 q d :: blk br [.int .i64 rs, .int .i64 rr, .int .i64 rb] :: vec 83 3 (.slice qs S.length ds) S.length (rv S) :: G := List.Mem.tail _ (List.Mem.tail _ (List.Mem.tail _ (List.Mem.tail _ gBs2)))
      repeat (first | (apply gQO; refine QO_v rfl (V_load (tb := tb) rfl gBs4 rfl rfl q1 rfl) ?_) | (first | (refine sx ?_; try intro _)))
      refine QO_call Try.call49 rfl rfl fun w hw => (WriteT_c bj bw Bj L2 q d (q2.sub (by repeat (first | exact List.Sublist.refl _ | apply List.Sublist.cons))) rs n q3 o2 (by omega) w hw).mono ?_
      rintro e w' ⟨rfl, qe, de, hw'⟩
      refine ⟨_, rfl, _, hw', .inr rfl, ?_⟩
      clear hw' hw w w'
      repeat (first | (apply gQO; refine QO_v rfl (oCv (V_conv (tb := tb) rfl rfl rfl e1 rfl)) ?_) | (first | (refine sx ?_; try intro _)))
      refine QO_call Try.call47 rfl rfl fun w hw => (WGroupT_c bw _ qe de _ rb (by omega) n1 (by omega) o3 (by rw [List.length_append]; omega) w hw).mono ?_
      rintro e w' ⟨rfl, qf, df, hw'⟩
      refine ⟨_, rfl, _, hw', .inr rfl, ?_⟩
      clear hw' hw w w'
      repeat (first | (refine sx ?_; try intro _))
      refine JS_again3 again2 (j + 1) qf df (by omega) (by omega) (by repeat (first | exact trivial | refine ⟨rfl, ?_⟩ | refine ⟨lookI rfl (by omega), ?_⟩)) (fun w hw => ?_)
      rw [hrg, ← List.append_assoc, hL2, ← List.append_assoc]
      exact St.sub (by repeat (first | exact List.Sublist.refl _ | apply List.Sublist.cons_cons | apply List.Sublist.cons)) hw
    obtain rfl : j = S.length := by omega
    clear again2
    rw [← htkS]
    repeat (first | (refine sx ?_; try intro _))
    refine JS_again3 again (i + 1) q d (by omega) (by omega) (by repeat (first | exact trivial | refine ⟨rfl, ?_⟩ | refine ⟨lookI rfl (by omega), ?_⟩)) (fun w hw => ?_)
    rw [htk, ← List.append_assoc, hL1]
    exact St.sub (by repeat (first | exact List.Sublist.refl _ | apply List.Sublist.cons_cons | apply List.Sublist.cons)) hw
  obtain rfl : i = T.length := by omega
  clear again
  rw [List.take_length] at o1 l2 ⊢
  have hbytes : dscT T = L0 ++ T.flatMap (tkS (nats (pX T)) (nats (pY T))) ++ cw (nats (pX T)) 256 := hdsc
  have hce : (cw (nats (pX T)) 256).length ≤ 15 := by rw [cw_len]; exact hasE.2
  generalize L0 ++ T.flatMap (tkS (nats (pX T)) (nats (pY T))) = L5 at *
  have o5 := app_01 o1 (cw_01 (nats (pX T)) 256)
  repeat (first | (refine sx ?_; try intro _))
  refine QO_call Try.call49 rfl rfl fun w hw => (WriteT_c ba bw (nats (pX T)) L5 q d gA2 256 _ hasE.1 o1 (by omega) w hw).mono ?_
  rintro e w' ⟨rfl, qe, de, hw'⟩
  refine ⟨_, rfl, _, hw', .inr rfl, ?_⟩
  clear hw' hw w w'
  rw [← hbytes] at o5 ⊢
  repeat (first | (refine sx ?_; try intro _))
  refine JO_call Try.call50 rfl rfl fun w hw => (WBytesT_c bw (pack (dscT T)).length (dscT T) qe de o5 (by rw [hbytes, List.length_append]; omega) (pack_len _).symm w hw).mono ?_
  rintro e w' ⟨q4, d4, rfl, hw'⟩
  refine ⟨_, rfl, _, hw', ?_⟩
  clear hw' hw w w'
  repeat (first | (refine sx ?_; try intro _))
  exact JS_ret Try.func27 rfl rfl fun w hw => ⟨q4, d4, rfl, gH2 _ _ _ _ _ hw⟩
end
end Go.Proofs.Ytbiocgenbgbfpaa

namespace Go.Proofs.Ytbiocgenbgbfpaa
open Sx Go
set_option linter.unusedVariables false
set_option linter.unusedSimpArgs false
attribute [local irreducible] syA fc tk cds grp cw pack descB rv tkv tkS wrS
section
variable {w0 : World} {H : List Asn}
theorem ll16 {W : List Nat} (hA : AskOK W (15 : Nat)) (least j : Nat) : (cutN (lln W) least).getD j 0 < 16 := by
  obtain ⟨b1, b2, b3⟩ := llset hA
  obtain ⟨c1, c2, c3⟩ := cut_okl (least := least) b1 b2
  have h := c2.2.1 j
  rw [nats_getD] at h
  omega
theorem mem16 {X Y : List Nat} (hX : ∀ j, X.getD j 0 < 16) (hY : ∀ j, Y.getD j 0 < 16) : ∀ x ∈ X ++ Y, x < 16 := fun x hx => by
  rcases List.mem_append.1 hx with h | h
  · obtain ⟨j, hj, rfl⟩ := List.mem_iff_getElem.1 h
    have := hX j
    rwa [List.getD_eq_getElem?_getD, List.getElem?_eq_getElem hj] at this
  · obtain ⟨j, hj, rfl⟩ := List.mem_iff_getElem.1 h
    have := hY j
    rwa [List.getD_eq_getElem?_getD, List.getElem?_eq_getElem hj] at this
theorem pX_len (T : List Tk) : 257 ≤ (pX T).length ∧ (pX T).length ≤ 286 := by
  unfold pX
  rw [cutN_len, lln_len, wX_len]
  exact ⟨cutm_ge _ _ _ (by omega), cutm_le _ _ _⟩
theorem pY_len (T : List Tk) : 1 ≤ (pY T).length ∧ (pY T).length ≤ 30 := by
  unfold pY
  rw [cutN_len, lln_len, wY_len]
  exact ⟨cutm_ge _ _ _ (by omega), cutm_le _ _ _⟩
set_option maxRecDepth 10000 in
set_option maxHeartbeats 8000000 in
theorem Desc2_c (T : List Tk) (hT : T.length ≤ 100000) (hTok : ∀ t ∈ T, TOK t) (qt : Option Addr) (dt : Nat) (px py : Option Addr) (cx cy : Nat) :
    JS Try.prog 27 Try.f27.ntmps (DscR w0 H (dscT T)) [] w0 (todo Try.f27 [.b, .b, .b, .b, .b]) [(3, .slice qt T.length dt), (4, .slice px 286 cx), (5, .slice py 30 cy)]
      (vec 31 1 (.slice px 286 cx) 286 (ints .u64 (nats (wX T))) :: vec 31 1 (.slice py 30 cy) 30 (ints .u64 (nats (wY T))) :: vec 79 3 (.slice qt T.length dt) T.length (tkv T) :: H) := by
  have aX := askX T hT
  have aY := askY T hT
  obtain ⟨b1, b2, b3⟩ := llset aX
  obtain ⟨c1, c2, c3⟩ := cut_okl (least := 257) b1 b2
  obtain ⟨b1', b2', b3'⟩ := llset aY
  obtain ⟨c1', c2', c3'⟩ := cut_okl (least := 1) b1' b2'
  have lX := pX_len T
  have lY := pY_len T
  have x16 : ∀ j, (pX T).getD j 0 < 16 := ll16 aX 257
  have y16 : ∀ j, (pY T).getD j 0 < 16 := ll16 aY 1
  have hdl := descB_len (mem16 x16 y16) (by rw [List.length_append]; omega)
  have eX : nats (lln (wX T)) = tab 286 fun s => ((Pm.LL (wX T) 15 s : Nat) : Int) := by rw [lln_nats, wX_len]
  have eY : nats (lln (wY T)) = tab 30 fun s => ((Pm.LL (wY T) 15 s : Nat) : Int) := by rw [lln_nats, wY_len]
  have nX := nats_len (pX T)
  have nY := nats_len (pY T)
  refine JS_at rfl ?_
  repeat (first | (refine sx ?_; try intro _))
  refine JO_call Try.call46 rfl rfl fun w hw => (SqBest_c px cx 286 (wX T) (vec_rd (List.Mem.head _)) (wX_len T) (wX_lt T hT) 15 aX w hw).mono ?_
  rintro e w' ⟨q1, d1, rfl, hw'⟩
  rw [← eX] at hw'
  refine ⟨_, rfl, _, hw', ?_⟩
  clear hw' hw w w'
  repeat (first | (refine sx ?_; try intro _))
  refine JO_call Try.call45 rfl rfl fun w hw => (SqCut_c q1 d1 286 (lln (wX T)) 257 (vec_rd (List.Mem.head _)) (by rw [lln_len, wX_len]) (by omega) (by omega) w hw).mono ?_
  rintro e w' ⟨qx, dx, rfl, hrx, hw'⟩
  rw [show cutN (lln (wX T)) 257 = pX T from rfl] at hrx ⊢
  refine ⟨_, rfl, _, hw', ?_⟩
  clear hw' hw w w'
  repeat (first | (refine sx ?_; try intro _))
  refine JO_call Try.call46 rfl rfl fun w hw => (SqBest_c py cy 30 (wY T) (vec_rd (List.Mem.tail _ (List.Mem.tail _ (List.Mem.head _)))) (wY_len T) (wY_lt T hT) 15 aY w hw).mono ?_
  rintro e w' ⟨q2, d2, rfl, hw'⟩
  rw [← eY] at hw'
  refine ⟨_, rfl, _, hw', ?_⟩
  clear hw' hw w w'
  repeat (first | (refine sx ?_; try intro _))
  refine JO_call Try.call45 rfl rfl fun w hw => (SqCut_c q2 d2 30 (lln (wY T)) 1 (vec_rd (List.Mem.head _)) (by rw [lln_len, wY_len]) (by omega) (by omega) w hw).mono ?_
  rintro e w' ⟨qy, dy, rfl, hry, hw'⟩
  rw [show cutN (lln (wY T)) 1 = pY T from rfl] at hry ⊢
  refine ⟨_, rfl, _, hw', ?_⟩
  clear hw' hw w w'
  have hrx2 := Rd_weak hrx fun w hw => hw.drop (a := vec 5 1 (.slice q2 30 d2) 30 (ints .u8 (nats (lln (wY T)))))
  have gT : Rd w0 (vec 5 1 (.slice q2 30 d2) 30 (ints .u8 (nats (lln (wY T)))) :: vec 5 1 (.slice q1 286 d1) 286 (ints .u8 (nats (lln (wX T)))) :: vec 31 1 (.slice px 286 cx) 286 (ints .u64 (nats (wX T))) :: vec 31 1 (.slice py 30 cy) 30 (ints .u64 (nats (wY T))) :: vec 79 3 (.slice qt T.length dt) T.length (tkv T) :: H)
    (.slice qt T.length dt) T.length (tkv T) := vec_rd (e := 79) (size := 3) (by repeat (first | apply List.Mem.head | apply List.Mem.tail))
  have hGH : H.Sublist (vec 5 1 (.slice q2 30 d2) 30 (ints .u8 (nats (lln (wY T)))) :: vec 5 1 (.slice q1 286 d1) 286 (ints .u8 (nats (lln (wX T)))) :: vec 31 1 (.slice px 286 cx) 286 (ints .u64 (nats (wX T))) :: vec 31 1 (.slice py 30 cy) 30 (ints .u64 (nats (wY T))) :: vec 79 3 (.slice qt T.length dt) T.length (tkv T) :: H) :=
    (((((List.Sublist.refl H).cons _).cons _).cons _).cons _).cons _
  clear hrx
  have hrx := hrx2
  clear hrx2
  generalize vec 5 1 (.slice q2 30 d2) 30 (ints .u8 (nats (lln (wY T)))) :: vec 5 1 (.slice q1 286 d1) 286 (ints .u8 (nats (lln (wX T)))) :: vec 31 1 (.slice px 286 cx) 286 (ints .u64 (nats (wX T))) :: vec 31 1 (.slice py 30 cy) 30 (ints .u64 (nats (wY T))) :: vec 79 3 (.slice qt T.length dt) T.length (tkv T) :: H = G at *
  have c1 : OKB (nats (pX T)) := c1
  have c2 : OKL (nats (pX T)) := c2
  have c1' : OKB (nats (pY T)) := c1'
  have c2' : OKL (nats (pY T)) := c2'
  repeat (first | (refine sx ?_; try intro _))
  rename_i bw
  refine JO_call Try.call17 rfl rfl fun w hw => (MakeS_c qx dx (pX T).length (nats (pX T)) (Rd_weak hrx fun w hw => hw.drop) nX c1 (by omega) (Rd.nil (Rd_weak hrx fun w hw => hw.drop) hw) w hw).mono ?_
  rintro e w' ⟨u, r, rfl, ⟨h, _⟩ | ⟨_, rfl, ba, a1, a2, a3, rfl, hsa, hw'⟩⟩
  · exact absurd c2 h.not
  refine ⟨_, rfl, _, hw', ?_⟩
  clear hw' hw w w'
  repeat (first | (refine sx ?_; try intro _))
  refine JO_call Try.call17 rfl rfl fun w hw => (MakeS_c qy dy (pY T).length (nats (pY T)) (Rd_weak hry fun w hw => St.sub (by repeat (first | exact List.Sublist.refl _ | apply List.Sublist.cons_cons | apply List.Sublist.cons)) hw) nY c1' (by omega) (Rd.nil (Rd_weak hry fun w hw => St.sub (by repeat (first | exact List.Sublist.refl _ | apply List.Sublist.cons_cons | apply List.Sublist.cons)) hw) hw) w hw).mono ?_
  rintro e w' ⟨u, r, rfl, ⟨h, _⟩ | ⟨_, rfl, bb, a4, a5, a6, rfl, hsb, hw'⟩⟩
  · exact absurd c2' h.not
  refine ⟨_, rfl, _, hw', ?_⟩
  clear hw' hw w w'
  repeat ((fail_if_success refine gIdR 19 ?_); first | (first | (refine sx ?_; try intro _)))
  refine JS_H (H' := wtA bw [] none 0 [ptr ba, ptr bb] :: wrV [] none 0 :: a4 :: a5 :: a6 :: a1 :: a2 :: a3 :: G) (fun w hw => by
    have h1 := St.nilvec (e := 5) (sz := 1) (base := none) hw
    show St w0 (blk bw [.slice none 0 0, .int .i64 0, ptr ba, ptr bb] :: vec 5 1 (.slice none 0 0) 0 (ints .u8 (pack [])) :: a4 :: a5 :: a6 :: a1 :: a2 :: a3 :: G) w
    have hp : pack [] = [] := by unfold pack; rfl
    rw [hp]
    exact h1.perm (by (repeat (first | exact List.Perm.refl _ | refine List.Perm.cons _ ?_ | refine (List.perm_middle (l₁ := [_])).trans (List.Perm.cons _ ?_) | refine (List.perm_middle (l₁ := [_, _])).trans (List.Perm.cons _ ?_) | refine (List.perm_middle (l₁ := [_, _, _])).trans (List.Perm.cons _ ?_) | refine (List.perm_middle (l₁ := [_, _, _, _])).trans (List.Perm.cons _ ?_) | refine (List.perm_middle (l₁ := [_, _, _, _, _])).trans (List.Perm.cons _ ?_) | refine (List.perm_middle (l₁ := [_, _, _, _, _, _])).trans (List.Perm.cons _ ?_) | refine (List.perm_middle (l₁ := [_, _, _, _, _, _, _])).trans (List.Perm.cons _ ?_) | refine (List.perm_middle (l₁ := [_, _, _, _, _, _, _, _])).trans (List.Perm.cons _ ?_))))) ?_
  have hsa2 : IsSet w0 (a4 :: a5 :: a6 :: a1 :: a2 :: a3 :: G) ba (nats (pX T)) := hsa.sub ((((((List.nil_sublist G).cons_cons a3).cons_cons a2).cons_cons a1).cons a6).cons a5 |>.cons a4)
  have hsb2 : IsSet w0 (a4 :: a5 :: a6 :: a1 :: a2 :: a3 :: G) bb (nats (pY T)) := hsb.sub (((List.nil_sublist _).cons_cons a6).cons_cons a5 |>.cons_cons a4)
  have gT2 : Rd w0 (a4 :: a5 :: a6 :: a1 :: a2 :: a3 :: G) (.slice qt T.length dt) T.length (tkv T) := Rd_weak gT fun w hw => St.sub (by repeat (first | exact List.Sublist.refl _ | apply List.Sublist.cons_cons | apply List.Sublist.cons)) hw
  have hrx2 : Rd w0 (a4 :: a5 :: a6 :: a1 :: a2 :: a3 :: G) (.slice qx (pX T).length dx) (pX T).length (ints .u8 (nats (pX T))) := Rd_weak hrx fun w hw => St.sub (by repeat (first | exact List.Sublist.refl _ | apply List.Sublist.cons_cons | apply List.Sublist.cons)) hw
  have hry2 : Rd w0 (a4 :: a5 :: a6 :: a1 :: a2 :: a3 :: G) (.slice qy (pY T).length dy) (pY T).length (ints .u8 (nats (pY T))) := Rd_weak hry fun w hw => St.sub (by repeat (first | exact List.Sublist.refl _ | apply List.Sublist.cons_cons | apply List.Sublist.cons)) hw
  have hGH2 : H.Sublist (a4 :: a5 :: a6 :: a1 :: a2 :: a3 :: G) := (((((hGH.cons a3).cons a2).cons a1).cons a6).cons a5).cons a4
  clear hrx hry hsa hsb gT hGH
  generalize a4 :: a5 :: a6 :: a1 :: a2 :: a3 :: G = G2 at *
  have o0 := nil_01'
  have o1 := app_01 o0 (grp_01 1 1)
  have l1 : (([] : List Int) ++ grp 1 1).length = 1 := by rw [List.nil_append, grp_len]
  have o2 := app_01 o1 (grp_01 2 2)
  have l2 : (([] : List Int) ++ grp 1 1 ++ grp 2 2).length = 3 := by rw [List.length_append, l1, grp_len]
  repeat (first | (refine sx ?_; try intro _))
  refine JO_call Try.call47 rfl rfl fun w hw => (WGroupT_c bw [] none 0 1 1 (by omega) ⟨by decide, by decide⟩ (by decide) o0 (by simp) w hw).mono ?_
  rintro e w' ⟨rfl, qa, da, hw'⟩
  refine ⟨_, rfl, _, hw', ?_⟩
  clear hw' hw w w'
  repeat (first | (refine sx ?_; try intro _))
  refine JO_call Try.call47 rfl rfl fun w hw => (WGroupT_c bw _ qa da 2 2 (by omega) ⟨by decide, by decide⟩ (by decide) o1 (by omega) w hw).mono ?_
  rintro e w' ⟨rfl, qb, db, hw'⟩
  refine ⟨_, rfl, _, hw', ?_⟩
  clear hw' hw w w'
  repeat (first | (refine sx ?_; try intro _))
  refine JO_call Try.call48 rfl rfl fun w hw => (Describe_c bw _ qb db qx qy dx dy (pX T).length (pY T).length (pX T) (pY T) hrx2 hry2 rfl rfl lX lY x16 y16 o2 (by omega) w hw).mono ?_
  rintro e w' ⟨rfl, qc, dc, hw'⟩
  rw [List.nil_append] at hw'
  refine ⟨_, rfl, _, hw', ?_⟩
  clear hw' hw w w'
  have hlen3 : (grp 1 1 ++ grp 2 2 ++ descB (pX T) (pY T)).length ≤ 30000 := by
    rw [List.length_append, List.length_append, grp_len, grp_len]; omega
  have h3 := Desc3_c (w0 := w0) (H := H) T hT hTok qt dt bw ba bb qc dc G2 gT2 hsa2 hsb2 (fun w a q d L hw => St.sub ((hGH2.cons _).cons _ |>.cons_cons a) hw) hlen3
  repeat (first | exact JS_of_at (fn := Try.f27) (p := [.b, .b, .b, .b, .b, .b, .b, .b, .b, .b, .b, .b]) (JS_ov (by repeat (first | exact trivial | refine ⟨rfl, ?_⟩ | refine ⟨lookI rfl (by omega), ?_⟩)) h3) rfl | (first | (refine sx ?_; try intro _)))
end
end Go.Proofs.Ytbiocgenbgbfpaa

namespace Go.Proofs.Ytbiocgenbgbfpaa
open Sx Go
set_option linter.unusedVariables false
set_option linter.unusedSimpArgs false
attribute [local irreducible] syA fc tk cds grp cw pack descB rv tkv tkS wrS
section
variable {w0 : World} {H : List Asn}
def xT (T : List Tk) (i j s : Nat) (k : Nat) : Int := ((cX (T.take i) k + (if k = 256 then 1 else 0) + (if 1 ≤ j ∧ s = k then 1 else 0) : Nat) : Int)
def yT (T : List Tk) (i j s : Nat) (k : Nat) : Int := ((cY (T.take i) k + (if 2 ≤ j ∧ s = k then 1 else 0) : Nat) : Int)
set_option maxRecDepth 10000 in
set_option maxHeartbeats 8000000 in
theorem Desc1_c (T : List Tk) (hT : T.length ≤ 100000) (hTok : ∀ t ∈ T, TOK t) (qt : Option Addr) (dt : Nat) (px py : Option Addr) (cx cy : Nat) :
    JS Try.prog 27 Try.f27.ntmps (DscR w0 H (dscT T)) [] w0 (todo Try.f27 [.b, .b, .b]) [(3, .slice qt T.length dt), (4, .slice px 286 cx), (5, .slice py 30 cy)]
      (vec 31 1 (.slice px 286 cx) 286 (ints .u64 (tab 286 fun _ => 0)) :: vec 31 1 (.slice py 30 cy) 30 (ints .u64 (tab 30 fun _ => 0)) :: vec 79 3 (.slice qt T.length dt) T.length (tkv T) :: H) := by
  have hl0 := tab_len 286 fun _ => 0
  refine JS_at rfl ?_
  repeat (first | (apply gJR; first | (refine sx ?_; try intro _)) | (apply gJO; first | (refine sx ?_; try intro _)) | apply JS_seq | apply JS_region)
  rw [tab_set]
  refine JS_block ?_
  refine JS_loop1 (fun (i : Nat) => [(3, .slice qt T.length dt), (4, .slice px 286 cx), (5, .slice py 30 cy), (24, .slice qt T.length dt), (25, .int .i64 T.length), (26, .int .i64 i)])
    (fun i => vec 31 1 (.slice px 286 cx) 286 (ints .u64 (tab 286 (xT T i 0 0))) :: vec 31 1 (.slice py 30 cy) 30 (ints .u64 (tab 30 (yT T i 0 0))) :: vec 79 3 (.slice qt T.length dt) T.length (tkv T) :: H) (fun i => i ≤ T.length) (fun i => T.length - i) 0 (Nat.zero_le _) (by repeat (first | exact trivial | refine ⟨rfl, ?_⟩ | refine ⟨lookI rfl (by omega), ?_⟩))
    (fun w hw => by
      have e1 : tab 286 (xT T 0 0 0) = tab 286 fun j => if j = 256 then 1 else 0 := tab_congr fun k _ => by
        unfold xT
        rw [show cX (T.take 0) k = 0 from rfl, if_neg (show ¬ (1 ≤ 0 ∧ 0 = k) by omega)]
        split <;> rfl
      have e2 : tab 30 (yT T 0 0 0) = tab 30 fun _ => 0 := tab_congr fun k _ => by
        unfold yT
        rw [show cY (T.take 0) k = 0 from rfl, if_neg (show ¬ (2 ≤ 0 ∧ 0 = k) by omega)]; rfl
      rw [e1, e2]
      exact hw) ?_
  intro i hi again
  by_cases hil : i < T.length
  · have hat := tkv_at hil
    have hti := hTok _ (List.getElem_mem hil)
    have hsb := splitR_bd hti
    have hsl := splitR_len T[i]
    have htake : T.take (i + 1) = T.take i ++ [T[i]] := by rw [List.take_add_one, List.getElem?_eq_getElem hil]; rfl
    have hx1 : ∀ k, cX (T.take (i + 1)) k = cX (T.take i) k + if tsy1 T[i] = k then 1 else 0 := fun k => by
      rw [htake]
      unfold cX
      rw [List.countP_append, List.countP_singleton]
      simp only [beq_iff_eq]
    have hy1 : ∀ k, cY (T.take (i + 1)) k = cY (T.take i) k + if (splitR T[i]).length = 2 ∧ tsy2 T[i] = k then 1 else 0 := fun k => by
      rw [htake]
      unfold cY
      rw [List.countP_append, List.countP_singleton]
      simp only [Bool.and_eq_true, beq_iff_eq]
    obtain ⟨t, ht⟩ : ∃ t, T[i] = t := ⟨_, rfl⟩
    rw [ht] at hat hti hsb hsl
    simp only [ht] at hx1 hy1
    have hsplit := fun {HH : List Asn} (w : World) (hw : St w0 HH w) => Split_c t hti w hw
    unfold tsy1 at hx1
    unfold tsy2 at hy1
    generalize splitR t = S at *
    repeat (first | (apply gJO; first | refine JO_v (oL (V_loadCA (tb := tb) rfl (vec_rd (e := 79) (by repeat (first | apply List.Mem.head | apply List.Mem.tail))) rfl rfl rfl (by decide) hat rfl)) ?_) | (first | (refine sx ?_; try intro _)))
    rename_i bt
    refine JO_call Try.call44 rfl rfl fun w hw => (hsplit w hw).mono ?_
    rintro e w' ⟨qs, ds, rfl, hw'⟩
    refine ⟨_, rfl, _, hw', ?_⟩
    clear hw' hw w w' hsplit
    repeat (first | (apply gJR; first | (refine sx ?_; try intro _)) | (apply gJO; first | (refine sx ?_; try intro _)) | apply JS_seq | apply JS_region)
    refine JS_block ?_
    have hS : 1 ≤ S.length ∧ S.length ≤ 2 := by split at hsl <;> omega
    obtain ⟨s0, hs0⟩ : ∃ s, (S.getD 0 (0, 0, 0)).1 = s := ⟨_, rfl⟩
    obtain ⟨s1, hs1⟩ : ∃ s, (S.getD 1 (0, 0, 0)).1 = s := ⟨_, rfl⟩
    rw [hs0] at hx1
    rw [hs1] at hy1
    refine JS_loop1 (fun (j : Nat) => [(3, .slice qt T.length dt), (4, .slice px 286 cx), (5, .slice py 30 cy), (24, .slice qt T.length dt), (25, .int .i64 T.length), (26, .int .i64 i), (31, .slice qs S.length ds), (32, .int .i64 S.length), (33, .int .i64 j)])
      (fun j => vec 31 1 (.slice px 286 cx) 286 (ints .u64 (tab 286 (xT T i j s0))) :: vec 31 1 (.slice py 30 cy) 30 (ints .u64 (tab 30 (yT T i j s1))) :: vec 83 3 (.slice qs S.length ds) S.length (rv S) :: vec 79 3 (.slice qt T.length dt) T.length (tkv T) :: H)
      (fun j => j ≤ S.length) (fun j => S.length - j) 0 (Nat.zero_le _) (by repeat (first | exact trivial | refine ⟨rfl, ?_⟩ | refine ⟨lookI rfl (by omega), ?_⟩))
      (fun w hw => by
        have e1 : tab 286 (xT T i 0 s0) = tab 286 (xT T i 0 0) := tab_congr fun k _ => by unfold xT; rw [if_neg (show ¬ (1 ≤ 0 ∧ s0 = k) by omega), if_neg (show ¬ (1 ≤ 0 ∧ 0 = k) by omega)]
        have e2 : tab 30 (yT T i 0 s1) = tab 30 (yT T i 0 0) := tab_congr fun k _ => by unfold yT; rw [if_neg (show ¬ (2 ≤ 0 ∧ s1 = k) by omega), if_neg (show ¬ (2 ≤ 0 ∧ 0 = k) by omega)]
        rw [e1, e2]
        exact St.sub (by repeat (first | exact List.Sublist.refl _ | apply List.Sublist.cons_cons | apply List.Sublist.cons)) (hw.perm (show List.Perm _ (vec 31 1 (.slice px 286 cx) 286 (ints .u64 (tab 286 (xT T i 0 0))) :: vec 31 1 (.slice py 30 cy) 30 (ints .u64 (tab 30 (yT T i 0 0))) :: vec 83 3 (.slice qs S.length ds) S.length (rv S) :: blk bt [.int .u8 t.1, .int .i64 t.2.1, .int .i64 t.2.2] :: vec 79 3 (.slice qt T.length dt) T.length (tkv T) :: H) by (repeat (first | exact List.Perm.refl _ | refine List.Perm.cons _ ?_ | refine (List.perm_middle (l₁ := [_])).trans (List.Perm.cons _ ?_) | refine (List.perm_middle (l₁ := [_, _])).trans (List.Perm.cons _ ?_) | refine (List.perm_middle (l₁ := [_, _, _])).trans (List.Perm.cons _ ?_) | refine (List.perm_middle (l₁ := [_, _, _, _])).trans (List.Perm.cons _ ?_) | refine (List.perm_middle (l₁ := [_, _, _, _, _])).trans (List.Perm.cons _ ?_) | refine (List.perm_middle (l₁ := [_, _, _, _, _, _])).trans (List.Perm.cons _ ?_) | refine (List.perm_middle (l₁ := [_, _, _, _, _, _, _])).trans (List.Perm.cons _ ?_) | refine (List.perm_middle (l₁ := [_, _, _, _, _, _, _, _])).trans (List.Perm.cons _ ?_)))))) ?_
    intro j hj again2
    by_cases hjs : j < S.length
    · have hat2 := rv_at hjs
      have hgj : S[j] = S.getD j (0, 0, 0) := by rw [List.getD_eq_getElem?_getD, List.getElem?_eq_getElem hjs]; rfl
      rw [hgj] at hat2
      obtain ⟨k1, _, _⟩ := hsb j hjs
      by_cases h0 : j = 0
      · subst h0
        rw [hs0, if_pos rfl] at k1
        obtain ⟨r, hr⟩ : ∃ r, S.getD 0 (0, 0, 0) = r := ⟨_, rfl⟩
        rw [hr] at hat2 hs0
        obtain ⟨rs, rr, rb⟩ := r
        simp only [] at hat2 hs0
        subst hs0
        have hcx := cX_le (T.take i) rs
        rw [List.length_take] at hcx
        have hlx := tab_len 286 (xT T i 0 rs)
        have gx : (ints .u64 (tab 286 (xT T i 0 rs)))[rs]? = some (.int .u64 (xT T i 0 rs rs)) := by rw [ints_get (by omega), tab_get k1]
        have hxb : 0 ≤ xT T i 0 rs rs ∧ xT T i 0 rs rs ≤ 200000 := by unfold xT; split <;> split <;> omega
        repeat (first | (apply gJO; first | refine JO_v (oL (V_loadCA (tb := tb) rfl (vec_rd (e := 83) (by repeat (first | apply List.Mem.head | apply List.Mem.tail))) rfl rfl rfl (by decide) hat2 rfl)) ?_ | refine JO_v (V_loadC (tb := tb) rfl (vec_rd (e := 31) (v := .slice px 286 cx) (by repeat (first | apply List.Mem.head | apply List.Mem.tail))) rfl rfl gx rfl) ?_) | (first | (refine sx ?_; try intro _)))
        refine JS_again1 again2 1 (by omega) (by omega) (by repeat (first | exact trivial | refine ⟨rfl, ?_⟩ | refine ⟨lookI rfl (by omega), ?_⟩)) (fun w hw => ?_)
        rw [tab_set] at hw
        rw [tab_congr (f := xT T i 1 rs) (g := fun k => if k = rs then xT T i 0 rs rs + 1 else xT T i 0 rs k) fun k _ => ?_, tab_congr (f := yT T i 1 s1) (g := yT T i 0 s1) fun k _ => ?_]
        · exact St.sub (by repeat (first | exact List.Sublist.refl _ | apply List.Sublist.cons_cons | apply List.Sublist.cons)) hw
        · unfold yT; rw [if_neg (show ¬ (2 ≤ 1 ∧ s1 = k) by omega), if_neg (show ¬ (2 ≤ 0 ∧ s1 = k) by omega)]
        · unfold xT
          rw [if_neg (show ¬ (1 ≤ 0 ∧ rs = rs) by omega), if_neg (show ¬ (1 ≤ 0 ∧ rs = k) by omega)]
          by_cases e : k = rs
          · subst e; rw [if_pos rfl, if_pos (show 1 ≤ 1 ∧ k = k by omega)]; omega
          · rw [if_neg e, if_neg (show ¬ (1 ≤ 1 ∧ rs = k) by omega)]
      · obtain rfl : j = 1 := by omega
        rw [hs1, if_neg (by omega)] at k1
        obtain ⟨r, hr⟩ : ∃ r, S.getD 1 (0, 0, 0) = r := ⟨_, rfl⟩
        rw [hr] at hat2 hs1
        obtain ⟨rs, rr, rb⟩ := r
        simp only [] at hat2 hs1
        subst hs1
        have hcy := cY_le (T.take i) rs
        rw [List.length_take] at hcy
        have hly := tab_len 30 (yT T i 1 rs)
        have gy : (ints .u64 (tab 30 (yT T i 1 rs)))[rs]? = some (.int .u64 (yT T i 1 rs rs)) := by rw [ints_get (by omega), tab_get k1]
        have hyb : 0 ≤ yT T i 1 rs rs ∧ yT T i 1 rs rs ≤ 200000 := by unfold yT; split <;> omega
        repeat (first | (apply gJO; first | refine JO_v (oL (V_loadCA (tb := tb) rfl (vec_rd (e := 83) (by repeat (first | apply List.Mem.head | apply List.Mem.tail))) rfl rfl rfl (by decide) hat2 rfl)) ?_ | refine JO_v (V_loadC (tb := tb) rfl (vec_rd (e := 31) (v := .slice py 30 cy) (by repeat (first | apply List.Mem.head | apply List.Mem.tail))) rfl rfl gy rfl) ?_) | (first | (refine sx ?_; try intro _)))
        refine JS_again1 again2 2 (by omega) (by omega) (by repeat (first | exact trivial | refine ⟨rfl, ?_⟩ | refine ⟨lookI rfl (by omega), ?_⟩)) (fun w hw => ?_)
        rw [tab_set] at hw
        rw [tab_congr (f := yT T i 2 rs) (g := fun k => if k = rs then yT T i 1 rs rs + 1 else yT T i 1 rs k) fun k _ => ?_, tab_congr (f := xT T i 2 s0) (g := xT T i 1 s0) fun k _ => ?_]
        · exact St.sub (by repeat (first | exact List.Sublist.refl _ | apply List.Sublist.cons_cons | apply List.Sublist.cons)) hw
        · unfold xT
          by_cases e : s0 = k
          · rw [if_pos (show 1 ≤ 2 ∧ s0 = k by omega), if_pos (show 1 ≤ 1 ∧ s0 = k by omega)]
          · rw [if_neg (show ¬ (1 ≤ 2 ∧ s0 = k) by omega), if_neg (show ¬ (1 ≤ 1 ∧ s0 = k) by omega)]
        · unfold yT
          rw [if_neg (show ¬ (2 ≤ 1 ∧ rs = rs) by omega), if_neg (show ¬ (2 ≤ 1 ∧ rs = k) by omega)]
          by_cases e : k = rs
          · subst e; rw [if_pos rfl, if_pos (show 2 ≤ 2 ∧ k = k by omega)]; omega
          · rw [if_neg e, if_neg (show ¬ (2 ≤ 2 ∧ rs = k) by omega)]
    obtain rfl : j = S.length := by omega
    clear again2
    repeat (first | (refine sx ?_; try intro _))
    refine JS_again1 again (i + 1) (by omega) (by omega) (by repeat (first | exact trivial | refine ⟨rfl, ?_⟩ | refine ⟨lookI rfl (by omega), ?_⟩)) (fun w hw => ?_)
    rw [tab_congr (f := xT T (i + 1) 0 0) (g := xT T i S.length s0) fun k _ => ?_, tab_congr (f := yT T (i + 1) 0 0) (g := yT T i S.length s1) fun k _ => ?_]
    · exact St.sub (by repeat (first | exact List.Sublist.refl _ | apply List.Sublist.cons_cons | apply List.Sublist.cons)) hw
    · unfold yT
      rw [hy1 k, if_neg (show ¬ (2 ≤ 0 ∧ 0 = k) by omega)]
      by_cases e : S.length = 2 ∧ s1 = k
      · rw [if_pos e, if_pos (show 2 ≤ S.length ∧ s1 = k by omega)]
      · rw [if_neg e, if_neg (show ¬ (2 ≤ S.length ∧ s1 = k) by omega)]
    · unfold xT
      rw [hx1 k, if_neg (show ¬ (1 ≤ 0 ∧ 0 = k) by omega)]
      by_cases e : s0 = k
      · rw [if_pos e, if_pos (show 1 ≤ S.length ∧ s0 = k by omega)]; omega
      · rw [if_neg e, if_neg (show ¬ (1 ≤ S.length ∧ s0 = k) by omega)]; omega
  obtain rfl : i = T.length := by omega
  clear again
  have hd := Desc2_c (w0 := w0) (H := H) T hT hTok qt dt px py cx cy
  have e1 : tab 286 (xT T T.length 0 0) = nats (wX T) := by
    unfold wX
    rw [nats_map]
    refine tab_congr fun k _ => ?_
    unfold xT
    rw [List.take_length, if_neg (show ¬ (1 ≤ 0 ∧ 0 = k) by omega), Nat.add_zero]
  have e2 : tab 30 (yT T T.length 0 0) = nats (wY T) := by
    unfold wY
    rw [nats_map]
    refine tab_congr fun k _ => ?_
    unfold yT
    rw [List.take_length, if_neg (show ¬ (2 ≤ 0 ∧ 0 = k) by omega), Nat.add_zero]
  rw [e1, e2]
  repeat (first | exact JS_of_at (fn := Try.f27) (p := [.b, .b, .b, .b, .b]) (JS_ov (by repeat (first | exact trivial | refine ⟨rfl, ?_⟩ | refine ⟨lookI rfl (by omega), ?_⟩)) hd) rfl | (first | (refine sx ?_; try intro _)))
set_option maxRecDepth 10000 in
set_option maxHeartbeats 4000000 in
/-- the described block of a text -/
theorem Described_c (p : Option Addr) (c m : Nat) (B : List Int) (hr : Rd w0 H (.slice p m c) m (ints .u8 B)) (hm : B.length = m) (hB : OKB B) (h4 : m ≤ 100000) (w : World) (hw : St w0 H w) :
    Calls Try.prog 27 #[.slice p m c] w fun e w' => ∃ q d, e = .returned (.slice q (pack (dscL B)).length d) ∧ St w0 (vec 5 1 (.slice q (pack (dscL B)).length d) (pack (dscL B)).length (ints .u8 (pack (dscL B))) :: H) w' := by
  have hD : dscL B = dscT (toks B m 0) := by unfold dscL dscT; rw [hm]
  rw [hD]
  have hTok := toks_TOK hB m 0
  have hTl := toks_len (B := B) m 0
  refine enter (vs := [.slice p m c]) Try.func27 rfl rfl rfl hw ?_
  clear hw w
  repeat (first | (refine sx ?_; try intro _))
  refine JO_call Try.call43 rfl rfl fun w hw => (Find_c p c m B hr hm hB h4 w hw).mono ?_
  rintro e w' ⟨qt, dt, rfl, hw'⟩
  generalize toks B m 0 = T at *
  refine ⟨_, rfl, _, hw', ?_⟩
  clear hw' hw w w'
  have hd := fun px cx py cy => Desc1_c (w0 := w0) (H := H) T (by omega) hTok qt dt px py cx cy
  repeat ((fail_if_success refine gIdU 2 ?_); first | (refine sx ?_; try intro _))
  refine JS_seq ?_
  refine JS_tree (.node [] 0 (.leaf [2, 1, 3]) 1 (.leaf [0, 2, 3])) [] (.node Picks.nil rfl (.leaf (Picks.cons rfl (Picks.cons rfl (Picks.cons rfl (Picks.nil))))) rfl (.leaf (Picks.cons rfl (Picks.cons rfl (Picks.cons rfl (Picks.nil)))))) (by kernel_rfl) (by kernel_rfl) rfl (by decide +kernel) ?_
  refine QR_node ?_
  refine QR_both ?_ ?_
  · apply QR_un
    refine QO_e (E_make (tb := tb) rfl rfl rfl rfl rfl rfl (by omega) rfl) rfl (.inr fun _ w hw => hw.drop) ?_
    intro px
    refine QR_leaf ?_
    repeat (first | (refine sx ?_; try intro _))
    refine QO_e (E_make (tb := tb) rfl rfl rfl rfl rfl rfl (by omega) rfl) rfl (.inr fun _ w hw => hw.drop) ?_
    intro py
    rw [show (286 : Int).toNat = 286 from rfl, show (30 : Int).toNat = 30 from rfl, ints_rep, ints_rep, tab_const, tab_const]
    repeat (first | exact JS_of_at (fn := Try.f27) (p := [.b, .b, .b]) (JS_weak (hd (some px) 286 (some py) 30) (by repeat (first | exact trivial | refine ⟨rfl, ?_⟩ | refine ⟨lookI rfl (by omega), ?_⟩)) (fun w hw => hw.perm (by (repeat (first | exact List.Perm.refl _ | refine List.Perm.cons _ ?_ | refine (List.perm_middle (l₁ := [_])).trans (List.Perm.cons _ ?_) | refine (List.perm_middle (l₁ := [_, _])).trans (List.Perm.cons _ ?_) | refine (List.perm_middle (l₁ := [_, _, _])).trans (List.Perm.cons _ ?_) | refine (List.perm_middle (l₁ := [_, _, _, _])).trans (List.Perm.cons _ ?_) | refine (List.perm_middle (l₁ := [_, _, _, _, _])).trans (List.Perm.cons _ ?_) | refine (List.perm_middle (l₁ := [_, _, _, _, _, _])).trans (List.Perm.cons _ ?_) | refine (List.perm_middle (l₁ := [_, _, _, _, _, _, _])).trans (List.Perm.cons _ ?_) | refine (List.perm_middle (l₁ := [_, _, _, _, _, _, _, _])).trans (List.Perm.cons _ ?_)))))) rfl | (first | (refine sx ?_; try intro _)))
  · apply QR_un
    refine QO_e (E_make (tb := tb) rfl rfl rfl rfl rfl rfl (by omega) rfl) rfl (.inr fun _ w hw => hw.drop) ?_
    intro py
    refine QR_leaf ?_
    repeat (first | (refine sx ?_; try intro _))
    refine QO_e (E_make (tb := tb) rfl rfl rfl rfl rfl rfl (by omega) rfl) rfl (.inr fun _ w hw => hw.drop) ?_
    intro px
    rw [show (286 : Int).toNat = 286 from rfl, show (30 : Int).toNat = 30 from rfl, ints_rep, ints_rep, tab_const, tab_const]
    repeat (first | exact JS_of_at (fn := Try.f27) (p := [.b, .b, .b]) (JS_weak (hd (some px) 286 (some py) 30) (by repeat (first | exact trivial | refine ⟨rfl, ?_⟩ | refine ⟨lookI rfl (by omega), ?_⟩)) (fun w hw => hw.perm (by (repeat (first | exact List.Perm.refl _ | refine List.Perm.cons _ ?_ | refine (List.perm_middle (l₁ := [_])).trans (List.Perm.cons _ ?_) | refine (List.perm_middle (l₁ := [_, _])).trans (List.Perm.cons _ ?_) | refine (List.perm_middle (l₁ := [_, _, _])).trans (List.Perm.cons _ ?_) | refine (List.perm_middle (l₁ := [_, _, _, _])).trans (List.Perm.cons _ ?_) | refine (List.perm_middle (l₁ := [_, _, _, _, _])).trans (List.Perm.cons _ ?_) | refine (List.perm_middle (l₁ := [_, _, _, _, _, _])).trans (List.Perm.cons _ ?_) | refine (List.perm_middle (l₁ := [_, _, _, _, _, _, _])).trans (List.Perm.cons _ ?_) | refine (List.perm_middle (l₁ := [_, _, _, _, _, _, _, _])).trans (List.Perm.cons _ ?_)))))) rfl | (first | (refine sx ?_; try intro _)))
end
end Go.Proofs.Ytbiocgenbgbfpaa

namespace Go.Proofs.Ytbiocgenbgbfpaa
open Sx Go
set_option linter.unusedVariables false
set_option linter.unusedSimpArgs false
/-! the writer's Align -/
def padL (L : List Int) : List Int := L ++ List.replicate (8 * ((L.length + 7) / 8) - L.length) 0
theorem padL_len (L : List Int) : (padL L).length = 8 * ((L.length + 7) / 8) := by
  unfold padL; rw [List.length_append, List.length_replicate]; omega
theorem padL_get (L : List Int) (i : Nat) : (padL L).getD i 0 = L.getD i 0 := by
  unfold padL
  rw [List.getD_eq_getElem?_getD, List.getD_eq_getElem?_getD]
  rcases Nat.lt_or_ge i L.length with h | h
  · rw [List.getElem?_append_left h]
  · rw [List.getElem?_append_right h, List.getElem?_replicate, List.getElem?_eq_none (l := L) (by omega)]
    split <;> rfl
theorem padL_01 {L : List Int} (hL : ∀ j, L.getD j 0 = 0 ∨ L.getD j 0 = 1) (j : Nat) : (padL L).getD j 0 = 0 ∨ (padL L).getD j 0 = 1 := by
  rw [padL_get]; exact hL j
theorem padL_pack (L : List Int) : pack (padL L) = pack L := by
  unfold pack
  rw [padL_len, show (8 * ((L.length + 7) / 8) + 7) / 8 = (L.length + 7) / 8 by omega]
  apply tab_congr
  intro j hj
  unfold byteAt
  exact num_congr 8 fun t _ => padL_get L _
set_option maxRecDepth 10000 in
theorem WAlign_c {w0 : World} {H : List Asn} (b : Nat) (L : List Int) (q : Option Addr) (d : Nat) (hl : L.length ≤ 70368744177664) (w : World) (hw : St w0 (wrA b L q d :: wrV L q d :: H) w) :
    Calls Try.prog 85 #[.pointer (some ⟨b, 0, none⟩)] w fun e w' => e = .returned (.tuple #[]) ∧ St w0 (wrA b (padL L) q d :: wrV (padL L) q d :: H) w' := by
  have hlen := padL_len L
  have e1 : ((padL L).length + 7) / 8 = (L.length + 7) / 8 := by rw [hlen]; omega
  unfold wrA wrV at hw ⊢
  rw [e1, padL_pack, hlen]
  refine enter (vs := [.pointer (some ⟨b, 0, none⟩)]) Try.func85 rfl rfl rfl hw ?_
  have hcast : (8 : Int) * (((L.length + 7) / 8 : Nat) : Int) = ((8 * ((L.length + 7) / 8) : Nat) : Int) := by omega
  obtain ⟨k, hk⟩ : ∃ k, (L.length + 7) / 8 = k := ⟨_, rfl⟩
  rw [hk] at hcast ⊢
  have hmul : IntKind.i64.wrap ((8 : Int) * (k : Int)) = ((8 * k : Nat) : Int) := (wi64 (by omega)).trans hcast
  clear hw
  repeat (first | (apply gJO; refine JO_v (V_mul rfl rfl hmul rfl) ?_) | first | (refine sx ?_; try intro _))
  refine JS_fin Try.func85 rfl rfl (vs := []) ?_
  intro w hw
  exact ⟨rfl, hw⟩
set_option maxRecDepth 10000 in
theorem WAlignR_c {w0 : World} {H : List Asn} (b k : Nat) (q : Option Addr) (d : Nat) (x : Int) (hk : k ≤ 70368744177664) (w : World) (hw : St w0 (blk b [.slice q k d, .int .i64 x] :: H) w) :
    Calls Try.prog 85 #[.pointer (some ⟨b, 0, none⟩)] w fun e w' => e = .returned (.tuple #[]) ∧ St w0 (blk b [.slice q k d, .int .i64 ((8 * k : Nat) : Int)] :: H) w' := by
  refine enter (vs := [.pointer (some ⟨b, 0, none⟩)]) Try.func85 rfl rfl rfl hw ?_
  have hmul : IntKind.i64.wrap ((8 : Int) * (k : Int)) = ((8 * k : Nat) : Int) := (wi64 (by omega)).trans (by omega)
  clear hw
  repeat (first | (apply gJO; refine JO_v (V_mul rfl rfl hmul rfl) ?_) | first | (refine sx ?_; try intro _))
  refine JS_fin Try.func85 rfl rfl (vs := []) ?_
  intro w hw
  exact ⟨rfl, hw⟩
set_option maxRecDepth 10000 in
theorem WText_c {w0 : World} {H : List Asn} (b : Nat) (L : List Int) (q : Option Addr) (d : Nat) (p : Option Addr) (c m : Nat) (X : List Int) (hr : Rd w0 H (.slice p m c) m (ints .u8 X)) (hm : X.length = m) (hl : L.length ≤ 8388608) (hmx : m ≤ 8388608) (w : World) (hw : St w0 (wrA b L q d :: wrV L q d :: H) w) :
    Calls Try.prog 86 #[.pointer (some ⟨b, 0, none⟩), .slice p m c] w fun e w' => e = .returned (.tuple #[]) ∧ ∃ q d, St w0 (blk b [.slice q ((L.length + 7) / 8 + m) d, .int .i64 ((8 * ((L.length + 7) / 8 + m) : Nat) : Int)] ::
      vec 5 1 (.slice q ((L.length + 7) / 8 + m) d) ((L.length + 7) / 8 + m) (ints .u8 (pack L ++ X)) :: H) w' := by
  have hpl := pack_len L
  unfold wrA wrV at hw
  obtain ⟨k, hk⟩ : ∃ k, (L.length + 7) / 8 = k := ⟨_, rfl⟩
  rw [hk] at hw hpl ⊢
  refine enter (vs := [.pointer (some ⟨b, 0, none⟩), .slice p m c]) Try.func86 rfl rfl rfl hw ?_
  clear hw
  repeat (first | (refine sx ?_; try intro _))
  (refine JO_app (tb := tb) rfl rfl rfl rfl rfl rfl (by repeat (first | exact Sel.here _ _ | apply Sel.there)) (by first | exact vec_rd (by repeat (first | apply List.Mem.head | apply List.Mem.tail)) | assumption | exact ArgRd.rd (by assumption) _ | (apply Rd_weak; assumption; intro _ hx; exact St.sub (by repeat (first | exact List.Sublist.refl _ | apply List.Sublist.cons_cons | apply List.Sublist.cons)) hx)) (by simp only [ints_len, List.length_cons, List.length_nil]; first | omega | rfl) (by first | exact ints_one | (repeat (first | exact trivial | refine ⟨rfl, ?_⟩))) (by omega) rfl ?_; intro _ _)
  rename_i q2 d2
  rw [ints_app]
  repeat (first | (refine sx ?_; try intro _))
  refine JO_call Try.call85 rfl rfl fun w hw => (WAlignR_c b (k + m) q2 d2 _ (by omega) w hw).mono ?_
  rintro e w' ⟨rfl, hw'⟩
  refine ⟨_, rfl, _, hw', ?_⟩
  clear hw' hw w w'
  repeat (first | (refine sx ?_; try intro _))
  refine JS_fin Try.func86 rfl rfl (vs := []) ?_
  intro w hw
  exact ⟨rfl, q2, d2, hw⟩
end Go.Proofs.Ytbiocgenbgbfpaa

namespace Go.Proofs.Ytbiocgenbgbfpaa
open Sx Go
set_option linter.unusedVariables false
set_option linter.unusedSimpArgs false
theorem bnum_nbt (bt : Nat → Int) (a : Nat) : ∀ k, bnum (fun t => bt (a + t)) k = nbt bt a k
  | 0 => rfl
  | k + 1 => by rw [bnum, nbt, bnum_nbt bt a k]
/-- the bits behind a text -/
def txtL (L X : List Int) : List Int := padL L ++ tab (8 * X.length) (bitB X 0)
theorem txtL_len (L X : List Int) : (txtL L X).length = 8 * ((L.length + 7) / 8 + X.length) := by
  unfold txtL; rw [List.length_append, padL_len, tab_len]; omega
theorem txtL_01 {L X : List Int} (hL : ∀ j, L.getD j 0 = 0 ∨ L.getD j 0 = 1) (j : Nat) : (txtL L X).getD j 0 = 0 ∨ (txtL L X).getD j 0 = 1 := by
  refine app_01 (padL_01 hL) (fun j => ?_) j
  rcases Nat.lt_or_ge j (8 * X.length) with h | h
  · rw [List.getD_eq_getElem?_getD]
    unfold tab
    rw [List.getElem?_map, List.getElem?_range h]
    exact bitB_01 X 0 j
  · rw [List.getD_eq_getElem?_getD, List.getElem?_eq_none (by rw [tab_len]; omega)]; exact .inl rfl
theorem txtL_lo (L X : List Int) (i : Nat) (h : i < 8 * ((L.length + 7) / 8)) : (txtL L X).getD i 0 = L.getD i 0 := by
  unfold txtL
  rw [List.getD_eq_getElem?_getD, List.getElem?_append_left (by rw [padL_len]; exact h), ← List.getD_eq_getElem?_getD, padL_get]
theorem txtL_hi (L X : List Int) (i : Nat) (h : i < 8 * X.length) : (txtL L X).getD (8 * ((L.length + 7) / 8) + i) 0 = bitB X 0 i := by
  unfold txtL
  rw [List.getD_eq_getElem?_getD, List.getElem?_append_right (by rw [padL_len]; omega), padL_len, Nat.add_sub_cancel_left]
  unfold tab
  rw [List.getElem?_map, List.getElem?_range h]; rfl
theorem txtL_pack (L X : List Int) (hX : OKB X) : pack (txtL L X) = pack L ++ X := by
  have hl := pack_len L
  apply List.ext_getElem?
  intro j
  unfold pack at hl ⊢
  rw [txtL_len, show (8 * ((L.length + 7) / 8 + X.length) + 7) / 8 = (L.length + 7) / 8 + X.length by omega]
  rcases Nat.lt_or_ge j ((L.length + 7) / 8) with h | h
  · rw [List.getElem?_append_left (by rw [hl]; exact h)]
    unfold tab
    rw [List.getElem?_map, List.getElem?_map, List.getElem?_range h, List.getElem?_range (by omega), Option.map_some, Option.map_some]
    congr 1
    unfold byteAt
    exact num_congr 8 fun t ht => txtL_lo L X _ (by omega)
  · rw [List.getElem?_append_right (by rw [hl]; exact h), hl]
    rcases Nat.lt_or_ge j ((L.length + 7) / 8 + X.length) with h2 | h2
    · unfold tab
      rw [List.getElem?_map, List.getElem?_range h2, Option.map_some]
      obtain ⟨i, rfl⟩ : ∃ i, j = (L.length + 7) / 8 + i := ⟨j - (L.length + 7) / 8, by omega⟩
      rw [Nat.add_sub_cancel_left, List.getElem?_eq_getElem (by omega)]
      congr 1
      have hb := nbt_byte X hX i
      rw [← bnum_nbt] at hb
      unfold byteAt
      rw [num_congr (g := fun t => bitB X 0 (8 * i + t)) 8 (fun t ht => by rw [show 8 * ((L.length + 7) / 8 + i) + t = 8 * ((L.length + 7) / 8) + (8 * i + t) by omega]; exact txtL_hi L X _ (by omega)), hb]
      rw [List.getD_eq_getElem?_getD, List.getElem?_eq_getElem (by omega)]; rfl
    · rw [List.getElem?_eq_none (by rw [tab_len]; omega), List.getElem?_eq_none (by omega)]
/-- bytes are written behind what is filled up -/
theorem WText2_c {w0 : World} {H : List Asn} (b : Nat) (L : List Int) (q : Option Addr) (d : Nat) (p : Option Addr) (c m : Nat) (X : List Int) (hr : Rd w0 H (.slice p m c) m (ints .u8 X)) (hm : X.length = m) (hX : OKB X) (hl : L.length ≤ 8388608) (hmx : m ≤ 8388608) (w : World) (hw : St w0 (wrA b L q d :: wrV L q d :: H) w) :
    Calls Try.prog 86 #[.pointer (some ⟨b, 0, none⟩), .slice p m c] w fun e w' => e = .returned (.tuple #[]) ∧ ∃ q d, St w0 (wrA b (txtL L X) q d :: wrV (txtL L X) q d :: H) w' := by
  have h := WText_c b L q d p c m X hr hm hl hmx w hw
  unfold wrA wrV
  rw [txtL_len, txtL_pack L X hX, show (8 * ((L.length + 7) / 8 + X.length) + 7) / 8 = (L.length + 7) / 8 + X.length by omega, hm]
  exact h
end Go.Proofs.Ytbiocgenbgbfpaa

set_option linter.unusedVariables false
set_option linter.unusedSimpArgs false
namespace Go.Proofs.Ytbiocgenbgbfpaa
open Sx Go
/-! ## stored blocks: plain laws -/
theorem bnum_bits (n : Int) : ∀ k : Nat, bnum (fun t => n / 2 ^ t % 2) k = n % 2 ^ k
  | 0 => by rw [bnum]; simp
  | k + 1 => by
    rw [bnum, bnum_bits n k]
    have e2 : n % 2 ^ (k + 1) = n % 2 ^ k + n / 2 ^ k % 2 * 2 ^ k := by
      have hp : (0 : Int) < 2 ^ k := Int.pow_pos (by decide)
      have e1 := Int.mul_ediv_add_emod n (2 ^ k)
      have e3 := Int.mul_ediv_add_emod (n / 2 ^ k) 2
      obtain ⟨q, hq⟩ : ∃ q, n / 2 ^ k / 2 = q := ⟨_, rfl⟩
      obtain ⟨r, hr⟩ : ∃ r, n / 2 ^ k % 2 = r := ⟨_, rfl⟩
      obtain ⟨s, hs⟩ : ∃ s, n % 2 ^ k = s := ⟨_, rfl⟩
      have hs0 := Int.emod_nonneg n (Int.ne_of_gt hp)
      have hs1 := Int.emod_lt_of_pos n hp
      have hr0 : 0 ≤ r ∧ r ≤ 1 := by omega
      rw [hq, hr] at e3
      rw [hs] at e1 hs0 hs1
      rw [hr, hs]
      have hn : n = (s + r * 2 ^ k) + 2 ^ (k + 1) * q := by
        rw [← e1, ← e3, Int.pow_succ, Int.mul_add]
        rw [show (2 : Int) ^ k * (2 * q) = 2 ^ k * 2 * q by rw [Int.mul_assoc], Int.mul_comm r]
        omega
      rw [hn, Int.add_mul_emod_self_left]
      refine Int.emod_eq_of_lt ?_ ?_
      · rcases (show r = 0 ∨ r = 1 by omega) with h | h <;> rw [h] <;> omega
      · rw [Int.pow_succ]
        rcases (show r = 0 ∨ r = 1 by omega) with h | h <;> rw [h] <;> omega
    rw [e2]
theorem grp_get {n : Int} {k i : Nat} (h : i < k) : (grp n k).getD i 0 = n / 2 ^ i % 2 := by
  unfold grp
  rw [List.getD_eq_getElem?_getD, List.getElem?_map, List.getElem?_range h]; rfl
theorem pack_app (A C : List Int) (hA : 8 ∣ A.length) : pack (A ++ C) = pack A ++ pack C := by
  obtain ⟨a, ha⟩ := hA
  have hA8 : A.length = 8 * a := ha
  have hl := pack_len A
  apply List.ext_getElem?
  intro j
  unfold pack at hl ⊢
  rw [List.length_append, ha, show (8 * a + C.length + 7) / 8 = a + (C.length + 7) / 8 by omega, show (8 * a + 7) / 8 = a by omega]
  rw [ha, show (8 * a + 7) / 8 = a by omega] at hl
  rcases Nat.lt_or_ge j a with h | h
  · rw [List.getElem?_append_left (by rw [hl]; exact h)]
    unfold tab
    rw [List.getElem?_map, List.getElem?_map, List.getElem?_range h, List.getElem?_range (by omega), Option.map_some, Option.map_some]
    congr 1
    unfold byteAt
    refine num_congr 8 fun t ht => ?_
    rw [List.getD_eq_getElem?_getD, List.getElem?_append_left (by omega), ← List.getD_eq_getElem?_getD]
  · rw [List.getElem?_append_right (by rw [hl]; exact h), hl]
    obtain ⟨i, rfl⟩ : ∃ i, j = a + i := ⟨j - a, by omega⟩
    rw [Nat.add_sub_cancel_left]
    unfold tab
    rcases Nat.lt_or_ge i ((C.length + 7) / 8) with h2 | h2
    · rw [List.getElem?_map, List.getElem?_map, List.getElem?_range h2, List.getElem?_range (by omega), Option.map_some, Option.map_some]
      congr 1
      unfold byteAt
      refine num_congr 8 fun t ht => ?_
      rw [List.getD_eq_getElem?_getD, List.getElem?_append_right (by omega), List.getD_eq_getElem?_getD, show 8 * (a + i) + t - A.length = 8 * i + t by omega]
    · rw [List.getElem?_eq_none (by simp; omega), List.getElem?_eq_none (by simp; omega)]
theorem pack_grp16 (n : Int) (h : 0 ≤ n ∧ n < 65536) : pack (grp n 16) = [n % 256, n / 256] := by
  have b0 : byteAt (grp n 16) 0 = n % 256 := by
    unfold byteAt
    rw [num_congr (g := fun t => n / 2 ^ t % 2) 8 (fun t ht => by rw [show 8 * 0 + t = t by omega]; exact grp_get (by omega)), bnum_bits]
    rfl
  have b1 : byteAt (grp n 16) 1 = n / 256 := by
    unfold byteAt
    rw [num_congr (g := fun t => n / 256 / 2 ^ t % 2) 8 (fun t ht => by
      rw [show 8 * 1 + t = 8 + t by omega, grp_get (by omega), Int.pow_add, show (2 : Int) ^ 8 = 256 by decide, ← Int.ediv_ediv_of_nonneg (by decide)]), bnum_bits]
    have : (2 : Int) ^ 8 = 256 := by decide
    rw [this]; omega
  unfold pack tab
  rw [grp_len]
  simp [List.range_succ, b0, b1]
theorem pack_hd (la : Int) (h : la = 0 ∨ la = 1) : pack (grp la 1 ++ grp 0 2) = [la] := by
  rcases h with rfl | rfl <;> decide +kernel
/-- a stored block's first five bytes -/
def hd5 (la n : Int) : List Int := [la, n % 256, n / 256, 255 - n % 256, 255 - n / 256]
theorem sto_pack {L X : List Int} {la n : Int} (hX : OKB X) (hL : 8 ∣ L.length) (hla : la = 0 ∨ la = 1) (hn : 0 ≤ n ∧ n < 65536) :
    pack (txtL (padL (L ++ grp la 1 ++ grp 0 2) ++ grp n 16 ++ grp (65535 - n) 16) X) = pack L ++ (hd5 la n ++ X) := by
  rw [txtL_pack _ _ hX]
  have hg : (grp la 1 ++ grp 0 2).length = 3 := by rw [List.length_append, grp_len, grp_len]
  obtain ⟨a, ha⟩ := hL
  have e1 : padL (L ++ grp la 1 ++ grp 0 2) = L ++ padL (grp la 1 ++ grp 0 2) := by
    unfold padL
    rw [List.append_assoc L, List.length_append, hg, ha, show 8 * ((8 * a + 3 + 7) / 8) - (8 * a + 3) = 8 * ((3 + 7) / 8) - 3 by omega, List.append_assoc]
  have hp : (padL (grp la 1 ++ grp 0 2)).length = 8 := by rw [padL_len, hg]
  have e2 : (L ++ padL (grp la 1 ++ grp 0 2) ++ grp n 16).length = 8 * (a + 3) := by rw [List.length_append, List.length_append, hp, grp_len, ha]; omega
  rw [e1, pack_app _ _ ⟨_, e2⟩, pack_app _ _ ⟨a + 1, by rw [List.length_append, hp, ha]; omega⟩, pack_app _ _ ⟨a, ha⟩, padL_pack, pack_hd la hla, pack_grp16 n hn, pack_grp16 (65535 - n) (by omega)]
  have m1 : (65535 - n) % 256 = 255 - n % 256 := by omega
  have m2 : (65535 - n) / 256 = 255 - n / 256 := by omega
  rw [m1, m2]
  unfold hd5
  simp
/-- a text in stored blocks -/
def sb : Nat → List Int → List Int
  | 0, _ => []
  | f + 1, X => if X.length ≤ 65535 then hd5 1 X.length ++ X else hd5 0 65535 ++ X.take 65535 ++ sb f (X.drop 65535)
theorem sb_fuel : ∀ (f g : Nat) (X : List Int), X.length < f → X.length < g → sb f X = sb g X
  | 0, _, _, h, _ => absurd h (by omega)
  | _, 0, _, _, h => absurd h (by omega)
  | f + 1, g + 1, X, hf, hg => by
    rw [sb, sb]
    split
    · rfl
    · rw [sb_fuel f g _ (by rw [List.length_drop]; omega) (by rw [List.length_drop]; omega)]
def sbs (X : List Int) : List Int := sb (X.length + 1) X
theorem sbs_1 {X : List Int} (h : X.length ≤ 65535) : sbs X = hd5 1 X.length ++ X := by
  unfold sbs; rw [sb, if_pos h]
theorem sbs_2 {X : List Int} (h : ¬ X.length ≤ 65535) : sbs X = hd5 0 65535 ++ X.take 65535 ++ sbs (X.drop 65535) := by
  unfold sbs; rw [sb, if_neg h, sb_fuel X.length ((X.drop 65535).length + 1) _ (by rw [List.length_drop]; omega) (by omega)]
theorem hd5_okb {la n : Int} (hla : la = 0 ∨ la = 1) (hn : 0 ≤ n ∧ n < 65536) : ∀ x ∈ hd5 la n, 0 ≤ x ∧ x < 256 := by
  intro x hx
  unfold hd5 at hx
  simp at hx
  omega
end Go.Proofs.Ytbiocgenbgbfpaa

set_option linter.unusedVariables false
set_option linter.unusedSimpArgs false
namespace Go.Proofs.Ytbiocgenbgbfpaa
open Sx Go
theorem xor16_u32 {a : Int} (h : 0 ≤ a ∧ a < 65536) : IntKind.u32.wrap ((BitVec.ofInt IntKind.u32.bits a ^^^ BitVec.ofInt IntKind.u32.bits 65535).toNat) = 65535 - a := by
  rw [xor_nat .u32 ⟨h.1, Int.lt_trans h.2 (by decide)⟩ ⟨by omega, by decide⟩, show (65535 : Int).toNat = 65535 from rfl, xor16 (by omega)]
  exact (wu32 (by omega)).trans (by omega)
/-- what is read of a slice's part: the beginning, the rest -/
theorem Rd_take {w0 : World} {H : List Asn} {p : Option Addr} {m c n : Nat} {X : List Int} (h : Rd w0 H (.slice p m c) m (ints .u8 X)) (hm : X.length = m) (hn : n ≤ m) : Rd w0 H (.slice (subB p 0 c 1) (n - 0) (c - 0)) n (ints .u8 (X.take n)) := by
  have := Rd_sub (lo := 0) (hi := n) (sz := 1) h (Nat.zero_le _) hn
  rw [Nat.zero_mul, List.drop_zero, Nat.sub_zero, Nat.mul_one] at this
  rw [Nat.sub_zero]
  unfold ints at this ⊢
  rw [List.map_take]
  exact this
theorem Rd_drop {w0 : World} {H : List Asn} {p : Option Addr} {m c n : Nat} {X : List Int} (h : Rd w0 H (.slice p m c) m (ints .u8 X)) (hm : X.length = m) (hn : n ≤ m) : Rd w0 H (.slice (subB p n c 1) (m - n) (c - n)) (m - n) (ints .u8 (X.drop n)) := by
  have := Rd_sub (lo := n) (hi := m) (sz := 1) h hn (Nat.le_refl _)
  rw [Nat.mul_one, Nat.mul_one, List.take_of_length_le (by simp [ints, hm])] at this
  unfold ints at this ⊢
  rw [List.map_drop]
  exact this
theorem OKB_take {X : List Int} (h : OKB X) (n : Nat) : OKB (X.take n) := fun j => by
  rw [List.getD_eq_getElem?_getD, List.getElem?_take]
  split
  · have := h j; rwa [List.getD_eq_getElem?_getD] at this
  · decide
theorem OKB_drop {X : List Int} (h : OKB X) (n : Nat) : OKB (X.drop n) := fun j => by
  rw [List.getD_eq_getElem?_getD, List.getElem?_drop, ← List.getD_eq_getElem?_getD]
  exact h _
section
attribute [local irreducible] pack grp padL txtL sbs hd5
variable {w0 : World} {H : List Asn}
set_option maxRecDepth 10000 in
set_option maxHeartbeats 4000000 in
/-- a text in stored blocks -/
theorem DStored_c (p : Option Addr) (c m : Nat) (B : List Int) (hr : Rd w0 H (.slice p m c) m (ints .u8 B)) (hm : B.length = m) (hB : OKB B) (h4 : m ≤ 100000) (w : World) (hw : St w0 H w) :
    Calls Try.prog 52 #[.slice p m c] w fun e w' => ∃ q d, e = .returned (.slice q (sbs B).length d) ∧ St w0 (vec 5 1 (.slice q (sbs B).length d) (sbs B).length (ints .u8 (sbs B)) :: H) w' := by
  refine enter (vs := [.slice p m c]) Try.func52 rfl rfl rfl hw ?_
  clear hw w
  repeat (first | (refine sx ?_; try intro _))
  rename_i b
  have hp0 : pack [] = [] := by unfold pack; rfl
  refine JS_loop6 (fun (p : Option Addr) (c : Nat) (X L : List Int) (q : Option Addr) (d : Nat) => [(0, .slice p X.length c), (3, .pointer (some ⟨b, 0, none⟩))]) (fun p c X L q d => wrA b L q d :: wrV L q d :: H)
    (fun p c X L q d => Rd w0 H (.slice p X.length c) X.length (ints .u8 X) ∧ OKB X ∧ 8 ∣ L.length ∧ (∀ j, L.getD j 0 = 0 ∨ L.getD j 0 = 1) ∧ L.length + 16 * X.length ≤ 1600000 ∧ pack L ++ sbs X = sbs B) (fun _ _ X _ _ _ => X.length) p c B [] none 0
    ⟨by rw [hm]; exact hr, hB, ⟨0, rfl⟩, fun j => .inl (by simp), by simp; omega, by rw [hp0, List.nil_append]⟩ (by rw [hm]; exact (by repeat (first | exact trivial | refine ⟨rfl, ?_⟩ | refine ⟨lookI rfl (by omega), ?_⟩))) (fun w h => by
    have := St.nilvec (e := 5) (sz := 1) (base := none) h
    show St w0 (blk b [.slice none 0 0, .int .i64 0] :: vec 5 1 (.slice none 0 0) 0 (ints .u8 (pack [])) :: H) w
    rw [hp0]
    exact this.perm (List.Perm.swap _ _ _)) ?_
  intro p c X L q d ⟨hrX, hX, hL8, hL, hLl, hall⟩ again
  obtain ⟨x, hx⟩ : ∃ x, X.length = x := ⟨_, rfl⟩
  rw [hx] at hrX hLl
  simp only [hx] at again ⊢
  obtain ⟨n, hn⟩ : ∃ n, min x 65535 = n := ⟨_, rfl⟩
  have hmin : min (x : Int) 65535 = n := by omega
  obtain ⟨a, ha⟩ := hL8
  have hp16 : (2 : Int) ^ 16 = 65536 := by decide
  have hxor := xor16_u32 (a := (n : Int)) ⟨by omega, by omega⟩
  have key : ∀ la : Int, la = 0 ∨ la = 1 → ∃ L1 L2 L3 L4 L5 : List Int, L1 = L ++ grp la 1 ∧ L2 = L1 ++ grp 0 2 ∧ L3 = padL L2 ∧ L4 = L3 ++ grp n 16 ∧ L5 = L4 ++ grp (65535 - n) 16 ∧ L1.length = L.length + 1 ∧ L2.length = L.length + 3 ∧ L3.length = L.length + 8 ∧ L4.length = L.length + 24 ∧ L5.length = L.length + 40 ∧
      (∀ j, L1.getD j 0 = 0 ∨ L1.getD j 0 = 1) ∧ (∀ j, L2.getD j 0 = 0 ∨ L2.getD j 0 = 1) ∧ (∀ j, L3.getD j 0 = 0 ∨ L3.getD j 0 = 1) ∧ (∀ j, L4.getD j 0 = 0 ∨ L4.getD j 0 = 1) ∧ (∀ j, L5.getD j 0 = 0 ∨ L5.getD j 0 = 1) ∧
      pack (txtL L5 (X.take n)) = pack L ++ (hd5 la n ++ X.take n) ∧ (txtL L5 (X.take n)).length = L.length + 40 + 8 * n ∧ (∀ j, (txtL L5 (X.take n)).getD j 0 = 0 ∨ (txtL L5 (X.take n)).getD j 0 = 1) := by
    intro la hla
    have g1 := app_01 hL (grp_01 la 1)
    have g2 := app_01 g1 (grp_01 0 2)
    have g3 := padL_01 g2
    have g4 := app_01 g3 (grp_01 n 16)
    have g5 := app_01 g4 (grp_01 (65535 - n) 16)
    have k1 : (L ++ grp la 1).length = L.length + 1 := by rw [List.length_append, grp_len]
    have k2 : (L ++ grp la 1 ++ grp 0 2).length = L.length + 3 := by rw [List.length_append, k1, grp_len]
    have k3 : (padL (L ++ grp la 1 ++ grp 0 2)).length = L.length + 8 := by rw [padL_len, k2]; omega
    have k4 : (padL (L ++ grp la 1 ++ grp 0 2) ++ grp n 16).length = L.length + 24 := by rw [List.length_append, k3, grp_len]
    have k5 : (padL (L ++ grp la 1 ++ grp 0 2) ++ grp n 16 ++ grp (65535 - n) 16).length = L.length + 40 := by rw [List.length_append, k4, grp_len]
    refine ⟨_, _, _, _, _, rfl, rfl, rfl, rfl, rfl, k1, k2, k3, k4, k5, g1, g2, g3, g4, g5, sto_pack (OKB_take hX n) ⟨a, ha⟩ hla ⟨by omega, by omega⟩, ?_, txtL_01 g5⟩
    rw [txtL_len, k5, List.length_take]; omega
  have hcX : ∀ w, St w0 H w → x ≤ c := fun w hw => (hrX.lcap hw).1
  by_cases hlast : x ≤ 65535
  case' pos =>
    obtain ⟨L1, L2, L3, L4, L5, d1, d2, d3, d4, d5, k1, k2, k3, k4, k5, g1, g2, g3, g4, g5, hpk, hlen, hg⟩ := key 1 (.inr rfl)
  case' neg =>
    obtain ⟨L1, L2, L3, L4, L5, d1, d2, d3, d4, d5, k1, k2, k3, k4, k5, g1, g2, g3, g4, g5, hpk, hlen, hg⟩ := key 0 (.inl rfl)
  all_goals
    clear key
    repeat (first | (apply gJO; refine JO_v (oc_min (V_min rfl rfl hmin rfl)) ?_) | first | (refine sx ?_; try intro _))
    refine JO_call Try.call47 rfl rfl fun w hw => (WGroup_c b L q d _ 1 (by omega) ⟨by decide, by decide⟩ (by decide) hL (by omega) w hw).mono ?_
    rintro e w' ⟨rfl, q1, e1, hw'⟩
    rw [← d1] at hw'
    refine ⟨_, rfl, _, hw', ?_⟩
    clear hw' hw w w'
    repeat (first | (refine sx ?_; try intro _))
    refine JO_call Try.call47 rfl rfl fun w hw => (WGroup_c b L1 q1 e1 0 2 (by omega) ⟨by decide, by decide⟩ (by decide) g1 (by omega) w hw).mono ?_
    rintro e w' ⟨rfl, q2, e2, hw'⟩
    rw [← d2] at hw'
    refine ⟨_, rfl, _, hw', ?_⟩
    clear hw' hw w w'
    repeat (first | (refine sx ?_; try intro _))
    refine JO_call Try.call85 rfl rfl fun w hw => (WAlign_c b L2 q2 e2 (by omega) w hw).mono ?_
    rintro e w' ⟨rfl, hw'⟩
    rw [← d3] at hw'
    refine ⟨_, rfl, _, hw', ?_⟩
    clear hw' hw w w'
    repeat (first | (refine sx ?_; try intro _))
    refine JO_call Try.call47 rfl rfl fun w hw => (WGroup_c b L3 q2 e2 n 16 (by omega) ⟨by omega, by rw [hp16]; omega⟩ (by omega) g3 (by omega) w hw).mono ?_
    rintro e w' ⟨rfl, q3, e3, hw'⟩
    rw [← d4] at hw'
    refine ⟨_, rfl, _, hw', ?_⟩
    clear hw' hw w w'
    repeat (first | (apply gJO; refine JO_v (V_xor rfl rfl hxor rfl) ?_) | first | (refine sx ?_; try intro _))
    refine JO_call Try.call47 rfl rfl fun w hw => (WGroup_c b L4 q3 e3 (65535 - n) 16 (by omega) ⟨by omega, by rw [hp16]; omega⟩ (by omega) g4 (by omega) w hw).mono ?_
    rintro e w' ⟨rfl, q4, e4, hw'⟩
    rw [← d5] at hw'
    refine ⟨_, rfl, _, hw', ?_⟩
    clear hw' hw w w'
    repeat (first | (apply gJO; refine JO_v (V_slice (tb := tb) (lo := 0) (hi := n) rfl rfl rfl rfl rfl (by rfl) (by rfl) (fun w hw => ⟨by omega, Nat.le_trans (by omega) (hcX w hw.drop.drop)⟩) rfl) ?_) | first | (refine sx ?_; try intro _))
    refine JO_call Try.call86 rfl rfl fun w hw => (WText2_c b L5 q4 e4 (subB p 0 c 1) (c - 0) n (X.take n) (Rd_weak (Rd_take hrX hx (by omega)) fun w hw => St.sub (by repeat (first | exact List.Sublist.refl _ | apply List.Sublist.cons_cons | apply List.Sublist.cons)) hw) (by rw [List.length_take]; omega) (OKB_take hX n) (by omega) (by omega) w hw).mono ?_
    rintro e w' ⟨rfl, q5, e5, hw'⟩
    obtain ⟨L6, d6⟩ : ∃ L6, txtL L5 (X.take n) = L6 := ⟨_, rfl⟩
    rw [d6] at hw' hpk hlen hg
    refine ⟨_, rfl, _, hw', ?_⟩
    clear hw' hw w w'
    repeat (first | (apply gJO; refine JO_v (V_slice (tb := tb) (lo := n) (hi := x) rfl rfl rfl rfl rfl (by rfl) (by rfl) (fun w hw => ⟨by omega, hcX w hw.drop.drop⟩) rfl) ?_) | first | (refine sx ?_; try intro _))
  case pos =>
    have hnx : n = x := by omega
    have hfin : pack L6 = sbs B := by
      rw [hpk, List.take_of_length_le (by omega), hnx, ← hx, ← sbs_1 (by omega), hall]
    have hpl := pack_len L6
    refine JO_call Try.call50 rfl rfl fun w hw => (WBytes_c b (pack L6).length L6 q5 e5 hg (by omega) hpl.symm w hw).mono ?_
    rw [hfin]
    rintro e w' ⟨q6, d6, rfl, hw'⟩
    refine ⟨_, rfl, _, hw', ?_⟩
    clear hw' hw w w'
    repeat (first | (refine sx ?_; try intro _))
    exact JS_ret Try.func52 rfl rfl fun w hw => ⟨q6, d6, rfl, St.sub (by repeat (first | exact List.Sublist.refl _ | apply List.Sublist.cons_cons | apply List.Sublist.cons)) hw⟩
  case neg =>
    have hnx : n = 65535 := by omega
    have hxd : (X.drop n).length = x - n := by rw [List.length_drop, hx]
    have hfin : pack L6 ++ sbs (X.drop n) = sbs B := by
      rw [hpk, ← hall, sbs_2 (X := X) (by omega), hnx]
      simp only [List.append_assoc]
      rfl
    repeat (first | (refine sx ?_; try intro _))
    refine JS_again6 again (subB p n c 1) (c - n) (X.drop n) L6 q5 e5 ⟨by rw [hxd]; exact Rd_drop hrX hx (by omega), OKB_drop hX n, ⟨a + 5 + n, by omega⟩, hg, by rw [hxd]; omega, hfin⟩ (by rw [hxd]; omega) (by rw [hxd]; exact (by repeat (first | exact trivial | refine ⟨rfl, ?_⟩ | refine ⟨lookI rfl (by omega), ?_⟩))) (fun w hw => hw)
end
end Go.Proofs.Ytbiocgenbgbfpaa

set_option linter.unusedVariables false
set_option linter.unusedSimpArgs false
namespace Go.Proofs.Ytbiocgenbgbfpaa
open Sx Go
section
attribute [local irreducible] sbs
variable {w0 : World} {H : List Asn}
set_option maxRecDepth 10000 in
set_option maxHeartbeats 4000000 in
/-- the reference's stored blocks -/
theorem RStored_c (p : Option Addr) (c m : Nat) (B : List Int) (hr : Rd w0 H (.slice p m c) m (ints .u8 B)) (hm : B.length = m) (hB : OKB B) (h4 : m ≤ 100000) (w : World) (hw : St w0 H w) :
    Calls Try.prog 59 #[.slice p m c] w fun e w' => ∃ q d, e = .returned (.slice q (sbs B).length d) ∧ St w0 (vec 5 1 (.slice q (sbs B).length d) (sbs B).length (ints .u8 (sbs B)) :: H) w' := by
  have hcm : m ≤ c := (hr.lcap hw).1
  refine enter (vs := [.slice p m c]) Try.func59 rfl rfl rfl hw ?_
  clear hw w
  repeat (first | (refine sx ?_; try intro _))
  refine JS_loop4 (fun (at_ : Nat) (O : List Int) (q : Option Addr) (d : Nat) => [(0, .slice p m c), (3, .slice q O.length d), (4, .int .i64 at_)]) (fun at_ O q d => vec 5 1 (.slice q O.length d) O.length (ints .u8 O) :: H)
    (fun at_ O q d => at_ ≤ m ∧ O.length ≤ 5 * at_ ∧ O ++ sbs (B.drop at_) = sbs B) (fun at_ _ _ _ => m - at_) 0 [] none 0 ⟨by omega, by simp, by simp⟩ (by repeat (first | exact trivial | refine ⟨rfl, ?_⟩ | refine ⟨lookI rfl (by omega), ?_⟩)) (fun w h => St.nilvec h) ?_
  intro at_ O q d ⟨ha, hO, hall⟩ again
  obtain ⟨n, hn⟩ : ∃ n, min (m - at_) 65535 = n := ⟨_, rfl⟩
  have hmin : min ((m : Int) - (at_ : Int)) 65535 = n := by omega
  obtain ⟨o, ho⟩ : ∃ o, O.length = o := ⟨_, rfl⟩
  rw [ho] at hO ⊢
  have hdl : (B.drop at_).length = m - at_ := by rw [List.length_drop, hm]
  have hrow : Rd w0 H (.slice (subB p at_ c 1) (at_ + n - at_) (c - at_)) (at_ + n - at_) (ints .u8 ((B.drop at_).take n)) := by
    have := Rd_sub (lo := at_) (hi := at_ + n) (sz := 1) hr (by omega) (by omega)
    rw [Nat.mul_one, Nat.mul_one] at this
    unfold ints at this ⊢
    rw [List.map_take, List.map_drop]
    rwa [Nat.add_sub_cancel_left] at this ⊢
  have hrl : ((B.drop at_).take n).length = n := by rw [List.length_take]; omega
  have hb1 : ((n : Int) % 256 + 0) % 256 = (n : Int) % 256 := by omega
  by_cases hlast : at_ + n = m
  case' pos =>
    have hnn : (B.drop at_).length = n := by omega
    have hcase : sbs (B.drop at_) = hd5 1 n ++ (B.drop at_).take n := by rw [sbs_1 (by omega), hnn, List.take_of_length_le (by omega)]
  case' neg =>
    have hnn : n = 65535 := by omega
    have hcase : sbs (B.drop at_) = hd5 0 n ++ (B.drop at_).take n ++ sbs (B.drop (at_ + n)) := by rw [sbs_2 (by omega), hnn, List.drop_drop]; rfl
  all_goals
    repeat (first | (apply gJO; refine JO_v (oc_min (V_min rfl rfl hmin rfl)) ?_) | (apply gJO; refine JO_v (V_slice (tb := tb) (lo := at_) (hi := at_ + n) rfl rfl rfl rfl rfl rfl (by omega) (fun w hw => ⟨by omega, by omega⟩) rfl) ?_) | (apply gJO; (refine JO_app (tb := tb) rfl rfl rfl rfl rfl rfl (by repeat (first | exact Sel.here _ _ | apply Sel.there)) (by first | exact vec_rd (by repeat (first | apply List.Mem.head | apply List.Mem.tail)) | assumption | exact ArgRd.rd (by assumption) _ | (apply Rd_weak; assumption; intro _ hx; exact St.sub (by repeat (first | exact List.Sublist.refl _ | apply List.Sublist.cons_cons | apply List.Sublist.cons)) hx)) (by simp only [ints_len, List.length_cons, List.length_nil]; first | omega | rfl) (by first | exact ints_one | (repeat (first | exact trivial | refine ⟨rfl, ?_⟩))) (by omega) rfl ?_; intro _ _)) | first | (refine sx ?_; try intro _))
  case pos =>
    rename_i ps q2 d2 q3 d3
    have hI : ∀ Y : List Int, ints .u8 O ++ (.int .u8 1 :: .int .u8 ((n : Int) % 256) :: .int .u8 ((n : Int) / 256) :: .int .u8 (255 - (n : Int) % 256) :: .int .u8 (255 - (n : Int) / 256) :: [].append (rep 0 [.int .u8 0])) ++ ints .u8 Y = ints .u8 (O ++ (hd5 1 n ++ Y)) := fun Y => by
      unfold ints hd5; simp [rep]
    have hfin : O ++ (hd5 1 n ++ (B.drop at_).take n) = sbs B := by rw [← hcase, hall]
    have hlen : (sbs B).length = o + 5 + (at_ + n - at_) := by
      rw [← hfin]; simp only [List.length_append, hrl, ho]; unfold hd5; simp; omega
    refine JS_ret Try.func59 rfl rfl fun w hw => ⟨q3, d3, by rw [hlen]; rfl, ?_⟩
    rw [hI, hfin] at hw
    rw [hlen]
    exact St.sub (by repeat (first | exact List.Sublist.refl _ | apply List.Sublist.cons_cons | apply List.Sublist.cons)) hw
  case neg =>
    rename_i ps q2 d2 q3 d3
    have hI : ∀ Y : List Int, ints .u8 O ++ (.int .u8 0 :: .int .u8 ((n : Int) % 256) :: .int .u8 ((n : Int) / 256) :: .int .u8 (255 - (n : Int) % 256) :: .int .u8 (255 - (n : Int) / 256) :: [].append (rep 0 [.int .u8 0])) ++ ints .u8 Y = ints .u8 (O ++ (hd5 0 n ++ Y)) := fun Y => by
      unfold ints hd5; simp [rep]
    have hlen : (O ++ (hd5 0 n ++ (B.drop at_).take n)).length = o + 5 + (at_ + n - at_) := by
      simp only [List.length_append, hrl, ho]; unfold hd5; simp; omega
    refine JS_again4 again (at_ + n) (O ++ (hd5 0 n ++ (B.drop at_).take n)) q3 d3 ⟨by omega, by rw [hlen]; omega, by rw [← hall, hcase]; simp only [List.append_assoc]⟩ (by omega) (by rw [hlen]; exact (by repeat (first | exact trivial | refine ⟨rfl, ?_⟩ | refine ⟨lookI rfl (by omega), ?_⟩))) (fun w hw => ?_)
    rw [hI] at hw
    rw [hlen]
    exact St.sub (by repeat (first | exact List.Sublist.refl _ | apply List.Sublist.cons_cons | apply List.Sublist.cons)) hw
end
end Go.Proofs.Ytbiocgenbgbfpaa

set_option linter.unusedVariables false
namespace Sx
open Go
/-! recover: a deferred function that begins with it -/
section
variable {P : Program} {f n : Nat} {R : Ending → World → Prop} {D : List Deferred} {w0 : World} {k : List Item} {ov : Ov} {H H' : List Asn}
  {ops : Array Oper} {l : List Oper} {d : Option Nat} {T : Nat} {pos : String} {af : Array Edge} {g : Option (Nat × Bool)} {x y : Operand} {v : Value} {tb : Tb P}
theorem enterR {fn : Func} {id : Nat} {dd : Nat} {rest : Code} {ts : Array Nat} {vs : List Value} {u u' : FrameMode} {w : World} (hf : P.funcs[f]? = some fn) (hb : fn.body = some (.seq (.region id #[⟨some dd, .call ⟨.builtin .recover, #[], ts⟩, T, pos, af, none⟩] false) rest)) (hn : fn.ntmps = n) (hl : Nat.ble vs.length n = true) (hd : Nat.blt dd n = true)
    (hw : St w0 H w) (hu : (u = .returning ∧ v = .nilIface ∧ u' = .returning) ∨ (∃ older, u = .panicking ({ v, recovered := false } :: older) ∧ u' = .panicking ({ v, recovered := true } :: older)))
    (h : JS P f n R [] w0 [.code rest] ((dd, v) :: argsOv 0 vs) H) : CallsD P f vs.toArray u w fun e u2 w' => u2 = u' ∧ R e w' := by
  intro c₀ cs hm
  let b : Frame := { (default : Frame) with fn := f, kind := .deferred }
  have hl' : vs.length ≤ n := Nat.le_of_ble_eq_true hl
  have hd' : dd < n := by rwa [Nat.blt_eq] at hd
  let o : Oper := ⟨some dd, .call ⟨.builtin .recover, #[], ts⟩, T, pos, af, none⟩
  let a0 : Act := { tmps := vs.toArray ++ Array.replicate (fn.ntmps - vs.toArray.size) undef, defers := [] }
  have henter : Frame.enter P f vs.toArray .deferred = b.at a0 [.code (.seq (.region id #[o] false) rest)] := by
    simp [Frame.enter, Frame.at, hf, hb, b, a0, o]
  have hrep : Rep n [] (argsOv 0 vs) a0 := by
    refine ⟨by simp [a0, hn]; omega, rfl, ?_⟩
    intro t v ht
    obtain ⟨_, h2⟩ := look_args vs 0 t v ht
    simp only [Nat.sub_zero] at h2
    have hlt : t < vs.length := (List.getElem?_eq_some_iff.1 h2).1
    simp only [a0]
    rw [Array.getElem?_append_left (by simpa using hlt)]
    simpa using h2
  have hrep' : Rep n [] ((dd, v) :: argsOv 0 vs) (a0.put (some dd) v) := hrep.put (d := some dd) (by simp [dOk, Nat.blt_eq, hd']) v
  have hrec : recoverD (c₀ :: cs) = match u with
      | .returning => none
      | _ => some (v, { c₀ with mode := u' } :: cs) := by
    rcases hu with ⟨rfl, rfl, rfl⟩ | ⟨older, rfl, rfl⟩
    · simp [recoverD, hm]
    · simp [recoverD, hm]
  have hrun : (execOp a0.eval o).run P w = .ok .recover w := by simp [o, execOp, resolve, invoke, builtin]
  have htr : tryRecover (b.at a0 (.inRegion #[o] [0] :: [.code rest])) (c₀ :: cs) = recoverD (c₀ :: cs) := tryRecover_deferred rfl _
  have hfin : ∀ v, (b.at a0 (.inRegion #[o] (0 :: []) :: [.code rest])).finish v = b.at (a0.put o.dst v) (.inRegion #[o] [] :: [.code rest]) := by
    intro v; rw [Frame.finish_at]; rfl
  have hg := stepG_op (P := P) (b := b) (a := a0) (k := [.code rest]) (cs := c₀ :: cs) (w := w) (ops := #[o]) (i := 0) (rest := []) (o := o) rfl rfl
  have h1 : step P (lone (b.at a0 [.code (.seq (.region id #[o] false) rest)]) (c₀ :: cs) w) = .next (lone (b.at a0 [.code (.region id #[o] false), .code rest]) (c₀ :: cs) w) := step_seq
  have h2 : step P (lone (b.at a0 [.code (.region id #[o] false), .code rest]) (c₀ :: cs) w) = .next (lone (b.at a0 [.inRegion #[o] [0], .code rest]) (c₀ :: cs) w) := step_region
  have h3 : step P (lone (b.at a0 [.inRegion #[o] [0], .code rest]) (c₀ :: cs) w) = .next (lone (b.at (a0.put (some dd) v) [.inRegion #[o] [], .code rest]) ({ c₀ with mode := u' } :: cs) w) := by
    refine step_lone_go ?_
    rw [hg]
    have hf' := hfin v
    rcases hu with ⟨rfl, rfl, rfl⟩ | ⟨older, rfl, rfl⟩
    · have hc : ({ c₀ with mode := .returning } : Frame) = c₀ := by rw [← hm]
      rw [hc, ← hf']
      simp only [Frame.at] at htr hrec ⊢
      simp [stepG.apply, hrun, htr, hrec]
    · rw [← hf']
      simp only [Frame.at] at htr hrec ⊢
      simp [stepG.apply, hrun, htr, hrec]
  have h4 : step P (lone (b.at (a0.put (some dd) v) [.inRegion #[o] [], .code rest]) ({ c₀ with mode := u' } :: cs) w) = .next (lone (b.at (a0.put (some dd) v) [.code rest]) ({ c₀ with mode := u' } :: cs) w) := step_region_end
  unfold JS J at h
  obtain ⟨e, w', fr, hR, hcm, hfn, hk, hgo⟩ := h _ w hrep' hw b ({ c₀ with mode := u' } :: cs) rfl (.inr rfl)
  rw [henter]
  exact ⟨e, u', w', fr, ⟨rfl, hR⟩, Comes.of_steps (.head h1 (.head h2 (.head h3 (.one h4)))) hcm, hk, hgo⟩
section
variable {t s1 b1 T2 : Nat} {z1 : Option (List Value)}
theorem und_iface (h : tlook tb.l t = some ⟨.iface, s1, b1, z1⟩) : ∃ ms, P.underlying t = some (.interface ms) := by
  obtain ⟨d, h1, h2⟩ := Tb.und h
  cases d <;> simp [tyOf] at h2
  exact ⟨_, h1⟩
theorem run_eqIN {ms : Array (String × TypeId)} (w : World) (d : Nat) (e1 : P.underlying t = some (.interface ms)) : (Op.equalIn (d + 1) t .nilIface .nilIface).run P w = .ok true w := by simp [Op.equalIn, run_underlying e1]
theorem run_eqIV {t2 : Nat} {u : Value} {ms : Array (String × TypeId)} (w : World) (d : Nat) (e1 : P.underlying t = some (.interface ms)) : (Op.equalIn (d + 1) t (.iface t2 u) .nilIface).run P w = .ok false w := by simp [Op.equalIn, run_underlying e1]
theorem V_eqIN (hx : ev ov x = some .nilIface) (h : tlook tb.l t = some ⟨.iface, s1, b1, z1⟩) (hd : dOk d n = true) :
    OpV P n D w0 ov H ⟨d, .binOp .eql t x (.const .nilIface) T2, T, pos, af, g⟩ (.bool true) := by
  unfold OpV
  exact ⟨hd, fun a w ha _ => by
    obtain ⟨ms, e1⟩ := und_iface h
    have hg : (eqGuard .eql t x (.const .nilIface) .nilIface .nilIface).run P w = .ok () w := by simp [eqGuard]
    have e2 := run_eqIN (P := P) w 9999 e1
    have hb : (binOp .eql t .nilIface .nilIface).run P w = .ok (.bool true) w := by
      simp only [binOp, Op.equal, Op.maxDepth, Sem.run_bind, e2, Result.andThen_ok, Sem.run_pure]
    have hc : a.eval (.const .nilIface) = .nilIface := rfl
    simp [execOp, ha.ev hx, hc, hg, hb]⟩
theorem V_eqIV {t2 : Nat} {u : Value} (hx : ev ov x = some (.iface t2 u)) (h : tlook tb.l t = some ⟨.iface, s1, b1, z1⟩) (hd : dOk d n = true) :
    OpV P n D w0 ov H ⟨d, .binOp .eql t x (.const .nilIface) T2, T, pos, af, g⟩ (.bool false) := by
  unfold OpV
  exact ⟨hd, fun a w ha _ => by
    obtain ⟨ms, e1⟩ := und_iface h
    have hg : (eqGuard .eql t x (.const .nilIface) (.iface t2 u) .nilIface).run P w = .ok () w := by simp [eqGuard]
    have e2 := run_eqIV (P := P) (t2 := t2) (u := u) w 9999 e1
    have hb : (binOp .eql t (.iface t2 u) .nilIface).run P w = .ok (.bool false) w := by
      simp only [binOp, Op.equal, Op.maxDepth, Sem.run_bind, e2, Result.andThen_ok, Sem.run_pure]
    have hc : a.eval (.const .nilIface) = .nilIface := rfl
    simp [execOp, ha.ev hx, hc, hg, hb]⟩
/-- the type is as it is asked -/
theorem V_assertT {tx t9 s2 b2 : Nat} {ty : Ty} {z2 : Option (List Value)} {u : Value} (hx : ev ov x = some (.iface t9 u)) (h : tlook tb.l t9 = some ⟨ty, s2, b2, z2⟩) (hi : ty ≠ .iface) (hd : dOk d n = true) :
    OpV P n D w0 ov H ⟨d, .typeAssert x tx t9 true, T, pos, af, g⟩ (.tuple #[u, .bool true]) := by
  unfold OpV
  exact ⟨hd, fun a w ha _ => by
    obtain ⟨dd, e1, e2⟩ := Tb.und h
    cases dd <;> simp [execOp, ha.ev hx, Instr.typeAssert, run_underlying e1]
    simp [tyOf] at e2; exact absurd e2.symm hi⟩
end
end
end Sx

set_option linter.unusedVariables false
namespace Sx
open Go
/-! a region that draws its order: the quiet operations are shown in a wider class of worlds (Hi) than the loud ones (H) -/
section
variable (P : Program) (E : List PanicEntry → List Deferred → World → Prop) (ops : Array Oper) (sy : List Nat) (K : (World → Prop) → Act → Prop)
def goN2 (next : (World → Prop) → (World → Prop) → Act → Prop) (m : Nat) (o : Oper) (I C : World → Prop) (a : Act) : Prop :=
  (loud o.op = false ∧ ∃ v, (∀ w, I w → (execOp a.eval o).run P w = .ok (.value v) w) ∧ next I C (a.put o.dst v)) ∨
  (loud o.op = true ∧ ∀ w, C w → Oper.wpN P E o a w fun a' w' => ∃ I' C' : World → Prop, C' w' ∧ (∀ w, C' w → I' w) ∧ ((∀ w, I' w → I w) ∨ sy.contains m = true) ∧ next I' C' a')
def walkN2 : List Oper → (World → Prop) → (World → Prop) → Act → Prop
  | [], I, C, a => K C a
  | o :: rest, I, C, a => if Region.wanted o (yielded ops a.tmps) then goN2 P E sy (walkN2 rest) rest.length o I C a else walkN2 rest I C (a.put o.dst undef)
end
section
variable {P : Program} {E : List PanicEntry → List Deferred → World → Prop} {ops : Array Oper}
theorem wpS_walk2 {sy : List Nat} {K : (World → Prop) → Act → Prop} (hsel : Region.noSelect ops = true) : ∀ (st done : List Nat) (l : List Oper) (listed : Array Bool) (I C : World → Prop) (a : Act), (∀ w, C w → I w) →
    l.map some = st.map (fun i => ops[i]?) → ordB ops sy done st listed = true → (∀ s ∈ done, s < ops.size) → (∀ j, listed.getD j false = true ↔ j ∈ done) → (∀ S, (∀ s ∈ done, calmAt ops s = false → s ∈ S) → Sofar ops S listed) → walkN2 P E ops sy K l I C a →
    ∀ w, C w → wpS P E ops I (till ops sy done st) (fun a w => ∃ C' : World → Prop, C' w ∧ K C' a) st.length listed a w
  | [], done, l, listed, I, C, a, hIC, hl, hB, hs, hd, hG, h, w, hw => by
    have : l = [] := by simpa using hl
    subst this
    simp only [ordB, Bool.and_eq_true, List.isEmpty_iff] at hB
    exact ⟨hB.1, C, hw, h⟩
  | i :: st, done, [], listed, I, C, a, hIC, hl, hB, hs, hd, hG, h, w, hw => by simp at hl
  | i :: st, done, o :: l, listed, I, C, a, hIC, hl, hB, hs, hd, hG, h, w, hw => by
    obtain ⟨hgate, hsz⟩ := ordB_gate (i :: st) done listed hB hs
    simp only [List.map_cons, List.cons.injEq] at hl
    have ho : ops[i]? = some o := hl.1.symm
    have hlen : l.length = st.length := by simpa using congrArg List.length hl.2
    have hi : i < ops.size := (Array.getElem?_eq_some_iff.1 ho).1
    have hB0 := hB
    simp only [ordB, ho, Bool.and_eq_true] at hB
    obtain ⟨⟨hB1, hB2⟩, hB3⟩ := hB
    have hrdy : i ∈ Region.ready .any ops listed := by
      split at hB2
      · rw [beq_iff_eq] at hB2; rw [hB2]; simp
      · rw [Bool.and_eq_true] at hB2; simpa using hB2.1
    have hs' : ∀ s ∈ i :: done, s < ops.size := fun s hs' => (List.mem_cons.1 hs').elim (fun e => e ▸ hi) (hs s)
    have hiun : listed.getD i true = false := (mem_ready.1 hrdy).1
    have hlt : i < listed.size := by
      rcases Nat.lt_or_ge i listed.size with h' | h'
      · exact h'
      · simp [Array.getElem?_eq_none h'] at hiun
    have hd' : ∀ j, (listed.setIfInBounds i true).getD j false = true ↔ j ∈ i :: done := fun j => by
      by_cases hij : i = j
      · subst hij
        simp [hlt]
      · rw [getD_set_ne false hij, hd j]
        simp [Ne.symm hij]
    have hG' : ∀ S, (∀ s ∈ i :: done, calmAt ops s = false → s ∈ S) → Sofar ops S (listed.setIfInBounds i true) := fun S hS => by
      refine ⟨fun j oj hj hl e he hb => ?_, fun k hk hkc hl => absurd (hS k ((hd' k).1 hl) hkc) hk⟩
      by_cases hij : i = j
      · subst hij
        rw [ho] at hj; cases hj
        obtain ⟨_, o', ho', hall⟩ := mem_ready.1 hrdy
        rw [ho] at ho'; cases ho'
        exact getD_set_true (hall e he hb)
      · rw [getD_set_ne false hij] at hl
        exact getD_set_true ((hG S fun s hs => hS s (List.mem_cons_of_mem _ hs)).down j oj hj hl e he hb)
    have IH := fun (I C : World → Prop) (a : Act) (hIC : ∀ w, C w → I w) (h : walkN2 P E ops sy K l I C a) => wpS_walk2 hsel st (i :: done) l (listed.setIfInBounds i true) I C a hIC hl.2 hB3 hs' hd' hG' h
    have hunl : ∀ j, (listed.setIfInBounds i true).getD j true = false → j ∉ i :: done := fun j h hj => getD_conf h ((hd' j).2 hj)
    simp only [walkN2] at h
    have hpure : ∀ v, loud o.op = false → Stays P ops I o v a → walkN2 P E ops sy K l I C (a.put o.dst v) → wpS P E ops I (till ops sy done (i :: st)) (fun a w => ∃ C' : World → Prop, C' w ∧ K C' a) (st.length + 1) listed a w := by
      intro v hlo hst hn
      have hnsy : sy.contains st.length = false := by
        cases hc : sy.contains st.length with
        | false => rfl
        | true => rw [hc] at hB1; simp [hlo] at hB1
      have htl : till ops sy done (i :: st) = till ops sy (i :: done) st := by simp only [till]; rw [hnsy]; simp
      simp only [hlo, Bool.false_eq_true, if_false, Bool.and_eq_true] at hB2
      cases hcal : calm o.op with
      | false =>
        refine wpS_first ho (Region.noSelect_spec hsel) hgate hsz (by rw [htl]; exact till_sub _ _ _ (List.mem_cons_self ..) (by unfold calmAt; simp only [ho]; exact hcal)) st.length listed a w (hG _ fun s hs hc => till_sub _ _ _ hs hc) (Region.free_spec ho hB2.2) hrdy hst (hIC w hw) ?_
        rw [htl]
        exact IH I C _ hIC hn w hw
      | true =>
        refine wpS_calm ho (Region.noSelect_spec hsel) (fun h => by have h' := till_calm _ _ _ h; unfold calmAt at h'; simp only [ho, hcal] at h'; cases h') st.length listed a w (Region.free_spec ho hB2.2) hrdy (hst.calm hcal (hIC w hw)) ?_
        rw [htl]
        exact IH I C _ hIC hn w hw
    have hloud : loud o.op = true → ∀ (a' : Act) (w' : World) (I' C' : World → Prop), C' w' → (∀ w, C' w → I' w) → ((∀ w, I' w → I w) ∨ sy.contains st.length = true) → walkN2 P E ops sy K l I' C' a' →
        ((i ∈ till ops sy done (i :: st) → I w') ∧ wpS P E ops I (till ops sy done (i :: st)) (fun a w => ∃ C' : World → Prop, C' w ∧ K C' a) st.length (listed.setIfInBounds i true) a' w') := by
      intro hlo a' w' I' C' hw' hIC' hor hn
      have h1 := IH I' C' a' hIC' hn w' hw'
      cases hc : sy.contains st.length with
      | true =>
        have htl : till ops sy done (i :: st) = done.filter fun k => !calmAt ops k := by simp only [till]; rw [hc]; simp
        rw [htl]
        refine ⟨fun hid => ?_, wpS_weak _ _ _ _ (fun j hj hu => absurd (List.mem_cons_of_mem _ (mem_noncalm.1 hj).1) (hunl j hu)) h1⟩
        exact (getD_conf hiun ((hd i).2 (mem_noncalm.1 hid).1)).elim
      | false =>
        have hsub := hor.resolve_right (by rw [hc]; simp)
        have htl : till ops sy done (i :: st) = till ops sy (i :: done) st := by simp only [till]; rw [hc]; simp
        rw [htl]
        exact ⟨fun _ => hsub _ (hIC' _ hw'), wpS_weak _ _ _ _ (fun j hj _ => ⟨hj, hsub⟩) h1⟩
    by_cases hwt : Region.wanted o (yielded ops a.tmps) = true
    · rw [if_pos hwt] at h
      rcases h with ⟨hlo, v, hv, hn⟩ | ⟨hlo, hn⟩
      · exact hpure v hlo (.inl ⟨hwt, hv⟩) hn
      · rw [if_pos hlo, beq_iff_eq] at hB2
        refine ⟨fun h0 => (by rw [h0] at hrdy; cases hrdy), fun j hj => ?_⟩
        have : j = i := by rw [hB2] at hj; simpa using hj
        subst this
        unfold stepN
        simp only [ho, hwt, if_true]
        exact Oper.wpN_mono (fun a' w' ⟨I', C', hw', hIC', hor, hn'⟩ => hloud hlo a' w' I' C' hw' hIC' (by rwa [hlen] at hor) hn') (hn w hw)
    · have hwt' : Region.wanted o (yielded ops a.tmps) = false := by simpa using hwt
      rw [if_neg hwt] at h
      cases hlo : loud o.op with
      | false => exact hpure undef hlo (.inr ⟨hwt', rfl⟩) h
      | true =>
        rw [if_pos hlo, beq_iff_eq] at hB2
        refine ⟨fun h0 => (by rw [h0] at hrdy; cases hrdy), fun j hj => ?_⟩
        have : j = i := by rw [hB2] at hj; simpa using hj
        subst this
        unfold stepN
        simp only [ho, hwt', Bool.false_eq_true, if_false]
        exact hloud hlo _ _ I C hw hIC (.inl fun _ h => h) h
end
section
variable (P : Program) (n : Nat) (D : List Deferred) (w0 : World)
def QR2 (Z : Array Oper × List Nat) (l : List Oper) (ov : Ov) (Hi H : List Asn) (K : KC) : Prop :=
  ∀ a, Rep n D ov a → walkN2 P K.e Z.1 Z.2 K.k l (St w0 Hi) (St w0 H) a
def QO2 (Z : Array Oper × List Nat) (o : Oper) (l : List Oper) (ov : Ov) (Hi H : List Asn) (K : KC) : Prop :=
  ∀ a, Rep n D ov a → goN2 P K.e Z.2 (walkN2 P K.e Z.1 Z.2 K.k l) l.length o (St w0 Hi) (St w0 H) a
end
section
variable {P : Program} {f n : Nat} {R : Ending → World → Prop} {D : List Deferred} {w0 : World} {k : List Item} {ov : Ov} {Hi H H' : List Asn} {K : KC}
  {Z : Array Oper × List Nat} {l : List Oper} {d : Option Nat} {T : Nat} {pos : String} {af : Array Edge} {g : Option (Nat × Bool)} {v : Value} {op : Op} {o : Oper}
theorem gQR2 (h : QR2 P n D w0 Z l ov Hi H K) : QR2 P n D w0 Z l ov Hi H K := h
theorem gQO2 (h : QO2 P n D w0 Z o l ov Hi H K) : QO2 P n D w0 Z o l ov Hi H K := h
theorem QR2_nil (h : JS P f n R D w0 k ov H) : QR2 P n D w0 Z [] ov Hi H (QK P f R k) := by
  unfold QK JS at *
  exact fun a ha w hw => h a w ha hw
theorem QR2_un (h : QO2 P n D w0 Z ⟨d, op, T, pos, af, none⟩ l ov Hi H K) : QR2 P n D w0 Z (⟨d, op, T, pos, af, none⟩ :: l) ov Hi H K := by
  intro a ha
  simp only [walkN2]
  rw [if_pos (by simp [Region.wanted])]
  exact h a ha
theorem QO2_v (hlo : loud op = false) (h : OpV P n D w0 ov Hi ⟨d, op, T, pos, af, g⟩ v) (hn : QR2 P n D w0 Z l (put d v ov) Hi H K) : QO2 P n D w0 Z ⟨d, op, T, pos, af, g⟩ l ov Hi H K := by
  unfold OpV at h
  exact fun a ha => .inl ⟨hlo, v, fun w hw => h.2 a w ha hw, hn _ (ha.put h.1 v)⟩
theorem QO2_callE {q : Nat} {xs : List Operand} {vs : List Value} {ts : Array Nat} (hc : ∀ args w, (callFunc q args).run P w = .ok (.enter q args) w) (hx : evs ov xs = some vs) (hd : dOk d n = true)
    (h : ∀ w, St w0 H w → Calls P q vs.toArray w fun e w' => (∃ v, e = .returned v ∧ ∃ Hi' H', St w0 H' w' ∧ (∀ w, St w0 H' w → St w0 Hi' w) ∧ ((∀ w, St w0 Hi' w → St w0 Hi w) ∨ Z.2.contains l.length = true) ∧ QR2 P n D w0 Z l (put d v ov) Hi' H' K) ∨ (∃ ch, e = .panicked ch ∧ K.e ch D w')) :
    QO2 P n D w0 Z ⟨d, .call ⟨.value (.func q), xs.toArray, ts⟩, T, pos, af, g⟩ l ov Hi H K := by
  intro a ha
  refine .inr ⟨rfl, fun w hw => ?_⟩
  have hrun : (execOp a.eval ⟨d, .call ⟨.value (.func q), xs.toArray, ts⟩, T, pos, af, g⟩).run P w = .ok (.enter q vs.toArray) w := by
    simp only [execOp, resolve, Deferred.ofValue, Act.eval, Sem.run_bind, Sem.run_pure, Result.andThen_ok, invoke]
    rw [List.map_toArray, ha.evs hx]
    simpa using hc vs.toArray w
  simp only [Oper.wpN, hrun, Oper.upN]
  exact (h w hw).mono fun e w' h' => h'.imp (fun ⟨v, he, Hi', H', hw', hI, hor, hn⟩ => ⟨v, he, St w0 Hi', St w0 H', hw', hI, hor, hn _ (ha.put hd v)⟩) (fun ⟨ch, he, hk⟩ => ⟨ch, he, by rw [ha.defers]; exact hk⟩)
theorem QO2_k (hlo : loud op = true) (h : OpK P n D w0 ov H ⟨d, op, T, pos, af, g⟩ H') (hI : ∀ w, St w0 H' w → St w0 Hi w) (hn : QR2 P n D w0 Z l (put d undef ov) Hi H' K) : QO2 P n D w0 Z ⟨d, op, T, pos, af, g⟩ l ov Hi H K := by
  intro a ha
  unfold OpK at h
  refine .inr ⟨hlo, fun w hw => ?_⟩
  obtain ⟨w', hrun, hw'⟩ := h.2 a w ha hw
  simp only [Oper.wpN, hrun, Oper.upN]
  exact ⟨St w0 Hi, St w0 H', hw', hI, .inl fun _ h => h, hn _ (ha.put h.1 undef)⟩
theorem JS_order2 {id : Nat} {l : List Oper} (Hi : List Asn) (st sy : List Nat) {l' : List Oper} (hI : ∀ w, St w0 H w → St w0 Hi w) (hp : Picks l st l') (hm : P.follows .mixedOrders = true) (hs : Region.noSelect l.toArray = true) (hlen : st.length = l.length)
    (hB : ordB l.toArray sy [] st (Array.replicate l.length false) = true) (h : QR2 P n D w0 (l.toArray, sy) l' ov Hi H (QK P f R k)) :
    JS P f n R D w0 (.code (.region id l.toArray true) :: k) ov H := by
  unfold JS
  intro a w ha hw
  refine J_of_wpE (Q := QQ P f R k) (wp_region_any hm ?_) fun e a' w' h => h
  have h0 : ∀ j, (Array.replicate l.length false).getD j false = false := fun j => by
    rcases Nat.lt_or_ge j l.length with h | h
    · simp [h]
    · simp [h]
  have hws := wpS_walk2 (P := P) (E := (QK P f R k).e) (K := (QK P f R k).k) (sy := sy) hs st [] l' (Array.replicate l.length false) (St w0 Hi) (St w0 H) a hI hp.map hB (by simp) (fun j => by rw [h0 j]; simp)
    (fun S _ => ⟨fun j oj _ hj => (by rw [h0 j] at hj; cases hj), fun k _ _ hk => (by rw [h0 k] at hk; cases hk)⟩) (h a ha) w.drew hw.drew
  have := wpAny_of_S (Q' := QQ P f R k) (fun ch a w h => by unfold QK at h; exact h) (fun a w ⟨C, hC, hk⟩ => by unfold QK at hk; exact hk w hC) _ _ _ _ hws
  rw [hlen] at this
  simpa using this
attribute [irreducible] QR2 QO2
end
end Sx
namespace Go.Proofs.Ytbiocgenbgbfpaa
open Sx Go
section
variable {n : Nat} {D : List Deferred} {w0 : World} {ov : Ov} {Hi H : List Asn} {K : KC} {Z : Array Oper × List Nat} {l : List Oper} {d : Option Nat} {T : Nat} {pos : String} {af : Array Edge} {g : Option (Nat × Bool)} {v : Value} {op : Op}
theorem aQ2 (hn : QR2 Try.prog n D w0 Z l (put d v ov) Hi H K) (h : OpV Try.prog n D w0 ov Hi ⟨d, op, T, pos, af, g⟩ v := by first | (apply oMv; exact V_move rfl rfl) | (apply oAs; exact V_assign rfl rfl) | (apply oL; first | exact V_load (tb := tb) rfl (by repeat (first | apply List.Mem.head | apply List.Mem.tail)) rfl rfl rfl rfl | exact V_loadC (tb := tb) rfl (by first | exact vec_rd (by repeat (first | apply List.Mem.head | apply List.Mem.tail)) | assumption | exact ArgRd.rd (by assumption) _ | (apply Rd_weak; assumption; intro _ hx; exact St.sub (by repeat (first | exact List.Sublist.refl _ | apply List.Sublist.cons_cons | apply List.Sublist.cons)) hx)) rfl rfl (by first | exact ints_get (by omega) | exact rfl) rfl | exact V_loadA (tb := tb) rfl (by repeat (first | apply List.Mem.head | apply List.Mem.tail)) rfl rfl rfl rfl) | (apply oB; first | (apply ob_add; first | exact V_add rfl rfl (by first | exact wi64 (by omega) | exact wu64 (by omega) | exact wu32 (by omega) | exact wu8 (by omega) | exact mu64 _ | exact mu32 _ | exact mu8 _ | exact mi64 _ | exact rfl) rfl) | (apply ob_sub; first | exact V_sub rfl rfl (by first | exact wi64 (by omega) | exact wu64 (by omega) | exact wu32 (by omega) | exact wu8 (by omega) | exact mu64 _ | exact mu32 _ | exact mu8 _ | exact mi64 _ | exact rfl) rfl) | (apply ob_mul; first | exact V_mul rfl rfl (by first | exact wi64 (by omega) | exact wu64 (by omega) | exact wu32 (by omega) | exact wu8 (by omega) | exact mu64 _ | exact mu32 _ | exact mu8 _ | exact mi64 _ | exact rfl) rfl) | (apply ob_eql; first | exact V_eqlT rfl rfl (by omega) rfl | exact V_eqlF rfl rfl (by omega) rfl | exact V_eql rfl rfl rfl) | (apply ob_neq; first | exact V_neqT rfl rfl (by omega) rfl | exact V_neqF rfl rfl (by omega) rfl | exact V_neq rfl rfl rfl) | (apply ob_lss; first | exact V_lssT rfl rfl (by omega) rfl | exact V_lssF rfl rfl (by omega) rfl | exact V_lss rfl rfl rfl) | (apply ob_leq; first | exact V_leqT rfl rfl (by omega) rfl | exact V_leqF rfl rfl (by omega) rfl | exact V_leq rfl rfl rfl) | (apply ob_gtr; first | exact V_gtrT rfl rfl (by omega) rfl | exact V_gtrF rfl rfl (by omega) rfl | exact V_gtr rfl rfl rfl) | (apply ob_geq; first | exact V_geqT rfl rfl (by omega) rfl | exact V_geqF rfl rfl (by omega) rfl | exact V_geq rfl rfl rfl) | (apply ob_quo; first | exact V_quo rfl rfl (by omega) (by first | exact IntWalk.i64_quo _ _ (by omega) | exact IntWalk.u64_quo _ _ (by omega) | exact IntWalk.u32_quo _ _ (by omega) | exact IntWalk.u8_quo _ _ (by omega)) rfl) | (apply ob_rem; first | exact V_rem rfl rfl (by omega) (Int.tmod_eq_emod_of_nonneg (by omega)) rfl) | (apply ob_and; first | exact V_and rfl rfl (by first | exact mask32_u64 (by omega) | exact mask_u64 8 (by decide) (by omega) rfl | exact mask_u64 16 (by decide) (by omega) rfl) rfl) | (apply ob_eql; first | exact V_eqP (tb := tb) rfl rfl rfl rfl | exact V_eqBB (tb := tb) rfl rfl rfl rfl | exact V_eqB (tb := tb) rfl rfl rfl rfl | exact V_eqNil (tb := tb) rfl rfl rfl rfl | exact V_eqStr rfl rfl (by assumption) (by assumption) rfl) | (apply ob_neq; first | exact V_neP (tb := tb) rfl rfl rfl rfl | exact V_neBB (tb := tb) rfl rfl rfl rfl | exact V_neB (tb := tb) rfl rfl rfl rfl | exact V_neStr rfl rfl (by assumption) (by assumption) rfl) | (apply oK; first | (apply ob_shr; exact V_shr (m := _) rfl rfl (by omega) (by simp only [IntKind.bits, Int.reduceToNat, Nat.reduceLeDiff, Nat.min_eq_left]; exact rfl) (by first | (simp only [Int.reducePow]; exact rfl) | exact rfl) rfl) | (apply ob_shl; exact V_shl (m := _) rfl rfl (by omega) (by simp only [IntKind.bits, Int.reduceToNat, Nat.reduceLeDiff, Nat.min_eq_left]; exact rfl) (by (try simp only [Int.reducePow]); first | exact wi64 (by omega) | exact wu64 (by omega) | exact wu32 (by omega) | exact wu8 (by omega) | exact mu64 _ | exact mu32 _ | exact mu8 _ | exact mi64 _ | exact rfl) rfl))) | (apply oE; first | exact V_extract rfl rfl rfl) | (apply oc_len; exact V_len (tb := tb) rfl rfl rfl) | (apply oc_len; exact V_lenS (tb := tb) rfl rfl rfl) | (apply oc_min; exact V_min rfl rfl rfl rfl) | (apply oc_max; exact V_max rfl rfl rfl rfl) | (apply oCv; first | exact V_conv (tb := tb) rfl rfl rfl (by first | exact wi64 (by omega) | exact wu64 (by omega) | exact wu32 (by omega) | exact wu8 (by omega) | exact mu64 _ | exact mu32 _ | exact mu8 _ | exact mi64 _ | exact rfl) rfl | exact V_str (tb := tb) rfl (by first | exact vec_rd (by repeat (first | apply List.Mem.head | apply List.Mem.tail)) | assumption | exact ArgRd.rd (by assumption) _ | (apply Rd_weak; assumption; intro _ hx; exact St.sub (by repeat (first | exact List.Sublist.refl _ | apply List.Sublist.cons_cons | apply List.Sublist.cons)) hx)) (by first | assumption | rfl | omega) rfl rfl rfl rfl) | (apply oP; first | exact V_pickT rfl rfl rfl | exact V_pickF rfl rfl rfl | exact V_pickB rfl rfl rfl rfl) | (apply oU; first | exact V_notD rfl rfl | exact V_not rfl rfl | exact V_neg rfl (by first | exact wi64 (by omega) | exact wu64 (by omega) | exact wu32 (by omega) | exact wu8 (by omega) | exact mu64 _ | exact mu32 _ | exact mu8 _ | exact mi64 _ | exact rfl) rfl) | (apply oN; first | exact V_nilCheck rfl rfl) | (apply oFA; first | exact V_field (tb := tb) rfl rfl rfl rfl rfl rfl | exact V_fieldC (tb := tb) rfl (by first | exact Rd.sl (vec_rd (by repeat (first | apply List.Mem.head | apply List.Mem.tail))) | exact Rd.sl (by assumption) | exact Rd.sl (ArgRd.rd (by assumption) _) | (apply Rd.sl; (apply Rd_weak; assumption; intro _ hx; exact St.sub (by repeat (first | exact List.Sublist.refl _ | apply List.Sublist.cons_cons | apply List.Sublist.cons)) hx))) (by omega) rfl rfl rfl rfl rfl) | (apply oIA; first | exact V_index (tb := tb) rfl rfl rfl rfl (by first | exact Rd.sl (vec_rd (by repeat (first | apply List.Mem.head | apply List.Mem.tail))) | exact Rd.sl (by assumption) | exact Rd.sl (ArgRd.rd (by assumption) _) | (apply Rd.sl; (apply Rd_weak; assumption; intro _ hx; exact St.sub (by repeat (first | exact List.Sublist.refl _ | apply List.Sublist.cons_cons | apply List.Sublist.cons)) hx))) (by omega) (by (try simp only [tn, tna, tn1, tn2, tn3, tn4, tnd16, tnd8, Int.reduceToNat]); first | exact Nat.mul_one _ | exact rfl) rfl | exact V_indexA (tb := tb) rfl rfl rfl rfl (by omega) rfl) | (apply oBd; first | exact V_build (tb := tb) rfl rfl rfl rfl rfl) | (apply oF; first | exact V_makeFunc rfl rfl rfl)) (hlo : loud op = false := by rfl) : QO2 Try.prog n D w0 Z ⟨d, op, T, pos, af, g⟩ l ov Hi H K := QO2_v hlo h hn
theorem aK2 {H' : List Asn} (hI : ∀ w, St w0 H' w → St w0 Hi w) (hn : QR2 Try.prog n D w0 Z l (put d undef ov) Hi H' K) (h : OpK Try.prog n D w0 ov H ⟨d, op, T, pos, af, g⟩ H' := by first | exact K_store (tb := tb) rfl rfl (by repeat (first | apply Upd.here | apply Upd.there)) rfl rfl rfl (by repeat (first | exact trivial | refine ⟨rfl, ?_⟩)) rfl rfl | exact K_storeC1 (tb := tb) rfl rfl ints_set (by repeat (first | apply Upd.here | apply Upd.there)) rfl rfl (by rw [ints_len]; omega) rfl) (hlo : loud op = true := by rfl) : QO2 Try.prog n D w0 Z ⟨d, op, T, pos, af, g⟩ l ov Hi H K := QO2_k hlo h hI hn
end
end Go.Proofs.Ytbiocgenbgbfpaa

namespace Go.Proofs.Ytbiocgenbgbfpaa
open Sx Go
set_option linter.unusedVariables false
set_option linter.unusedSimpArgs false
attribute [local irreducible] syA fc tk cds
theorem lbase_ok {i : Int} (h : (lbase i).1 ≠ 0) : 257 ≤ i ∧ i ≤ 285 ∧ 3 ≤ (lbase i).1 ∧ (lbase i).1 ≤ 258 ∧ 0 ≤ (lbase i).2 ∧ (lbase i).2 ≤ 5 := by
  by_cases h1 : i < 257 ∨ 285 < i
  · exact absurd (by unfold lbase; rw [if_pos h1]) h
  by_cases h2 : i = 285
  · subst h2; decide
  · obtain ⟨k, rfl⟩ : ∃ k : Nat, i = 257 + k := ⟨(i - 257).toNat, by omega⟩
    have := lbase_bd k (by omega)
    omega
theorem lfar_ok {i : Int} (h : (lfar i).1 ≠ 0) : 0 ≤ i ∧ i ≤ 29 ∧ 1 ≤ (lfar i).1 ∧ (lfar i).1 ≤ 24577 ∧ 0 ≤ (lfar i).2 ∧ (lfar i).2 ≤ 13 := by
  by_cases h1 : i < 0 ∨ 29 < i
  · exact absurd (by unfold lfar; rw [if_pos h1]) h
  · obtain ⟨k, rfl⟩ : ∃ k : Nat, i = k := ⟨i.toNat, by omega⟩
    have := lfar_bd k (by omega)
    omega
section
variable {w0 : World} {H : List Asn} {bf br : Nat} {q : Option Addr} {d m : Nat} {B : List Int} {lim : Nat} {po : Option Addr} {co : Nat} {o : List Int}
set_option maxRecDepth 10000 in
set_option maxHeartbeats 4000000 in
/-- a block of symbols -/
theorem Blk_c (hK : InfK m B lim) (a : Nat) (ha : a ≤ 8 * m) (ho : o.length ≤ lim) (b1 b2 : Nat) (L D : List Int) (hs1 : IsSet w0 H b1 L) (hs2 : IsSet w0 H b2 D) (w : World) (hw : St w0 (infL bf br q d m B lim a po co o H) w) :
    Calls Try.prog 132 #[.pointer (some ⟨bf, 0, none⟩), .pointer (some ⟨b1, 0, none⟩), .pointer (some ⟨b2, 0, none⟩)] w fun e w' => ∃ r, It (blkF (bitB B 0) (8 * m) lim L D) a o r ∧ resP r (fun r => e = .panicked (FLT r) ∧ St w0 H w')
      (fun a' o' => a' ≤ 8 * m ∧ o'.length ≤ lim ∧ e = .returned (.tuple #[]) ∧ ∃ po co, St w0 (infL bf br q d m B lim a' po co o' H) w') := by
  have hl := hK.hl
  have hm1 := hK.hm1
  have hL320 := hs1.hl.1
  have hD320 := hs2.hl.1
  refine enter (vs := [.pointer (some ⟨bf, 0, none⟩), .pointer (some ⟨b1, 0, none⟩), .pointer (some ⟨b2, 0, none⟩)]) Try.func132 rfl rfl rfl hw ?_
  refine JS_block ?_
  refine JS_loop4 (fun (a1 : Nat) (o1 : List Int) (p : Option Addr) (c : Nat) => [(0, .pointer (some ⟨bf, 0, none⟩)), (1, .pointer (some ⟨b1, 0, none⟩)), (2, .pointer (some ⟨b2, 0, none⟩))]) (fun a1 o1 p c => infL bf br q d m B lim a1 p c o1 H)
    (fun a1 o1 _ _ => a1 ≤ 8 * m ∧ o1.length ≤ lim ∧ ∀ r, It (blkF (bitB B 0) (8 * m) lim L D) a1 o1 r → It (blkF (bitB B 0) (8 * m) lim L D) a o r) (fun a1 _ _ _ => 8 * m - a1) a o po co ⟨ha, ho, fun _ h => h⟩ (by repeat (first | exact trivial | refine ⟨rfl, ?_⟩ | refine ⟨lookI rfl (by omega), ?_⟩)) (fun _ h => h) ?_
  intro a1 o1 p c ⟨ha1, ho1, hinv⟩ again
  repeat (first | (refine sx ?_; try intro _))
  refine JO_callE Try.func132 Try.call142 rfl rfl fun A hA w hw => (Sym_c hK a1 ha1 b1 L hs1 w hw).mono ?_
  intro e w' h
  unfold symP at h
  cases hsy : symS (bitB B 0) (8 * m) L a1 with
  | err r =>
    rw [hsy] at h
    obtain ⟨rfl, hw'⟩ := h
    exact .inr ⟨_, rfl, .err r, hinv _ (.err (by unfold blkF; rw [hsy])), rfl, hw'⟩
  | ok i a2 =>
  rw [hsy] at h
  obtain ⟨hi0, hiL, ha12, ha2, rfl, hw'⟩ := h
  refine .inl ⟨_, rfl, _, hw', ?_⟩
  clear hw' hw w w' hA A
  have hF : blkF (bitB B 0) (8 * m) lim L D a1 o1 = if i = 256 then .stop a2 o1
    else if i < 256 then (if (lim : Int) - o1.length < 1 then .err 64 else .go a2 (o1 ++ [i]))
    else if (lbase i).1 = 0 then .err 62
    else if 8 * m < a2 + (lbase i).2.toNat then .err 20
    else blk2 (bitB B 0) (8 * m) lim D o1 ((lbase i).1 + nbt (bitB B 0) a2 (lbase i).2.toNat) (a2 + (lbase i).2.toNat) := by unfold blkF; rw [hsy]
  by_cases h256 : i = 256
  · rw [if_pos h256] at hF
    clear again
    repeat (first | (refine sx ?_; try intro _))
    refine JS_ret Try.func132 rfl rfl ?_
    intro w hw
    exact ⟨.ok a2 o1, hinv _ (.stop hF), ha2, ho1, rfl, p, c, hw⟩
  rw [if_neg h256] at hF
  by_cases hlt : i < 256
  · rw [if_pos hlt] at hF
    repeat (first | (refine sx ?_; try intro _))
    rename_i p1
    refine JO_callE Try.func132 Try.call131 rfl rfl fun A hA w hw => (Tell_c hK a2 (some p1) 1 1 [i] (vec_rd (List.Mem.head _)) rfl ho1 (by omega) w (infL_in hw)).mono ?_
    rintro e w' (⟨h, rfl, hw'⟩ | ⟨h, rfl, p', c', hw'⟩)
    · exact .inr ⟨_, rfl, .err 64, hinv _ (.err (by rw [hF, if_pos (by omega)])), rfl, hw'.drop⟩
    refine .inl ⟨_, rfl, _, hw', ?_⟩
    clear hw' hw w w' hA A
    rw [if_neg (by omega)] at hF
    repeat (first | (refine sx ?_; try intro _))
    exact JS_again4 again a2 (o1 ++ [i]) p' c' ⟨ha2, by simp; omega, fun r hr => hinv r (.go hF hr)⟩ (by omega) (by exact ⟨rfl, rfl, rfl, trivial⟩) (fun w hw => infL_out hw)
  rw [if_neg hlt] at hF
  repeat (first | (refine sx ?_; try intro _))
  refine JO_call Try.call119 rfl rfl fun w hw => (Base_c i (by omega) w hw).mono ?_
  rintro e w' ⟨rfl, hw'⟩
  refine ⟨_, rfl, _, hw', ?_⟩
  clear hw' hw w w'
  by_cases hb0 : (lbase i).1 = 0
  · rw [if_pos hb0] at hF
    generalize lbase i = lb at *
    repeat (first | (refine sx ?_; try intro _))
    refine JO_callE Try.func132 Try.call106 rfl rfl fun A hA w hw => (Give_c 62 w hw).mono ?_
    rintro e w' (⟨h, rfl, hw'⟩ | ⟨_, rfl, hw'⟩)
    · exact absurd h (by decide)
    · exact .inr ⟨_, rfl, .err 62, hinv _ (.err hF), rfl, infL_drop hw'⟩
  rw [if_neg hb0] at hF
  obtain ⟨_, _, c1, c2, c3, c4⟩ := lbase_ok hb0
  obtain ⟨⟨lb1, lb2⟩, hlb⟩ : ∃ x, lbase i = x := ⟨_, rfl⟩
  rw [hlb] at hF hb0 c1 c2 c3 c4 ⊢
  simp only at hF hb0 c1 c2 c3 c4 ⊢
  obtain ⟨k1, rfl⟩ : ∃ k : Nat, lb2 = k := ⟨lb2.toNat, by omega⟩
  simp only [Int.toNat_natCast] at hF
  obtain ⟨hn0, hn1⟩ := nbt_bd (bitB B 0) (bitB_01 B 0) a2 k1
  have hp1 := (pw16 5 (by omega)).2
  have hp1 : (2 : Int) ^ k1 ≤ 32 := by
    have : ∀ k : Fin 6, (2 : Int) ^ k.val ≤ 32 := by decide
    exact this ⟨k1, by omega⟩
  obtain ⟨n1, hn1e⟩ := Int.eq_ofNat_of_zero_le hn0
  rw [hn1e] at hF hn1
  repeat (first | (refine sx ?_; try intro _))
  refine JO_callE Try.func132 Try.call105 rfl rfl fun A hA w hw => (Grp_c hK a2 k1 (by omega) ha2 w hw).mono ?_
  rintro e w' (⟨h, rfl, hw'⟩ | ⟨h1, he, hw'⟩)
  · exact .inr ⟨_, rfl, .err 20, hinv _ (.err (by rw [hF, if_pos h])), rfl, hw'⟩
  rw [hn1e] at he; subst he
  refine .inl ⟨_, rfl, _, hw', ?_⟩
  clear hw' hw w w' hA A
  rw [if_neg (by omega)] at hF
  obtain ⟨ln, hln⟩ : ∃ ln : Nat, lb1 + (n1 : Int) = ln := ⟨(lb1 + (n1 : Int)).toNat, by omega⟩
  rw [hln] at hF
  repeat (first | (refine sx ?_; try intro _))
  refine JO_callE Try.func132 Try.call142 rfl rfl fun A hA w hw => (Sym_c hK (a2 + k1) h1 b2 D hs2 w hw).mono ?_
  intro e w' h
  unfold symP at h
  cases hsy2 : symS (bitB B 0) (8 * m) D (a2 + k1) with
  | err r =>
    rw [hsy2] at h
    obtain ⟨rfl, hw'⟩ := h
    exact .inr ⟨_, rfl, .err r, hinv _ (.err (by rw [hF]; unfold blk2; rw [hsy2])), rfl, hw'⟩
  | ok dd a3 =>
  rw [hsy2] at h
  obtain ⟨hd0, hdD, ha23, ha3, rfl, hw'⟩ := h
  refine .inl ⟨_, rfl, _, hw', ?_⟩
  clear hw' hw w w' hA A
  have hF2 : blk2 (bitB B 0) (8 * m) lim D o1 ln (a2 + k1) = if (lfar dd).1 = 0 then .err 62
    else if 8 * m < a3 + (lfar dd).2.toNat then .err 20
    else if (o1.length : Int) < (lfar dd).1 + nbt (bitB B 0) a3 (lfar dd).2.toNat then .err 63
    else if (lim : Int) - o1.length < ln then .err 64
    else .go (a3 + (lfar dd).2.toNat) (cpy o1 ((lfar dd).1 + nbt (bitB B 0) a3 (lfar dd).2.toNat).toNat (ln : Int).toNat) := by unfold blk2; rw [hsy2]
  rw [hF2] at hF
  clear hF2
  repeat (first | (refine sx ?_; try intro _))
  refine JO_call Try.call120 rfl rfl fun w hw => (Far_c dd (by omega) w hw).mono ?_
  rintro e w' ⟨rfl, hw'⟩
  refine ⟨_, rfl, _, hw', ?_⟩
  clear hw' hw w w'
  by_cases hf0 : (lfar dd).1 = 0
  · rw [if_pos hf0] at hF
    generalize lfar dd = lf at *
    repeat (first | (refine sx ?_; try intro _))
    refine JO_callE Try.func132 Try.call106 rfl rfl fun A hA w hw => (Give_c 62 w hw).mono ?_
    rintro e w' (⟨h, rfl, hw'⟩ | ⟨_, rfl, hw'⟩)
    · exact absurd h (by decide)
    · exact .inr ⟨_, rfl, .err 62, hinv _ (.err hF), rfl, infL_drop hw'⟩
  rw [if_neg hf0] at hF
  obtain ⟨_, _, d1, d2, d3, d4⟩ := lfar_ok hf0
  obtain ⟨⟨lf1, lf2⟩, hlf⟩ : ∃ x, lfar dd = x := ⟨_, rfl⟩
  rw [hlf] at hF hf0 d1 d2 d3 d4 ⊢
  simp only at hF hf0 d1 d2 d3 d4 ⊢
  obtain ⟨k2, rfl⟩ : ∃ k : Nat, lf2 = k := ⟨lf2.toNat, by omega⟩
  simp only [Int.toNat_natCast] at hF
  obtain ⟨hm0, hm1'⟩ := nbt_bd (bitB B 0) (bitB_01 B 0) a3 k2
  have hp2 : (2 : Int) ^ k2 ≤ 8192 := by
    have : ∀ k : Fin 14, (2 : Int) ^ k.val ≤ 8192 := by decide
    exact this ⟨k2, by omega⟩
  obtain ⟨n2, hn2e⟩ := Int.eq_ofNat_of_zero_le hm0
  rw [hn2e] at hF hm1'
  repeat (first | (refine sx ?_; try intro _))
  refine JO_callE Try.func132 Try.call105 rfl rfl fun A hA w hw => (Grp_c hK a3 k2 (by omega) ha3 w hw).mono ?_
  rintro e w' (⟨h, rfl, hw'⟩ | ⟨h2, he, hw'⟩)
  · exact .inr ⟨_, rfl, .err 20, hinv _ (.err (by rw [hF, if_pos h])), rfl, hw'⟩
  rw [hn2e] at he; subst he
  refine .inl ⟨_, rfl, _, hw', ?_⟩
  clear hw' hw w w' hA A
  rw [if_neg (by omega)] at hF
  obtain ⟨bk, hbk⟩ : ∃ bk : Nat, lf1 + (n2 : Int) = bk := ⟨(lf1 + (n2 : Int)).toNat, by omega⟩
  rw [hbk, Int.toNat_natCast] at hF
  repeat (first | (refine sx ?_; try intro _))
  simp only [hln, hbk]
  refine JO_callE Try.func132 Try.call143 rfl rfl fun A hA w hw => (Again_c hK (a3 + k2) ln bk (by omega) ho1 (by omega) (by omega) w hw).mono ?_
  rintro e w' (⟨h, rfl, hw'⟩ | ⟨h, h', rfl, hw'⟩ | ⟨h, h', rfl, p', c', hw'⟩)
  · exact .inr ⟨_, rfl, .err 63, hinv _ (.err (by rw [hF, if_pos (by omega)])), rfl, hw'⟩
  · exact .inr ⟨_, rfl, .err 64, hinv _ (.err (by rw [hF, if_neg (by omega), if_pos h'])), rfl, hw'⟩
  refine .inl ⟨_, rfl, _, hw', ?_⟩
  clear hw' hw w w' hA A
  rw [if_neg (by omega), if_neg h'] at hF
  repeat (first | (refine sx ?_; try intro _))
  exact JS_again4 again (a3 + k2) (cpy o1 bk ln) p' c' ⟨h2, by rw [cpy_len]; omega, fun r hr => hinv r (.go hF hr)⟩ (by omega) (by exact ⟨rfl, rfl, rfl, trivial⟩) (fun w hw => hw)
end
end Go.Proofs.Ytbiocgenbgbfpaa

namespace Go.Proofs.Ytbiocgenbgbfpaa
open Sx Go
set_option linter.unusedVariables false
set_option linter.unusedSimpArgs false
attribute [local irreducible] syA fc tk cds
theorem OKB_app {A C : List Int} (hA : OKB A) (hC : OKB C) : OKB (A ++ C) := by
  intro j
  rw [List.getD_eq_getElem?_getD]
  rcases Nat.lt_or_ge j A.length with h | h
  · rw [List.getElem?_append_left h]
    have := hA j
    rwa [List.getD_eq_getElem?_getD] at this
  · rw [List.getElem?_append_right h]
    have := hC (j - A.length)
    rwa [List.getD_eq_getElem?_getD] at this
theorem OKB_rep {x : Int} (hx : 0 ≤ x ∧ x < 256) (n : Nat) : OKB (List.replicate n x) := by
  intro j
  rw [List.getD_eq_getElem?_getD, List.getElem?_replicate]
  split
  · exact hx
  · exact ⟨by decide, by decide⟩
theorem last1 {l : List Int} (h : ¬ l.length = 0) : (l.drop (l.length - 1)).take 1 = [l.getD (l.length - 1) 0] := by
  rcases List.eq_nil_or_concat l with rfl | ⟨l', x, rfl⟩
  · exact absurd rfl h
  · simp
theorem OKB_nil : OKB [] := fun j => by simp
theorem pw8 (i : Nat) (h : i ≤ 8) : (1 : Int) ≤ 2 ^ i ∧ (2 : Int) ^ i ≤ 256 := by
  have : ∀ k : Fin 9, (1 : Int) ≤ 2 ^ k.val ∧ (2 : Int) ^ k.val ≤ 256 := by decide
  exact this ⟨i, by omega⟩
section
variable {w0 : World} {H : List Asn} {bf br : Nat} {q : Option Addr} {d m : Nat} {B : List Int} {lim : Nat} {po : Option Addr} {co : Nat} {o : List Int}
set_option maxRecDepth 10000 in
set_option maxHeartbeats 4000000 in
/-- lengths that are described -/
theorem Lens_c (hK : InfK m B lim) (a : Nat) (ha : a ≤ 8 * m) (many : Nat) (hmn : many ≤ 1000) (b : Nat) (C : List Int) (hs : IsSet w0 H b C) (hC : C.length = 19) (w : World) (hw : St w0 (infL bf br q d m B lim a po co o H) w) :
    Calls Try.prog 135 #[.pointer (some ⟨bf, 0, none⟩), .pointer (some ⟨b, 0, none⟩), .int .i64 many] w fun e w' => ∃ r, It (lenF (bitB B 0) (8 * m) C many) a [] r ∧ resP r (fun r => e = .panicked (FLT r) ∧ St w0 H w')
      (fun a' l => a' ≤ 8 * m ∧ l.length = many ∧ OKB l ∧ ∃ p c, e = .returned (.slice p many c) ∧ St w0 (infL bf br q d m B lim a' po co o (vec 5 1 (.slice p many c) many (ints .u8 l) :: H)) w') := by
  have hl := hK.hl
  have hm1 := hK.hm1
  refine enter (vs := [.pointer (some ⟨bf, 0, none⟩), .pointer (some ⟨b, 0, none⟩), .int .i64 many]) Try.func135 rfl rfl rfl hw ?_
  repeat (first | (apply gJR; first | (refine sx ?_; try intro _)) | (apply gJO; first | (refine sx ?_; try intro _)) | apply JS_seq | apply JS_region)
  refine JS_block ?_
  refine JS_loop4 (fun (a1 : Nat) (l : List Int) (p : Option Addr) (c : Nat) => [(0, .pointer (some ⟨bf, 0, none⟩)), (1, .pointer (some ⟨b, 0, none⟩)), (2, .int .i64 many), (7, .slice p l.length c)]) (fun a1 l p c => infL bf br q d m B lim a1 po co o (vec 5 1 (.slice p l.length c) l.length (ints .u8 l) :: H))
    (fun a1 l _ _ => a1 ≤ 8 * m ∧ l.length ≤ many ∧ OKB l ∧ ∀ r, It (lenF (bitB B 0) (8 * m) C many) a1 l r → It (lenF (bitB B 0) (8 * m) C many) a [] r) (fun a1 _ _ _ => 8 * m - a1) a [] none 0 ⟨ha, Nat.zero_le _, OKB_nil, fun _ h => h⟩ (by repeat (first | exact trivial | refine ⟨rfl, ?_⟩ | refine ⟨lookI rfl (by omega), ?_⟩)) (fun _ h => infL_in (St.nilvec h)) ?_
  intro a1 l p c ⟨ha1, hll, hOl, hinv⟩ again
  by_cases hmany : many ≤ l.length
  · obtain rfl : many = l.length := by omega
    clear again
    repeat (first | (refine sx ?_; try intro _))
    refine JS_ret Try.func135 rfl rfl ?_
    intro w hw
    exact ⟨.ok a1 l, hinv _ (.stop (by unfold lenF; rw [if_pos (Nat.le_refl _)])), ha1, rfl, hOl, p, c, rfl, hw⟩
  repeat (first | (refine sx ?_; try intro _))
  refine JO_callE Try.func135 Try.call142 rfl rfl fun A hA w hw => (Sym_c hK a1 ha1 b C (hs.sub (by repeat (first | exact List.Sublist.refl _ | apply List.Sublist.cons))) w hw).mono ?_
  intro e w' h
  unfold symP at h
  cases hsy : symS (bitB B 0) (8 * m) C a1 with
  | err r =>
    rw [hsy] at h
    obtain ⟨rfl, hw'⟩ := h
    exact .inr ⟨_, rfl, .err r, hinv _ (.err (by unfold lenF; rw [if_neg hmany, hsy])), rfl, hw'.drop⟩
  | ok i a2 =>
  rw [hsy] at h
  obtain ⟨hi0, hiC, ha12, ha2, rfl, hw'⟩ := h
  refine .inl ⟨_, rfl, _, hw', ?_⟩
  clear hw' hw w w' hA A
  have hF : lenF (bitB B 0) (8 * m) C many a1 l = if i = 16 then (if l.length = 0 then .err 62 else if 8 * m < a2 + 2 then .err 20 else lenP many l (l.getD (l.length - 1) 0) (3 + nbt (bitB B 0) a2 2) (a2 + 2))
    else if i = 17 then (if 8 * m < a2 + 3 then .err 20 else lenP many l 0 (3 + nbt (bitB B 0) a2 3) (a2 + 3))
    else if i = 18 then (if 8 * m < a2 + 7 then .err 20 else lenP many l 0 (11 + nbt (bitB B 0) a2 7) (a2 + 7))
    else lenP many l i 1 a2 := by unfold lenF; rw [if_neg hmany, hsy]
  repeat (first | (apply gJR; first | (refine sx ?_; try intro _)) | (apply gJO; first | (refine sx ?_; try intro _)) | apply JS_seq | apply JS_region)
  rename_i p1
  refine JS_join5 (fun (t : Nat) (x : Int) (pa : Option Addr) (ca : Nat) (a3 : Nat) => [(0, .pointer (some ⟨bf, 0, none⟩)), (1, .pointer (some ⟨b, 0, none⟩)), (2, .int .i64 many), (7, .slice p l.length c), (9, .slice pa t ca)])
    (fun t x pa ca a3 => vec 5 1 (.slice pa t ca) t (ints .u8 (List.replicate t x)) :: infL bf br q d m B lim a3 po co o (vec 5 1 (.slice p l.length c) l.length (ints .u8 l) :: H))
    (fun t x pa ca a3 => t ≤ 1000 ∧ 0 ≤ x ∧ x < 256 ∧ a3 ≤ 8 * m ∧ a1 < a3 ∧ lenF (bitB B 0) (8 * m) C many a1 l = lenP many l x t a3) ?_ ?_
  · clear hF hsy hi0 hiC ha12 ha2 a2 i
    intro t x pa ca a3 ⟨ht, hx0, hx1, ha3, ha13, hF⟩
    unfold lenP at hF
    by_cases h : (many : Int) < l.length + t
    · rw [if_pos h] at hF
      repeat (first | (refine sx ?_; try intro _))
      refine JO_callE Try.func135 Try.call106 rfl rfl fun A hA w hw => (Give_c 62 w hw).mono ?_
      rintro e w' (⟨h, rfl, hw'⟩ | ⟨_, rfl, hw'⟩)
      · exact absurd h (by decide)
      · exact .inr ⟨_, rfl, .err 62, hinv _ (.err hF), rfl, (infL_drop hw'.drop).drop⟩
    · rw [if_neg h, Int.toNat_natCast] at hF
      repeat (first | (refine sx ?_; try intro _))
      refine JO_app (tb := tb) rfl rfl rfl rfl rfl rfl (by repeat (first | exact Sel.here _ _ | apply Sel.there)) (vec_rd (List.Mem.head _)) (by rw [ints_len, List.length_replicate]; omega) (by first | exact ints_one | (repeat (first | exact trivial | refine ⟨rfl, ?_⟩))) (by omega) rfl ?_
      intro p2 c2
      repeat (first | (refine sx ?_; try intro _))
      exact JS_again4 again a3 (l ++ List.replicate t x) p2 c2 ⟨ha3, by rw [List.length_append, List.length_replicate]; omega, OKB_app hOl (OKB_rep ⟨hx0, hx1⟩ t), fun r hr => hinv r (.go hF hr)⟩ (by omega)
        (by rw [List.length_append, List.length_replicate]; exact ⟨rfl, rfl, rfl, rfl, trivial⟩) (fun w hw => by unfold infL; rw [List.length_append, List.length_replicate, ← ints_app]; exact St.sub (by repeat (first | exact List.Sublist.refl _ | apply List.Sublist.cons_cons | apply List.Sublist.cons)) hw)
  · clear again
    intro K
    by_cases h16 : i = 16
    · rw [if_pos h16] at hF
      by_cases hl0 : l.length = 0
      · rw [if_pos hl0] at hF
        repeat (first | (refine sx ?_; try intro _))
        refine JO_callE Try.func135 Try.call106 rfl rfl fun A hA w hw => (Give_c 62 w hw).mono ?_
        rintro e w' (⟨h, rfl, hw'⟩ | ⟨_, rfl, hw'⟩)
        · exact absurd h (by decide)
        · exact .inr ⟨_, rfl, .err 62, hinv _ (.err hF), rfl, (infL_drop hw'.drop).drop⟩
      rw [if_neg hl0] at hF
      refine JS_fact (fun w hw => (Rd.lcap (vec_rd (e := 5) (size := 1) (v := .slice p l.length c) (n := l.length) (cs := ints .u8 l) (H := vec 5 1 (.slice (some p1) 1 1) 1 (ints .u8 [i]) :: infL bf br q d m B lim a2 po co o (vec 5 1 (.slice p l.length c) l.length (ints .u8 l) :: H)) (by repeat (first | apply List.Mem.head | apply List.Mem.tail))) hw).1) fun hcap => ?_
      repeat (first | (apply gJR; first | (refine sx ?_; try intro _)) | (apply gJO; first | (refine sx ?_; try intro _)) | apply JS_seq | apply JS_region | apply JS_block | refine JS_condT rfl ?_ | refine JS_condF rfl ?_ | apply JS_skip)
      refine JS_order2 (vec 5 1 (.slice p l.length c) l.length (ints .u8 l) :: H) [0, 1, 2, 3, 4, 5, 6, 7, 8, 9] [] (fun w hw => St.sub (by repeat (first | exact List.Sublist.refl _ | apply List.Sublist.cons_cons | apply List.Sublist.cons)) hw) (Picks.cons rfl (Picks.cons rfl (Picks.cons rfl (Picks.cons rfl (Picks.cons rfl (Picks.cons rfl (Picks.cons rfl (Picks.cons rfl (Picks.cons rfl (Picks.cons rfl (Picks.nil))))))))))) (by kernel_rfl) (by kernel_rfl) rfl (by decide +kernel) ?_
      repeat (first | (apply gQR2; apply QR2_un) | (apply gQO2; first | refine QO2_v rfl (V_slice (tb := tb) (lo := l.length - 1) (hi := l.length) rfl rfl rfl rfl rfl (by omega) (by omega) (fun w hw => ⟨by omega, hcap⟩) rfl) ?_ | refine aQ2 ?_))
      have e1 : l.length - (l.length - 1) = 1 := by omega
      simp only [e1]
      refine QO2_callE Try.call105 rfl rfl fun w hw => (Grp_c hK a2 2 (by omega) ha2 w (infL_in hw)).mono ?_
      rintro e w' (⟨h, rfl, hw'⟩ | ⟨h1, he, hw'⟩)
      · exact .inr ⟨_, rfl, QK_e Try.func135 ⟨.err 20, hinv _ (.err (by rw [hF, if_pos h])), rfl, hw'.drop.drop⟩⟩
      rw [if_neg (by omega)] at hF
      obtain ⟨n, hn⟩ := Int.eq_ofNat_of_zero_le (nbt_bd (bitB B 0) (bitB_01 B 0) a2 2).1
      have hn1 := (nbt_bd (bitB B 0) (bitB_01 B 0) a2 2).2
      rw [hn] at he hn1 hF
      subst he
      have hn2 : (n : Int) < 4 := hn1
      refine .inl ⟨_, rfl, vec 5 1 (.slice p l.length c) l.length (ints .u8 l) :: H, _, hw', fun w hw => St.sub (by repeat (first | exact List.Sublist.refl _ | apply List.Sublist.cons_cons | apply List.Sublist.cons)) hw, .inl fun w hw => hw, ?_⟩
      clear hw' hw w w'
      repeat (first | (apply gQR2; apply QR2_un) | (apply gQO2; refine aQ2 ?_))
      have hlst := hOl (l.length - 1)
      have hsub := Rd_sub (lo := l.length - 1) (hi := l.length) (sz := 1) (vec_rd (w0 := w0) (e := 5) (size := 1) (v := .slice p l.length c) (n := l.length) (cs := ints .u8 l) (H := infL bf br q d m B lim (a2 + 2) po co o (vec 5 1 (.slice (some p1) 1 1) 1 (ints .u8 [i]) :: vec 5 1 (.slice p l.length c) l.length (ints .u8 l) :: H)) (by repeat (first | apply List.Mem.head | apply List.Mem.tail))) (by omega) (by omega)
      rw [e1, show ((ints .u8 l).drop ((l.length - 1) * 1)).take (1 * 1) = ints .u8 [l.getD (l.length - 1) 0] by
        rw [Nat.mul_one, Nat.mul_one, ints_drop, ints_take]
        rw [last1 hl0]] at hsub
      refine QO2_callE Try.call124 rfl rfl fun w hw => (Repeat1_c _ _ (3 + n) hsub ⟨_, _, rfl⟩ (by omega) w hw).mono ?_
      rintro e w' ⟨p2, c2, rfl, hw'⟩
      refine .inl ⟨_, rfl, vec 5 1 (.slice p l.length c) l.length (ints .u8 l) :: H, _, hw', fun w hw => St.sub (by repeat (first | exact List.Sublist.refl _ | apply List.Sublist.cons_cons | apply List.Sublist.cons)) hw, .inl fun w hw => hw, ?_⟩
      clear hw' hw w w'
      repeat (first | (apply gQR2; first | apply QR2_un | apply QR2_nil) | (apply gQO2; refine aQ2 ?_))
      apply JS_inBlock
      exact JS_to5 K (3 + n) (l.getD (l.length - 1) 0) p2 c2 (a2 + 2) ⟨by omega, hlst.1, hlst.2, h1, by omega, hF⟩ (by repeat (first | exact trivial | refine ⟨rfl, ?_⟩ | refine ⟨lookI rfl (by omega), ?_⟩)) (fun w hw => St.sub (by repeat (first | exact List.Sublist.refl _ | apply List.Sublist.cons_cons | apply List.Sublist.cons)) hw)
    rw [if_neg h16] at hF
    by_cases h17 : i = 17
    · rw [if_pos h17] at hF
      repeat (first | (refine sx ?_; try intro _))
      refine JO_callE Try.func135 Try.call105 rfl rfl fun A hA w hw => (Grp_c hK a2 3 (by omega) ha2 w (infL_in hw)).mono ?_
      rintro e w' (⟨h, rfl, hw'⟩ | ⟨h1, he, hw'⟩)
      · exact .inr ⟨_, rfl, .err 20, hinv _ (.err (by rw [hF, if_pos h])), rfl, hw'.drop.drop⟩
      rw [if_neg (by omega)] at hF
      obtain ⟨n, hn⟩ := Int.eq_ofNat_of_zero_le (nbt_bd (bitB B 0) (bitB_01 B 0) a2 3).1
      have hn1 := (nbt_bd (bitB B 0) (bitB_01 B 0) a2 3).2
      rw [hn] at he hn1 hF
      subst he
      have hn2 : (n : Int) < 8 := hn1
      refine .inl ⟨_, rfl, _, hw', ?_⟩
      clear hw' hw w w' hA A
      repeat (first | (apply gJR; first | (refine sx ?_; try intro _)) | (apply gJO; first | (refine sx ?_; try intro _)))
      rename_i p2
      apply JS_inBlock
      exact JS_to5 K (3 + n) 0 (some p2) (3 + n) (a2 + 3) ⟨by omega, by omega, by omega, h1, by omega, hF⟩ (by repeat (first | exact trivial | refine ⟨rfl, ?_⟩ | refine ⟨lookI rfl (by omega), ?_⟩)) (fun w hw => by rw [← ints_rep]; exact St.sub (by repeat (first | exact List.Sublist.refl _ | apply List.Sublist.cons_cons | apply List.Sublist.cons)) hw)
    rw [if_neg h17] at hF
    by_cases h18 : i = 18
    · rw [if_pos h18] at hF
      repeat (first | (refine sx ?_; try intro _))
      refine JO_callE Try.func135 Try.call105 rfl rfl fun A hA w hw => (Grp_c hK a2 7 (by omega) ha2 w (infL_in hw)).mono ?_
      rintro e w' (⟨h, rfl, hw'⟩ | ⟨h1, he, hw'⟩)
      · exact .inr ⟨_, rfl, .err 20, hinv _ (.err (by rw [hF, if_pos h])), rfl, hw'.drop.drop⟩
      rw [if_neg (by omega)] at hF
      obtain ⟨n, hn⟩ := Int.eq_ofNat_of_zero_le (nbt_bd (bitB B 0) (bitB_01 B 0) a2 7).1
      have hn1 := (nbt_bd (bitB B 0) (bitB_01 B 0) a2 7).2
      rw [hn] at he hn1 hF
      subst he
      have hn2 : (n : Int) < 128 := hn1
      refine .inl ⟨_, rfl, _, hw', ?_⟩
      clear hw' hw w w' hA A
      repeat (first | (apply gJR; first | (refine sx ?_; try intro _)) | (apply gJO; first | (refine sx ?_; try intro _)))
      rename_i p2
      apply JS_inBlock
      exact JS_to5 K (11 + n) 0 (some p2) (11 + n) (a2 + 7) ⟨by omega, by omega, by omega, h1, by omega, hF⟩ (by repeat (first | exact trivial | refine ⟨rfl, ?_⟩ | refine ⟨lookI rfl (by omega), ?_⟩)) (fun w hw => by rw [← ints_rep]; exact St.sub (by repeat (first | exact List.Sublist.refl _ | apply List.Sublist.cons_cons | apply List.Sublist.cons)) hw)
    rw [if_neg h18] at hF
    repeat (first | (apply gJR; first | (refine sx ?_; try intro _)) | (apply gJO; first | (refine sx ?_; try intro _)) | apply JS_seq | apply JS_region | apply JS_block | refine JS_condF rfl ?_ | apply JS_skip)
    apply JS_inBlock
    exact JS_to5 K 1 i (some p1) 1 a2 ⟨by omega, hi0, by omega, ha2, ha12, hF⟩ (by repeat (first | exact trivial | refine ⟨rfl, ?_⟩ | refine ⟨lookI rfl (by omega), ?_⟩)) (fun w hw => hw)
end
end Go.Proofs.Ytbiocgenbgbfpaa

namespace Go.Proofs.Ytbiocgenbgbfpaa
open Sx Go
set_option linter.unusedVariables false
set_option linter.unusedSimpArgs false
attribute [local irreducible] syA fc tk cds
theorem IsSet.perm {w0 H H' b B} (h : IsSet w0 H b B) (p : H'.Perm H) : IsSet w0 H' b B := by
  obtain ⟨⟨q, d, s, e, h1, h2, h3⟩, hB, hl⟩ := h
  exact ⟨⟨q, d, s, e, p.mem_iff.2 h1, Rd_weak h2 fun w hw => hw.perm p, Rd_weak h3 fun w hw => hw.perm p⟩, hB, hl⟩
theorem ordL_get (i : Nat) (h : i < 19) : ordL.getD i 0 < 19 := by
  have : ∀ k : Fin 19, ordL.getD k.val 0 < 19 := by decide
  exact this ⟨i, h⟩
def ordI : List Int := [16, 17, 18, 0, 8, 7, 9, 6, 10, 5, 11, 4, 12, 3, 13, 2, 14, 1, 15]
theorem ordI_get (i : Nat) (h : i < 19) : ordI.getD i 0 = (ordL.getD i 0 : Nat) := by
  have : ∀ k : Fin 19, ordI.getD k.val 0 = (ordL.getD k.val 0 : Nat) := by decide
  exact this ⟨i, h⟩
theorem ccl_okb (bt : Nat → Int) (hb : ∀ j, bt j = 0 ∨ bt j = 1) (a : Nat) : ∀ n, OKB (ccl bt a n)
  | 0 => OKB_rep ⟨by decide, by decide⟩ 19
  | n + 1 => by
    intro j
    have h0 := ccl_okb bt hb a n
    have h1 := nbt_bd bt hb (a + 3 * n) 3
    have h2 : (2 : Int) ^ 3 = 8 := by decide
    simp only [ccl]
    rw [List.getD_eq_getElem?_getD, List.getElem?_set]
    split
    · split
      · simp only [Option.getD_some]; omega
      · exact ⟨by decide, by decide⟩
    · have := h0 j; rwa [List.getD_eq_getElem?_getD] at this
section
variable {w0 : World} {H : List Asn} {bf br : Nat} {q : Option Addr} {d m : Nat} {B : List Int} {lim : Nat} {po : Option Addr} {co : Nat} {o : List Int}
theorem infL_ins {w : World} {a : Nat} (X : List Asn) (h : St w0 (X ++ infL bf br q d m B lim a po co o H) w) : St w0 (infL bf br q d m B lim a po co o (X ++ H)) w :=
  h.perm (List.perm_append_comm_assoc X [_, _, _, _] H)
/-- a block by the fixed sets -/
theorem Fix_c (hK : InfK m B lim) (a : Nat) (ha : a ≤ 8 * m) (ho : o.length ≤ lim) (w : World) (hw : St w0 (infL bf br q d m B lim a po co o H) w) :
    Calls Try.prog 103 #[.pointer (some ⟨bf, 0, none⟩)] w fun e w' => ∃ r, It (blkF (bitB B 0) (8 * m) lim (tab 288 fixF) (List.replicate 32 5)) a o r ∧ resP r (fun r => e = .panicked (FLT r) ∧ St w0 H w')
      (fun a' o' => a' ≤ 8 * m ∧ o'.length ≤ lim ∧ e = .returned (.tuple #[]) ∧ ∃ po co, St w0 (infL bf br q d m B lim a' po co o' H) w') := by
  refine enter (vs := [.pointer (some ⟨bf, 0, none⟩)]) Try.func103 rfl rfl rfl hw ?_
  repeat (first | (refine sx ?_; try intro _))
  refine JO_call Try.call80 rfl rfl fun w hw => (Fixed_c w hw).mono ?_
  rintro e w' ⟨p1, c1, rfl, hw'⟩
  refine ⟨_, rfl, _, hw', ?_⟩
  clear hw' hw w w'
  repeat (first | (refine sx ?_; try intro _))
  refine JO_callE Try.func103 Try.call133 rfl rfl fun A hA w hw => (Made_c p1 c1 288 _ (vec_rd (List.Mem.head _)) (tab_len _ _) fix_okb (by omega) w hw).mono ?_
  rintro e w' (⟨h, _⟩ | ⟨_, b1, a1, a2, a3, rfl, hs1, hw'⟩)
  · exact absurd fix_okl h
  refine .inl ⟨_, rfl, _, hw', ?_⟩
  clear hw' hw w w' hA A
  repeat (first | (refine sx ?_; try intro _))
  refine JO_call Try.call81 rfl rfl fun w hw => (Spans_c w hw).mono ?_
  rintro e w' ⟨p2, c2, rfl, hw'⟩
  refine ⟨_, rfl, _, hw', ?_⟩
  clear hw' hw w w'
  repeat (first | (refine sx ?_; try intro _))
  refine JO_callE Try.func103 Try.call133 rfl rfl fun A hA w hw => (Made_c p2 c2 32 _ (vec_rd (List.Mem.head _)) (List.length_replicate ..) spans_okb (by omega) w hw).mono ?_
  rintro e w' (⟨h, _⟩ | ⟨_, b2, a4, a5, a6, rfl, hs2, hw'⟩)
  · exact absurd spans_okl h
  refine .inl ⟨_, rfl, _, hw', ?_⟩
  clear hw' hw w w' hA A
  repeat (first | (refine sx ?_; try intro _))
  refine JO_callE Try.func103 Try.call132 rfl rfl fun A hA w hw => (Blk_c hK a ha ho b1 b2 _ _ (hs1.sub (by repeat (first | exact List.nil_sublist _ | apply List.Sublist.cons_cons | apply List.Sublist.cons))) (hs2.sub (by repeat (first | exact List.nil_sublist _ | apply List.Sublist.cons_cons | apply List.Sublist.cons))) w (infL_ins [a4, a5, a6, vec 5 1 (.slice p2 32 c2) 32 (ints .u8 (List.replicate 32 5)), a1, a2, a3, vec 5 1 (.slice p1 288 c1) 288 (ints .u8 (tab 288 fixF))] hw)).mono ?_
  rintro e w' ⟨r, hr, h⟩
  cases r with
  | err r =>
    obtain ⟨rfl, hw'⟩ := h
    exact .inr ⟨_, rfl, .err r, hr, rfl, St.sub (by repeat (first | exact List.Sublist.refl _ | apply List.Sublist.cons_cons | apply List.Sublist.cons)) hw'⟩
  | ok a' o' =>
    obtain ⟨h1, h2, rfl, p', c', hw'⟩ := h
    refine .inl ⟨_, rfl, _, hw', ?_⟩
    clear hw' hw w w' hA A
    repeat (first | (refine sx ?_; try intro _))
    refine JS_fin Try.func103 rfl rfl ?_
    intro w hw
    exact ⟨.ok a' o', hr, h1, h2, rfl, p', c', St.sub (by repeat (first | exact List.Sublist.refl _ | apply List.Sublist.cons_cons | apply List.Sublist.cons)) hw⟩
end
end Go.Proofs.Ytbiocgenbgbfpaa

namespace Go.Proofs.Ytbiocgenbgbfpaa
open Sx Go
set_option linter.unusedVariables false
set_option linter.unusedSimpArgs false
attribute [local irreducible] syA fc tk cds
section
variable {w0 : World} {H : List Asn} {bf br : Nat} {q : Option Addr} {d m : Nat} {B : List Int} {lim : Nat} {po : Option Addr} {co : Nat} {o : List Int}
set_option maxRecDepth 10000 in
set_option maxHeartbeats 4000000 in
/-- a described block -/
theorem Des_c (hK : InfK m B lim) (a : Nat) (ha : a ≤ 8 * m) (ho : o.length ≤ lim) (w : World) (hw : St w0 (infL bf br q d m B lim a po co o H) w) :
    Calls Try.prog 104 #[.pointer (some ⟨bf, 0, none⟩)] w fun e w' => resP (desF (bitB B 0) (8 * m) lim a o) (fun r => e = .panicked (FLT r) ∧ St w0 H w')
      (fun a' o' => a' ≤ 8 * m ∧ o'.length ≤ lim ∧ e = .returned (.tuple #[]) ∧ ∃ po co, St w0 (infL bf br q d m B lim a' po co o' H) w') := by
  have hl := hK.hl
  have hm1 := hK.hm1
  refine enter (vs := [.pointer (some ⟨bf, 0, none⟩)]) Try.func104 rfl rfl rfl hw ?_
  unfold desF
  obtain ⟨n1, hn1⟩ := Int.eq_ofNat_of_zero_le (nbt_bd (bitB B 0) (bitB_01 B 0) a 5).1
  have hb1 := (nbt_bd (bitB B 0) (bitB_01 B 0) a 5).2
  obtain ⟨n2, hn2⟩ := Int.eq_ofNat_of_zero_le (nbt_bd (bitB B 0) (bitB_01 B 0) (a + 5) 5).1
  have hb2 := (nbt_bd (bitB B 0) (bitB_01 B 0) (a + 5) 5).2
  obtain ⟨n3, hn3⟩ := Int.eq_ofNat_of_zero_le (nbt_bd (bitB B 0) (bitB_01 B 0) (a + 10) 4).1
  have hb3 := (nbt_bd (bitB B 0) (bitB_01 B 0) (a + 10) 4).2
  rw [hn1] at hb1
  rw [hn2] at hb2
  rw [hn3] at hb3
  have hb1 : (n1 : Int) < 32 := hb1
  have hb2 : (n2 : Int) < 32 := hb2
  have hb3 : (n3 : Int) < 16 := hb3
  rw [hn1, hn2, hn3, show ((n1 : Int) + 257).toNat = n1 + 257 by omega, show ((n2 : Int) + 1).toNat = n2 + 1 by omega, show ((n3 : Int) + 4).toNat = n3 + 4 by omega]
  repeat (first | (refine sx ?_; try intro _))
  refine JO_callE Try.func104 Try.call105 rfl rfl fun A hA w hw => (Grp_c hK a 5 (by omega) (by omega) w hw).mono ?_
  rintro e w' (⟨h, rfl, hw'⟩ | ⟨h1, he, hw'⟩)
  · refine .inr ⟨_, rfl, ?_⟩
    show resP _ _ _
    rw [if_pos h]; exact ⟨rfl, hw'⟩
  rw [hn1] at he; subst he
  refine .inl ⟨_, rfl, _, hw', ?_⟩
  clear hw' hw w w' hA A
  rw [if_neg (by omega)]
  repeat (first | (refine sx ?_; try intro _))
  refine JO_callE Try.func104 Try.call105 rfl rfl fun A hA w hw => (Grp_c hK (a + 5) 5 (by omega) (by omega) w hw).mono ?_
  rintro e w' (⟨h, rfl, hw'⟩ | ⟨h2, he, hw'⟩)
  · refine .inr ⟨_, rfl, ?_⟩
    show resP _ _ _
    rw [if_pos h]; exact ⟨rfl, hw'⟩
  rw [hn2] at he; subst he
  refine .inl ⟨_, rfl, _, hw', ?_⟩
  clear hw' hw w w' hA A
  rw [if_neg (by omega)]
  repeat (first | (refine sx ?_; try intro _))
  refine JO_callE Try.func104 Try.call105 rfl rfl fun A hA w hw => (Grp_c hK (a + 10) 4 (by omega) (by omega) w hw).mono ?_
  rintro e w' (⟨h, rfl, hw'⟩ | ⟨h3, he, hw'⟩)
  · refine .inr ⟨_, rfl, ?_⟩
    show resP _ _ _
    rw [if_pos h]; exact ⟨rfl, hw'⟩
  rw [hn3] at he; subst he
  refine .inl ⟨_, rfl, _, hw', ?_⟩
  clear hw' hw w w' hA A
  rw [if_neg (by omega)]
  unfold des1
  obtain ⟨lit, hlit⟩ : ∃ x, n1 + 257 = x := ⟨_, rfl⟩
  obtain ⟨sp, hsp⟩ : ∃ x, n2 + 1 = x := ⟨_, rfl⟩
  obtain ⟨ln, hln⟩ : ∃ x, n3 + 4 = x := ⟨_, rfl⟩
  rw [hlit, hsp, hln]
  have hlit' : (n1 : Int) + 257 = (lit : Int) := by omega
  have hsp' : (n2 : Int) + 1 = (sp : Int) := by omega
  have hln' : (n3 : Int) + 4 = (ln : Int) := by omega
  repeat (first | (apply gJR; first | (refine sx ?_; try intro _)) | (apply gJO; first | (refine sx ?_; try intro _)))
  simp only [hlit', hsp', hln']
  clear hlit' hsp' hln' hn1 hn2 hn3
  by_cases hbig : 286 < lit ∨ 30 < sp
  · have : (286 < lit) ∨ (¬ 286 < lit ∧ 30 < sp) := by omega
    rcases this with h | ⟨h, h'⟩
    · repeat (first | (refine sx ?_; try intro _))
      refine JO_callE Try.func104 Try.call106 rfl rfl fun A hA w hw => (Give_c 62 w hw).mono ?_
      rintro e w' (⟨h, rfl, hw'⟩ | ⟨_, rfl, hw'⟩)
      · exact absurd h (by decide)
      · refine .inr ⟨_, rfl, ?_⟩
        show resP _ _ _
        rw [if_pos hbig]; exact ⟨rfl, infL_drop hw'⟩
    · repeat (first | (refine sx ?_; try intro _))
      refine JO_callE Try.func104 Try.call106 rfl rfl fun A hA w hw => (Give_c 62 w hw).mono ?_
      rintro e w' (⟨h, rfl, hw'⟩ | ⟨_, rfl, hw'⟩)
      · exact absurd h (by decide)
      · refine .inr ⟨_, rfl, ?_⟩
        show resP _ _ _
        rw [if_pos hbig]; exact ⟨rfl, infL_drop hw'⟩
  rw [if_neg hbig]
  repeat (first | (apply gJR; first | (refine sx ?_; try intro _)) | (apply gJO; first | (refine JO_v (V_buildA (tb := tb) rfl rfl rfl rfl rfl) ?_) | (refine JO_v (V_sliceP (tb := tb) (lo := 0) (hi := ln) rfl rfl rfl rfl rfl (by rfl) (by rfl) (by omega) rfl) ?_) | first | (refine sx ?_; try intro _)) | apply JS_seq | apply JS_region | refine JS_condF rfl ?_ | refine JS_cond_F rfl (by omega) ?_ | apply JS_skip)
  rename_i b5 b6
  simp only [subB_0, Nat.sub_zero]
  refine JS_block ?_
  refine JS_loop1 (fun (i : Nat) => [(0, .pointer (some ⟨bf, 0, none⟩)), (2, .int .i64 lit), (3, .int .i64 sp), (6, .pointer (some ⟨b6, 0, none⟩)), (29, .slice (some ⟨b5, 0, none⟩) ln 19), (30, .int .i64 ln), (31, .int .i64 i)])
    (fun i => infL bf br q d m B lim (a + 14 + 3 * i) po co o (blk b6 (ints .u8 (ccl (bitB B 0) (a + 14) i)) :: blk b5 (ints .i64 ordI) :: H)) (fun i => i ≤ ln ∧ a + 14 + 3 * i ≤ 8 * m) (fun i => ln - i) 0 ⟨Nat.zero_le _, by omega⟩ (by repeat (first | exact trivial | refine ⟨rfl, ?_⟩ | refine ⟨lookI rfl (by omega), ?_⟩))
    (fun w h => infL_ins [blk b6 (ints .u8 (ccl (bitB B 0) (a + 14) 0)), blk b5 (ints .i64 ordI)] h) ?_
  intro i ⟨hi, hai⟩ again
  by_cases hil : i < ln
  · have gi : (ints .i64 ordI)[i]? = some (.int .i64 (ordI.getD i 0)) := ints_get (by show i < 19; omega)
    have ho19 := ordL_get i (by omega)
    have hcc := ccl_len (bitB B 0) (a + 14) i
    have hcs : ccl (bitB B 0) (a + 14) (i + 1) = (ccl (bitB B 0) (a + 14) i).set (ordL.getD i 0) (nbt (bitB B 0) (a + 14 + 3 * i) 3) := rfl
    rw [ordI_get i (by omega)] at gi
    generalize ordL.getD i 0 = k at *
    generalize ccl (bitB B 0) (a + 14) i = C at *
    repeat (first | (apply gJO; first | refine JO_v (V_index (tb := tb) (j := i) rfl rfl rfl rfl (Rd.sl (blk_rd (cs := ints .i64 ordI) (by repeat (first | apply List.Mem.head | apply List.Mem.tail)) (by omega))) (by omega) (by (try simp only [tn, tna, tn1, tn2, tn3, tn4, tnd16, tnd8, Int.reduceToNat]); first | exact Nat.mul_one _ | exact rfl) rfl) ?_ | refine JO_v (V_loadC (tb := tb) rfl (blk_rd (cs := ints .i64 ordI) (by repeat (first | apply List.Mem.head | apply List.Mem.tail)) (show ln ≤ 19 by omega)) rfl rfl gi rfl) ?_) | (first | (refine sx ?_; try intro _)))
    refine JO_callE Try.func104 Try.call105 rfl rfl fun A hA w hw => (Grp_c hK (a + 14 + 3 * i) 3 (by omega) (by omega) w hw).mono ?_
    rintro e w' (⟨h, rfl, hw'⟩ | ⟨h1, he, hw'⟩)
    · refine .inr ⟨_, rfl, ?_⟩
      show resP _ _ _
      rw [if_pos (by omega)]; exact ⟨rfl, hw'.drop.drop⟩
    obtain ⟨x, hx⟩ := Int.eq_ofNat_of_zero_le (nbt_bd (bitB B 0) (bitB_01 B 0) (a + 14 + 3 * i) 3).1
    have hx1 := (nbt_bd (bitB B 0) (bitB_01 B 0) (a + 14 + 3 * i) 3).2
    rw [hx] at he hx1 hcs
    subst he
    have hx2 : (x : Int) < 8 := hx1
    refine .inl ⟨_, rfl, _, hw', ?_⟩
    clear hw' hw w w' hA A
    repeat (first | (apply kS; refine JO_k (K_store (tb := tb) rfl rfl (by repeat (first | apply Upd.here | apply Upd.there)) rfl rfl rfl (by repeat (first | exact trivial | refine ⟨rfl, ?_⟩)) (by rw [show 0 + ((k : Nat) : Int).toNat * 1 = k by omega]; exact setSeg_ints (by omega)) rfl) ?_) | (first | (refine sx ?_; try intro _)))
    exact JS_again1 again (i + 1) ⟨by omega, by omega⟩ (by omega) (by repeat (first | exact trivial | refine ⟨rfl, ?_⟩ | refine ⟨lookI rfl (by omega), ?_⟩)) (fun w hw => by rw [hcs]; exact hw)
  obtain rfl : i = ln := by omega
  clear again
  rw [if_neg (by omega)]
  have hcc := ccl_len (bitB B 0) (a + 14) i
  have hco := ccl_okb (bitB B 0) (bitB_01 B 0) (a + 14) i
  generalize ccl (bitB B 0) (a + 14) i = C at *
  repeat (first | (apply gJO; refine JO_v (V_sliceP (tb := tb) (lo := 0) (hi := 19) rfl rfl rfl rfl rfl (by rfl) (by rfl) (by omega) rfl) ?_) | first | (refine sx ?_; try intro _))
  simp only [subB_0, Nat.sub_zero]
  refine JO_callE Try.func104 Try.call133 rfl rfl fun A hA w hw => (Made_c (some ⟨b6, 0, none⟩) 19 19 C (blk_rd (by repeat (first | apply List.Mem.head | apply List.Mem.tail)) (by omega)) hcc hco (by omega) w hw).mono ?_
  rintro e w' (⟨hno, rfl, hw'⟩ | ⟨hyes, b7, x1, x2, x3, rfl, hs7, hw'⟩)
  · refine .inr ⟨_, rfl, ?_⟩
    show resP _ _ _
    rw [if_pos (.inl hno)]; exact ⟨rfl, (infL_drop hw').drop.drop⟩
  refine .inl ⟨_, rfl, _, hw', ?_⟩
  clear hw' hw w w' hA A
  repeat (first | (refine sx ?_; try intro _))
  refine JO_call Try.call134 rfl rfl fun w hw => (Full2_c b7 C (hs7.sub (by repeat (first | exact List.nil_sublist _ | apply List.Sublist.cons_cons | apply List.Sublist.cons))) w hw).mono ?_
  rintro e w' ⟨rfl, hw'⟩
  refine ⟨_, rfl, _, hw', ?_⟩
  clear hw' hw w w'
  by_cases hfull : tk C = 32768
  rotate_left
  · repeat (first | (refine sx ?_; try intro _))
    refine JO_callE Try.func104 Try.call106 rfl rfl fun A hA w hw => (Give_c 62 w hw).mono ?_
    rintro e w' (⟨h, rfl, hw'⟩ | ⟨_, rfl, hw'⟩)
    · exact absurd h (by decide)
    · refine .inr ⟨_, rfl, ?_⟩
      show resP _ _ _
      rw [if_pos (.inr hfull)]; exact ⟨rfl, (infL_drop hw'.drop.drop.drop).drop.drop⟩
  rw [if_neg (by rintro (h | h); exact h hyes; exact h hfull)]
  have hls : (lit : Int) + sp = ((lit + sp : Nat) : Int) := by omega
  repeat (first | (refine sx ?_; try intro _))
  simp only [hls]
  refine JO_callE Try.func104 Try.call135 rfl rfl fun A hA w hw => (Lens_c hK (a + 14 + 3 * i) (by omega) (lit + sp) (by omega) b7 C (hs7.sub (by repeat (first | exact List.nil_sublist _ | apply List.Sublist.cons_cons | apply List.Sublist.cons))) hcc w (infL_ins [x1, x2, x3] hw)).mono ?_
  rintro e w' ⟨r, hr, h⟩
  rw [itF_of hr]
  clear hr
  cases r with
  | err r =>
    obtain ⟨rfl, hw'⟩ := h
    exact .inr ⟨_, rfl, rfl, hw'.drop.drop.drop.drop.drop⟩
  | ok a' l =>
  obtain ⟨ha', hll, hol, p, c, rfl, hw'⟩ := h
  have hcap : lit + sp ≤ c := (Rd.lcap (vec_rd (e := 5) (size := 1) (v := .slice p (lit + sp) c) (n := lit + sp) (cs := ints .u8 l) (by repeat (first | apply List.Mem.head | apply List.Mem.tail))) hw').1
  refine .inl ⟨_, rfl, _, hw', ?_⟩
  clear hw' hw w w' hA A
  simp only
  unfold des2
  have g256 : (ints .u8 l)[256]? = some (.int .u8 (l.getD 256 0)) := ints_get (by omega)
  have h256 := hol 256
  by_cases hz : l.getD 256 0 = 0
  · repeat (first | (apply gJO; refine JO_v (V_loadC (tb := tb) rfl (vec_rd (e := 5) (size := 1) (v := .slice p (lit + sp) c) (n := lit + sp) (cs := ints .u8 l) (by repeat (first | apply List.Mem.head | apply List.Mem.tail))) rfl rfl g256 rfl) ?_) | first | (refine sx ?_; try intro _))
    refine JO_callE Try.func104 Try.call106 rfl rfl fun A hA w hw => (Give_c 62 w hw).mono ?_
    rintro e w' (⟨h, rfl, hw'⟩ | ⟨_, rfl, hw'⟩)
    · exact absurd h (by decide)
    · refine .inr ⟨_, rfl, ?_⟩
      show resP _ _ _
      rw [if_pos hz]; exact ⟨rfl, (infL_drop hw').drop.drop.drop.drop.drop.drop⟩
  rw [if_neg hz]
  repeat (first | (apply gJO; refine JO_v (V_loadC (tb := tb) rfl (vec_rd (e := 5) (size := 1) (v := .slice p (lit + sp) c) (n := lit + sp) (cs := ints .u8 l) (by repeat (first | apply List.Mem.head | apply List.Mem.tail))) rfl rfl g256 rfl) ?_) | (apply gJR; first | (refine sx ?_; try intro _)) | (apply gJO; first | (refine sx ?_; try intro _)) | apply JS_seq | apply JS_region | refine JS_condF rfl ?_ | refine JS_cond_F rfl (by omega) ?_ | apply JS_skip)
  refine JS_order2 [] [0, 1, 2, 3, 5, 6, 7, 4, 8, 9] [] (fun w hw => St.sub (List.nil_sublist _) hw) (Picks.cons rfl (Picks.cons rfl (Picks.cons rfl (Picks.cons rfl (Picks.cons rfl (Picks.cons rfl (Picks.cons rfl (Picks.cons rfl (Picks.cons rfl (Picks.cons rfl (Picks.nil))))))))))) (by kernel_rfl) (by kernel_rfl) rfl (by decide +kernel) ?_
  repeat (first | (apply gQR2; apply QR2_un) | (apply gQO2; first | refine QO2_v rfl (V_slice (tb := tb) (lo := 0) (hi := lit) rfl rfl rfl rfl rfl (by rfl) (by rfl) (fun w hw => ⟨by omega, by omega⟩) rfl) ?_ | refine QO2_v rfl (V_slice (tb := tb) (lo := lit) (hi := lit + sp) rfl rfl rfl rfl rfl (by rfl) (by rfl) (fun w hw => ⟨by omega, by omega⟩) rfl) ?_ | refine aQ2 ?_))
  have e2 : lit + sp - lit = sp := by omega
  simp only [subB_0, Nat.sub_zero, e2]
  have hl1 : (l.take lit).length = lit := by rw [List.length_take]; omega
  have hl2 : (l.drop lit).length = sp := by rw [List.length_drop]; omega
  have ho1 : OKB (l.take lit) := Byt_take hol _
  have ho2 : OKB (l.drop lit) := Byt_drop hol _
  refine QO2_callE Try.call133 rfl rfl fun w hw => (Made_c p c lit (l.take lit) (by
    have := Rd_sub (lo := 0) (hi := lit) (sz := 1) (vec_rd (w0 := w0) (H := infL bf br q d m B lim a' po co o (vec 5 1 (.slice p (lit + sp) c) (lit + sp) (ints .u8 l) :: ([x1, x2, x3] ++ blk b6 (ints .u8 C) :: blk b5 (ints .i64 ordI) :: H))) (e := 5) (size := 1) (v := .slice p (lit + sp) c) (n := lit + sp) (cs := ints .u8 l) (by repeat (first | apply List.Mem.head | apply List.Mem.tail))) (by omega) (by omega)
    simp only [subB_0, Nat.sub_zero, Nat.zero_mul, Nat.mul_one, List.drop_zero, ints_take] at this
    exact this) hl1 ho1 (by omega) w hw).mono ?_
  rintro e w' (⟨hno, rfl, hw'⟩ | ⟨hyes1, b8, y1, y2, y3, rfl, hs8, hw'⟩)
  · refine .inr ⟨_, rfl, QK_e Try.func104 ?_⟩
    show resP _ _ _
    rw [if_pos hno]; exact ⟨rfl, (infL_drop hw').drop.drop.drop.drop.drop.drop⟩
  refine .inl ⟨_, rfl, [], _, hw', fun w hw => St.sub (List.nil_sublist _) hw, .inl fun w hw => hw, ?_⟩
  clear hw' hw w w'
  rw [if_neg (fun h => h hyes1)]
  repeat (first | (apply gQR2; apply QR2_un) | (apply gQO2; refine aQ2 ?_))
  refine QO2_callE Try.call133 rfl rfl fun w hw => (Made_c (subB p lit c 1) (c - lit) sp (l.drop lit) (by
    have := Rd_sub (lo := lit) (hi := lit + sp) (sz := 1) (vec_rd (w0 := w0) (H := y1 :: y2 :: y3 :: infL bf br q d m B lim a' po co o (vec 5 1 (.slice p (lit + sp) c) (lit + sp) (ints .u8 l) :: ([x1, x2, x3] ++ blk b6 (ints .u8 C) :: blk b5 (ints .i64 ordI) :: H))) (e := 5) (size := 1) (v := .slice p (lit + sp) c) (n := lit + sp) (cs := ints .u8 l) (by repeat (first | apply List.Mem.head | apply List.Mem.tail))) (by omega) (by omega)
    simp only [e2, Nat.mul_one, ints_drop, ints_take] at this
    rw [List.take_of_length_le (by omega)] at this
    exact this) hl2 ho2 (by omega) w hw).mono ?_
  rintro e w' (⟨hno, rfl, hw'⟩ | ⟨hyes2, b9, y4, y5, y6, rfl, hs9, hw'⟩)
  · refine .inr ⟨_, rfl, QK_e Try.func104 ?_⟩
    show resP _ _ _
    rw [if_pos hno]; exact ⟨rfl, (infL_drop hw'.drop.drop.drop).drop.drop.drop.drop.drop.drop⟩
  refine .inl ⟨_, rfl, [], _, hw', fun w hw => St.sub (List.nil_sublist _) hw, .inl fun w hw => hw, ?_⟩
  clear hw' hw w w'
  rw [if_neg (fun h => h hyes2)]
  repeat (first | (apply gQR2; apply QR2_un) | (apply gQO2; refine aQ2 ?_))
  refine QO2_callE Try.call132 rfl rfl fun w hw => (Blk_c hK a' ha' ho b8 b9 _ _ (hs8.sub (by repeat (first | exact List.nil_sublist _ | apply List.Sublist.cons_cons | apply List.Sublist.cons))) (hs9.sub (by repeat (first | exact List.nil_sublist _ | apply List.Sublist.cons_cons | apply List.Sublist.cons))) w (infL_ins [y4, y5, y6, y1, y2, y3] hw)).mono ?_
  rintro e w' ⟨r, hr, h⟩
  rw [itF_of hr]
  clear hr
  cases r with
  | err r =>
    obtain ⟨rfl, hw'⟩ := h
    exact .inr ⟨_, rfl, QK_e Try.func104 ⟨rfl, St.sub (by repeat (first | exact List.Sublist.refl _ | apply List.Sublist.cons_cons | apply List.Sublist.cons)) hw'⟩⟩
  | ok a2 o2 =>
  obtain ⟨h1, h2, rfl, p', c', hw'⟩ := h
  refine .inl ⟨_, rfl, [], _, hw', fun w hw => St.sub (List.nil_sublist _) hw, .inl fun w hw => hw, ?_⟩
  clear hw' hw w w'
  repeat (first | (apply gQR2; first | apply QR2_un | apply QR2_nil) | (apply gQO2; refine aQ2 ?_))
  refine JS_fin Try.func104 rfl rfl ?_
  intro w hw
  exact ⟨h1, h2, rfl, p', c', St.sub (by repeat (first | exact List.Sublist.refl _ | apply List.Sublist.cons_cons | apply List.Sublist.cons)) hw⟩
end
end Go.Proofs.Ytbiocgenbgbfpaa

namespace Go.Proofs.Ytbiocgenbgbfpaa
open Sx Go
set_option linter.unusedVariables false
set_option maxRecDepth 10000
set_option linter.unusedSimpArgs false
attribute [local irreducible] syA fc tk cds
section
variable {w0 : World} {H : List Asn}
theorem inv_fn {q : Nat} {cap args : Array Value} {w : World} (hc : ∀ args w, (callFunc q args).run Try.prog w = .ok (.enter q args) w) : (invoke (.fn (.func q) cap) args).run Try.prog w = .ok (.enter q (args ++ cap)) w := by
  simp only [invoke]
  simpa using hc (args ++ cap) w
/-- nothing is to be caught -/
theorem Catch_idle (be : Nat) (w : World) (hw : St w0 H w) :
    CallsD Try.prog 100 #[.pointer (some ⟨be, 0, none⟩)] .returning w fun e u' w' => u' = .returning ∧ e = .returned (.tuple #[]) ∧ St w0 H w' := by
  refine enterR (vs := [.pointer (some ⟨be, 0, none⟩)]) Try.func100 rfl rfl rfl rfl hw (.inl ⟨rfl, rfl, rfl⟩) ?_
  repeat (first | (apply gJO; refine JO_v (V_eqIN (tb := tb) rfl rfl rfl) ?_) | first | (refine sx ?_; try intro _))
  exact JS_fin Try.func100 rfl rfl fun w hw => ⟨rfl, hw⟩
/-- a fault is caught -/
theorem Catch_got (be : Nat) (r x : Int) (w : World) (hw : St w0 (blk be [.int .i64 x] :: H) w) :
    CallsD Try.prog 100 #[.pointer (some ⟨be, 0, none⟩)] (.panicking (FLT r)) w fun e u' w' => u' = .panicking [{ v := .iface 162 (.int .i64 r), recovered := true }] ∧ e = .returned (.tuple #[]) ∧ St w0 (blk be [.int .i64 r] :: H) w' := by
  refine enterR (vs := [.pointer (some ⟨be, 0, none⟩)]) Try.func100 rfl rfl rfl rfl hw (.inr ⟨[], rfl, rfl⟩) ?_
  repeat (first | (apply gJO; first | refine JO_v (V_eqIV (tb := tb) rfl rfl rfl) ?_ | refine JO_v (V_assertT (tb := tb) rfl rfl (by simp) rfl) ?_) | first | (refine sx ?_; try intro _))
  exact JS_fin Try.func100 rfl rfl fun w hw => ⟨rfl, hw⟩
/-- the last deferred call: an error leaves nothing -/
theorem Clos_ok (be bo bu : Nat) (u : FrameMode) (w : World) (hb : blk be [.int .i64 0] ∈ H) (hw : St w0 H w) :
    CallsD Try.prog 99 #[.pointer (some ⟨be, 0, none⟩), .pointer (some ⟨bo, 0, none⟩), .pointer (some ⟨bu, 0, none⟩)] u w fun e u' w' => u' = u ∧ e = .returned (.tuple #[]) ∧ St w0 H w' := by
  refine enterD (vs := [.pointer (some ⟨be, 0, none⟩), .pointer (some ⟨bo, 0, none⟩), .pointer (some ⟨bu, 0, none⟩)]) Try.func99 rfl rfl rfl hw ?_
  repeat (first | (apply gJO; refine JO_v (V_load (tb := tb) rfl hb rfl rfl rfl rfl) ?_) | first | (refine sx ?_; try intro _))
  exact JS_fin Try.func99 rfl rfl fun w hw => ⟨rfl, hw⟩
theorem Clos_err (be bo bu : Nat) (r x2 : Int) (v1 : Value) (hr : r ≠ 0) (hv : one v1) (u : FrameMode) (w : World) (hw : St w0 (blk be [.int .i64 r] :: blk bu [.int .i64 x2] :: blk bo [v1] :: H) w) :
    CallsD Try.prog 99 #[.pointer (some ⟨be, 0, none⟩), .pointer (some ⟨bo, 0, none⟩), .pointer (some ⟨bu, 0, none⟩)] u w fun e u' w' => u' = u ∧ e = .returned (.tuple #[]) ∧ St w0 (blk be [.int .i64 r] :: blk bu [.int .i64 0] :: blk bo [.slice none 0 0] :: H) w' := by
  refine enterD (vs := [.pointer (some ⟨be, 0, none⟩), .pointer (some ⟨bo, 0, none⟩), .pointer (some ⟨bu, 0, none⟩)]) Try.func99 rfl rfl rfl hw ?_
  repeat (first | (refine sx ?_; try intro _))
  exact JS_fin Try.func99 rfl rfl fun w hw => ⟨rfl, hw⟩
/-- the cells of the results -/
abbrev resC (be bu bo : Nat) (H : List Asn) : List Asn := blk be [.int .i64 0] :: blk bu [.int .i64 0] :: blk bo [.slice none 0 0] :: H
abbrev defs (be bu bo : Nat) : List Deferred := [⟨.fn (.func 100) #[], #[.pointer (some ⟨be, 0, none⟩)]⟩, ⟨.fn (.func 99) #[.pointer (some ⟨be, 0, none⟩), .pointer (some ⟨bo, 0, none⟩), .pointer (some ⟨bu, 0, none⟩)], #[]⟩]
/-- the way out when a reading was given up -/
theorem Lv_err {R : Ending → World → Prop} {n : Nat} {be bu bo : Nat} {r : Int} {a : Act} {D : List Deferred} (ha : Rep n D [(4, .pointer (some ⟨bo, 0, none⟩)), (5, .pointer (some ⟨bu, 0, none⟩)), (6, .pointer (some ⟨be, 0, none⟩))] a) {w : World} (hw : St w0 (resC be bu bo H) w)
    (hR : ∀ w, St w0 H w → R (.returned (.tuple #[.slice none 0 0, .int .i64 0, .int .i64 r])) w) : Leaves Try.prog Try.f62 a.tmps R (defs be bu bo) (.panicking (FLT r)) w := by
  refine leaves_cons (f := 100) (args := #[.pointer (some ⟨be, 0, none⟩)]) (by simp) (inv_fn Try.call100) ?_
  refine (Catch_got be r 0 w hw).mono ?_
  rintro e u' w' ⟨rfl, rfl, hw'⟩
  show Leaves _ _ _ _ _ (settle _) _
  rw [show settle (.panicking [{ v := .iface 162 (.int .i64 r), recovered := true }]) = .returning from rfl]
  refine leaves_cons (f := 99) (args := #[.pointer (some ⟨be, 0, none⟩), .pointer (some ⟨bo, 0, none⟩), .pointer (some ⟨bu, 0, none⟩)]) (by simp) (inv_fn Try.call99) ?_
  have fin : ∀ w, St w0 (blk be [.int .i64 r] :: blk bu [.int .i64 0] :: blk bo [.slice none 0 0] :: H) w → Leaves Try.prog Try.f62 a.tmps R [] .returning w := by
    intro w hw
    exact ⟨_, results_cells (tb := tb) (vs := [.slice none 0 0, .int .i64 0, .int .i64 r]) (ResV.one (tb := tb) rfl (by repeat (first | apply List.Mem.head | apply List.Mem.tail)) rfl rfl rfl (ResV.one (tb := tb) rfl (by repeat (first | apply List.Mem.head | apply List.Mem.tail)) rfl rfl rfl (ResV.one (tb := tb) rfl (by repeat (first | apply List.Mem.head | apply List.Mem.tail)) rfl rfl rfl ResV.nil))) ha hw, hR w hw.drop.drop.drop⟩
  by_cases hr : r = 0
  · subst hr
    refine (Clos_ok be bo bu .returning w' (List.Mem.head _) hw').mono ?_
    rintro e u' w'' ⟨rfl, rfl, hw''⟩
    exact fin w'' hw''
  · refine (Clos_err be bo bu r 0 (.slice none 0 0) hr rfl .returning w' hw').mono ?_
    rintro e u' w'' ⟨rfl, rfl, hw''⟩
    exact fin w'' hw''
/-- the way out when all went well -/
theorem Lv_ok {R : Ending → World → Prop} {n : Nat} {be bu bo : Nat} {x : Int} {v1 : Value} {a : Act} {D : List Deferred} (ha : Rep n D [(4, .pointer (some ⟨bo, 0, none⟩)), (5, .pointer (some ⟨bu, 0, none⟩)), (6, .pointer (some ⟨be, 0, none⟩))] a) {w : World} (hw : St w0 (blk be [.int .i64 0] :: blk bu [.int .i64 x] :: blk bo [v1] :: H) w)
    (hR : ∀ w, St w0 H w → R (.returned (.tuple #[v1, .int .i64 x, .int .i64 0])) w) : Leaves Try.prog Try.f62 a.tmps R (defs be bu bo) .returning w := by
  refine leaves_cons (f := 100) (args := #[.pointer (some ⟨be, 0, none⟩)]) (by simp) (inv_fn Try.call100) ?_
  refine (Catch_idle be w hw).mono ?_
  rintro e u' w' ⟨rfl, rfl, hw'⟩
  show Leaves _ _ _ _ _ (settle _) _
  rw [show settle .returning = .returning from rfl]
  refine leaves_cons (f := 99) (args := #[.pointer (some ⟨be, 0, none⟩), .pointer (some ⟨bo, 0, none⟩), .pointer (some ⟨bu, 0, none⟩)]) (by simp) (inv_fn Try.call99) ?_
  refine (Clos_ok be bo bu .returning w' (List.Mem.head _) hw').mono ?_
  rintro e u' w'' ⟨rfl, rfl, hw''⟩
  exact ⟨_, results_cells (tb := tb) (vs := [v1, .int .i64 x, .int .i64 0]) (ResV.one (tb := tb) rfl (by repeat (first | apply List.Mem.head | apply List.Mem.tail)) rfl rfl rfl (ResV.one (tb := tb) rfl (by repeat (first | apply List.Mem.head | apply List.Mem.tail)) rfl rfl rfl (ResV.one (tb := tb) rfl (by repeat (first | apply List.Mem.head | apply List.Mem.tail)) rfl rfl rfl ResV.nil))) ha hw'', hR w'' hw''.drop.drop.drop⟩
end
end Go.Proofs.Ytbiocgenbgbfpaa

namespace Go.Proofs.Ytbiocgenbgbfpaa
open Sx Go
set_option linter.unusedVariables false
set_option linter.unusedSimpArgs false
attribute [local irreducible] syA fc tk cds
theorem itF_ok {f : Nat → List Int → Stp} {a a' : Nat} {o o' : List Int} (h : itF f a o = .ok a' o') : It f a o (.ok a' o') := by
  unfold itF at h
  split at h
  · rename_i hex; rw [← h]; exact hex.choose_spec
  · cases h
theorem symS_ge {bt : Nat → Int} {N a a1 : Nat} {L : List Int} {i : Int} (h : symS bt N L a = .ok i a1) : a ≤ a1 := by
  unfold symS at h
  split at h
  · split at h
    · simp only [Sy.ok.injEq] at h; omega
    · cases h
  · cases h
theorem blk2_ge {bt : Nat → Int} {N lim a a' : Nat} {D o o' : List Int} {len : Int} (h : blk2 bt N lim D o len a = .go a' o') : a ≤ a' := by
  unfold blk2 at h
  split at h
  · cases h
  · rename_i d a2 hs
    have := symS_ge hs
    split at h
    · cases h
    · split at h
      · cases h
      · split at h
        · cases h
        · split at h
          · cases h
          · simp only [Stp.go.injEq] at h; omega
theorem blk2_stop {bt : Nat → Int} {N lim a a' : Nat} {D o o' : List Int} {len : Int} (h : blk2 bt N lim D o len a = .stop a' o') : False := by
  unfold blk2 at h
  split at h
  · cases h
  · split at h
    · cases h
    · split at h
      · cases h
      · split at h
        · cases h
        · split at h <;> cases h
theorem blkF_ge {bt : Nat → Int} {N lim a a' : Nat} {L D o o' : List Int} (h : blkF bt N lim L D a o = .go a' o' ∨ blkF bt N lim L D a o = .stop a' o') : a ≤ a' := by
  unfold blkF at h
  split at h
  · rcases h with h | h <;> cases h
  · rename_i i a1 hs
    have := symS_ge hs
    split at h
    · rcases h with h | h
      · cases h
      · simp only [Stp.stop.injEq] at h; omega
    · split at h
      · split at h
        · rcases h with h | h <;> cases h
        · rcases h with h | h
          · simp only [Stp.go.injEq] at h; omega
          · cases h
      · split at h
        · rcases h with h | h <;> cases h
        · split at h
          · rcases h with h | h <;> cases h
          · rcases h with h | h
            · have := blk2_ge h; omega
            · exact (blk2_stop h).elim
theorem It_ge {f : Nat → List Int → Stp} (hf : ∀ a o a' o', f a o = .go a' o' ∨ f a o = .stop a' o' → a ≤ a') {a : Nat} {o : List Int} {r : Res} (h : It f a o r) : ∀ a' o', r = .ok a' o' → a ≤ a' := by
  induction h with
  | err _ => intro a' o' h; cases h
  | stop h => intro a' o' h'; cases h'; exact hf _ _ _ _ (.inr h)
  | go h _ ih => intro a' o' h'; exact Nat.le_trans (hf _ _ _ _ (.inl h)) (ih a' o' h')
theorem lenP_ge {many : Nat} {l l' : List Int} {x t : Int} {a a' : Nat} (h : lenP many l x t a = .go a' l' ∨ lenP many l x t a = .stop a' l') : a = a' := by
  unfold lenP at h
  split at h
  · rcases h with h | h <;> cases h
  · rcases h with h | h
    · simp only [Stp.go.injEq] at h; exact h.1
    · cases h
theorem lenF_ge {bt : Nat → Int} {N a a' many : Nat} {C l l' : List Int} (h : lenF bt N C many a l = .go a' l' ∨ lenF bt N C many a l = .stop a' l') : a ≤ a' := by
  unfold lenF at h
  split at h
  · rcases h with h | h
    · cases h
    · simp only [Stp.stop.injEq] at h; omega
  · split at h
    · rcases h with h | h <;> cases h
    · rename_i i a1 hs
      have := symS_ge hs
      split at h
      · split at h
        · rcases h with h | h <;> cases h
        · split at h
          · rcases h with h | h <;> cases h
          · have := lenP_ge h; omega
      · split at h
        · split at h
          · rcases h with h | h <;> cases h
          · have := lenP_ge h; omega
        · split at h
          · split at h
            · rcases h with h | h <;> cases h
            · have := lenP_ge h; omega
          · have := lenP_ge h; omega
theorem kndF_ge {bt : Nat → Int} {N lim a a' : Nat} {o o' : List Int} {k : Int} (h : kndF bt N lim k a o = .ok a' o') : a ≤ a' := by
  unfold kndF at h
  split at h
  · unfold stoF at h
    split at h
    · cases h
    · split at h
      · cases h
      · split at h
        · cases h
        · split at h
          · cases h
          · split at h
            · cases h
            · simp only [Res.ok.injEq] at h
              have : a ≤ upto8 a := by unfold upto8; omega
              omega
  · split at h
    · exact It_ge (fun a o a' o' => blkF_ge) (itF_ok h) _ _ rfl
    · split at h
      · unfold desF at h
        split at h
        · cases h
        · split at h
          · cases h
          · split at h
            · cases h
            · unfold des1 at h
              split at h
              · cases h
              · split at h
                · cases h
                · split at h
                  · cases h
                  · split at h
                    · cases h
                    · rename_i a1 l1 hl1
                      have h1 := It_ge (fun a o a' o' => lenF_ge) (itF_ok hl1) _ _ rfl
                      unfold des2 at h
                      split at h
                      · cases h
                      · split at h
                        · cases h
                        · split at h
                          · cases h
                          · have := It_ge (fun a o a' o' => blkF_ge) (itF_ok h) _ _ rfl
                            omega
      · cases h
theorem perm5 (a b c d e : Asn) (L : List Asn) : (a :: b :: c :: d :: e :: L).Perm (d :: c :: a :: e :: b :: L) :=
  List.Perm.trans (List.perm_append_comm_assoc [a, b, c] [d] (e :: L)) (List.Perm.cons _ (List.Perm.trans (List.perm_append_comm_assoc [a, b] [c] (e :: L)) (List.Perm.cons _ (List.Perm.cons _ (List.Perm.swap _ _ _)))))
section
variable {w0 : World} {H : List Asn}
def kindC : List Value := [.func (.func 102) #[] #[], .func (.func 103) #[] #[], .func (.func 104) #[] #[]]
set_option maxRecDepth 10000 in
set_option maxHeartbeats 4000000 in
/-- a compressed stream is read -/
theorem IRead_c (p : Option Addr) (c m : Nat) (B : List Int) (hr : Rd w0 H (.slice p m c) m (ints .u8 B)) (hm : B.length = m) (hB : OKB B) (hm1 : m ≤ 140737488355328) (L : Int) (hL : -9223372036854775808 ≤ L ∧ L < 9223372036854775808) (w : World) (hw : St w0 H w) :
    Calls Try.prog 62 #[.slice p m c, .int .i64 L] w fun e w' => ((L < 0 ∨ 1048576 < L) ∧ e = .returned (.tuple #[.slice none 0 0, .int .i64 0, .int .i64 1]) ∧ St w0 H w') ∨
      (0 ≤ L ∧ L ≤ 1048576 ∧ ∃ r, ALLR B L.toNat r ∧ resP r (fun x => e = .returned (.tuple #[.slice none 0 0, .int .i64 0, .int .i64 x]) ∧ St w0 H w')
        (fun a o => a ≤ 8 * m ∧ o.length ≤ L.toNat ∧ ∃ p c, e = .returned (.tuple #[.slice p o.length c, .int .i64 ((a + 7) / 8 : Nat), .int .i64 0]) ∧ St w0 (vec 5 1 (.slice p o.length c) o.length (ints .u8 o) :: H) w')) := by
  refine enter (vs := [.slice p m c, .int .i64 L]) Try.func62 rfl rfl rfl hw ?_
  subst hm
  obtain ⟨m, hm⟩ : ∃ m, B.length = m := ⟨_, rfl⟩
  unfold ALLR
  rw [hm] at hr hm1 ⊢
  by_cases hbad : L < 0 ∨ 1048576 < L
  · have : (L < 0) ∨ (¬ L < 0 ∧ 1048576 < L) := by omega
    rcases this with h | ⟨h, h'⟩
    · repeat (first | (refine sx ?_; try intro _))
      exact JS_retC (tb := tb) (vs := [.slice none 0 0, .int .i64 0, .int .i64 1]) Try.func62 rfl (ResV.one (tb := tb) rfl (by repeat (first | apply List.Mem.head | apply List.Mem.tail)) rfl rfl rfl (ResV.one (tb := tb) rfl (by repeat (first | apply List.Mem.head | apply List.Mem.tail)) rfl rfl rfl (ResV.one (tb := tb) rfl (by repeat (first | apply List.Mem.head | apply List.Mem.tail)) rfl rfl rfl ResV.nil))) fun w hw => .inl ⟨hbad, rfl, hw.drop.drop.drop⟩
    · repeat (first | (refine sx ?_; try intro _))
      exact JS_retC (tb := tb) (vs := [.slice none 0 0, .int .i64 0, .int .i64 1]) Try.func62 rfl (ResV.one (tb := tb) rfl (by repeat (first | apply List.Mem.head | apply List.Mem.tail)) rfl rfl rfl (ResV.one (tb := tb) rfl (by repeat (first | apply List.Mem.head | apply List.Mem.tail)) rfl rfl rfl (ResV.one (tb := tb) rfl (by repeat (first | apply List.Mem.head | apply List.Mem.tail)) rfl rfl rfl ResV.nil))) fun w hw => .inl ⟨hbad, rfl, hw.drop.drop.drop⟩
  obtain ⟨lim, rfl⟩ : ∃ lim : Nat, L = lim := ⟨L.toNat, by omega⟩
  have hK : InfK m B lim := ⟨hm, hB, hm1, by omega⟩
  rw [Int.toNat_natCast]
  repeat (first | (apply gJR; first | (refine sx ?_; try intro _)) | (apply gJO; first | (refine JO_deferv rfl rfl rfl ?_) | (refine JO_defer rfl rfl ?_) | (refine JO_v (V_buildA (tb := tb) rfl rfl rfl rfl rfl) ?_) | first | (refine sx ?_; try intro _)) | apply JS_seq | apply JS_region | refine JS_condF rfl ?_ | refine JS_cond_F rfl (by omega) ?_ | apply JS_skip)
  rename_i bo bu be
  refine JO_call Try.call101 rfl rfl fun w hw => (New_c p c m B (Rd_weak hr fun w hw => St.sub (by repeat (first | exact List.Sublist.refl _ | apply List.Sublist.cons_cons | apply List.Sublist.cons)) hw) hm hB hm1 (hr.nil hw.drop.drop.drop) w hw).mono ?_
  rintro e w' ⟨br, q, d, rfl, hw'⟩
  refine ⟨_, rfl, _, hw', ?_⟩
  clear hw' hw w w'
  repeat (first | (apply gJR; first | (refine sx ?_; try intro _)) | (apply gJO; first | (refine JO_v (V_buildA (tb := tb) rfl rfl rfl rfl rfl) ?_) | first | (refine sx ?_; try intro _)) | apply JS_seq | apply JS_region)
  rename_i bf bk
  refine JS_block ?_
  refine JS_loop5 (fun (a : Nat) (o : List Int) (po : Option Addr) (co : Nat) (last : Int) => [(4, .pointer (some ⟨bo, 0, none⟩)), (5, .pointer (some ⟨bu, 0, none⟩)), (6, .pointer (some ⟨be, 0, none⟩)), (7, .pointer (some ⟨bf, 0, none⟩)), (8, .pointer (some ⟨bk, 0, none⟩)), (9, .int .i64 last)])
    (fun a o po co _ => infL bf br q d m B lim a po co o (blk bk kindC :: resC be bu bo H))
    (fun a o _ _ last => a ≤ 8 * m ∧ o.length ≤ lim ∧ ((last = 0 ∧ ∀ r, It (rdF (bitB B 0) (8 * m) lim) a o r → It (rdF (bitB B 0) (8 * m) lim) 0 [] r) ∨ (last ≠ 0 ∧ It (rdF (bitB B 0) (8 * m) lim) 0 [] (.ok a o))))
    (fun a _ _ _ _ => 8 * m - a) 0 [] none 0 0 ⟨Nat.zero_le _, Nat.zero_le _, .inl ⟨rfl, fun _ h => h⟩⟩ (by repeat (first | exact trivial | refine ⟨rfl, ?_⟩ | refine ⟨lookI rfl (by omega), ?_⟩)) ?_ ?_
  · intro w h
    exact (St.nilvec (e := 5) (sz := 1) (base := none) h).perm (perm5 _ _ _ _ _ _)
  intro a o po co last ⟨ha, ho, hinv⟩ again
  rcases hinv with ⟨rfl, hinv⟩ | ⟨hl0, hfin⟩
  · have hF : rdF (bitB B 0) (8 * m) lim a o = if 8 * m < a + 1 then .err 20
      else if 8 * m < a + 3 then .err 20
      else match kndF (bitB B 0) (8 * m) lim (nbt (bitB B 0) (a + 1) 2) (a + 3) o with
        | .err e => .err e
        | .ok a' o' => if nbt (bitB B 0) a 1 = 0 then .go a' o' else .stop a' o' := rfl
    obtain ⟨x1, hx1⟩ := Int.eq_ofNat_of_zero_le (nbt_bd (bitB B 0) (bitB_01 B 0) a 1).1
    have hb1 := (nbt_bd (bitB B 0) (bitB_01 B 0) a 1).2
    obtain ⟨k, hk⟩ := Int.eq_ofNat_of_zero_le (nbt_bd (bitB B 0) (bitB_01 B 0) (a + 1) 2).1
    have hb2 := (nbt_bd (bitB B 0) (bitB_01 B 0) (a + 1) 2).2
    rw [hx1] at hb1 hF
    rw [hk] at hb2 hF
    have hb1 : (x1 : Int) < 2 := hb1
    have hb2 : (k : Int) < 4 := hb2
    have err : ∀ {A : Act} {ov : Ov} {r : Int} {w' : World} {D : List Deferred}, It (rdF (bitB B 0) (8 * m) lim) 0 [] (.err r) → Rep Try.f62.ntmps D ov A → Sx.sub [(4, .pointer (some ⟨bo, 0, none⟩)), (5, .pointer (some ⟨bu, 0, none⟩)), (6, .pointer (some ⟨be, 0, none⟩))] ov → St w0 (blk bk kindC :: resC be bu bo H) w' →
        Leaves Try.prog Try.f62 A.tmps (fun e w' => (((lim : Int) < 0 ∨ 1048576 < (lim : Int)) ∧ e = .returned (.tuple #[.slice none 0 0, .int .i64 0, .int .i64 1]) ∧ St w0 H w') ∨
      (0 ≤ (lim : Int) ∧ (lim : Int) ≤ 1048576 ∧ ∃ r, It (rdF (bitB B 0) (8 * m) lim) 0 [] r ∧ resP r (fun x => e = .returned (.tuple #[.slice none 0 0, .int .i64 0, .int .i64 x]) ∧ St w0 H w')
        (fun a o => a ≤ 8 * m ∧ o.length ≤ lim ∧ ∃ p c, e = .returned (.tuple #[.slice p o.length c, .int .i64 ((a + 7) / 8 : Nat), .int .i64 0]) ∧ St w0 (vec 5 1 (.slice p o.length c) o.length (ints .u8 o) :: H) w'))) (defs be bu bo) (.panicking (FLT r)) w' := by
      intro A ov r w' D hi hA hs hw
      exact Lv_err (hA.sub hs) hw.drop fun w hw => .inr ⟨by omega, by omega, .err r, hi, rfl, hw⟩
    repeat (first | (refine sx ?_; try intro _))
    refine JO_callE Try.func62 Try.call105 rfl rfl fun A hA w hw => (Grp_c hK a 1 (by omega) ha w hw).mono ?_
    rintro e w' (⟨h, rfl, hw'⟩ | ⟨h1, he, hw'⟩)
    · exact .inr ⟨_, rfl, err (hinv _ (.err (by rw [hF, if_pos h]))) hA (by repeat (first | exact trivial | refine ⟨rfl, ?_⟩ | refine ⟨lookI rfl (by omega), ?_⟩)) hw'⟩
    rw [hx1] at he; subst he
    refine .inl ⟨_, rfl, _, hw', ?_⟩
    clear hw' hw w w' hA A
    rw [if_neg (by omega)] at hF
    repeat (first | (refine sx ?_; try intro _))
    refine JO_callE Try.func62 Try.call105 rfl rfl fun A hA w hw => (Grp_c hK (a + 1) 2 (by omega) h1 w hw).mono ?_
    rintro e w' (⟨h, rfl, hw'⟩ | ⟨h2, he, hw'⟩)
    · exact .inr ⟨_, rfl, err (hinv _ (.err (by rw [hF, if_pos (by omega)]))) hA (by repeat (first | exact trivial | refine ⟨rfl, ?_⟩ | refine ⟨lookI rfl (by omega), ?_⟩)) hw'⟩
    rw [hk] at he; subst he
    refine .inl ⟨_, rfl, _, hw', ?_⟩
    clear hw' hw w w' hA A
    rw [if_neg (by omega)] at hF
    have hgo : ∀ a' o', kndF (bitB B 0) (8 * m) lim k (a + 3) o = .ok a' o' → a' ≤ 8 * m → o'.length ≤ lim → (a' ≤ 8 * m ∧ o'.length ≤ lim ∧ (((x1 : Int) = 0 ∧ ∀ r, It (rdF (bitB B 0) (8 * m) lim) a' o' r → It (rdF (bitB B 0) (8 * m) lim) 0 [] r) ∨ ((x1 : Int) ≠ 0 ∧ It (rdF (bitB B 0) (8 * m) lim) 0 [] (.ok a' o')))) ∧ 8 * m - a' < 8 * m - a := by
      intro a' o' hkn h3 h4
      have hge := kndF_ge hkn
      rw [hkn] at hF
      simp only at hF
      refine ⟨⟨h3, h4, ?_⟩, by omega⟩
      by_cases h0 : (x1 : Int) = 0
      · rw [if_pos h0] at hF
        exact .inl ⟨h0, fun r hr => hinv r (.go hF hr)⟩
      · rw [if_neg h0] at hF
        exact .inr ⟨h0, hinv _ (.stop hF)⟩
    have herr : ∀ r, kndF (bitB B 0) (8 * m) lim k (a + 3) o = .err r → It (rdF (bitB B 0) (8 * m) lim) 0 [] (.err r) := by
      intro r hkn
      rw [hkn] at hF
      exact hinv _ (.err hF)
    clear hF hinv
    rcases (show k = 0 ∨ k = 1 ∨ k = 2 ∨ k = 3 by omega) with rfl | rfl | rfl | rfl
    · repeat (first | (refine sx ?_; try intro _))
      refine JO_callvE (us := []) (cs := []) Try.func62 rfl Try.call102 rfl rfl fun A hA w hw => (Sto_c hK (a + 3) (by omega) ho w hw).mono ?_
      intro e w' h
      obtain ⟨r, hr⟩ : ∃ r, stoF (bitB B 0) (8 * m) lim (a + 3) o = r := ⟨_, rfl⟩
      rw [hr] at h
      cases r with
      | err r =>
        obtain ⟨rfl, hw'⟩ := h
        exact .inr ⟨_, rfl, err (herr r hr) hA (by repeat (first | exact trivial | refine ⟨rfl, ?_⟩ | refine ⟨lookI rfl (by omega), ?_⟩)) hw'⟩
      | ok a' o' =>
      obtain ⟨h3, h4, rfl, p', c', hw'⟩ := h
      obtain ⟨g1, g2⟩ := hgo a' o' hr h3 h4
      refine .inl ⟨_, rfl, _, hw', ?_⟩
      clear hw' hw w w' hA A
      repeat (first | (refine sx ?_; try intro _))
      exact JS_again5 again a' o' p' c' x1 g1 g2 (by repeat (first | exact trivial | refine ⟨rfl, ?_⟩ | refine ⟨lookI rfl (by omega), ?_⟩)) (fun w hw => hw)
    · repeat (first | (refine sx ?_; try intro _))
      refine JO_callvE (us := []) (cs := []) Try.func62 rfl Try.call103 rfl rfl fun A hA w hw => (Fix_c hK (a + 3) (by omega) ho w hw).mono ?_
      rintro e w' ⟨r, hr, h⟩
      cases r with
      | err r =>
        obtain ⟨rfl, hw'⟩ := h
        exact .inr ⟨_, rfl, err (herr r (itF_of hr)) hA (by repeat (first | exact trivial | refine ⟨rfl, ?_⟩ | refine ⟨lookI rfl (by omega), ?_⟩)) hw'⟩
      | ok a' o' =>
      obtain ⟨h3, h4, rfl, p', c', hw'⟩ := h
      obtain ⟨g1, g2⟩ := hgo a' o' (itF_of hr) h3 h4
      refine .inl ⟨_, rfl, _, hw', ?_⟩
      clear hw' hw w w' hA A
      repeat (first | (refine sx ?_; try intro _))
      exact JS_again5 again a' o' p' c' x1 g1 g2 (by repeat (first | exact trivial | refine ⟨rfl, ?_⟩ | refine ⟨lookI rfl (by omega), ?_⟩)) (fun w hw => hw)
    · repeat (first | (refine sx ?_; try intro _))
      refine JO_callvE (us := []) (cs := []) Try.func62 rfl Try.call104 rfl rfl fun A hA w hw => (Des_c hK (a + 3) (by omega) ho w hw).mono ?_
      intro e w' h
      obtain ⟨r, hr⟩ : ∃ r, desF (bitB B 0) (8 * m) lim (a + 3) o = r := ⟨_, rfl⟩
      rw [hr] at h
      cases r with
      | err r =>
        obtain ⟨rfl, hw'⟩ := h
        exact .inr ⟨_, rfl, err (herr r hr) hA (by repeat (first | exact trivial | refine ⟨rfl, ?_⟩ | refine ⟨lookI rfl (by omega), ?_⟩)) hw'⟩
      | ok a' o' =>
      obtain ⟨h3, h4, rfl, p', c', hw'⟩ := h
      obtain ⟨g1, g2⟩ := hgo a' o' hr h3 h4
      refine .inl ⟨_, rfl, _, hw', ?_⟩
      clear hw' hw w w' hA A
      repeat (first | (refine sx ?_; try intro _))
      exact JS_again5 again a' o' p' c' x1 g1 g2 (by repeat (first | exact trivial | refine ⟨rfl, ?_⟩ | refine ⟨lookI rfl (by omega), ?_⟩)) (fun w hw => hw)
    · repeat (first | (refine sx ?_; try intro _))
      refine JO_callE Try.func62 Try.call106 rfl rfl fun A hA w hw => (Give_c 60 w hw).mono ?_
      rintro e w' (⟨h, rfl, hw'⟩ | ⟨_, rfl, hw'⟩)
      · exact absurd h (by decide)
      · exact .inr ⟨_, rfl, err (herr 60 rfl) hA (by repeat (first | exact trivial | refine ⟨rfl, ?_⟩ | refine ⟨lookI rfl (by omega), ?_⟩)) (infL_drop hw')⟩
  · clear again
    repeat (first | (apply gJR; first | (refine sx ?_; try intro _)) | (apply gJO; first | (refine sx ?_; try intro _)) | apply JS_seq | apply JS_region | apply JS_skip | apply JS_block | apply JS_inBlock | refine JS_exit rfl ?_ | refine JS_condF rfl ?_)
    refine JS_order2 (infL bf br q d m B lim a po co o []) [0, 1, 2, 3, 4, 5, 6, 7, 8, 9, 10, 11, 12, 13] [] (fun w hw => St.sub (by repeat (first | exact List.nil_sublist _ | apply List.Sublist.cons_cons | apply List.Sublist.cons)) hw) (Picks.cons rfl (Picks.cons rfl (Picks.cons rfl (Picks.cons rfl (Picks.cons rfl (Picks.cons rfl (Picks.cons rfl (Picks.cons rfl (Picks.cons rfl (Picks.cons rfl (Picks.cons rfl (Picks.cons rfl (Picks.cons rfl (Picks.cons rfl (Picks.nil))))))))))))))) (by kernel_rfl) (by kernel_rfl) rfl (by decide +kernel) ?_
    repeat (first | (apply gQR2; apply QR2_un) | (apply gQO2; refine aQ2 ?_))
    refine QO2_callE Try.call107 rfl rfl fun w hw => (ReaderAt_c br _ a (by repeat (first | apply List.Mem.head | apply List.Mem.tail)) w hw).mono ?_
    rintro e w' ⟨rfl, hw'⟩
    refine .inl ⟨_, rfl, _, _, hw', fun w hw => St.sub (by repeat (first | exact List.nil_sublist _ | apply List.Sublist.cons_cons | apply List.Sublist.cons)) hw, .inl fun w hw => hw, ?_⟩
    clear hw' hw w w'
    repeat (first | (apply gQR2; first | apply QR2_un | apply QR2_nil) | (apply gQO2; first | refine aQ2 ?_ | (refine aK2 ?_ ?_; exact fun w hw => St.sub (by repeat (first | exact List.nil_sublist _ | apply List.Sublist.cons_cons | apply List.Sublist.cons)) hw)))
    have hx : ((a : Int) + 7) / 8 = (((a + 7) / 8 : Nat) : Int) := by omega
    simp only [hx]
    refine JS_retD Try.func62 fun A w hA hw => Lv_ok (H := vec 5 1 (.slice po o.length co) o.length (ints .u8 o) :: H) (hA.sub (by repeat (first | exact trivial | refine ⟨rfl, ?_⟩ | refine ⟨lookI rfl (by omega), ?_⟩))) (St.perm (H := vec 5 1 (.slice po o.length co) o.length (ints .u8 o) :: blk be [.int .i64 0] :: blk bu [.int .i64 ((a + 7) / 8 : Nat)] :: blk bo [.slice po o.length co] :: H) (St.sub (by repeat (first | exact List.Sublist.refl _ | apply List.Sublist.cons_cons | apply List.Sublist.cons)) hw) (List.perm_append_comm_assoc [_] [_, _, _] H)) fun w hw => ?_
    exact .inr ⟨by omega, by omega, .ok a o, hfin, ha, ho, po, co, rfl, hw⟩
end
end Go.Proofs.Ytbiocgenbgbfpaa

namespace Go.Proofs.Ytbiocgenbgbfpaa
open Sx Go
set_option linter.unusedVariables false
set_option linter.unusedSimpArgs false
attribute [local irreducible] syA
theorem V_eqStr1 {n : Nat} {D : List Deferred} {w0 : World} {ov : Ov} {H : List Asn} {d : Option Nat} {T T1 T2 : Nat} {pos : String} {af : Array Edge} {g : Option (Nat × Bool)} {x y : Operand} {s : ByteArray}
    (hx : ev ov x = some (.string s)) (hy : ev ov y = some (.string s)) (hd : dOk d n = true) : OpV Try.prog n D w0 ov H ⟨d, .binOp .eql T1 x y T2, T, pos, af, g⟩ (.bool true) := by
  unfold OpV
  exact ⟨hd, fun a w ha _ => by simp [execOp, ha.ev hx, ha.ev hy, eqGuard, binOp, Op.stringOp]⟩
theorem nil_rd {w0 : World} {H : List Asn} : Rd w0 H (.slice none 0 0) 0 (ints .u8 []) := by
  unfold Rd
  exact fun w hw => ⟨⟨none, 0, rfl, fun _ => rfl, Nat.le_refl _⟩, fun j v hv => by simp [ints] at hv⟩
theorem ALLR.one {B : List Int} {lim : Nat} {r r' : Res} (h : ALLR B lim r) (h' : ALLR B lim r') : r = r' := It.one h h'
/-! the document's examples -/
theorem exa1 : ALLR [3, 0] 9 (.ok 10 []) := by
  have hsy : symS (bitB [3, 0] 0) 16 (tab 288 fixF) 3 = .ok 256 10 := by
    have h := symS_of (bt := bitB [3, 0] 0) (N := 16) (a := 3) fix_okb fix_okl (bitB_01 _ _) (i := 256) (u := 7) (r := 0)
      (.inl ⟨256, rfl, rfl, ⟨7, by decide +kernel, by decide, by decide +kernel, by decide, by decide +kernel⟩, by decide +kernel⟩)
    rw [if_pos rfl] at h
    exact h
  have hb : blkF (bitB [3, 0] 0) 16 9 (tab 288 fixF) (List.replicate 32 5) 3 [] = .stop 10 [] := by
    unfold blkF; rw [hsy]; rfl
  have hk : kndF (bitB [3, 0] 0) 16 9 1 3 [] = .ok 10 [] := itF_of (.stop hb)
  refine .stop ?_
  show rdF (bitB [3, 0] 0) 16 9 0 [] = _
  unfold rdF
  rw [if_neg (by decide), if_neg (by decide), show nbt (bitB [3, 0] 0) (0 + 1) 2 = 1 by decide +kernel, show (0 + 3) = 3 from rfl, hk]
  simp only
  rw [if_neg (by decide +kernel)]
theorem exa2 : ALLR [1, 1, 0, 254, 255, 97] 9 (.ok 48 [97]) := by
  have hk : kndF (bitB [1, 1, 0, 254, 255, 97] 0) 48 9 0 3 [] = .ok 48 [97] := by
    unfold kndF
    rw [if_pos rfl]
    unfold stoF
    rw [show nbt (bitB [1, 1, 0, 254, 255, 97] 0) (upto8 3) 16 = 1 by decide +kernel, show nbt (bitB [1, 1, 0, 254, 255, 97] 0) (upto8 3 + 16) 16 = 65534 by decide +kernel,
      if_neg (by decide), if_neg (by decide), if_neg (by decide), if_neg (by decide), if_neg (by decide)]
    have : byts (bitB [1, 1, 0, 254, 255, 97] 0) (upto8 3 + 32) (1 : Int).toNat = [97] := by decide +kernel
    rw [this]; rfl
  refine .stop ?_
  show rdF (bitB [1, 1, 0, 254, 255, 97] 0) 48 9 0 [] = _
  unfold rdF
  rw [if_neg (by decide), if_neg (by decide), show nbt (bitB [1, 1, 0, 254, 255, 97] 0) (0 + 1) 2 = 0 by decide +kernel, show (0 + 3) = 3 from rfl, hk]
  simp only
  rw [if_neg (by decide +kernel)]
theorem exa3 : ALLR [7] 9 (.err 60) := by
  refine .err ?_
  show rdF (bitB [7] 0) 8 9 0 [] = _
  unfold rdF
  rw [if_neg (by decide), if_neg (by decide), show nbt (bitB [7] 0) (0 + 1) 2 = 3 by decide +kernel]
  rfl
theorem okb_small {B : List Int} (h : B.all (fun x => decide (0 ≤ x ∧ x < 256)) = true) : OKB B := OKB_of h
section
variable {w0 : World} {H : List Asn}
/-- inflate.Read where its answer is known -/
theorem IRead_ok (p : Option Addr) (c m : Nat) (B : List Int) (hr : Rd w0 H (.slice p m c) m (ints .u8 B)) (hm : B.length = m) (hB : OKB B) (hm1 : m ≤ 140737488355328) (lim : Nat) (hlim : lim ≤ 1048576) {a : Nat} {o : List Int} (hA : ALLR B lim (.ok a o)) (w : World) (hw : St w0 H w) :
    Calls Try.prog 62 #[.slice p m c, .int .i64 lim] w fun e w' => ∃ p c, e = .returned (.tuple #[.slice p o.length c, .int .i64 ((a + 7) / 8 : Nat), .int .i64 0]) ∧ St w0 (vec 5 1 (.slice p o.length c) o.length (ints .u8 o) :: H) w' := by
  refine (IRead_c p c m B hr hm hB hm1 lim (by omega) w hw).mono ?_
  rintro e w' (⟨h, _⟩ | ⟨_, _, r, h, hp⟩)
  · omega
  · rw [Int.toNat_natCast] at h
    rw [h.one hA] at hp
    obtain ⟨_, _, p, c, h1, h2⟩ := hp
    exact ⟨p, c, h1, h2⟩
theorem IRead_err (p : Option Addr) (c m : Nat) (B : List Int) (hr : Rd w0 H (.slice p m c) m (ints .u8 B)) (hm : B.length = m) (hB : OKB B) (hm1 : m ≤ 140737488355328) (lim : Nat) (hlim : lim ≤ 1048576) {x : Int} (hA : ALLR B lim (.err x)) (w : World) (hw : St w0 H w) :
    Calls Try.prog 62 #[.slice p m c, .int .i64 lim] w fun e w' => e = .returned (.tuple #[.slice none 0 0, .int .i64 0, .int .i64 x]) ∧ St w0 H w' := by
  refine (IRead_c p c m B hr hm hB hm1 lim (by omega) w hw).mono ?_
  rintro e w' (⟨h, _⟩ | ⟨_, _, r, h, hp⟩)
  · omega
  · rw [Int.toNat_natCast] at h
    rw [h.one hA] at hp
    exact hp
end
end Go.Proofs.Ytbiocgenbgbfpaa

set_option linter.unusedVariables false
set_option linter.unusedSimpArgs false
namespace Sx
open Go
/-! a slice's cells that a string shares: they are read, never written -/
def RoIn (e size : Nat) (v : Value) (n : Nat) (cs : List Value) (w : World) (fp : List Nat) : Prop :=
  cs.length = n * size ∧ ∃ g cap cur fr, v = .slice (some ⟨g, 0, none⟩) n cap ∧ fp = [g] ∧ w.heap[g]? = some (.cells cur e fr) ∧ n ≤ cap ∧ cur.size = cap * size ∧ cur.toList.take (n * size) = cs
@[irreducible] def roV (e size : Nat) (v : Value) (n : Nat) (cs : List Value) : Asn where
  holds := RoIn e size v n cs
  frame w w' fp h hk := by
    obtain ⟨h1, g, cap, cur, fr, h3, rfl, h4, h5⟩ := h
    exact ⟨h1, g, cap, cur, fr, h3, rfl, by rw [hk g (by simp)]; exact h4, h5⟩
  live w fp h b hb := by
    obtain ⟨h1, g, cap, cur, fr, h3, rfl, h4, h5⟩ := h
    simp at hb; subst hb; exact (Array.getElem?_eq_some_iff.1 h4).1
theorem roV_holds {e size v n cs w fp} : (roV e size v n cs).holds w fp ↔ RoIn e size v n cs w fp := by unfold roV; exact Iff.rfl
theorem roV_rd {w0 H e size v n cs} (h : roV e size v n cs ∈ H) : Rd w0 H v n cs := by
  unfold Rd
  intro w hw
  obtain ⟨f, hf⟩ := hw.mem h
  rw [roV_holds] at hf
  obtain ⟨h1, g, cap, cur, fr, rfl, rfl, hg, hn, hs, ht⟩ := hf
  refine ⟨⟨_, cap, rfl, (fun h => nomatch h), hn⟩, fun j u hu => ⟨⟨g, j, none⟩, by simp [cellPtr_eq, add_blk], ?_⟩⟩
  have hc : w.cell? ⟨g, j, none⟩ = cur[j]? := by simp [World.cell?, hg]
  rw [hc]
  rw [← ht, List.getElem?_take] at hu
  split at hu
  · simpa using hu
  · cases hu
theorem E_convSl {P : Program} {n : Nat} {D : List Deferred} {w0 : World} {ov : Ov} {H : List Asn} {d : Option Nat} {T : Nat} {pos : String} {af : Array Edge} {g : Option (Nat × Bool)} {x : Operand} {tb : Tb P} {T1 e s1 b1 s2 b2 m : Nat} {z1 z2 : Option (List Value)} {u : Value} {cs : List Value} {F : Asn → List Asn}
    (hx : ev ov x = some u) (h1 : tlook tb.l T1 = some ⟨.slice e, s1, b1, z1⟩) (h2 : tlook tb.l e = some ⟨.int .u8, s2, b2, z2⟩) (hu : Sel H (vec e 1 u m cs) F) (hm : 0 < m) (hd : dOk d n = true) :
    OpE (ι := Unit) P n D w0 ov H ⟨d, .convert T1 T1 x, T, pos, af, g⟩ (fun _ => u) (fun _ => F (roV e 1 u m cs)) := by
  unfold OpE
  refine ⟨hd, fun A w ha hw => ?_⟩
  obtain ⟨fp, hfp⟩ := hw.mem hu.mem
  rw [vec_holds] at hfp
  rcases hfp.2 with ⟨base, rfl, rfl, _⟩ | ⟨gb, cap, cur, rfl, _, hg, hn, hcm, hsz, ht⟩
  · omega
  · have hlt := (Array.getElem?_eq_some_iff.1 hg).1
    have hsh : w.shape? gb = some (e, cur.size) := by simp [World.shape?, hg]
    refine ⟨(), w.freeze ⟨gb, cur.size, none⟩ 1, ?_, ?_⟩
    · simp [execOp, ha.ev hx, convert, run_underlying (und_slice h1), run_underlying (und_int h2), markStringish, shape, freeze, Sem.run, hsh]
    · have hheap : (w.freeze ⟨gb, cur.size, none⟩ 1).heap[gb]? = some (.cells cur e (cur.size, cur.size + 1)) := by
        simp [World.freeze, Array.getElem?_modify, hg]
      refine hw.upd (hu.upd _) (by simp [World.freeze]) (by simp [World.freeze]) (by simp [World.freeze]) (by simp [World.freeze]) fun f1 hf1 => ?_
      rw [vec_holds] at hf1
      rcases hf1.2 with ⟨base, hb, _⟩ | ⟨g', cap', cur', hv', hfq, hg', _⟩
      · simp at hb; omega
      · simp at hv'
        obtain ⟨rfl, rfl⟩ := hv'
        subst hfq
        refine ⟨fun b hb hne => ?_, [gb], by simp, by simp, roV_holds.2 ⟨hfp.1, gb, cap, cur, _, rfl, rfl, hheap, hn, hsz, ht⟩⟩
        have : gb ≠ b := fun h => hne (by simp [h])
        simp [World.freeze, Array.getElem?_modify, this]
end Sx

set_option linter.unusedVariables false
set_option linter.unusedSimpArgs false
namespace Go.Proofs.Ytbiocgenbgbfpaa
open Sx Go
/-- the shorter one of both -/
def bestB (B : List Int) : List Int := if (sbs B).length < (pack (fixL B)).length then sbs B else pack (fixL B)
theorem ex_fix : pack (fixL [97]) = [75, 4, 0] := by decide +kernel
theorem ex_sto : sbs [97] = [1, 1, 0, 254, 255, 97] := by decide +kernel
theorem ex_best : bestB [] = [3, 0] := by decide +kernel
theorem ex_len : lenS 11 = (265, 1, 0) := by decide +kernel
theorem ex_span : spanS 7 = (5, 1, 0) := by decide +kernel
section
attribute [local irreducible] sbs pack fixL
variable {w0 : World} {H : List Asn}
set_option maxRecDepth 10000 in
theorem DBest_c (p : Option Addr) (c m : Nat) (B : List Int) (hr : Rd w0 H (.slice p m c) m (ints .u8 B)) (hm : B.length = m) (hB : OKB B) (h4 : m ≤ 100000) (w : World) (hw : St w0 H w) :
    Calls Try.prog 28 #[.slice p m c] w fun e w' => ∃ q d, e = .returned (.slice q (bestB B).length d) ∧ St w0 (vec 5 1 (.slice q (bestB B).length d) (bestB B).length (ints .u8 (bestB B)) :: H) w' := by
  refine enter (vs := [.slice p m c]) Try.func28 rfl rfl rfl hw ?_
  clear hw w
  repeat (first | (refine sx ?_; try intro _))
  refine JO_call Try.call51 rfl rfl fun w hw => (DFixed_c p c m B hr hm hB h4 w hw).mono ?_
  rintro e w' ⟨q1, d1, rfl, hw'⟩
  refine ⟨_, rfl, _, hw', ?_⟩
  clear hw' hw w w'
  repeat (first | (refine sx ?_; try intro _))
  refine JO_call Try.call52 rfl rfl fun w hw => (DStored_c p c m B (Rd_weak hr fun w hw => St.sub (by repeat (first | exact List.Sublist.refl _ | apply List.Sublist.cons_cons | apply List.Sublist.cons)) hw) hm hB h4 w hw).mono ?_
  rintro e w' ⟨q2, d2, rfl, hw'⟩
  refine ⟨_, rfl, _, hw', ?_⟩
  clear hw' hw w w'
  unfold bestB
  by_cases hlt : (sbs B).length < (pack (fixL B)).length
  · rw [if_pos hlt]
    repeat (first | (refine sx ?_; try intro _))
    exact JS_ret Try.func28 rfl rfl fun w hw => ⟨q2, d2, rfl, St.sub (by repeat (first | exact List.Sublist.refl _ | apply List.Sublist.cons_cons | apply List.Sublist.cons)) hw⟩
  · rw [if_neg hlt]
    repeat (first | (refine sx ?_; try intro _))
    exact JS_ret Try.func28 rfl rfl fun w hw => ⟨q1, d1, rfl, St.sub (by repeat (first | exact List.Sublist.refl _ | apply List.Sublist.cons_cons | apply List.Sublist.cons)) hw⟩
end
end Go.Proofs.Ytbiocgenbgbfpaa

namespace Go.Proofs.Ytbiocgenbgbfpaa
open Sx Go
set_option linter.unusedVariables false
set_option linter.unusedSimpArgs false
attribute [local irreducible] syA fc tk cds grp cw pack descB dscL rv tkv tkS wrS
/-- a text of at most 300 bytes -/
def txt (B : List Int) (wide : Bool) : List Int := (B.take 300).map fun x => if wide then x else x % 3
theorem txt_okb {B : List Int} (hB : OKB B) (wide : Bool) : OKB (txt B wide) := fun j => by
  unfold txt
  rw [List.getD_eq_getElem?_getD, List.getElem?_map]
  cases h : (B.take 300)[j]? with
  | none => simp
  | some x =>
    have hx : B[j]? = some x := by
      rw [List.getElem?_take] at h
      split at h
      · exact h
      · cases h
    have := hB j
    rw [List.getD_eq_getElem?_getD, hx, Option.getD_some] at this
    rw [Option.map_some, Option.getD_some]
    split <;> omega
theorem txt_len (B : List Int) (wide : Bool) : (txt B wide).length ≤ 300 := by
  unfold txt; rw [List.length_map, List.length_take]; omega
/-- the shorter of the two ways -/
def sqB (B : List Int) : List Int := if (pack (dscL B)).length < (bestB B).length then pack (dscL B) else bestB B
section
variable {w0 : World} {H : List Asn}
set_option maxRecDepth 10000 in
set_option maxHeartbeats 2000000 in
theorem Text29_c (p : Option Addr) (c m : Nat) (B : List Int) (wide : Bool) (hr : Rd w0 H (.slice p m c) m (ints .u8 B)) (hm : B.length = m) (hB : OKB B) (hmx : m ≤ 140737488351232) (w : World) (hw : St w0 H w) :
    Calls Try.prog 26 #[.slice p m c, .bool wide] w fun e w' => ∃ q d, e = .returned (.slice q (txt B wide).length d) ∧ St w0 (vec 5 1 (.slice q (txt B wide).length d) (txt B wide).length (ints .u8 (txt B wide)) :: H) w' := by
  refine enter (vs := [.slice p m c, .bool wide]) Try.func26 rfl rfl rfl hw ?_
  clear hw w
  repeat (first | (refine sx ?_; try intro _))
  refine JS_loop3 (fun (i : Nat) (q : Option Addr) (d : Nat) => [(0, .slice p m c), (1, .bool wide), (5, .slice q i d), (6, .int .i64 i)]) (fun i q d => vec 5 1 (.slice q i d) i (ints .u8 ((B.take i).map fun x => if wide then x else x % 3)) :: H) (fun i q d => i ≤ m ∧ i ≤ 300) (fun i _ _ => m - i) 0 none 0 ⟨Nat.zero_le _, by omega⟩ (by repeat (first | exact trivial | refine ⟨rfl, ?_⟩ | refine ⟨lookI rfl (by omega), ?_⟩)) (fun w h => St.nilvec h) ?_
  intro i q d ⟨hi, hi3⟩ again
  by_cases hstop : i < m ∧ i < 300
  · have gB : (ints .u8 B)[i]? = some (.int .u8 (B.getD i 0)) := ints_get (by omega)
    have hb := hB i
    have hgi : B[i]? = some (B.getD i 0) := by rw [List.getD_eq_getElem?_getD, List.getElem?_eq_getElem (by omega)]; rfl
    obtain ⟨x, hx⟩ : ∃ x, B.getD i 0 = x := ⟨_, rfl⟩
    rw [hx] at gB hb hgi
    have htl : ((B.take i).map fun x => if wide then x else x % 3).length = i := by rw [List.length_map, List.length_take]; omega
    have hts : ((B.take (i + 1)).map fun x => if wide then x else x % 3) = ((B.take i).map fun x => if wide then x else x % 3) ++ [if wide then x else x % 3] := by
      rw [List.take_add_one, hgi, List.map_append]; rfl
    cases wide
    all_goals
      repeat (first | (apply gJO; refine JO_v (oL (V_loadC (tb := tb) rfl (Rd_weak hr fun w hw => St.sub (by repeat (first | exact List.Sublist.refl _ | apply List.Sublist.cons_cons | apply List.Sublist.cons)) hw) rfl rfl gB rfl)) ?_) | (apply gJO; (refine JO_app (tb := tb) rfl rfl rfl rfl rfl rfl (by repeat (first | exact Sel.here _ _ | apply Sel.there)) (by first | exact vec_rd (by repeat (first | apply List.Mem.head | apply List.Mem.tail)) | assumption | exact ArgRd.rd (by assumption) _ | (apply Rd_weak; assumption; intro _ hx; exact St.sub (by repeat (first | exact List.Sublist.refl _ | apply List.Sublist.cons_cons | apply List.Sublist.cons)) hx)) (by simp only [ints_len, List.length_cons, List.length_nil]; first | omega | rfl) (by first | exact ints_one | (repeat (first | exact trivial | refine ⟨rfl, ?_⟩))) (by omega) rfl ?_; intro _ _)) | (first | (refine sx ?_; try intro _)))
      rename_i ps q2 d2
      exact JS_again3 again (i + 1) q2 d2 ⟨by omega, by omega⟩ (by omega) (by repeat (first | exact trivial | refine ⟨rfl, ?_⟩ | refine ⟨lookI rfl (by omega), ?_⟩)) (fun w hw => by rw [hts, ← ints_app]; exact St.sub (by repeat (first | exact List.Sublist.refl _ | apply List.Sublist.cons_cons | apply List.Sublist.cons)) hw)
  · clear again
    have hfin : ((B.take i).map fun x => if wide then x else x % 3) = txt B wide := by
      unfold txt
      rcases (show i = m ∨ i = 300 by omega) with h | h
      · rw [List.take_of_length_le (by omega), List.take_of_length_le (by omega)]
      · rw [h]
    have hlf : (txt B wide).length = i := by rw [← hfin, List.length_map, List.length_take]; omega
    rw [hlf, hfin]
    rcases (show i = m ∨ (i < m ∧ i = 300) by omega) with h | ⟨h, h'⟩
    all_goals
      repeat (first | (refine sx ?_; try intro _))
      refine JS_ret Try.func26 rfl rfl fun w hw => ⟨q, d, rfl, hw⟩
attribute [local irreducible] sbs fixL bestB txt
set_option maxRecDepth 10000 in
theorem SqBestOf_c (p : Option Addr) (c m : Nat) (B : List Int) (hr : Rd w0 H (.slice p m c) m (ints .u8 B)) (hm : B.length = m) (hB : OKB B) (h4 : m ≤ 100000) (w : World) (hw : St w0 H w) :
    Calls Try.prog 29 #[.slice p m c] w fun e w' => ∃ q d, e = .returned (.slice q (sqB B).length d) ∧ St w0 (vec 5 1 (.slice q (sqB B).length d) (sqB B).length (ints .u8 (sqB B)) :: H) w' := by
  refine enter (vs := [.slice p m c]) Try.func29 rfl rfl rfl hw ?_
  clear hw w
  repeat (first | (refine sx ?_; try intro _))
  refine JO_call Try.call27 rfl rfl fun w hw => (Described_c p c m B hr hm hB h4 w hw).mono ?_
  rintro e w' ⟨q1, d1, rfl, hw'⟩
  refine ⟨_, rfl, _, hw', ?_⟩
  clear hw' hw w w'
  repeat (first | (refine sx ?_; try intro _))
  refine JO_call Try.call28 rfl rfl fun w hw => (DBest_c p c m B (Rd_weak hr fun w hw => St.sub (by repeat (first | exact List.Sublist.refl _ | apply List.Sublist.cons_cons | apply List.Sublist.cons)) hw) hm hB h4 w hw).mono ?_
  rintro e w' ⟨q2, d2, rfl, hw'⟩
  refine ⟨_, rfl, _, hw', ?_⟩
  clear hw' hw w w'
  unfold sqB
  by_cases hlt : (pack (dscL B)).length < (bestB B).length
  · rw [if_pos hlt]
    repeat (first | (refine sx ?_; try intro _))
    exact JS_ret Try.func29 rfl rfl fun w hw => ⟨q1, d1, rfl, St.sub (by repeat (first | exact List.Sublist.refl _ | apply List.Sublist.cons_cons | apply List.Sublist.cons)) hw⟩
  · rw [if_neg hlt]
    repeat (first | (refine sx ?_; try intro _))
    exact JS_ret Try.func29 rfl rfl fun w hw => ⟨q2, d2, rfl, St.sub (by repeat (first | exact List.Sublist.refl _ | apply List.Sublist.cons_cons | apply List.Sublist.cons)) hw⟩
end
set_option maxHeartbeats 4000000 in
theorem SqueezeShort_l (p : Option Addr) (c m : Nat) (B : List Int) (wide : Bool) (w0 : World) (ha : ArgRd w0 (.slice p m c) m (ints .u8 B)) (hm : B.length = m) (hO : OKB B ∧ (p = none → m = 0) ∧ m ≤ 140737488351232) :
    Calls Try.prog 10 #[.slice p m c, .bool wide] w0 fun e w' => e = .returned (.bool true) ∧ RowKit.Below w0.heap.size w0 w' := by
  obtain ⟨hB, hpm, hmx⟩ := hO
  refine enter (vs := [.slice p m c, .bool wide]) Try.func10 rfl rfl rfl (St.start w0) ?_
  repeat (first | (refine sx ?_; try intro _))
  refine JO_call Try.call11 rfl rfl fun w hw => (alive29_c w hw).mono ?_
  rintro e w' ⟨rfl, hw'⟩
  refine ⟨_, rfl, _, hw', ?_⟩
  clear hw' hw w w'
  repeat (first | (refine sx ?_; try intro _))
  refine JO_call Try.call26 rfl rfl fun w hw => (Text29_c p c m B wide (ha.rd _) hm hB hmx w hw).mono ?_
  have hX := txt_okb hB wide
  have hXl := txt_len B wide
  obtain ⟨X, hXe⟩ : ∃ X, txt B wide = X := ⟨_, rfl⟩
  rw [hXe] at hX hXl ⊢
  rintro e w' ⟨qx, dx, rfl, hw'⟩
  refine ⟨_, rfl, _, hw', ?_⟩
  clear hw' hw w w'
  repeat (first | (refine sx ?_; try intro _))
  refine JO_call Try.call27 rfl rfl fun w hw => (Described_c qx dx X.length X (vec_rd (by repeat (first | apply List.Mem.head | apply List.Mem.tail))) rfl hX (by omega) w hw).mono ?_
  rintro e w' ⟨q1, d1, rfl, hw'⟩
  refine ⟨_, rfl, _, hw', ?_⟩
  clear hw' hw w w'
  repeat (first | (refine sx ?_; try intro _))
  refine JO_call Try.call28 rfl rfl fun w hw => (DBest_c qx dx X.length X (vec_rd (by repeat (first | apply List.Mem.head | apply List.Mem.tail))) rfl hX (by omega) w hw).mono ?_
  rintro e w' ⟨q2, d2, rfl, hw'⟩
  refine ⟨_, rfl, _, hw', ?_⟩
  clear hw' hw w w'
  repeat (first | (refine sx ?_; try intro _))
  refine JO_call Try.call29 rfl rfl fun w hw => (SqBestOf_c qx dx X.length X (vec_rd (by repeat (first | apply List.Mem.head | apply List.Mem.tail))) rfl hX (by omega) w hw).mono ?_
  rintro e w' ⟨q3, d3, rfl, hw'⟩
  refine ⟨_, rfl, _, hw', ?_⟩
  clear hw' hw w w'
  unfold sqB
  by_cases hlt : (pack (dscL X)).length < (bestB X).length
  · rw [if_pos hlt]
    repeat (first | (apply gJO; refine JO_v (V_eqStr1 (s := bstr (pack (dscL X))) rfl rfl rfl) ?_) | first | (refine sx ?_; try intro _))
    exact JS_ret Try.func10 rfl rfl fun w hw => ⟨rfl, hw.grown⟩
  · rw [if_neg hlt]
    repeat (first | (apply gJO; refine JO_v (V_eqStr1 (s := bstr (bestB X)) rfl rfl rfl) ?_) | first | (refine sx ?_; try intro _))
    exact JS_ret Try.func10 rfl rfl fun w hw => ⟨rfl, hw.grown⟩
end Go.Proofs.Ytbiocgenbgbfpaa

namespace Go.Proofs.Ytbiocgenbgbfpaa
open Sx Go Go.ChangeShapes Go.WideShapes
set_option linter.unusedVariables false
set_option linter.unusedSimpArgs false
theorem cells5 : Try.prog.cellsOf 5 = 1 := by kernel_rfl
set_option maxRecDepth 100000 in
/-- a slice of bytes that came in -/
theorem open_bytes {H : Type} {enc : TypeId × Value → H} {W : World} {base : Nat} {v : Value} {d : DataW H} {p : List MemPlace} (hval : Value.okWide Try.prog W .any base 23 v) (h : DataW.Trod enc Try.prog W 0 (fun _ => true) true 23 v d p) :
    ∃ (b : Option Addr) (c m : Nat) (B : List Int), v = .slice b m c ∧ ArgRd W (.slice b m c) m (ints .u8 B) ∧ B.length = m ∧ (OKB B ∧ (b = none → m = 0)) ∧ (m = 0 ∨ ∃ E S, d = .slice E S ∧ E.length = m) := by
  obtain ⟨b, m, c, rfl⟩ := okWide_slice Try.underlying23 hval
  obtain ⟨fuel, hf⟩ := h
  rcases Go.ChangeShapes.open_ints Try.underlying23 Try.underlying5 cells5 hf with ⟨hcs, _⟩ | ⟨a, len', cap', zs, hcs, _, hl, hm, hz, hx, hcell, hwz⟩
  · simp [Value.cells] at hcs
    obtain ⟨rfl, rfl, rfl⟩ := hcs
    exact ⟨none, 0, 0, [], rfl, argRd_mk ⟨none, 0, rfl, fun _ => rfl, Nat.le_refl _⟩ (fun j v h => by simp [ints] at h), rfl, ⟨fun j => by simp, fun _ => rfl⟩, .inl rfl⟩
  · simp [Value.cells] at hcs
    obtain ⟨rfl, rfl, rfl⟩ := hcs
    simp only [if_true] at hz
    refine ⟨some a, c, m, zs.take m, rfl, argRd_mk ⟨some a, c, rfl, (fun h => by cases h), hl⟩ (fun j v hv => ?_), by simp; omega, ⟨fun j => ?_, fun h => (by cases h)⟩, .inr ⟨_, _, congrArg Prod.fst hx, by simp [lits]; omega⟩⟩
    · have hj : j < m := by
        have := (List.getElem?_eq_some_iff.1 hv).1
        simp [ints] at this; omega
      have e : (ints .u8 (zs.take m))[j]? = some (.int .u8 (zs.getD j 0)) := by
        have := ints_get (K := .u8) (l := zs.take m) (j := j) (by simp; omega)
        rw [this]
        congr 2
        simp [List.getD_eq_getElem?_getD, List.getElem?_take, hj]
      rw [e] at hv
      obtain rfl := Option.some.inj hv
      exact ⟨a.add j, cellPtr_eq a m c j, by simpa using cell_lt (hcell j (by omega)), hcell j (by omega)⟩
    · rcases Nat.lt_or_ge j m with hj | hj
      · have : (zs.take m).getD j 0 = zs[j]'(by omega) := by simp [List.getD_eq_getElem?_getD, List.getElem?_take, hj, show j < zs.length by omega]
        rw [this]
        exact wfu8 (hwz _ (List.getElem_mem _))
      · have : (zs.take m).getD j 0 = 0 := by
          rw [List.getD_eq_getElem?_getD, List.getElem?_eq_none (by simp; omega)]; rfl
        rw [this]; decide
end Go.Proofs.Ytbiocgenbgbfpaa
