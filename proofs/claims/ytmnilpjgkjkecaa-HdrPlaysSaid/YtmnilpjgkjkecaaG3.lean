import Derived.WalkKit
import Derived.ProofKit
import Derived.OpenShut
import Derived.ChangeSlices
import Derived.Test.YtmnilpjgkjkecaaG2
namespace Go.Proofs.Ytmnilpjgkjkecaa
open Sx Go Hd
set_option linter.unusedVariables false
set_option linter.unusedSimpArgs false
/-! ## what is recorded (plain) -/
def wtN (N : List Int) (i : Nat) : Int := if i < N.length then 1 + N.getD i 0 % 1000 else 1
theorem wtN_bd (N : List Int) (i : Nat) : 1 ≤ wtN N i ∧ wtN N i ≤ 1000 := by unfold wtN; split <;> omega
/-- one value -/
def rec1 (u g : Nat) (gr : Bool) (s : Nat × List (Int × Int)) (v n : Int) : Nat × List (Int × Int) :=
  if chk u g gr s.1 (sw s.2) v n = 0 then (max s.1 (1 + bkt u g v.toNat), putT (idx u g v.toNat) n s.2) else s
/-- the first of some values, with their weights -/
def recS (u g : Nat) (gr : Bool) (bu : Nat) (L : List Int) (W : Nat → Int) : Nat → Nat × List (Int × Int)
  | 0 => (bu, [])
  | i + 1 => rec1 u g gr (recS u g gr bu L W i) (L.getD i 0) (W i)
theorem bkt_63 {u g v : Nat} (hv : v < 9223372036854775808) (hug : 1 ≤ u + g) : bkt u g v ≤ 62 := by
  have := bl_v hv
  unfold bkt; omega
structure OKS (s : Nat × List (Int × Int)) : Prop where
  bu : s.1 ≤ 64
  gt : GT s.2
theorem rec1_ok {u g : Nat} {gr : Bool} {s : Nat × List (Int × Int)} {v n : Int} (hug : u + g ≤ 62) (hg : 1 ≤ g ∧ g ≤ 18) (h : OKS s) (hn : 0 ≤ n) (hv : v < 9223372036854775808) : OKS (rec1 u g gr s v n) := by
  unfold rec1
  split
  · rename_i hc
    obtain ⟨p1, p2, p3⟩ := chk_0 hn hc
    have hv' : v.toNat < 9223372036854775808 := by omega
    have h1 := bkt_63 (u := u) (g := g) hv' (by omega)
    obtain ⟨i1, _⟩ := idx_bd hug hg hv'
    have hb := h.bu
    refine ⟨?_, h.gt.put ⟨by omega, by omega⟩ p1 p3⟩
    show max s.1 (1 + bkt u g v.toNat) ≤ 64
    omega
  · exact h
theorem rec1_len {u g : Nat} {gr : Bool} {s : Nat × List (Int × Int)} {v n : Int} : (rec1 u g gr s v n).2.length ≤ s.2.length + 1 := by
  unfold rec1
  split
  · exact putT_len _
  · exact Nat.le_succ _
theorem recS_ok {u g : Nat} {gr : Bool} {bu : Nat} {L : List Int} {W : Nat → Int} (hug : u + g ≤ 62) (hg : 1 ≤ g ∧ g ≤ 18) (hbu : bu ≤ 64) (hL : ∀ j, L.getD j 0 < 9223372036854775808) (hW : ∀ j, 0 ≤ W j) : ∀ i, OKS (recS u g gr bu L W i) ∧ (recS u g gr bu L W i).2.length ≤ i
  | 0 => ⟨⟨hbu, GT.nil⟩, Nat.le_refl _⟩
  | i + 1 => by
    obtain ⟨h1, h2⟩ := recS_ok hug hg hbu hL hW i
    exact ⟨rec1_ok hug hg h1 (hW i) (hL i), Nat.le_trans rec1_len (by omega)⟩
section
variable {w0 : World} {H : List Asn}
/-- a histogram and the document's one -/
abbrev hA (h m b r : Nat) (lo hi dg : Int) (u g : Nat) (gr : Bool) (bu : Nat) (es : List MapEntry) (clock : Nat) (T : List (Int × Int)) (q : Option Addr) (d : Nat) : List Asn :=
  [blk h (hc m b gr bu (sw T)), mapL b es clock, blk r (rc lo hi dg u g gr bu (.slice q T.length d)), vec 58 2 (.slice q T.length d) T.length (flat T), blk m (mc lo hi dg u g)]
set_option maxRecDepth 10000 in
set_option maxHeartbeats 8000000 in
theorem Recorded_c (lo hi dg : Int) (gr : Bool) (hs : shOK lo hi dg) (hhi : hi < 9223372036854775808) (lp np : Option Addr) (lc nc : Nat) (L N : List Int) (hL : Rd w0 H (.slice lp L.length lc) L.length (ints .i64 L)) (hN : Rd w0 H (.slice np N.length nc) N.length (ints .u16 N))
    (okL : ∀ j, -9223372036854775808 ≤ L.getD j 0 ∧ L.getD j 0 < 9223372036854775808) (okN : ∀ j, 0 ≤ N.getD j 0 ∧ N.getD j 0 < 65536) (hLl : L.length < 4611686018427387904) (hNl : N.length < 4611686018427387904) (w : World) (hw : St w0 H w) :
    Calls Try.prog 11 #[hagg lo hi dg, .bool gr, .slice lp L.length lc, .slice np N.length nc] w fun e w' => ∃ (h m b r : Nat) (es : List MapEntry) (clock : Nat) (q : Option Addr) (d : Nat), e = .returned (.tuple #[.pointer (some ⟨h, 0, none⟩), .pointer (some ⟨r, 0, none⟩)]) ∧
      HM es clock (recS (uOf lo) (gOf dg) gr (1 + bkt (uOf lo) (gOf dg) hi.toNat) L (wtN N) (min L.length 40)).2 ∧
      St w0 (hA h m b r lo hi dg (uOf lo) (gOf dg) gr (recS (uOf lo) (gOf dg) gr (1 + bkt (uOf lo) (gOf dg) hi.toNat) L (wtN N) (min L.length 40)).1 es clock (recS (uOf lo) (gOf dg) gr (1 + bkt (uOf lo) (gOf dg) hi.toNat) L (wtN N) (min L.length 40)).2 q d ++ H) w' := by
  obtain ⟨s1, s2, s3, s4⟩ := hs.1
  have hug := hs.2
  have hg := gOf_bd (dg := dg) (by omega)
  have hg' : 1 ≤ gOf dg ∧ gOf dg ≤ 18 := by omega
  have hb0 : 1 + bkt (uOf lo) (gOf dg) hi.toNat ≤ 64 := by
    have := bkt_63 (u := uOf lo) (g := gOf dg) (v := hi.toNat) (by omega) (by omega)
    omega
  have hok := recS_ok (u := uOf lo) (g := gOf dg) (gr := gr) (bu := 1 + bkt (uOf lo) (gOf dg) hi.toNat) (L := L) (W := wtN N) hug hg' hb0 (fun j => (okL j).2) (fun j => by have := wtN_bd N j; omega)
  refine enter (vs := [hagg lo hi dg, .bool gr, .slice lp L.length lc, .slice np N.length nc]) Try.func11 rfl rfl rfl hw ?_
  clear hw w
  repeat (first | (refine sx ?_; try intro _))
  refine JO_call Try.call32 rfl rfl fun w hw => (Pair_c lo hi dg gr hs hhi w hw).mono ?_
  rintro e w' ⟨pa, pb, h1, m1, b1, h2, m2, b2, ra, rb, rfl, hw'⟩
  refine ⟨_, rfl, pA pa pb h1 m1 b1 h2 m2 b2 ra rb lo hi dg (uOf lo) (gOf dg) gr (1 + bkt (uOf lo) (gOf dg) hi.toNat) ++ H, St.sub (by repeat (first | exact List.Sublist.refl _ | apply List.Sublist.cons_cons | apply List.Sublist.cons)) hw', ?_⟩
  clear hw' hw w w'
  generalize uOf lo = u at *
  generalize gOf dg = g at *
  generalize hbu : 1 + bkt u g hi.toNat = bu at *
  repeat (first | (apply gJR; first | (refine sx ?_; try intro _)) | (apply gJO; first | (refine sx ?_; try intro _)) | (apply gJS; refine JS_condF rfl ?_) | apply JS_skip | apply JS_seq | apply JS_region)
  refine JS_block ?_
  generalize hR : ([vec 29 1 (.slice (some pa) 2 2) 2 [.pointer (some ⟨h1, 0, none⟩), .pointer (some ⟨h2, 0, none⟩)], vec 30 1 (.slice (some pb) 2 2) 2 [.pointer (some ⟨ra, 0, none⟩), .pointer (some ⟨rb, 0, none⟩)],
    blk rb (rc lo hi dg u g gr bu (.slice none 0 0)), blk m1 (mc lo hi dg u g), blk h2 (hc m2 b2 gr bu 0), mapL b2 [] 0, blk m2 (mc lo hi dg u g)] ++ H : List Asn) = R
  have hRa : Rd w0 R (.slice (some pa) 2 2) 2 [.pointer (some ⟨h1, 0, none⟩), .pointer (some ⟨h2, 0, none⟩)] := hR ▸ vec_rd (List.Mem.head _)
  have hRb : Rd w0 R (.slice (some pb) 2 2) 2 [.pointer (some ⟨ra, 0, none⟩), .pointer (some ⟨rb, 0, none⟩)] := hR ▸ vec_rd (List.Mem.tail _ (List.Mem.head _))
  have hRm : blk m1 (mc lo hi dg u g) ∈ R := hR ▸ List.Mem.tail _ (List.Mem.tail _ (List.Mem.tail _ (List.Mem.head _)))
  have hRs : (blk m1 (mc lo hi dg u g) :: H).Sublist R := by rw [← hR]; exact (by repeat (first | exact List.Sublist.refl _ | apply List.Sublist.cons_cons | apply List.Sublist.cons))
  have hL' : Rd w0 R (.slice lp L.length lc) L.length (ints .i64 L) := Rd_weak hL fun w hw => St.sub ((List.sublist_cons_self _ _).trans hRs) hw
  have hN' : Rd w0 R (.slice np N.length nc) N.length (ints .u16 N) := Rd_weak hN fun w hw => St.sub ((List.sublist_cons_self _ _).trans hRs) hw
  clear hL hN
  refine JS_loop5 (fun (i : Nat) (es : List MapEntry) (clock : Nat) (q : Option Addr) (d : Nat) => [(2, .slice lp L.length lc), (3, .slice np N.length nc), (10, .slice (some pa) 2 2), (11, .slice (some pb) 2 2), (12, .int .i64 i)])
    (fun i es clock q d => blk h1 (hc m1 b1 gr (recS u g gr bu L (wtN N) i).1 (sw (recS u g gr bu L (wtN N) i).2)) :: mapL b1 es clock :: blk ra (rc lo hi dg u g gr (recS u g gr bu L (wtN N) i).1 (.slice q (recS u g gr bu L (wtN N) i).2.length d)) :: vec 58 2 (.slice q (recS u g gr bu L (wtN N) i).2.length d) (recS u g gr bu L (wtN N) i).2.length (flat (recS u g gr bu L (wtN N) i).2) :: R)
    (fun i es clock q d => i ≤ min L.length 40 ∧ HM es clock (recS u g gr bu L (wtN N) i).2) (fun i _ _ _ _ => 40 - i) 0 [] 0 none 0 ⟨Nat.zero_le _, HM.nil⟩ (by repeat (first | exact trivial | refine ⟨rfl, ?_⟩ | refine ⟨lookI rfl (by omega), ?_⟩)) (fun w hw => ?_) ?_
  · rw [← hR]
    refine St.perm (St.nilvec (e := 58) (sz := 2) (base := none) hw) ?_
    simp only [recS, sw, List.length_nil, flat]
    (repeat (first | exact List.Perm.refl _ | refine List.Perm.cons _ ?_ | refine (List.perm_middle (l₁ := [_])).trans (List.Perm.cons _ ?_) | refine (List.perm_middle (l₁ := [_, _])).trans (List.Perm.cons _ ?_) | refine (List.perm_middle (l₁ := [_, _, _])).trans (List.Perm.cons _ ?_) | refine (List.perm_middle (l₁ := [_, _, _, _])).trans (List.Perm.cons _ ?_) | refine (List.perm_middle (l₁ := [_, _, _, _, _])).trans (List.Perm.cons _ ?_) | refine (List.perm_middle (l₁ := [_, _, _, _, _, _])).trans (List.Perm.cons _ ?_) | refine (List.perm_middle (l₁ := [_, _, _, _, _, _, _])).trans (List.Perm.cons _ ?_) | refine (List.perm_middle (l₁ := [_, _, _, _, _, _, _, _])).trans (List.Perm.cons _ ?_) | refine (List.perm_middle (l₁ := [_, _, _, _, _, _, _, _, _])).trans (List.Perm.cons _ ?_) | refine (List.perm_middle (l₁ := [_, _, _, _, _, _, _, _, _, _])).trans (List.Perm.cons _ ?_) | refine (List.perm_middle (l₁ := [_, _, _, _, _, _, _, _, _, _, _])).trans (List.Perm.cons _ ?_) | refine (List.perm_middle (l₁ := [_, _, _, _, _, _, _, _, _, _, _, _])).trans (List.Perm.cons _ ?_) | refine (List.perm_middle (l₁ := [_, _, _, _, _, _, _, _, _, _, _, _, _])).trans (List.Perm.cons _ ?_)))
  intro i es clock q d ⟨hi1, hE⟩ again
  obtain ⟨⟨ob, ogt⟩, ol⟩ := hok i
  have hstep : recS u g gr bu L (wtN N) (i + 1) = rec1 u g gr (recS u g gr bu L (wtN N) i) (L.getD i 0) (wtN N i) := rfl
  by_cases hlt : i < L.length ∧ i < 40
  · obtain ⟨hlt1, hlt2⟩ := hlt
    have hok1 := (hok (i + 1))
    rw [hstep] at hok1
    generalize hsi : recS u g gr bu L (wtN N) i = s at *
    obtain ⟨bs, T⟩ := s
    dsimp only at *
    have gL := ints_get (K := .i64) hlt1
    have oLi := okL i
    have hwn := wtN_bd N i
    repeat (first | apply hIx 8 | first | (refine sx ?_; try intro _))
    refine Hold.go ?_
    refine JS_join1 (fun (_ : Unit) => [(2, .slice lp L.length lc), (3, .slice np N.length nc), (10, .slice (some pa) 2 2), (11, .slice (some pb) 2 2), (12, .int .i64 i), (13, .int .u64 (wtN N i))]) (fun _ => blk h1 (hc m1 b1 gr bs (sw T)) :: mapL b1 es clock :: blk ra (rc lo hi dg u g gr bs (.slice q T.length d)) :: vec 58 2 (.slice q T.length d) T.length (flat T) :: R) (fun _ => True) ?_ ?_
    · intro _ _
      generalize wtN N i = wi at *
      repeat (first | apply hIx 10 | first | (refine sx ?_; try intro _))
      refine Hold.go ?_
      refine JS_seq ?_
      refine JS_order2 R [0, 1, 2, 3, 4, 5, 6, 7, 9, 10, 11, 12, 13, 14, 15, 16, 8, 17, 18] [] (fun w hw => St.sub (by repeat (first | exact List.Sublist.refl _ | apply List.Sublist.cons_cons | apply List.Sublist.cons)) hw) (Picks.cons rfl (Picks.cons rfl (Picks.cons rfl (Picks.cons rfl (Picks.cons rfl (Picks.cons rfl (Picks.cons rfl (Picks.cons rfl (Picks.cons rfl (Picks.cons rfl (Picks.cons rfl (Picks.cons rfl (Picks.cons rfl (Picks.cons rfl (Picks.cons rfl (Picks.cons rfl (Picks.cons rfl (Picks.cons rfl (Picks.cons rfl (Picks.nil)))))))))))))))))))) (by kernel_rfl) (by kernel_rfl) rfl (by decide +kernel) ?_
      repeat (first | (apply gQR2; apply QR2_un) | (apply gQO2; refine aQ2 ?_))
      refine QO2_callE Try.call25 rfl rfl fun w hw => (HRecord_c h1 m1 b1 gr bs es clock T (List.Mem.tail _ (List.Mem.tail _ hRm)) hug hg' ob hE ogt (L.getD i 0) wi oLi (by omega) w hw).mono ?_
      rintro e w' ⟨rfl, hor⟩
      have hrec : rec1 u g gr (bs, T) (L.getD i 0) wi = if chk u g gr bs (sw T) (L.getD i 0) wi = 0 then (max bs (1 + bkt u g (L.getD i 0).toNat), putT (idx u g (L.getD i 0).toNat) wi T) else (bs, T) := rfl
      rw [hrec] at hok1 hstep
      have hcon2 := fun (a : Asn) (es' : List MapEntry) (clock' : Nat) w hw => RRecord_c (w0 := w0) (lo := lo) (hi := hi) (dg := dg) (u := u) (g := g) (H := a :: mapL b1 es' clock' :: vec 58 2 (.slice q T.length d) T.length (flat T) :: R) ra gr bs q d T (vec_rd (List.Mem.tail _ (List.Mem.tail _ (List.Mem.head _)))) (by omega) hug hg' ob ogt (L.getD i 0) wi oLi (by omega) w hw
      rcases hor with ⟨hne, hw'⟩ | ⟨he0, es', clock', hE', hw'⟩
      · rw [if_neg hne] at hok1 hstep
        generalize chk u g gr bs (sw T) (L.getD i 0) wi = c at *
        refine .inl ⟨_, rfl, R, _, hw', fun w hw => St.sub (by repeat (first | exact List.Sublist.refl _ | apply List.Sublist.cons_cons | apply List.Sublist.cons)) hw, .inl fun w hw => hw, ?_⟩
        clear hw' hw w w'
        repeat (first | (apply gQR2; apply QR2_un) | (apply gQO2; refine aQ2 ?_))
        refine QO2_callE Try.call26 rfl rfl fun w hw => (hcon2 _ es clock w (hw.perm (by (repeat (first | exact List.Perm.refl _ | refine List.Perm.cons _ ?_ | refine (List.perm_middle (l₁ := [_])).trans (List.Perm.cons _ ?_) | refine (List.perm_middle (l₁ := [_, _])).trans (List.Perm.cons _ ?_) | refine (List.perm_middle (l₁ := [_, _, _])).trans (List.Perm.cons _ ?_) | refine (List.perm_middle (l₁ := [_, _, _, _])).trans (List.Perm.cons _ ?_) | refine (List.perm_middle (l₁ := [_, _, _, _, _])).trans (List.Perm.cons _ ?_) | refine (List.perm_middle (l₁ := [_, _, _, _, _, _])).trans (List.Perm.cons _ ?_) | refine (List.perm_middle (l₁ := [_, _, _, _, _, _, _])).trans (List.Perm.cons _ ?_) | refine (List.perm_middle (l₁ := [_, _, _, _, _, _, _, _])).trans (List.Perm.cons _ ?_) | refine (List.perm_middle (l₁ := [_, _, _, _, _, _, _, _, _])).trans (List.Perm.cons _ ?_) | refine (List.perm_middle (l₁ := [_, _, _, _, _, _, _, _, _, _])).trans (List.Perm.cons _ ?_) | refine (List.perm_middle (l₁ := [_, _, _, _, _, _, _, _, _, _, _])).trans (List.Perm.cons _ ?_) | refine (List.perm_middle (l₁ := [_, _, _, _, _, _, _, _, _, _, _, _])).trans (List.Perm.cons _ ?_) | refine (List.perm_middle (l₁ := [_, _, _, _, _, _, _, _, _, _, _, _, _])).trans (List.Perm.cons _ ?_)))))).mono ?_
        rintro e w' ⟨rfl, ⟨_, hw'⟩ | ⟨he0, _⟩⟩
        · refine .inl ⟨_, rfl, R, _, hw', fun w hw => St.sub (by repeat (first | exact List.Sublist.refl _ | apply List.Sublist.cons_cons | apply List.Sublist.cons)) hw, .inl fun w hw => hw, ?_⟩
          clear hw' hw w w' hcon2
          repeat (first | (apply gQR2; first | apply QR2_un | apply QR2_nil) | (apply gQO2; refine aQ2 ?_))
          repeat (first | (refine sx ?_; try intro _))
          refine JS_again5 again (i + 1) es clock q d ⟨by omega, by rw [hstep]; exact hE⟩ (by omega) (by repeat (first | exact trivial | refine ⟨rfl, ?_⟩ | refine ⟨lookI rfl (by omega), ?_⟩)) (fun w hw => ?_)
          rw [hstep]
          exact hw.perm (by (repeat (first | exact List.Perm.refl _ | refine List.Perm.cons _ ?_ | refine (List.perm_middle (l₁ := [_])).trans (List.Perm.cons _ ?_) | refine (List.perm_middle (l₁ := [_, _])).trans (List.Perm.cons _ ?_) | refine (List.perm_middle (l₁ := [_, _, _])).trans (List.Perm.cons _ ?_) | refine (List.perm_middle (l₁ := [_, _, _, _])).trans (List.Perm.cons _ ?_) | refine (List.perm_middle (l₁ := [_, _, _, _, _])).trans (List.Perm.cons _ ?_) | refine (List.perm_middle (l₁ := [_, _, _, _, _, _])).trans (List.Perm.cons _ ?_) | refine (List.perm_middle (l₁ := [_, _, _, _, _, _, _])).trans (List.Perm.cons _ ?_) | refine (List.perm_middle (l₁ := [_, _, _, _, _, _, _, _])).trans (List.Perm.cons _ ?_) | refine (List.perm_middle (l₁ := [_, _, _, _, _, _, _, _, _])).trans (List.Perm.cons _ ?_) | refine (List.perm_middle (l₁ := [_, _, _, _, _, _, _, _, _, _])).trans (List.Perm.cons _ ?_) | refine (List.perm_middle (l₁ := [_, _, _, _, _, _, _, _, _, _, _])).trans (List.Perm.cons _ ?_) | refine (List.perm_middle (l₁ := [_, _, _, _, _, _, _, _, _, _, _, _])).trans (List.Perm.cons _ ?_) | refine (List.perm_middle (l₁ := [_, _, _, _, _, _, _, _, _, _, _, _, _])).trans (List.Perm.cons _ ?_))))
        · exact absurd he0 hne
      · rw [if_pos he0] at hok1 hstep
        rw [he0] at hcon2 ⊢
        refine .inl ⟨_, rfl, R, _, hw', fun w hw => St.sub (by repeat (first | exact List.Sublist.refl _ | apply List.Sublist.cons_cons | apply List.Sublist.cons)) hw, .inl fun w hw => hw, ?_⟩
        clear hw' hw w w'
        repeat (first | (apply gQR2; apply QR2_un) | (apply gQO2; refine aQ2 ?_))
        refine QO2_callE Try.call26 rfl rfl fun w hw => (hcon2 _ es' clock' w (hw.perm (by (repeat (first | exact List.Perm.refl _ | refine List.Perm.cons _ ?_ | refine (List.perm_middle (l₁ := [_])).trans (List.Perm.cons _ ?_) | refine (List.perm_middle (l₁ := [_, _])).trans (List.Perm.cons _ ?_) | refine (List.perm_middle (l₁ := [_, _, _])).trans (List.Perm.cons _ ?_) | refine (List.perm_middle (l₁ := [_, _, _, _])).trans (List.Perm.cons _ ?_) | refine (List.perm_middle (l₁ := [_, _, _, _, _])).trans (List.Perm.cons _ ?_) | refine (List.perm_middle (l₁ := [_, _, _, _, _, _])).trans (List.Perm.cons _ ?_) | refine (List.perm_middle (l₁ := [_, _, _, _, _, _, _])).trans (List.Perm.cons _ ?_) | refine (List.perm_middle (l₁ := [_, _, _, _, _, _, _, _])).trans (List.Perm.cons _ ?_) | refine (List.perm_middle (l₁ := [_, _, _, _, _, _, _, _, _])).trans (List.Perm.cons _ ?_) | refine (List.perm_middle (l₁ := [_, _, _, _, _, _, _, _, _, _])).trans (List.Perm.cons _ ?_) | refine (List.perm_middle (l₁ := [_, _, _, _, _, _, _, _, _, _, _])).trans (List.Perm.cons _ ?_) | refine (List.perm_middle (l₁ := [_, _, _, _, _, _, _, _, _, _, _, _])).trans (List.Perm.cons _ ?_) | refine (List.perm_middle (l₁ := [_, _, _, _, _, _, _, _, _, _, _, _, _])).trans (List.Perm.cons _ ?_)))))).mono ?_
        rintro e w' ⟨rfl, ⟨hne, _⟩ | ⟨_, q', d', hw'⟩⟩
        · exact absurd rfl hne
        · refine .inl ⟨_, rfl, R, _, hw', fun w hw => St.sub (by repeat (first | exact List.Sublist.refl _ | apply List.Sublist.cons_cons | apply List.Sublist.cons)) hw, .inl fun w hw => hw, ?_⟩
          clear hw' hw w w' hcon2
          repeat (first | (apply gQR2; first | apply QR2_un | apply QR2_nil) | (apply gQO2; refine aQ2 ?_))
          repeat (first | (refine sx ?_; try intro _))
          refine JS_again5 again (i + 1) es' clock' q' d' ⟨by omega, by rw [hstep]; exact hE'⟩ (by omega) (by repeat (first | exact trivial | refine ⟨rfl, ?_⟩ | refine ⟨lookI rfl (by omega), ?_⟩)) (fun w hw => ?_)
          rw [hstep]
          have hz := hw.perm (H' := vec 58 2 (.slice q T.length d) T.length (flat T) :: blk h1 (hc m1 b1 gr (max bs (1 + bkt u g (L.getD i 0).toNat)) (sw T + wi)) :: mapL b1 es' clock' :: blk ra (rc lo hi dg u g gr (max bs (1 + bkt u g (L.getD i 0).toNat)) (.slice q' (putT (idx u g (L.getD i 0).toNat) wi T).length d')) :: vec 58 2 (.slice q' (putT (idx u g (L.getD i 0).toNat) wi T).length d') (putT (idx u g (L.getD i 0).toNat) wi T).length (flat (putT (idx u g (L.getD i 0).toNat) wi T)) :: R) (by (repeat (first | exact List.Perm.refl _ | refine List.Perm.cons _ ?_ | refine (List.perm_middle (l₁ := [_])).trans (List.Perm.cons _ ?_) | refine (List.perm_middle (l₁ := [_, _])).trans (List.Perm.cons _ ?_) | refine (List.perm_middle (l₁ := [_, _, _])).trans (List.Perm.cons _ ?_) | refine (List.perm_middle (l₁ := [_, _, _, _])).trans (List.Perm.cons _ ?_) | refine (List.perm_middle (l₁ := [_, _, _, _, _])).trans (List.Perm.cons _ ?_) | refine (List.perm_middle (l₁ := [_, _, _, _, _, _])).trans (List.Perm.cons _ ?_) | refine (List.perm_middle (l₁ := [_, _, _, _, _, _, _])).trans (List.Perm.cons _ ?_) | refine (List.perm_middle (l₁ := [_, _, _, _, _, _, _, _])).trans (List.Perm.cons _ ?_) | refine (List.perm_middle (l₁ := [_, _, _, _, _, _, _, _, _])).trans (List.Perm.cons _ ?_) | refine (List.perm_middle (l₁ := [_, _, _, _, _, _, _, _, _, _])).trans (List.Perm.cons _ ?_) | refine (List.perm_middle (l₁ := [_, _, _, _, _, _, _, _, _, _, _])).trans (List.Perm.cons _ ?_) | refine (List.perm_middle (l₁ := [_, _, _, _, _, _, _, _, _, _, _, _])).trans (List.Perm.cons _ ?_) | refine (List.perm_middle (l₁ := [_, _, _, _, _, _, _, _, _, _, _, _, _])).trans (List.Perm.cons _ ?_))))
          rw [putT_sw]
          exact hz.drop
    · intro K
      by_cases hw1 : i < N.length
      · have gN := ints_get (K := .u16) hw1
        have oNi := okN i
        have hwe : wtN N i = 1 + N.getD i 0 % 1000 := by unfold wtN; rw [if_pos hw1]
        rw [hwe] at K
        repeat (first | apply hIx 10 | first | (refine sx ?_; try intro _))
        refine Hold.go ?_
        exact JS_weak (K () trivial) (by repeat (first | exact trivial | refine ⟨rfl, ?_⟩ | refine ⟨lookI rfl (by omega), ?_⟩)) (fun w hw => hw)
      · have hwe : wtN N i = 1 := by unfold wtN; rw [if_neg hw1]
        rw [hwe] at K
        repeat (first | apply hIx 10 | first | (refine sx ?_; try intro _))
        refine Hold.go ?_
        exact JS_weak (K () trivial) (by repeat (first | exact trivial | refine ⟨rfl, ?_⟩ | refine ⟨lookI rfl (by omega), ?_⟩)) (fun w hw => hw)
  · clear again
    have him : i = min L.length 40 := by omega
    rw [← him]
    generalize recS u g gr bu L (wtN N) i = s at *
    obtain ⟨bs, T⟩ := s
    dsimp only at *
    by_cases hil : i < L.length
    all_goals (
      repeat (first | (refine sx ?_; try intro _))
      exact JS_ret Try.func11 rfl rfl fun w hw => ⟨h1, m1, b1, ra, es, clock, q, d, rfl, hE, St.sub (((((hRs).cons_cons _).cons_cons _).cons_cons _).cons_cons _) hw⟩)
end
end Go.Proofs.Ytmnilpjgkjkecaa

set_option linter.unusedVariables false
namespace Sx
open Go
/-! an assertion with a value that is not told -/
def anyA {ι : Type} (f : ι → Asn) : Asn where
  holds w fp := ∃ i, (f i).holds w fp
  frame w w' fp h hk := h.elim fun i h => ⟨i, (f i).frame w w' fp h hk⟩
  live w fp h := h.elim fun i h => (f i).live w fp h
section
variable {P : Program} {n : Nat} {D : List Deferred} {w0 : World} {ov : Ov} {Hi H : List Asn} {K : KC}
  {Z : Array Oper × List Nat} {l : List Oper} {d : Option Nat} {T : Nat} {pos : String} {af : Array Edge} {g : Option (Nat × Bool)} {v : Value} {op : Op} {o : Oper} {ι : Type} {f : ι → Asn}
theorem St.any {w : World} (i : ι) (h : St w0 (f i :: H) w) : St w0 (anyA f :: H) w := by
  refine (St.conv (H := H) (bs := [anyA f]) (show St w0 ([f i] ++ H) w from h) ?_)
  rintro fp ⟨f1, f2, e, h1, h2⟩
  exact ⟨f1, f2, e, ⟨i, h1⟩, h2⟩
theorem St.any_out {w : World} (h : St w0 (anyA f :: H) w) : ∃ i, St w0 (f i :: H) w := by
  obtain ⟨fp, h1, h2, f1, f2, e, ⟨i, h3⟩, h4⟩ := h.own
  exact ⟨i, h.os, h.tape, h.output, h.size, h.old, fp, h1, h2, f1, f2, e, h3, h4⟩
theorem OpV_any (h : ∀ i, OpV P n D w0 ov (f i :: H) o v) (i0 : ι) : OpV P n D w0 ov (anyA f :: H) o v := by
  unfold OpV at *
  refine ⟨(h i0).1, fun a w ha hw => ?_⟩
  obtain ⟨i, hi⟩ := hw.any_out
  exact (h i).2 a w ha hi
theorem QO2_e {κ : Type} {v : κ → Value} {H' : κ → List Asn} (h : OpE P n D w0 ov H ⟨d, op, T, pos, af, g⟩ v H') (hlo : loud op = true) (hI : ∀ c w, St w0 (H' c) w → St w0 Hi w) (hn : ∀ c, QR2 P n D w0 Z l (put d (v c) ov) Hi (H' c) K) : QO2 P n D w0 Z ⟨d, op, T, pos, af, g⟩ l ov Hi H K := by
  unfold QO2
  intro a ha
  refine .inr ⟨hlo, fun w hw => ?_⟩
  obtain ⟨hd, h⟩ := h
  obtain ⟨c, w', hrun, hw'⟩ := h a w ha hw
  simp only [Oper.wpN, hrun, Oper.upN]
  refine ⟨St w0 Hi, St w0 (H' c), hw', hI c, .inl fun _ h => h, ?_⟩
  have := hn c
  unfold QR2 at this
  exact this _ (ha.put hd _)
theorem QO2_kS {H' : List Asn} (hlo : loud op = true) (h : OpK P n D w0 ov H ⟨d, op, T, pos, af, g⟩ H') (hs : Z.2.contains l.length = true) (hn : QR2 P n D w0 Z l (put d undef ov) H' H' K) : QO2 P n D w0 Z ⟨d, op, T, pos, af, g⟩ l ov Hi H K := by
  unfold QO2
  intro a ha
  unfold OpK at h
  refine .inr ⟨hlo, fun w hw => ?_⟩
  obtain ⟨w', hrun, hw'⟩ := h.2 a w ha hw
  simp only [Oper.wpN, hrun, Oper.upN]
  refine ⟨St w0 H', St w0 H', hw', fun _ h => h, .inr hs, ?_⟩
  unfold QR2 at hn
  exact hn _ (ha.put h.1 undef)
end
end Sx
namespace Go.Proofs.Ytmnilpjgkjkecaa
open Sx Go
theorem aK2S {n : Nat} {D : List Deferred} {w0 : World} {ov : Ov} {Hi H H' : List Asn} {K : KC} {Z : Array Oper × List Nat} {l : List Oper} {d : Option Nat} {T : Nat} {pos : String} {af : Array Edge} {g : Option (Nat × Bool)} {op : Op}
    (hs : Z.2.contains l.length = true) (hn : QR2 Try.prog n D w0 Z l (put d undef ov) H' H' K) (h : OpK Try.prog n D w0 ov H ⟨d, op, T, pos, af, g⟩ H' := by first | exact K_store (tb := tb) rfl rfl (by repeat (first | apply Upd.here | apply Upd.there)) rfl rfl rfl (by repeat (first | exact trivial | refine ⟨rfl, ?_⟩)) rfl rfl | exact K_storeC1 (tb := tb) rfl rfl ints_set (by repeat (first | apply Upd.here | apply Upd.there)) rfl rfl (by rw [ints_len]; omega) rfl) (hlo : loud op = true := by rfl) : QO2 Try.prog n D w0 Z ⟨d, op, T, pos, af, g⟩ l ov Hi H K := QO2_kS hlo h hs hn
end Go.Proofs.Ytmnilpjgkjkecaa

set_option linter.unusedVariables false
namespace Sx
open Go
/-! a region's guards, where the quiet operations are shown in a wider class of worlds -/
section
variable {P : Program} {n : Nat} {D : List Deferred} {w0 : World} {ov : Ov} {Hi H : List Asn} {K : KC}
  {Z : Array Oper × List Nat} {l : List Oper} {d : Option Nat} {T : Nat} {pos : String} {af : Array Edge} {g : Option (Nat × Bool)} {op : Op}
theorem QR2_yes {j t : Nat} {b : Bool} (hj : (Z.1[j]?).bind Oper.dst = some t) (hv : look ov t = some (.bool b)) (h : QO2 P n D w0 Z ⟨d, op, T, pos, af, some (j, b)⟩ l ov Hi H K) : QR2 P n D w0 Z (⟨d, op, T, pos, af, some (j, b)⟩ :: l) ov Hi H K := by
  unfold QR2; unfold QO2 at h
  intro a ha
  simp only [walkN2]
  rw [if_pos (by simp [Region.wanted, yielded_of ha hj hv])]
  exact h a ha
theorem QR2_no {j t : Nat} {b c : Bool} (hj : (Z.1[j]?).bind Oper.dst = some t) (hv : look ov t = some (.bool c)) (hbc : (c == b) = false) (hd : dOk d n = true) (hn : QR2 P n D w0 Z l (put d undef ov) Hi H K) :
    QR2 P n D w0 Z (⟨d, op, T, pos, af, some (j, b)⟩ :: l) ov Hi H K := by
  unfold QR2 at *
  intro a ha
  simp only [walkN2]
  rw [if_neg (by simp [Region.wanted, yielded_of ha hj hv]; simpa using hbc)]
  exact hn _ (ha.put hd undef)
theorem QR2_noU {j t : Nat} {b : Bool} (hj : (Z.1[j]?).bind Oper.dst = some t) (hv : look ov t = some (.tuple #[])) (hd : dOk d n = true) (hn : QR2 P n D w0 Z l (put d undef ov) Hi H K) :
    QR2 P n D w0 Z (⟨d, op, T, pos, af, some (j, b)⟩ :: l) ov Hi H K := by
  unfold QR2 at *
  intro a ha
  simp only [walkN2]
  rw [if_neg (by simp [Region.wanted, yielded_undef ha hj hv])]
  exact hn _ (ha.put hd undef)
theorem QO2_call {q : Nat} {xs : List Operand} {vs : List Value} {ts : Array Nat} (hc : ∀ args w, (callFunc q args).run P w = .ok (.enter q args) w) (hx : evs ov xs = some vs) (hd : dOk d n = true)
    (h : ∀ w, St w0 H w → Calls P q vs.toArray w fun e w' => ∃ v, e = .returned v ∧ ∃ H', St w0 H' w' ∧ (∀ w, St w0 H' w → St w0 Hi w) ∧ QR2 P n D w0 Z l (put d v ov) Hi H' K) :
    QO2 P n D w0 Z ⟨d, .call ⟨.value (.func q), xs.toArray, ts⟩, T, pos, af, g⟩ l ov Hi H K :=
  QO2_callE hc hx hd fun w hw => (h w hw).mono fun e w' ⟨v, he, H', hw', hI, hn⟩ => .inl ⟨v, he, Hi, H', hw', hI, .inl fun _ h => h, hn⟩
/-- an append, as an operation with a result -/
theorem E_app {t e sz by' m q sz1 by1 : Nat} {ty2 : Ty} {z1 : Option (List Value)} {z : List Value} {u ux : Value} {cs news : List Value} {F : Asn → List Asn} {x y : Operand} {tb : Tb P}
    (hx : ev ov x = some u) (hy : ev ov y = some ux) (h : tlook tb.l t = some ⟨.slice e, sz1, by1, z1⟩) (h2 : tlook tb.l e = some ⟨ty2, sz, by', some z⟩) (hzl : Nat.beq z.length sz = true) (hsz : Nat.blt 0 sz = true)
    (hu : Sel H (vec e sz u m cs) F) (hr : Rd w0 H ux q news) (hl : news.length = q * sz) (h1 : All1 news) (hb : (m + q) * by' ≤ 140737488355328 ∧ m + q ≤ 140737488355328) (hd : dOk d n = true) :
    OpE (ι := Option Addr × Nat) P n D w0 ov H ⟨d, .call ⟨.builtin .append, #[x, y], #[t, t]⟩, T, pos, af, g⟩ (fun pc => .slice pc.1 (m + q) pc.2) (fun pc => F (vec e sz (.slice pc.1 (m + q) pc.2) (m + q) (cs ++ news))) := by
  unfold OpE
  refine ⟨hd, fun a w ha hw => ?_⟩
  obtain ⟨inf, zv, hi, hs1, hs2, hs3, hz⟩ := Tb.inf' h2
  obtain ⟨p, c, w', h3, h4⟩ := run_appendV (ty := T) (z := zv) hw (und_slice h) hi hs3 hs1 hs2 (by rw [cellsL_eq, hz]; simpa using Nat.eq_of_beq_eq_true hzl) (by rw [Nat.blt_eq] at hsz; exact hsz) (fun _ _ => hu.upd _) hr hl h1 hb.1 hb.2
  exact ⟨(p, c), w', by simp [execOp, resolve, invoke, builtin, ha.ev hx, ha.ev hy, h3], h4⟩
end
end Sx

namespace Go.Proofs.Ytmnilpjgkjkecaa
open Sx Go Hd
set_option linter.unusedVariables false
set_option linter.unusedSimpArgs false
section
variable {w0 : World} {H : List Asn}
theorem HNewF_c (lo hi dg : Int) (gr : Bool) (hlo : -9223372036854775808 ≤ lo ∧ lo < 9223372036854775808) (hhi : -9223372036854775808 ≤ hi ∧ hi < 9223372036854775808) (hdg : -9223372036854775808 ≤ dg ∧ dg < 9223372036854775808) (hno : ¬ shOK lo hi dg) (w : World) (hw : St w0 H w) :
    Calls Try.prog 18 #[hagg lo hi dg, .bool gr] w fun e w' => e = .returned (.tuple #[.pointer none, .int .i64 1]) ∧ St w0 H w' :=
  (HNew_c lo hi dg gr hlo hhi hdg w hw).mono fun e w' h => h.elim (fun h => h.2) fun h => absurd h.1 hno
theorem HNewT_c (lo hi dg : Int) (gr : Bool) (hs : shOK lo hi dg) (hhi : hi < 9223372036854775808) (w : World) (hw : St w0 H w) :
    Calls Try.prog 18 #[hagg lo hi dg, .bool gr] w fun e w' => ∃ bh mb bm, e = .returned (.tuple #[.pointer (some ⟨bh, 0, none⟩), .int .i64 0]) ∧ St w0 (blk bh (hc mb bm gr (1 + bkt (uOf lo) (gOf dg) hi.toNat) (sw [])) :: mapL bm [] 0 :: blk mb (mc lo hi dg (uOf lo) (gOf dg)) :: H) w' := by
  obtain ⟨s1, s2, s3, s4⟩ := hs.1
  exact (HNew_c lo hi dg gr (by omega) (by omega) (by omega) w hw).mono fun e w' h => h.elim (fun h => absurd hs h.1) fun h => h.2
theorem RNewF_c (lo hi dg : Int) (gr : Bool) (hlo : -9223372036854775808 ≤ lo ∧ lo < 9223372036854775808) (hhi : -9223372036854775808 ≤ hi ∧ hi < 9223372036854775808) (hdg : -9223372036854775808 ≤ dg ∧ dg < 9223372036854775808) (hno : ¬ shOK lo hi dg) (w : World) (hw : St w0 H w) :
    Calls Try.prog 19 #[hagg lo hi dg, .bool gr] w fun e w' => e = .returned (.pointer none) ∧ St w0 H w' :=
  (RNew_c lo hi dg gr hlo hhi hdg w hw).mono fun e w' h => h.elim (fun h => h.2) fun h => absurd h.1 hno
theorem RNewT_c (lo hi dg : Int) (gr : Bool) (hs : shOK lo hi dg) (hhi : hi < 9223372036854775808) (w : World) (hw : St w0 H w) :
    Calls Try.prog 19 #[hagg lo hi dg, .bool gr] w fun e w' => ∃ b, e = .returned (.pointer (some ⟨b, 0, none⟩)) ∧ St w0 (blk b (rc lo hi dg (uOf lo) (gOf dg) gr (1 + bkt (uOf lo) (gOf dg) hi.toNat) (.slice none ([] : List (Int × Int)).length 0)) :: H) w' := by
  obtain ⟨s1, s2, s3, s4⟩ := hs.1
  exact (RNew_c lo hi dg gr (by omega) (by omega) (by omega) w hw).mono fun e w' h => h.elim (fun h => absurd hs h.1) fun h => h.2
end
set_option maxRecDepth 10000 in
set_option maxHeartbeats 8000000 in
theorem HdrMakes_l (lo hi dg lo2 hi2 dg2 : Int) (gr gr2 : Bool) (h1 : -9223372036854775808 ≤ lo ∧ lo < 9223372036854775808) (h2 : -9223372036854775808 ≤ hi ∧ hi < 9223372036854775808) (h3 : -9223372036854775808 ≤ dg ∧ dg < 9223372036854775808)
    (h4 : -9223372036854775808 ≤ lo2 ∧ lo2 < 9223372036854775808) (h5 : -9223372036854775808 ≤ hi2 ∧ hi2 < 9223372036854775808) (h6 : -9223372036854775808 ≤ dg2 ∧ dg2 < 9223372036854775808) (w0 : World) :
    Calls Try.prog 4 #[.agg #[.int .i64 lo, .int .i64 hi, .int .i64 dg], .agg #[.int .i64 lo2, .int .i64 hi2, .int .i64 dg2], .bool gr, .bool gr2] w0 fun e w' => e = .returned (.bool true) ∧ RowKit.Below w0.heap.size w0 w' := by
  refine enter (vs := [hagg lo hi dg, hagg lo2 hi2 dg2, .bool gr, .bool gr2]) Try.func4 rfl rfl rfl (St.start w0) ?_
  repeat (first | (refine sx ?_; try intro _))
  rename_i bx by'
  refine JO_call Try.call9 rfl rfl fun w hw => (alive18_c w hw).mono ?_
  rintro e w' ⟨rfl, hw'⟩
  (refine ⟨_, rfl, _, hw', ?_⟩; clear hw' hw w w')
  repeat (first | (refine sx ?_; try intro _))
  by_cases hs1 : shOK lo hi dg
  · refine JO_call Try.call18 rfl rfl fun w hw => (HNewT_c lo hi dg gr hs1 h2.2 w hw).mono ?_
    rintro e w' ⟨x1, m1, b1, rfl, hw'⟩
    (refine ⟨_, rfl, _, hw', ?_⟩; clear hw' hw w w')
    repeat (first | (refine sx ?_; try intro _))
    by_cases hs2 : shOK lo2 hi2 dg2
    · refine JO_call Try.call18 rfl rfl fun w hw => (HNewT_c lo2 hi2 dg2 gr2 hs2 h5.2 w hw).mono ?_
      rintro e w' ⟨x2, m2, b2, rfl, hw'⟩
      (refine ⟨_, rfl, _, hw', ?_⟩; clear hw' hw w w')
      ((repeat (first | apply hIx 5 | first | (refine sx ?_; try intro _))); refine Hold.go ?_; refine JS_seq ?_; refine JS_order [0, 1, 3, 4, 2, 5, 6, 7] [] (Picks.cons rfl (Picks.cons rfl (Picks.cons rfl (Picks.cons rfl (Picks.cons rfl (Picks.cons rfl (Picks.cons rfl (Picks.cons rfl (Picks.nil))))))))) (by kernel_rfl) (by kernel_rfl) rfl (by decide +kernel) ?_; (repeat (first | (refine sx ?_; try intro _))))
      refine QO_call Try.call19 rfl rfl fun w hw => (RNewT_c lo hi dg gr hs1 h2.2 w hw).mono ?_
      rintro e w' ⟨r1, rfl, hw'⟩
      (refine ⟨_, rfl, _, hw', .inl fun w hw => St.sub (by repeat (first | exact List.Sublist.refl _ | apply List.Sublist.cons_cons | apply List.Sublist.cons)) hw, ?_⟩; clear hw' hw w w')
      repeat (first | (refine sx ?_; try intro _))
      refine QO_call Try.call19 rfl rfl fun w hw => (RNewT_c lo2 hi2 dg2 gr2 hs2 h5.2 w hw).mono ?_
      rintro e w' ⟨r2, rfl, hw'⟩
      (refine ⟨_, rfl, _, hw', .inl fun w hw => St.sub (by repeat (first | exact List.Sublist.refl _ | apply List.Sublist.cons_cons | apply List.Sublist.cons)) hw, ?_⟩; clear hw' hw w w')
      repeat (first | (refine sx ?_; try intro _))
      have hg1 := gOf_bd (dg := dg) ⟨hs1.1.1, hs1.1.2.1⟩
      have hg1' : 1 ≤ gOf dg ∧ gOf dg ≤ 18 := by omega
      have hug1 := hs1.2
      have hug2 := hs2.2
      have hg2 := gOf_bd (dg := dg2) ⟨hs2.1.1, hs2.1.2.1⟩
      have hb1 : 1 + bkt (uOf lo) (gOf dg) hi.toNat ≤ 64 := by
        have := bkt_63 (u := uOf lo) (g := gOf dg) (v := hi.toNat) (by omega) (by omega)
        omega
      have hb2 : 1 + bkt (uOf lo2) (gOf dg2) hi2.toNat ≤ 64 := by
        have := bkt_63 (u := uOf lo2) (g := gOf dg2) (v := hi2.toNat) (by omega) (by omega)
        omega
      have hlh := hs1.1.2.2
      generalize hbu1 : 1 + bkt (uOf lo) (gOf dg) hi.toNat = bu1 at *
      generalize hbu2 : 1 + bkt (uOf lo2) (gOf dg2) hi2.toNat = bu2 at *
      have hbe : lo2 = lo → hi2 = hi → dg2 = dg → bu2 = bu1 := fun a b c => by subst a b c; omega
      generalize hR : ([blk r1 (rc lo hi dg (uOf lo) (gOf dg) gr bu1 (.slice none ([] : List (Int × Int)).length 0)), blk x2 (hc m2 b2 gr2 bu2 (sw [])), mapL b2 [] 0, blk m1 (mc lo hi dg (uOf lo) (gOf dg)), blk m2 (mc lo2 hi2 dg2 (uOf lo2) (gOf dg2)), vec 58 2 (.slice none ([] : List (Int × Int)).length 0) ([] : List (Int × Int)).length (flat []), blk bx [.int .i64 lo, .int .i64 hi, .int .i64 dg], blk by' [.int .i64 lo2, .int .i64 hi2, .int .i64 dg2]] : List Asn) = R
      refine JS_H (H' := blk x1 (hc m1 b1 gr bu1 (sw [])) :: mapL b1 [] 0 :: R) (fun w hw => ?_) ?_
      · rw [← hR]
        exact ((St.nilvec (e := 58) (sz := 2) (base := none) hw).perm (H' := blk r2 (rc lo2 hi2 dg2 (uOf lo2) (gOf dg2) gr2 bu2 (.slice none 0 0)) :: blk x1 (hc m1 b1 gr bu1 (sw [])) :: mapL b1 [] 0 :: blk r1 (rc lo hi dg (uOf lo) (gOf dg) gr bu1 (.slice none 0 0)) :: blk x2 (hc m2 b2 gr2 bu2 (sw [])) :: mapL b2 [] 0 :: blk m1 (mc lo hi dg (uOf lo) (gOf dg)) :: blk m2 (mc lo2 hi2 dg2 (uOf lo2) (gOf dg2)) :: vec 58 2 (.slice none 0 0) 0 [] :: blk bx [.int .i64 lo, .int .i64 hi, .int .i64 dg] :: blk by' [.int .i64 lo2, .int .i64 hi2, .int .i64 dg2] :: []) (by (repeat (first | exact List.Perm.refl _ | refine List.Perm.cons _ ?_ | refine (List.perm_middle (l₁ := [_])).trans (List.Perm.cons _ ?_) | refine (List.perm_middle (l₁ := [_, _])).trans (List.Perm.cons _ ?_) | refine (List.perm_middle (l₁ := [_, _, _])).trans (List.Perm.cons _ ?_) | refine (List.perm_middle (l₁ := [_, _, _, _])).trans (List.Perm.cons _ ?_) | refine (List.perm_middle (l₁ := [_, _, _, _, _])).trans (List.Perm.cons _ ?_) | refine (List.perm_middle (l₁ := [_, _, _, _, _, _])).trans (List.Perm.cons _ ?_) | refine (List.perm_middle (l₁ := [_, _, _, _, _, _, _])).trans (List.Perm.cons _ ?_) | refine (List.perm_middle (l₁ := [_, _, _, _, _, _, _, _])).trans (List.Perm.cons _ ?_) | refine (List.perm_middle (l₁ := [_, _, _, _, _, _, _, _, _])).trans (List.Perm.cons _ ?_) | refine (List.perm_middle (l₁ := [_, _, _, _, _, _, _, _, _, _])).trans (List.Perm.cons _ ?_) | refine (List.perm_middle (l₁ := [_, _, _, _, _, _, _, _, _, _, _])).trans (List.Perm.cons _ ?_) | refine (List.perm_middle (l₁ := [_, _, _, _, _, _, _, _, _, _, _, _])).trans (List.Perm.cons _ ?_) | refine (List.perm_middle (l₁ := [_, _, _, _, _, _, _, _, _, _, _, _, _])).trans (List.Perm.cons _ ?_))))).drop
      have q1 : blk r1 (rc lo hi dg (uOf lo) (gOf dg) gr bu1 (.slice none ([] : List (Int × Int)).length 0)) ∈ R := hR ▸ List.Mem.head _
      have q2 : blk x2 (hc m2 b2 gr2 bu2 (sw [])) ∈ R := hR ▸ List.Mem.tail _ (List.Mem.head _)
      have q3 : mapL b2 [] 0 ∈ R := hR ▸ List.Mem.tail _ (List.Mem.tail _ (List.Mem.head _))
      have q4 : blk m1 (mc lo hi dg (uOf lo) (gOf dg)) ∈ R := hR ▸ List.Mem.tail _ (List.Mem.tail _ (List.Mem.tail _ (List.Mem.head _)))
      have q5 : blk m2 (mc lo2 hi2 dg2 (uOf lo2) (gOf dg2)) ∈ R := hR ▸ List.Mem.tail _ (List.Mem.tail _ (List.Mem.tail _ (List.Mem.tail _ (List.Mem.head _))))
      have q6 : Rd w0 R (.slice none ([] : List (Int × Int)).length 0) ([] : List (Int × Int)).length (flat []) := hR ▸ vec_rd (List.Mem.tail _ (List.Mem.tail _ (List.Mem.tail _ (List.Mem.tail _ (List.Mem.tail _ (List.Mem.head _))))))
      have q7 : blk bx [.int .i64 lo, .int .i64 hi, .int .i64 dg] ∈ R := hR ▸ List.Mem.tail _ (List.Mem.tail _ (List.Mem.tail _ (List.Mem.tail _ (List.Mem.tail _ (List.Mem.tail _ (List.Mem.head _))))))
      have q8 : blk by' [.int .i64 lo2, .int .i64 hi2, .int .i64 dg2] ∈ R := hR ▸ List.Mem.tail _ (List.Mem.tail _ (List.Mem.tail _ (List.Mem.tail _ (List.Mem.tail _ (List.Mem.tail _ (List.Mem.tail _ (List.Mem.head _)))))))
      clear hR
      have hSame := fun (es : List MapEntry) (clock : Nat) (hE : HM es clock []) w hw => Same18_c (w0 := w0) (H := blk x1 (hc m1 b1 gr bu1 (sw [])) :: mapL b1 es clock :: R) (lo := lo) (hi := hi) (dg := dg) (u := uOf lo) (g := gOf dg) x1 m1 b1 r1 gr bu1 es clock [] none 0 (List.Mem.head _) (List.Mem.tail _ (List.Mem.head _)) (List.Mem.tail _ (List.Mem.tail _ q4)) (List.Mem.tail _ (List.Mem.tail _ q1)) (Rd_weak q6 fun w hw => St.sub (by repeat (first | exact List.Sublist.refl _ | apply List.Sublist.cons_cons | apply List.Sublist.cons)) hw) hE GT.nil KSI.nil hug1 hg1' hb1 (by omega) (by decide) w hw
      have hTake := fun (same : Bool) hsm w hw => HTake_c (w0 := w0) (H := R) (lo := lo) (hi := hi) (dg := dg) (u := uOf lo) (g := gOf dg) (lo2 := lo2) (hi2 := hi2) (dg2 := dg2) (u2 := uOf lo2) (g2 := gOf dg2) x1 m1 b1 x2 m2 b2 gr gr2 bu1 bu2 [] [] 0 0 [] [] q4 q5 q2 q3 HM.nil HM.nil GT.nil GT.nil (by decide) hb1 hb2 same hsm w hw
      by_cases hsh : lo2 = lo ∧ hi2 = hi ∧ dg2 = dg
      · have hq : (decide (lo2 = lo) && (decide (hi2 = hi) && decide (dg2 = dg))) = true := by simp [hsh]
        have hqq : (decide (lo = lo2) && (decide (hi = hi2) && decide (dg = dg2))) = true := by simp [hsh]
        have hbb := hbe hsh.1 hsh.2.1 hsh.2.2
        repeat (first | (refine sx ?_; try intro _))
        (refine JS_order2 R [0, 1, 2, 3, 4, 5, 8, 9, 10, 6, 7, 11, 12, 13, 14, 15, 16, 17, 18, 19, 20, 21, 22, 23] [] (fun w hw => St.sub (by repeat (first | exact List.Sublist.refl _ | apply List.Sublist.cons_cons | apply List.Sublist.cons)) hw) (Picks.cons rfl (Picks.cons rfl (Picks.cons rfl (Picks.cons rfl (Picks.cons rfl (Picks.cons rfl (Picks.cons rfl (Picks.cons rfl (Picks.cons rfl (Picks.cons rfl (Picks.cons rfl (Picks.cons rfl (Picks.cons rfl (Picks.cons rfl (Picks.cons rfl (Picks.cons rfl (Picks.cons rfl (Picks.cons rfl (Picks.cons rfl (Picks.cons rfl (Picks.cons rfl (Picks.cons rfl (Picks.cons rfl (Picks.cons rfl (Picks.nil))))))))))))))))))))))))) (by kernel_rfl) (by kernel_rfl) rfl (by decide +kernel) ?_; (repeat ((first | (apply gQR2; first | apply QR2_un | apply QR2_nil | refine QR2_yes rfl rfl ?_ | refine QR2_no rfl rfl rfl rfl ?_ | refine QR2_noU rfl rfl rfl ?_) | (apply gQO2; first | refine QO2_v rfl (oL (V_loadA (tb := tb) rfl q7 rfl rfl rfl rfl)) ?_ | refine QO2_v rfl (oL (V_loadA (tb := tb) rfl q8 rfl rfl rfl rfl)) ?_ | refine QO2_v rfl (V_eqHdr rfl rfl hqq rfl) ?_ | refine aQ2 ?_) | first | (refine sx ?_; try intro _)))))
        refine QO2_call Try.call20 rfl rfl fun w hw => (hSame [] 0 HM.nil w hw).mono ?_
        rintro e w' ⟨rfl, hw'⟩
        (refine ⟨_, rfl, _, hw', (fun w hw => St.sub (by repeat (first | exact List.Sublist.refl _ | apply List.Sublist.cons_cons | apply List.Sublist.cons)) hw), ?_⟩; clear hw' hw w w')
        repeat ((first | (apply gQR2; first | apply QR2_un | apply QR2_nil | refine QR2_yes rfl rfl ?_ | refine QR2_no rfl rfl rfl rfl ?_ | refine QR2_noU rfl rfl rfl ?_) | (apply gQO2; first | refine QO2_v rfl (oL (V_loadA (tb := tb) rfl q7 rfl rfl rfl rfl)) ?_ | refine QO2_v rfl (oL (V_loadA (tb := tb) rfl q8 rfl rfl rfl rfl)) ?_ | refine QO2_v rfl (V_eqHdr rfl rfl hqq rfl) ?_ | refine aQ2 ?_) | first | (refine sx ?_; try intro _)))
        by_cases hgg : gr2 = gr
        · subst hgg
          refine QO2_call Try.call21 rfl rfl fun w hw => (hTake true (by rw [hq]; simp) w hw).mono ?_
          rintro e w' ⟨rfl, hor⟩
          rcases hor with ⟨hne, _⟩ | ⟨_, es', c', hE', hw'⟩
          · exact absurd (by decide) hne
          rw [show tkc true (sw []) (sw []) = 0 by decide]
          rw [show max bu1 bu2 = bu1 by omega, show sw [] + sw [] = sw [] by decide] at hw'
          (refine ⟨_, rfl, _, hw', (fun w hw => St.sub (by repeat (first | exact List.Sublist.refl _ | apply List.Sublist.cons_cons | apply List.Sublist.cons)) hw), ?_⟩; clear hw' hw w w')
          repeat ((first | (apply gQR2; first | apply QR2_un | apply QR2_nil | refine QR2_yes rfl rfl ?_ | refine QR2_no rfl rfl rfl rfl ?_ | refine QR2_noU rfl rfl rfl ?_) | (apply gQO2; first | refine QO2_v rfl (oL (V_loadA (tb := tb) rfl q7 rfl rfl rfl rfl)) ?_ | refine QO2_v rfl (oL (V_loadA (tb := tb) rfl q8 rfl rfl rfl rfl)) ?_ | refine QO2_v rfl (V_eqHdr rfl rfl hqq rfl) ?_ | refine aQ2 ?_) | first | (refine sx ?_; try intro _)))
          refine QO2_call Try.call20 rfl rfl fun w hw => (hSame es' c' hE' w hw).mono ?_
          rintro e w' ⟨rfl, hw'⟩
          (refine ⟨_, rfl, _, hw', (fun w hw => St.sub (by repeat (first | exact List.Sublist.refl _ | apply List.Sublist.cons_cons | apply List.Sublist.cons)) hw), ?_⟩; clear hw' hw w w')
          repeat ((first | (apply gQR2; first | apply QR2_un | apply QR2_nil | refine QR2_yes rfl rfl ?_ | refine QR2_no rfl rfl rfl rfl ?_ | refine QR2_noU rfl rfl rfl ?_) | (apply gQO2; first | refine QO2_v rfl (oL (V_loadA (tb := tb) rfl q7 rfl rfl rfl rfl)) ?_ | refine QO2_v rfl (oL (V_loadA (tb := tb) rfl q8 rfl rfl rfl rfl)) ?_ | refine QO2_v rfl (V_eqHdr rfl rfl hqq rfl) ?_ | refine aQ2 ?_) | first | (refine sx ?_; try intro _)))
          exact JS_ret Try.func4 rfl rfl fun w hw => ⟨rfl, hw.grown⟩
        · have hgf : (gr2 == gr) = false := by simpa using hgg
          have hgf' : (gr == gr2) = false := by simpa using fun h => hgg h.symm
          refine QO2_call Try.call21 rfl rfl fun w hw => (hTake false (by rw [hq, hgf]; rfl) w hw).mono ?_
          rintro e w' ⟨rfl, hor⟩
          have hw' := hor.elim (fun h => h.2) (fun h => absurd h.1 (by decide))
          clear hor
          rw [show tkc false (sw []) (sw []) = 3 by decide]
          (refine ⟨_, rfl, _, hw', (fun w hw => St.sub (by repeat (first | exact List.Sublist.refl _ | apply List.Sublist.cons_cons | apply List.Sublist.cons)) hw), ?_⟩; clear hw' hw w w')
          repeat ((first | (apply gQR2; first | apply QR2_un | apply QR2_nil | refine QR2_yes rfl rfl ?_ | refine QR2_no rfl rfl rfl rfl ?_ | refine QR2_noU rfl rfl rfl ?_) | (apply gQO2; first | refine QO2_v rfl (oL (V_loadA (tb := tb) rfl q7 rfl rfl rfl rfl)) ?_ | refine QO2_v rfl (oL (V_loadA (tb := tb) rfl q8 rfl rfl rfl rfl)) ?_ | refine QO2_v rfl (V_eqHdr rfl rfl hqq rfl) ?_ | refine aQ2 ?_) | first | (refine sx ?_; try intro _)))
          rw [hgf']
          repeat ((first | (apply gQR2; first | apply QR2_un | apply QR2_nil | refine QR2_yes rfl rfl ?_ | refine QR2_no rfl rfl rfl rfl ?_ | refine QR2_noU rfl rfl rfl ?_) | (apply gQO2; first | refine QO2_v rfl (oL (V_loadA (tb := tb) rfl q7 rfl rfl rfl rfl)) ?_ | refine QO2_v rfl (oL (V_loadA (tb := tb) rfl q8 rfl rfl rfl rfl)) ?_ | refine QO2_v rfl (V_eqHdr rfl rfl hqq rfl) ?_ | refine aQ2 ?_) | first | (refine sx ?_; try intro _)))
          refine QO2_call Try.call20 rfl rfl fun w hw => (hSame [] 0 HM.nil w hw).mono ?_
          rintro e w' ⟨rfl, hw'⟩
          (refine ⟨_, rfl, _, hw', (fun w hw => St.sub (by repeat (first | exact List.Sublist.refl _ | apply List.Sublist.cons_cons | apply List.Sublist.cons)) hw), ?_⟩; clear hw' hw w w')
          repeat ((first | (apply gQR2; first | apply QR2_un | apply QR2_nil | refine QR2_yes rfl rfl ?_ | refine QR2_no rfl rfl rfl rfl ?_ | refine QR2_noU rfl rfl rfl ?_) | (apply gQO2; first | refine QO2_v rfl (oL (V_loadA (tb := tb) rfl q7 rfl rfl rfl rfl)) ?_ | refine QO2_v rfl (oL (V_loadA (tb := tb) rfl q8 rfl rfl rfl rfl)) ?_ | refine QO2_v rfl (V_eqHdr rfl rfl hqq rfl) ?_ | refine aQ2 ?_) | first | (refine sx ?_; try intro _)))
          exact JS_ret Try.func4 rfl rfl fun w hw => ⟨rfl, hw.grown⟩
      · have hq : (decide (lo2 = lo) && (decide (hi2 = hi) && decide (dg2 = dg))) = false := by simpa using hsh
        have hqq : (decide (lo = lo2) && (decide (hi = hi2) && decide (dg = dg2))) = false := by
          simp only [Bool.and_eq_false_iff, decide_eq_false_iff_not]
          omega
        repeat (first | (refine sx ?_; try intro _))
        (refine JS_order2 R [0, 1, 2, 3, 4, 5, 8, 9, 10, 6, 7, 11, 12, 13, 14, 15, 16, 17, 18, 19, 20, 21, 22, 23] [] (fun w hw => St.sub (by repeat (first | exact List.Sublist.refl _ | apply List.Sublist.cons_cons | apply List.Sublist.cons)) hw) (Picks.cons rfl (Picks.cons rfl (Picks.cons rfl (Picks.cons rfl (Picks.cons rfl (Picks.cons rfl (Picks.cons rfl (Picks.cons rfl (Picks.cons rfl (Picks.cons rfl (Picks.cons rfl (Picks.cons rfl (Picks.cons rfl (Picks.cons rfl (Picks.cons rfl (Picks.cons rfl (Picks.cons rfl (Picks.cons rfl (Picks.cons rfl (Picks.cons rfl (Picks.cons rfl (Picks.cons rfl (Picks.cons rfl (Picks.cons rfl (Picks.nil))))))))))))))))))))))))) (by kernel_rfl) (by kernel_rfl) rfl (by decide +kernel) ?_; (repeat ((first | (apply gQR2; first | apply QR2_un | apply QR2_nil | refine QR2_yes rfl rfl ?_ | refine QR2_no rfl rfl rfl rfl ?_ | refine QR2_noU rfl rfl rfl ?_) | (apply gQO2; first | refine QO2_v rfl (oL (V_loadA (tb := tb) rfl q7 rfl rfl rfl rfl)) ?_ | refine QO2_v rfl (oL (V_loadA (tb := tb) rfl q8 rfl rfl rfl rfl)) ?_ | refine QO2_v rfl (V_eqHdr rfl rfl hqq rfl) ?_ | refine aQ2 ?_) | first | (refine sx ?_; try intro _)))))
        refine QO2_call Try.call20 rfl rfl fun w hw => (hSame [] 0 HM.nil w hw).mono ?_
        rintro e w' ⟨rfl, hw'⟩
        (refine ⟨_, rfl, _, hw', (fun w hw => St.sub (by repeat (first | exact List.Sublist.refl _ | apply List.Sublist.cons_cons | apply List.Sublist.cons)) hw), ?_⟩; clear hw' hw w w')
        repeat ((first | (apply gQR2; first | apply QR2_un | apply QR2_nil | refine QR2_yes rfl rfl ?_ | refine QR2_no rfl rfl rfl rfl ?_ | refine QR2_noU rfl rfl rfl ?_) | (apply gQO2; first | refine QO2_v rfl (oL (V_loadA (tb := tb) rfl q7 rfl rfl rfl rfl)) ?_ | refine QO2_v rfl (oL (V_loadA (tb := tb) rfl q8 rfl rfl rfl rfl)) ?_ | refine QO2_v rfl (V_eqHdr rfl rfl hqq rfl) ?_ | refine aQ2 ?_) | first | (refine sx ?_; try intro _)))
        refine QO2_call Try.call21 rfl rfl fun w hw => (hTake false (by rw [hq]; rfl) w hw).mono ?_
        rintro e w' ⟨rfl, hor⟩
        have hw' := hor.elim (fun h => h.2) (fun h => absurd h.1 (by decide))
        clear hor
        rw [show tkc false (sw []) (sw []) = 3 by decide]
        (refine ⟨_, rfl, _, hw', (fun w hw => St.sub (by repeat (first | exact List.Sublist.refl _ | apply List.Sublist.cons_cons | apply List.Sublist.cons)) hw), ?_⟩; clear hw' hw w w')
        repeat ((first | (apply gQR2; first | apply QR2_un | apply QR2_nil | refine QR2_yes rfl rfl ?_ | refine QR2_no rfl rfl rfl rfl ?_ | refine QR2_noU rfl rfl rfl ?_) | (apply gQO2; first | refine QO2_v rfl (oL (V_loadA (tb := tb) rfl q7 rfl rfl rfl rfl)) ?_ | refine QO2_v rfl (oL (V_loadA (tb := tb) rfl q8 rfl rfl rfl rfl)) ?_ | refine QO2_v rfl (V_eqHdr rfl rfl hqq rfl) ?_ | refine aQ2 ?_) | first | (refine sx ?_; try intro _)))
        refine QO2_call Try.call20 rfl rfl fun w hw => (hSame [] 0 HM.nil w hw).mono ?_
        rintro e w' ⟨rfl, hw'⟩
        (refine ⟨_, rfl, _, hw', (fun w hw => St.sub (by repeat (first | exact List.Sublist.refl _ | apply List.Sublist.cons_cons | apply List.Sublist.cons)) hw), ?_⟩; clear hw' hw w w')
        repeat ((first | (apply gQR2; first | apply QR2_un | apply QR2_nil | refine QR2_yes rfl rfl ?_ | refine QR2_no rfl rfl rfl rfl ?_ | refine QR2_noU rfl rfl rfl ?_) | (apply gQO2; first | refine QO2_v rfl (oL (V_loadA (tb := tb) rfl q7 rfl rfl rfl rfl)) ?_ | refine QO2_v rfl (oL (V_loadA (tb := tb) rfl q8 rfl rfl rfl rfl)) ?_ | refine QO2_v rfl (V_eqHdr rfl rfl hqq rfl) ?_ | refine aQ2 ?_) | first | (refine sx ?_; try intro _)))
        exact JS_ret Try.func4 rfl rfl fun w hw => ⟨rfl, hw.grown⟩
    · refine JO_call Try.call18 rfl rfl fun w hw => (HNewF_c lo2 hi2 dg2 gr2 h4 h5 h6 hs2 w hw).mono ?_
      rintro e w' ⟨rfl, hw'⟩
      (refine ⟨_, rfl, _, hw', ?_⟩; clear hw' hw w w')
      ((repeat (first | apply hIx 5 | first | (refine sx ?_; try intro _))); refine Hold.go ?_; refine JS_seq ?_; refine JS_order [0, 1, 3, 4, 2, 5, 6, 7] [] (Picks.cons rfl (Picks.cons rfl (Picks.cons rfl (Picks.cons rfl (Picks.cons rfl (Picks.cons rfl (Picks.cons rfl (Picks.cons rfl (Picks.nil))))))))) (by kernel_rfl) (by kernel_rfl) rfl (by decide +kernel) ?_; (repeat (first | (refine sx ?_; try intro _))))
      refine QO_call Try.call19 rfl rfl fun w hw => (RNewT_c lo hi dg gr hs1 h2.2 w hw).mono ?_
      rintro e w' ⟨r1, rfl, hw'⟩
      (refine ⟨_, rfl, _, hw', .inl fun w hw => St.sub (by repeat (first | exact List.Sublist.refl _ | apply List.Sublist.cons_cons | apply List.Sublist.cons)) hw, ?_⟩; clear hw' hw w w')
      repeat (first | (refine sx ?_; try intro _))
      refine QO_call Try.call19 rfl rfl fun w hw => (RNewF_c lo2 hi2 dg2 gr2 h4 h5 h6 hs2 w hw).mono ?_
      rintro e w' ⟨rfl, hw'⟩
      (refine ⟨_, rfl, _, hw', .inl fun w hw => hw, ?_⟩; clear hw' hw w w')
      repeat (first | (refine sx ?_; try intro _))
      exact JS_ret Try.func4 rfl rfl fun w hw => ⟨rfl, hw.grown⟩
  · refine JO_call Try.call18 rfl rfl fun w hw => (HNewF_c lo hi dg gr h1 h2 h3 hs1 w hw).mono ?_
    rintro e w' ⟨rfl, hw'⟩
    (refine ⟨_, rfl, _, hw', ?_⟩; clear hw' hw w w')
    repeat (first | (refine sx ?_; try intro _))
    by_cases hs2 : shOK lo2 hi2 dg2
    · refine JO_call Try.call18 rfl rfl fun w hw => (HNewT_c lo2 hi2 dg2 gr2 hs2 h5.2 w hw).mono ?_
      rintro e w' ⟨x2, m2, b2, rfl, hw'⟩
      (refine ⟨_, rfl, _, hw', ?_⟩; clear hw' hw w w')
      ((repeat (first | apply hIx 5 | first | (refine sx ?_; try intro _))); refine Hold.go ?_; refine JS_seq ?_; refine JS_order [0, 1, 3, 4, 2, 5, 6, 7] [] (Picks.cons rfl (Picks.cons rfl (Picks.cons rfl (Picks.cons rfl (Picks.cons rfl (Picks.cons rfl (Picks.cons rfl (Picks.cons rfl (Picks.nil))))))))) (by kernel_rfl) (by kernel_rfl) rfl (by decide +kernel) ?_; (repeat (first | (refine sx ?_; try intro _))))
      refine QO_call Try.call19 rfl rfl fun w hw => (RNewF_c lo hi dg gr h1 h2 h3 hs1 w hw).mono ?_
      rintro e w' ⟨rfl, hw'⟩
      (refine ⟨_, rfl, _, hw', .inl fun w hw => hw, ?_⟩; clear hw' hw w w')
      repeat (first | (refine sx ?_; try intro _))
      refine QO_call Try.call19 rfl rfl fun w hw => (RNewT_c lo2 hi2 dg2 gr2 hs2 h5.2 w hw).mono ?_
      rintro e w' ⟨r2, rfl, hw'⟩
      (refine ⟨_, rfl, _, hw', .inl fun w hw => St.sub (by repeat (first | exact List.Sublist.refl _ | apply List.Sublist.cons_cons | apply List.Sublist.cons)) hw, ?_⟩; clear hw' hw w w')
      repeat (first | (refine sx ?_; try intro _))
      exact JS_ret Try.func4 rfl rfl fun w hw => ⟨rfl, hw.grown⟩
    · refine JO_call Try.call18 rfl rfl fun w hw => (HNewF_c lo2 hi2 dg2 gr2 h4 h5 h6 hs2 w hw).mono ?_
      rintro e w' ⟨rfl, hw'⟩
      (refine ⟨_, rfl, _, hw', ?_⟩; clear hw' hw w w')
      ((repeat (first | apply hIx 5 | first | (refine sx ?_; try intro _))); refine Hold.go ?_; refine JS_seq ?_; refine JS_order [0, 1, 3, 4, 2, 5, 6, 7] [] (Picks.cons rfl (Picks.cons rfl (Picks.cons rfl (Picks.cons rfl (Picks.cons rfl (Picks.cons rfl (Picks.cons rfl (Picks.cons rfl (Picks.nil))))))))) (by kernel_rfl) (by kernel_rfl) rfl (by decide +kernel) ?_; (repeat (first | (refine sx ?_; try intro _))))
      refine QO_call Try.call19 rfl rfl fun w hw => (RNewF_c lo hi dg gr h1 h2 h3 hs1 w hw).mono ?_
      rintro e w' ⟨rfl, hw'⟩
      (refine ⟨_, rfl, _, hw', .inl fun w hw => hw, ?_⟩; clear hw' hw w w')
      repeat (first | (refine sx ?_; try intro _))
      refine QO_call Try.call19 rfl rfl fun w hw => (RNewF_c lo2 hi2 dg2 gr2 h4 h5 h6 hs2 w hw).mono ?_
      rintro e w' ⟨rfl, hw'⟩
      (refine ⟨_, rfl, _, hw', .inl fun w hw => hw, ?_⟩; clear hw' hw w w')
      repeat (first | (refine sx ?_; try intro _))
      exact JS_ret Try.func4 rfl rfl fun w hw => ⟨rfl, hw.grown⟩
end Go.Proofs.Ytmnilpjgkjkecaa

namespace Go.Proofs.Ytmnilpjgkjkecaa
open Sx Go Hd
set_option linter.unusedVariables false
set_option linter.unusedSimpArgs false
/-! ## ranks among what was recorded (plain) -/
/-- how much is up to x -/
def upS (L : List Int) (W : Nat → Int) (x : Int) : Nat → Int
  | 0 => 0
  | k + 1 => upS L W x k + if 0 ≤ L.getD k 0 ∧ L.getD k 0 ≤ x then W k else 0
/-- the least value whose rank is not less than r; -1: none -/
def rkB (L : List Int) (W : Nat → Int) (m : Nat) (r : Int) : Nat → Int
  | 0 => -1
  | i + 1 => if L.getD i 0 < 0 ∨ (0 ≤ rkB L W m r i ∧ rkB L W m r i ≤ L.getD i 0) then rkB L W m r i else if r ≤ upS L W (L.getD i 0) m then L.getD i 0 else rkB L W m r i
theorem rkB_spec (L : List Int) (W : Nat → Int) (m : Nat) (r : Int) : ∀ i, (rkB L W m r i = -1 ∧ ∀ j, j < i → 0 ≤ L.getD j 0 → upS L W (L.getD j 0) m < r) ∨
    (0 ≤ rkB L W m r i ∧ r ≤ upS L W (rkB L W m r i) m ∧ (∃ j, j < i ∧ L.getD j 0 = rkB L W m r i) ∧ ∀ j, j < i → 0 ≤ L.getD j 0 → r ≤ upS L W (L.getD j 0) m → rkB L W m r i ≤ L.getD j 0)
  | 0 => .inl ⟨rfl, fun j h => absurd h (by omega)⟩
  | i + 1 => by
    have ih := rkB_spec L W m r i
    have hb : rkB L W m r (i + 1) = if L.getD i 0 < 0 ∨ (0 ≤ rkB L W m r i ∧ rkB L W m r i ≤ L.getD i 0) then rkB L W m r i else if r ≤ upS L W (L.getD i 0) m then L.getD i 0 else rkB L W m r i := rfl
    generalize rkB L W m r i = b at *
    generalize hv : L.getD i 0 = v at *
    have hcase : ∀ j, j < i + 1 → j < i ∨ L.getD j 0 = v := fun j hj => by
      rcases Nat.lt_or_ge j i with h | h
      · exact .inl h
      · have : j = i := by omega
        subst this; exact .inr hv
    split at hb
    · rename_i hc
      rw [hb]
      rcases ih with ⟨h1, h2⟩ | ⟨h1, h2, ⟨j0, h3, h4⟩, h5⟩
      · refine .inl ⟨h1, fun j hj h0 => ?_⟩
        rcases hcase j hj with h | h
        · exact h2 j h h0
        · omega
      · refine .inr ⟨h1, h2, ⟨j0, by omega, h4⟩, fun j hj h0 hr => ?_⟩
        rcases hcase j hj with h | h
        · exact h5 j h h0 hr
        · omega
    · rename_i hc
      split at hb
      · rename_i hr
        rw [hb]
        refine .inr ⟨by omega, hr, ⟨i, by omega, hv⟩, fun j hj h0 hr' => ?_⟩
        rcases hcase j hj with h | h
        · rcases ih with ⟨h1, h2⟩ | ⟨h1, h2, h3, h5⟩
          · have := h2 j h h0; omega
          · have := h5 j h h0 hr'; omega
        · omega
      · rename_i hr
        rw [hb]
        rcases ih with ⟨h1, h2⟩ | ⟨h1, h2, ⟨j0, h3, h4⟩, h5⟩
        · refine .inl ⟨h1, fun j hj h0 => ?_⟩
          rcases hcase j hj with h | h
          · exact h2 j h h0
          · rw [h]; omega
        · refine .inr ⟨h1, h2, ⟨j0, by omega, h4⟩, fun j hj h0 hr' => ?_⟩
          rcases hcase j hj with h | h
          · exact h5 j h h0 hr'
          · rw [h] at hr'; omega
/-- how much has a key up to i -/
def cumK (i : Int) : List (Int × Int) → Int
  | [] => 0
  | x :: r => (if x.1 ≤ i then x.2 else 0) + cumK i r
theorem cumK_put {k n i : Int} : ∀ (T : List (Int × Int)), cumK i (putT k n T) = cumK i T + if k ≤ i then n else 0
  | [] => by simp only [putT, cumK]; omega
  | x :: r => by
    rw [putT]
    split
    · rw [cumK, cumK, cumK_put r]; omega
    · split
      · rename_i h1 h2
        simp only [cumK]
        rw [h2]
        split <;> omega
      · simp only [cumK]; omega
theorem cumK_hi {i : Int} : ∀ {T : List (Int × Int)}, (∀ x ∈ T, i < x.1) → cumK i T = 0
  | [], _ => rfl
  | x :: r, h => by
    have := h x (by simp)
    rw [cumK, if_neg (by omega), cumK_hi fun y hy => h y (by simp [hy])]; rfl
theorem cumK_take {T : List (Int × Int)} (hs : Srt T) : ∀ j, j < T.length → cumK (T.getD j (0, 0)).1 T = sw (T.take (j + 1)) := by
  induction T with
  | nil => intro j hj; simp at hj
  | cons x r ih =>
    intro j hj
    obtain ⟨h1, h2⟩ := List.pairwise_cons.1 hs
    cases j with
    | zero =>
      have e : cumK x.1 r = 0 := cumK_hi h1
      show cumK x.1 (x :: r) = _
      rw [cumK, if_pos (Int.le_refl _), e]
      simp [sw]
    | succ j =>
      have hj' : j < r.length := by simpa using hj
      show cumK (r.getD j (0, 0)).1 (x :: r) = _
      rw [cumK, ih h2 j hj', List.take_succ_cons, sw, if_pos]
      have := h1 _ (getD_mem hj')
      omega
/-- below a key: what stands before it -/
theorem cumK_below {T : List (Int × Int)} (hs : Srt T) (hp : ∀ x ∈ T, 0 < x.2) {j : Nat} (hj : j < T.length) {i : Int} (hi : i < (T.getD j (0, 0)).1) : cumK i T ≤ sw (T.take j) := by
  induction T generalizing j with
  | nil => simp at hj
  | cons x r ih =>
    obtain ⟨h1, h2⟩ := List.pairwise_cons.1 hs
    cases j with
    | zero =>
      rw [cumK_hi fun y hy => ?_]
      · simp [sw]
      · rcases List.mem_cons.1 hy with rfl | hy
        · exact hi
        · have := h1 y hy
          have hi' : i < x.1 := hi
          omega
    | succ j =>
      have hj' : j < r.length := by simpa using hj
      have := ih h2 (fun y hy => hp y (by simp [hy])) hj' hi
      have hx := hp x (by simp)
      rw [cumK, List.take_succ_cons, sw]
      split <;> omega
/-- how much of the values that p picks -/
def upP (p : Int → Bool) (L : List Int) (W : Nat → Int) : Nat → Int
  | 0 => 0
  | k + 1 => upP p L W k + if p (L.getD k 0) then W k else 0
theorem upS_eq (L : List Int) (W : Nat → Int) (x : Int) : ∀ m, upS L W x m = upP (fun l => decide (0 ≤ l ∧ l ≤ x)) L W m
  | 0 => rfl
  | m + 1 => by rw [upS, upP, upS_eq L W x m]; simp only [decide_eq_true_eq]
theorem upP_le {p q : Int → Bool} {L : List Int} {W : Nat → Int} (hW : ∀ k, 0 ≤ W k) : ∀ m, (∀ k, k < m → p (L.getD k 0) = true → q (L.getD k 0) = true) → upP p L W m ≤ upP q L W m
  | 0, _ => Int.le_refl _
  | m + 1, h => by
    have h1 := upP_le hW m fun k hk => h k (by omega)
    have h2 := h m (by omega)
    have h3 := hW m
    rw [upP, upP]
    by_cases hp : p (L.getD m 0) = true
    · rw [if_pos hp, if_pos (h2 hp)]; omega
    · rw [if_neg hp]; split <;> omega
def inC (u g : Nat) (z : Int) (l : Int) : Bool := decide (0 ≤ l ∧ ((idx u g l.toNat : Nat) : Int) ≤ z)
/-- the histogram that grows: what its cells tell -/
structure RG (u g : Nat) (L : List Int) (W : Nat → Int) (i : Nat) (T : List (Int × Int)) : Prop where
  tot : sw T ≤ 1000 * i
  key : ∀ x ∈ T, ∃ k, k < i ∧ 0 ≤ L.getD k 0 ∧ x.1 = (idx u g (L.getD k 0).toNat : Nat)
  cum : ∀ z : Int, cumK z T = upP (inC u g z) L W i
theorem chk_grow {u g bu : Nat} {tot v n : Int} (hn : 1 ≤ n) (ht : tot + n ≤ 4611686018427387904) : chk u g true bu tot v n = if v < 0 then 5 else 0 := by
  unfold chk
  rw [if_neg (by omega)]
  by_cases h : v < 0
  · rw [if_pos (.inl h), if_pos h]
  · rw [if_neg (fun h' => h'.elim h (fun h'' => by cases h''.2)), if_neg (by omega), if_neg h]
theorem recS_rg {u g bu : Nat} {L : List Int} {W : Nat → Int} (hW : ∀ j, 1 ≤ W j ∧ W j ≤ 1000) : ∀ i, i ≤ 40 → RG u g L W i (recS u g true bu L W i).2
  | 0, _ => ⟨by simp [recS, sw], fun x hx => absurd hx (by simp [recS]), fun z => rfl⟩
  | i + 1, hi => by
    obtain ⟨h1, h2, h3⟩ := recS_rg (u := u) (g := g) (bu := bu) (L := L) hW i (by omega)
    have hw := hW i
    have e : (recS u g true bu L W (i + 1)) = rec1 u g true (recS u g true bu L W i) (L.getD i 0) (W i) := rfl
    rw [e]
    generalize recS u g true bu L W i = s at *
    unfold rec1
    rw [chk_grow hw.1 (by omega)]
    by_cases h0 : L.getD i 0 < 0
    · rw [if_pos h0, if_neg (by decide)]
      refine ⟨by omega, fun x hx => ?_, fun z => ?_⟩
      · obtain ⟨k, hk, h⟩ := h2 x hx
        exact ⟨k, by omega, h⟩
      · rw [h3 z, upP]
        have : inC u g z (L.getD i 0) = false := decide_eq_false (by omega)
        rw [this]; simp
    · rw [if_neg h0, if_pos rfl]
      refine ⟨?_, fun x hx => ?_, fun z => ?_⟩
      · rw [putT_sw]; omega
      · rcases putT_mem hx with hx | hx
        · obtain ⟨k, hk, h⟩ := h2 x hx
          exact ⟨k, by omega, h⟩
        · exact ⟨i, by omega, by omega, hx⟩
      · rw [cumK_put, h3 z, upP]
        have : inC u g z (L.getD i 0) = decide (((idx u g (L.getD i 0).toNat : Nat) : Int) ≤ z) := by unfold inC; exact decide_eq_decide.2 ⟨fun h => h.2, fun h => ⟨by omega, h⟩⟩
        rw [this]; simp only [decide_eq_true_eq]
theorem RG.ksi {u g : Nat} {L : List Int} {W : Nat → Int} {i : Nat} {T : List (Int × Int)} (h : RG u g L W i T) (hug : u + g ≤ 62) (hg : 1 ≤ g) (hL : ∀ j, L.getD j 0 < 9223372036854775808) : KSI u g T := fun x hx => by
  obtain ⟨k, _, h0, hk⟩ := h.key x hx
  exact ⟨_, hk, idx_is hg hug (by have := hL k; omega)⟩
/-- the greatest of some values -/
theorem exists_max (L : List Int) (p : Int → Bool) : ∀ m, (∃ k, k < m ∧ p (L.getD k 0) = true) → ∃ k, k < m ∧ p (L.getD k 0) = true ∧ ∀ j, j < m → p (L.getD j 0) = true → L.getD j 0 ≤ L.getD k 0
  | 0, h => by obtain ⟨k, hk, _⟩ := h; omega
  | m + 1, h => by
    by_cases hm : ∃ k, k < m ∧ p (L.getD k 0) = true
    · obtain ⟨k, hk, hp, hmax⟩ := exists_max L p m hm
      by_cases hpm : p (L.getD m 0) = true ∧ L.getD k 0 ≤ L.getD m 0
      · refine ⟨m, by omega, hpm.1, fun j hj hpj => ?_⟩
        rcases Nat.lt_or_ge j m with h' | h'
        · have := hmax j h' hpj; omega
        · have : j = m := by omega
          subst this; omega
      · refine ⟨k, by omega, hp, fun j hj hpj => ?_⟩
        rcases Nat.lt_or_ge j m with h' | h'
        · exact hmax j h' hpj
        · have : j = m := by omega
          subst this
          have : ¬ L.getD k 0 ≤ L.getD j 0 := fun h => hpm ⟨hpj, h⟩
          omega
    · obtain ⟨k, hk, hp⟩ := h
      have : k = m := by
        rcases Nat.lt_or_ge k m with h' | h'
        · exact absurd ⟨k, h', hp⟩ hm
        · omega
      subst this
      refine ⟨k, hk, hp, fun j hj hpj => ?_⟩
      rcases Nat.lt_or_ge j k with h' | h'
      · exact absurd ⟨j, h', hpj⟩ hm
      · have : j = k := by omega
        subst this; omega
/-- the value of a rank lies in the cell of that rank -/
theorem rank_cell {u g : Nat} {L : List Int} {W : Nat → Int} {m : Nat} {T : List (Int × Int)} (h : RG u g L W m T) (hG : GT T) (hg : 1 ≤ g) (hW : ∀ k, 0 ≤ W k) {r : Int} {k : Nat} (hr1 : 1 ≤ r) (hr : r ≤ sw T) (hT : T ≠ []) (hk : KY T r k) :
    0 ≤ rkB L W m r m ∧ (∃ j, j < m ∧ L.getD j 0 = rkB L W m r m) ∧ idx u g (rkB L W m r m).toNat = k := by
  obtain ⟨j, hj, h1, h2, h3⟩ : ∃ j, j < T.length ∧ (j = 0 ∨ sw (T.take j) < r) ∧ r ≤ sw (T.take (j + 1)) ∧ (k : Int) = (T.getD j (0, 0)).1 := by
    rcases hk with ⟨i, a, b, c, d⟩ | ⟨a, _⟩
    · exact ⟨i, a, b, c, d⟩
    · have hp := List.length_pos_iff.2 hT
      have := a (T.length - 1) (by omega)
      rw [show T.length - 1 + 1 = T.length by omega, List.take_length] at this
      omega
  rw [← cumK_take hG.srt j hj, ← h3, h.cum] at h2
  obtain ⟨q, hq1, hq2, hq3⟩ := h.key _ (getD_mem hj)
  rw [← h3] at hq3
  obtain ⟨mx, hm1, hm2, hm3⟩ := exists_max L (inC u g k) m ⟨q, hq1, decide_eq_true ⟨hq2, by omega⟩⟩
  have hm2' := of_decide_eq_true hm2
  have hup : r ≤ upS L W (L.getD mx 0) m := by
    refine Int.le_trans h2 ?_
    rw [upS_eq]
    refine upP_le hW m fun i hi hp => ?_
    have := of_decide_eq_true hp
    exact decide_eq_true ⟨this.1, hm3 i hi hp⟩
  rcases rkB_spec L W m r m with ⟨_, hno⟩ | ⟨hv0, hv1, ⟨i, hi, hiv⟩, hv2⟩
  · have := hno mx hm1 hm2'.1; omega
  · refine ⟨hv0, ⟨i, hi, hiv⟩, ?_⟩
    have hle := hv2 mx hm1 hm2'.1 hup
    have a1 : idx u g (rkB L W m r m).toNat ≤ k := by
      have := idx_mono (u := u) hg (show (rkB L W m r m).toNat ≤ (L.getD mx 0).toNat by omega)
      omega
    have a2 : k ≤ idx u g (rkB L W m r m).toNat := by
      refine Nat.le_of_not_lt fun hlt => ?_
      -- all that is up to the value has a lesser key
      have b1 : upS L W (rkB L W m r m) m ≤ cumK (idx u g (rkB L W m r m).toNat : Nat) T := by
        rw [h.cum, upS_eq]
        refine upP_le hW m fun i hi hp => ?_
        have hp := of_decide_eq_true hp
        have := idx_mono (u := u) hg (show (L.getD i 0).toNat ≤ (rkB L W m r m).toNat by omega)
        exact decide_eq_true ⟨hp.1, by omega⟩
      have b2 := cumK_below hG.srt hG.pos hj (i := (idx u g (rkB L W m r m).toNat : Nat)) (by rw [← h3]; omega)
      rcases h1 with rfl | h1
      · have b3 : cumK (idx u g (rkB L W m r m).toNat : Nat) T = 0 := cumK_hi fun y hy => by
          obtain ⟨i, hi, rfl⟩ := List.getElem_of_mem hy
          have e0 : (k : Int) = (T.getD 0 (0, 0)).1 := h3
          rw [List.getD_eq_getElem?_getD, List.getElem?_eq_getElem hj] at e0
          rcases Nat.eq_zero_or_pos i with rfl | hi0
          · have e0 : (k : Int) = T[0].1 := e0
            omega
          · have := List.pairwise_iff_getElem.1 hG.srt 0 i hj hi hi0
            have e0 : (k : Int) = T[0].1 := e0
            omega
        omega
      · omega
    omega
/-- the end of a value's cell is as near beyond it as the digits say -/
theorem cell_near {u g v d : Nat} (hg : 1 ≤ g) (hd : 10 ^ d ≤ 2 ^ (g - 1)) : v ≤ hiI u g (idx u g v) ∧ (hiI u g (idx u g v) - v < 2 ^ u ∨ hiI u g (idx u g v) - v ≤ (v - 1) / 10 ^ d) := by
  have e : hiI u g (idx u g v) = low u g v + (siz u g v - 1) := by
    unfold hiI
    rw [idx_val hg]
    unfold siz
    rw [low_bkt hg]
  have h1 := low_hi u g v
  have h2 := low_le u g v
  have h3 : 0 < siz u g v := p2pos _
  refine ⟨by omega, ?_⟩
  rcases Nat.eq_zero_or_pos (bkt u g v) with h0 | h0
  · left
    have : siz u g v = 2 ^ u := by unfold siz; rw [h0, Nat.zero_add]
    omega
  · right
    have h4 := cel_ge (u := u) hg h0
    have h5 : 2 ^ (g - 1) * siz u g v ≤ v := Nat.le_trans (Nat.mul_le_mul_right _ h4) (Nat.div_mul_le_self _ _)
    have h6 : 10 ^ d * siz u g v ≤ v := Nat.le_trans (Nat.mul_le_mul_right _ hd) h5
    have h7 : siz u g v - 1 ≤ (v - 1) / 10 ^ d := by
      have hp : 0 < 10 ^ d := Nat.pow_pos (by decide)
      rw [Nat.le_div_iff_mul_le hp, Nat.sub_mul, Nat.mul_comm (siz u g v)]
      omega
    omega
end Go.Proofs.Ytmnilpjgkjkecaa

namespace Go.Proofs.Ytmnilpjgkjkecaa
open Sx Go Hd
set_option linter.unusedVariables false
set_option linter.unusedSimpArgs false
/-! ## the order makes no difference (plain) -/
theorem cumK_takeT {z : Int} (T P : List (Int × Int)) : cumK z (takeT T P) = cumK z T + cumK z P := by
  induction P generalizing T with
  | nil => simp [takeT, cumK]
  | cons p r ih =>
    have : takeT T (p :: r) = takeT (putT p.1 p.2 T) r := rfl
    rw [this, ih, cumK_put, cumK]
    omega
theorem cumK_ext : ∀ {T T' : List (Int × Int)}, Srt T → Srt T' → (∀ x ∈ T, 0 < x.2) → (∀ x ∈ T', 0 < x.2) → (∀ z, cumK z T = cumK z T') → T = T'
  | [], [], _, _, _, _, _ => rfl
  | [], y :: r, _, h', _, p', h => by
    have h1 := h y.1
    have h2 := p' y (by simp)
    rw [cumK, cumK, if_pos (Int.le_refl _), cumK_hi (List.pairwise_cons.1 h').1] at h1
    omega
  | x :: r, [], h0, _, p0, _, h => by
    have h1 := h x.1
    have h2 := p0 x (by simp)
    rw [cumK, cumK, if_pos (Int.le_refl _), cumK_hi (List.pairwise_cons.1 h0).1] at h1
    omega
  | x :: r, y :: r', h0, h', p0, p', h => by
    obtain ⟨a1, a2⟩ := List.pairwise_cons.1 h0
    obtain ⟨b1, b2⟩ := List.pairwise_cons.1 h'
    have px := p0 x (by simp)
    have py := p' y (by simp)
    have hx := h x.1
    have hy := h y.1
    have e1 : cumK x.1 r = 0 := cumK_hi a1
    have e2 : cumK y.1 r' = 0 := cumK_hi b1
    have hk : x.1 = y.1 := by
      rcases Int.lt_trichotomy x.1 y.1 with hlt | heq | hlt
      · rw [cumK, if_pos (Int.le_refl _), e1, cumK_hi (T := y :: r') (fun z hz => by
          rcases List.mem_cons.1 hz with rfl | hz
          · exact hlt
          · have := b1 z hz; omega)] at hx
        omega
      · exact heq
      · rw [cumK_hi (T := x :: r) (fun z hz => by
          rcases List.mem_cons.1 hz with rfl | hz
          · exact hlt
          · have := a1 z hz; omega), cumK, if_pos (Int.le_refl _), e2] at hy
        omega
    have hv : x.2 = y.2 := by
      rw [cumK, cumK, if_pos (Int.le_refl _), if_pos (by omega), e1, hk, e2] at hx
      omega
    have hxy : x = y := Prod.ext hk hv
    subst hxy
    congr 1
    refine cumK_ext a2 b2 (fun z hz => p0 z (by simp [hz])) (fun z hz => p' z (by simp [hz])) fun z => ?_
    have := h z
    rw [cumK, cumK] at this
    omega
theorem upP_count (p : Int → Bool) (L : List Int) : ∀ m, m ≤ L.length → upP p L (wtN []) m = ((L.take m).countP p : Nat)
  | 0, _ => by simp [upP]
  | m + 1, h => by
    rw [upP, upP_count p L m (by omega), List.take_add_one, List.getElem?_eq_getElem (by omega), Option.toList_some, List.countP_append, List.countP_singleton, List.getD_eq_getElem?_getD, List.getElem?_eq_getElem (by omega)]
    simp only [Option.getD_some, wtN, List.length_nil, Nat.not_lt_zero, if_false]
    split <;> simp
theorem recS_bu {u g bu : Nat} {L : List Int} : ∀ i, i ≤ 40 → ∀ B, (recS u g true bu L (wtN []) i).1 ≤ B ↔ bu ≤ B ∧ ∀ k, k < i → 0 ≤ L.getD k 0 → 1 + bkt u g (L.getD k 0).toNat ≤ B
  | 0, _, B => by simp [recS]
  | i + 1, hi, B => by
    have ih := recS_bu (u := u) (g := g) (bu := bu) (L := L) i (by omega) B
    have hrg := recS_rg (u := u) (g := g) (bu := bu) (L := L) (wtN_bd []) i (by omega)
    have hw := wtN_bd [] i
    have e : (recS u g true bu L (wtN []) (i + 1)) = rec1 u g true (recS u g true bu L (wtN []) i) (L.getD i 0) (wtN [] i) := rfl
    rw [e]
    have ht := hrg.tot
    generalize recS u g true bu L (wtN []) i = s at *
    unfold rec1
    rw [chk_grow hw.1 (by omega)]
    have hall : (∀ k, k < i + 1 → 0 ≤ L.getD k 0 → 1 + bkt u g (L.getD k 0).toNat ≤ B) ↔ (∀ k, k < i → 0 ≤ L.getD k 0 → 1 + bkt u g (L.getD k 0).toNat ≤ B) ∧ (0 ≤ L.getD i 0 → 1 + bkt u g (L.getD i 0).toNat ≤ B) := by
      constructor
      · exact fun h => ⟨fun k hk => h k (by omega), h i (by omega)⟩
      · rintro ⟨h1, h2⟩ k hk
        rcases Nat.lt_or_ge k i with h | h
        · exact h1 k h
        · have : k = i := by omega
          subst this; exact h2
    rw [hall]
    by_cases h0 : L.getD i 0 < 0
    · rw [if_pos h0, if_neg (by decide), ih]
      constructor
      · rintro ⟨a, b⟩; exact ⟨a, b, fun h => absurd h (by omega)⟩
      · rintro ⟨a, b, _⟩; exact ⟨a, b⟩
    · rw [if_neg h0, if_pos rfl]
      show max s.1 _ ≤ B ↔ _
      rw [Nat.max_le, ih]
      constructor
      · rintro ⟨⟨a, b⟩, c⟩; exact ⟨a, b, fun _ => c⟩
      · rintro ⟨a, b, c⟩; exact ⟨⟨a, b⟩, c (by omega)⟩
theorem all_getD {p : Int → Prop} (L : List Int) : (∀ k, k < L.length → p (L.getD k 0)) ↔ ∀ x ∈ L, p x := by
  constructor
  · intro h x hx
    obtain ⟨k, hk, rfl⟩ := List.getElem_of_mem hx
    have := h k hk
    rwa [List.getD_eq_getElem?_getD, List.getElem?_eq_getElem hk] at this
  · intro h k hk
    rw [List.getD_eq_getElem?_getD, List.getElem?_eq_getElem hk]
    exact h _ (List.getElem_mem hk)
/-- all values of a list are recorded, each once -/
def recA (u g bu : Nat) (L : List Int) : Nat × List (Int × Int) := recS u g true bu L (wtN []) L.length
theorem recA_cum {u g bu : Nat} {L : List Int} (hl : L.length ≤ 40) (z : Int) : cumK z (recA u g bu L).2 = (L.countP (inC u g z) : Nat) := by
  have h := (recS_rg (u := u) (g := g) (bu := bu) (L := L) (wtN_bd []) L.length hl).cum z
  rw [upP_count _ _ _ (Nat.le_refl _), List.take_length] at h
  exact h
theorem recA_bu {u g bu : Nat} {L : List Int} (hl : L.length ≤ 40) (B : Nat) : (recA u g bu L).1 ≤ B ↔ bu ≤ B ∧ ∀ x ∈ L, 0 ≤ x → 1 + bkt u g x.toNat ≤ B := by
  have h := recS_bu (u := u) (g := g) (bu := bu) (L := L) L.length hl B
  rw [all_getD (p := fun x => 0 ≤ x → 1 + bkt u g x.toNat ≤ B)] at h
  exact h
theorem le_ext {a b : Nat} (h : ∀ B, a ≤ B ↔ b ≤ B) : a = b := Nat.le_antisymm ((h b).2 (Nat.le_refl _)) ((h a).1 (Nat.le_refl _))
theorem OKS.of_recA {u g bu : Nat} {L : List Int} (hug : u + g ≤ 62) (hg : 1 ≤ g ∧ g ≤ 18) (hbu : bu ≤ 64) (hL : ∀ j, L.getD j 0 < 9223372036854775808) : OKS (recA u g bu L) ∧ (recA u g bu L).2.length ≤ L.length := recS_ok hug hg hbu hL (fun j => by have := wtN_bd [] j; omega) L.length
theorem recA_perm {u g bu : Nat} {L L' : List Int} (hug : u + g ≤ 62) (hg : 1 ≤ g ∧ g ≤ 18) (hbu : bu ≤ 64) (hL : ∀ j, L.getD j 0 < 9223372036854775808) (hL' : ∀ j, L'.getD j 0 < 9223372036854775808) (hl : L.length ≤ 40) (hp : L.Perm L') : recA u g bu L = recA u g bu L' := by
  have hl' : L'.length ≤ 40 := by rw [← hp.length_eq]; exact hl
  have h1 := (OKS.of_recA hug hg hbu hL).1
  have h2 := (OKS.of_recA hug hg hbu hL').1
  refine Prod.ext (le_ext fun B => ?_) (cumK_ext h1.gt.srt h2.gt.srt h1.gt.pos h2.gt.pos fun z => ?_)
  · rw [recA_bu hl, recA_bu hl']
    exact and_congr_right fun _ => ⟨fun h x hx => h x (hp.symm.subset hx), fun h x hx => h x (hp.subset hx)⟩
  · rw [recA_cum hl, recA_cum hl', hp.countP_eq]
theorem recA_app {u g bu : Nat} {A B : List Int} (hug : u + g ≤ 62) (hg : 1 ≤ g ∧ g ≤ 18) (hbu : bu ≤ 64) (hA : ∀ j, A.getD j 0 < 9223372036854775808) (hB : ∀ j, B.getD j 0 < 9223372036854775808) (hAB : ∀ j, (A ++ B).getD j 0 < 9223372036854775808) (la : A.length ≤ 20) (lb : B.length ≤ 20)
    (hsum : sw (recA u g bu A).2 + sw (recA u g bu B).2 ≤ 4611686018427387904) : recA u g bu (A ++ B) = (max (recA u g bu A).1 (recA u g bu B).1, takeT (recA u g bu A).2 (recA u g bu B).2) := by
  have h1 := (OKS.of_recA hug hg hbu hA).1
  have h2 := (OKS.of_recA hug hg hbu hB).1
  have h3 := (OKS.of_recA hug hg hbu hAB).1
  have hl : (A ++ B).length ≤ 40 := by rw [List.length_append]; omega
  have h4 := takeT_ok h1.gt h2.gt hsum _ (Nat.le_refl _)
  rw [List.take_length] at h4
  refine Prod.ext (le_ext fun K => ?_) (cumK_ext h3.gt.srt h4.1.srt h3.gt.pos h4.1.pos fun z => ?_)
  · show _ ↔ max _ _ ≤ K
    rw [Nat.max_le, recA_bu hl, recA_bu (by omega), recA_bu (by omega)]
    constructor
    · rintro ⟨a, b⟩; exact ⟨⟨a, fun x hx => b x (List.mem_append_left _ hx)⟩, a, fun x hx => b x (List.mem_append_right _ hx)⟩
    · rintro ⟨⟨a, b⟩, _, c⟩
      exact ⟨a, fun x hx => (List.mem_append.1 hx).elim (b x) (c x)⟩
  · show _ = cumK z (takeT _ _)
    rw [cumK_takeT, recA_cum hl, recA_cum (by omega), recA_cum (by omega), List.countP_append]
    omega
end Go.Proofs.Ytmnilpjgkjkecaa

namespace Go.Proofs.Ytmnilpjgkjkecaa
open Sx Go Go.ChangeShapes Go.WideShapes
set_option linter.unusedVariables false
set_option linter.unusedSimpArgs false
theorem cell_lt {w : World} {a : Addr} {v : Value} (h : w.cell? a = some v) : a.block < w.heap.size := by
  rcases Nat.lt_or_ge a.block w.heap.size with h1 | h1
  · exact h1
  · simp [World.cell?, Array.getElem?_eq_none h1] at h
theorem wf64 {a : Int} (h : (Lit.int .i64 a).wf = true) : -9223372036854775808 ≤ a ∧ a < 9223372036854775808 := by
  simp only [Lit.wf, Bool.and_eq_true, decide_eq_true_eq] at h
  have h1 : IntKind.i64.min = -9223372036854775808 := by decide
  have h2 : IntKind.i64.max = 9223372036854775808 - 1 := by decide
  omega
theorem wfu64 {a : Int} (h : (Lit.int .u64 a).wf = true) : 0 ≤ a ∧ a < 18446744073709551616 := by
  simp only [Lit.wf, Bool.and_eq_true, decide_eq_true_eq] at h
  have h1 : IntKind.u64.min = 0 := by decide
  have h2 : IntKind.u64.max = 18446744073709551616 - 1 := by decide
  omega
theorem argRd_mk {w0 : World} {u : Value} {m : Nat} {cs : List Value} (h1 : isSl u m) (h2 : ∀ j v, cs[j]? = some v → ∃ a, cellPtr u j = .pointer (some a) ∧ a.block < w0.heap.size ∧ w0.cell? a = some v) : ArgRd w0 u m cs := by
  unfold ArgRd; exact ⟨h1, h2⟩
def iv : Value → Int
  | .int _ n => n
  | _ => 0
theorem wfu8 {a : Int} (h : (Lit.int .u8 a).wf = true) : 0 ≤ a ∧ a < 256 := by
  simp only [Lit.wf, Bool.and_eq_true, decide_eq_true_eq] at h
  have h1 : IntKind.u8.min = 0 := by decide
  have h2 : IntKind.u8.max = 256 - 1 := by decide
  omega
end Go.Proofs.Ytmnilpjgkjkecaa

namespace Go.Proofs.Ytmnilpjgkjkecaa
open Sx Go
set_option linter.unusedVariables false
set_option linter.unusedSimpArgs false
/-- bytes -/
def OKB (B : List Int) : Prop := ∀ j, 0 ≤ B.getD j 0 ∧ B.getD j 0 < 256
end Go.Proofs.Ytmnilpjgkjkecaa

namespace Go.Proofs.Ytmnilpjgkjkecaa
open Sx Go Go.ChangeShapes Go.WideShapes
set_option linter.unusedVariables false
set_option linter.unusedSimpArgs false
theorem cells3 : Try.prog.cellsOf 3 = 1 := by kernel_rfl
def OKI (B : List Int) : Prop := ∀ j, -9223372036854775808 ≤ B.getD j 0 ∧ B.getD j 0 < 9223372036854775808
set_option maxRecDepth 100000 in
/-- a slice of numbers that came in -/
theorem open_ints {H : Type} {enc : TypeId × Value → H} {W : World} {base : Nat} {v : Value} {d : DataW H} {p : List MemPlace} (hval : Value.okWide Try.prog W .any base 134 v) (h : DataW.Trod enc Try.prog W 0 (fun _ => true) true 134 v d p) :
    ∃ (b : Option Addr) (c m : Nat) (B : List Int), v = .slice b m c ∧ ArgRd W (.slice b m c) m (ints .i64 B) ∧ B.length = m ∧ (OKI B ∧ (b = none → m = 0)) ∧ (m = 0 ∨ ∃ E S, d = .slice E S ∧ E.length = m) := by
  obtain ⟨b, m, c, rfl⟩ := okWide_slice Try.underlying134 hval
  obtain ⟨fuel, hf⟩ := h
  rcases Go.ChangeShapes.open_ints Try.underlying134 Try.underlying3 cells3 hf with ⟨hcs, _⟩ | ⟨a, len', cap', zs, hcs, _, hl, hm, hz, hx, hcell, hwz⟩
  · simp [Value.cells] at hcs
    obtain ⟨rfl, rfl, rfl⟩ := hcs
    exact ⟨none, 0, 0, [], rfl, argRd_mk ⟨none, 0, rfl, fun _ => rfl, Nat.le_refl _⟩ (fun j v h => by simp [ints] at h), rfl, ⟨fun j => by simp, fun _ => rfl⟩, .inl rfl⟩
  · simp [Value.cells] at hcs
    obtain ⟨rfl, rfl, rfl⟩ := hcs
    simp only [if_true] at hz
    refine ⟨some a, c, m, zs.take m, rfl, argRd_mk ⟨some a, c, rfl, (fun h => by cases h), hl⟩ (fun j v hv => ?_), by simp; omega, ⟨fun j => ?_, fun h => (by cases h)⟩, .inr ⟨_, _, congrArg Prod.fst hx, by simp [lits]; omega⟩⟩
    · have hj : j < m := by
        have := (List.getElem?_eq_some_iff.1 hv).1
        simp [ints] at this; omega
      have e : (ints .i64 (zs.take m))[j]? = some (.int .i64 (zs.getD j 0)) := by
        have := ints_get (K := .i64) (l := zs.take m) (j := j) (by simp; omega)
        rw [this]
        congr 2
        simp [List.getD_eq_getElem?_getD, List.getElem?_take, hj]
      rw [e] at hv
      obtain rfl := Option.some.inj hv
      exact ⟨a.add j, cellPtr_eq a m c j, by simpa using cell_lt (hcell j (by omega)), hcell j (by omega)⟩
    · rcases Nat.lt_or_ge j m with hj | hj
      · have : (zs.take m).getD j 0 = zs[j]'(by omega) := by simp [List.getD_eq_getElem?_getD, List.getElem?_take, hj, show j < zs.length by omega]
        rw [this]
        exact wf64 (hwz _ (List.getElem_mem _))
      · have : (zs.take m).getD j 0 = 0 := by
          rw [List.getD_eq_getElem?_getD, List.getElem?_eq_none (by simp; omega)]; rfl
        rw [this]; decide
end Go.Proofs.Ytmnilpjgkjkecaa

namespace Go.Proofs.Ytmnilpjgkjkecaa
open Sx Go Go.ChangeShapes Go.WideShapes
set_option linter.unusedVariables false
set_option linter.unusedSimpArgs false
theorem cellsI2 : Try.prog.cellsOf 2 = 1 := by kernel_rfl
theorem cellsI82 : Try.prog.cellsOf 82 = 1 := by kernel_rfl
def OKH (B : List Int) : Prop := ∀ j, 0 ≤ B.getD j 0 ∧ B.getD j 0 < 65536
theorem wfu16' {a : Int} (h : (Lit.int .u16 a).wf = true) : 0 ≤ a ∧ a < 65536 := by
  simp only [Lit.wf, Bool.and_eq_true, decide_eq_true_eq] at h
  have h1 : IntKind.u16.min = 0 := by decide
  have h2 : IntKind.u16.max = 65535 := by decide
  omega
set_option maxRecDepth 100000 in
/-- a slice of numbers with a sign that came in -/
theorem open_i64s {H : Type} {enc : TypeId × Value → H} {W : World} {base : Nat} {v : Value} {d : DataW H} {p : List MemPlace} (hval : Value.okWide Try.prog W .any base 23 v) (h : DataW.Trod enc Try.prog W 0 (fun _ => true) true 23 v d p) :
    ∃ (b : Option Addr) (c m : Nat) (B : List Int), v = .slice b m c ∧ ArgRd W (.slice b m c) m (ints .i64 B) ∧ B.length = m ∧ (OKI B ∧ (b = none → m = 0)) ∧ (m = 0 ∨ ∃ E S, d = .slice E S ∧ E.length = m) := by
  obtain ⟨b, m, c, rfl⟩ := okWide_slice Try.underlying23 hval
  obtain ⟨fuel, hf⟩ := h
  rcases Go.ChangeShapes.open_ints Try.underlying23 Try.underlying2 cellsI2 hf with ⟨hcs, _⟩ | ⟨a, len', cap', zs, hcs, _, hl, hm, hz, hx, hcell, hwz⟩
  · simp [Value.cells] at hcs
    obtain ⟨rfl, rfl, rfl⟩ := hcs
    exact ⟨none, 0, 0, [], rfl, argRd_mk ⟨none, 0, rfl, fun _ => rfl, Nat.le_refl _⟩ (fun j v h => by simp [ints] at h), rfl, ⟨fun j => by simp, fun _ => rfl⟩, .inl rfl⟩
  · simp [Value.cells] at hcs
    obtain ⟨rfl, rfl, rfl⟩ := hcs
    simp only [if_true] at hz
    refine ⟨some a, c, m, zs.take m, rfl, argRd_mk ⟨some a, c, rfl, (fun h => by cases h), hl⟩ (fun j v hv => ?_), by simp; omega, ⟨fun j => ?_, fun h => (by cases h)⟩, .inr ⟨_, _, congrArg Prod.fst hx, by simp [lits]; omega⟩⟩
    · have hj : j < m := by
        have := (List.getElem?_eq_some_iff.1 hv).1
        simp [ints] at this; omega
      have e : (ints .i64 (zs.take m))[j]? = some (.int .i64 (zs.getD j 0)) := by
        have := ints_get (K := .i64) (l := zs.take m) (j := j) (by simp; omega)
        rw [this]
        congr 2
        simp [List.getD_eq_getElem?_getD, List.getElem?_take, hj]
      rw [e] at hv
      obtain rfl := Option.some.inj hv
      exact ⟨a.add j, cellPtr_eq a m c j, by simpa using cell_lt (hcell j (by omega)), hcell j (by omega)⟩
    · rcases Nat.lt_or_ge j m with hj | hj
      · have : (zs.take m).getD j 0 = zs[j]'(by omega) := by simp [List.getD_eq_getElem?_getD, List.getElem?_take, hj, show j < zs.length by omega]
        rw [this]
        exact wf64 (hwz _ (List.getElem_mem _))
      · have : (zs.take m).getD j 0 = 0 := by
          rw [List.getD_eq_getElem?_getD, List.getElem?_eq_none (by simp; omega)]; rfl
        rw [this]; decide
set_option maxRecDepth 100000 in
/-- a slice of short numbers that came in -/
theorem open_u16s {H : Type} {enc : TypeId × Value → H} {W : World} {base : Nat} {v : Value} {d : DataW H} {p : List MemPlace} (hval : Value.okWide Try.prog W .any base 24 v) (h : DataW.Trod enc Try.prog W 0 (fun _ => true) true 24 v d p) :
    ∃ (b : Option Addr) (c m : Nat) (B : List Int), v = .slice b m c ∧ ArgRd W (.slice b m c) m (ints .u16 B) ∧ B.length = m ∧ (OKH B ∧ (b = none → m = 0)) ∧ (m = 0 ∨ ∃ E S, d = .slice E S ∧ E.length = m) := by
  obtain ⟨b, m, c, rfl⟩ := okWide_slice Try.underlying24 hval
  obtain ⟨fuel, hf⟩ := h
  rcases Go.ChangeShapes.open_ints Try.underlying24 Try.underlying82 cellsI82 hf with ⟨hcs, _⟩ | ⟨a, len', cap', zs, hcs, _, hl, hm, hz, hx, hcell, hwz⟩
  · simp [Value.cells] at hcs
    obtain ⟨rfl, rfl, rfl⟩ := hcs
    exact ⟨none, 0, 0, [], rfl, argRd_mk ⟨none, 0, rfl, fun _ => rfl, Nat.le_refl _⟩ (fun j v h => by simp [ints] at h), rfl, ⟨fun j => by simp, fun _ => rfl⟩, .inl rfl⟩
  · simp [Value.cells] at hcs
    obtain ⟨rfl, rfl, rfl⟩ := hcs
    simp only [if_true] at hz
    refine ⟨some a, c, m, zs.take m, rfl, argRd_mk ⟨some a, c, rfl, (fun h => by cases h), hl⟩ (fun j v hv => ?_), by simp; omega, ⟨fun j => ?_, fun h => (by cases h)⟩, .inr ⟨_, _, congrArg Prod.fst hx, by simp [lits]; omega⟩⟩
    · have hj : j < m := by
        have := (List.getElem?_eq_some_iff.1 hv).1
        simp [ints] at this; omega
      have e : (ints .u16 (zs.take m))[j]? = some (.int .u16 (zs.getD j 0)) := by
        have := ints_get (K := .u16) (l := zs.take m) (j := j) (by simp; omega)
        rw [this]
        congr 2
        simp [List.getD_eq_getElem?_getD, List.getElem?_take, hj]
      rw [e] at hv
      obtain rfl := Option.some.inj hv
      exact ⟨a.add j, cellPtr_eq a m c j, by simpa using cell_lt (hcell j (by omega)), hcell j (by omega)⟩
    · rcases Nat.lt_or_ge j m with hj | hj
      · have : (zs.take m).getD j 0 = zs[j]'(by omega) := by simp [List.getD_eq_getElem?_getD, List.getElem?_take, hj, show j < zs.length by omega]
        rw [this]
        exact wfu16' (hwz _ (List.getElem_mem _))
      · have : (zs.take m).getD j 0 = 0 := by
          rw [List.getD_eq_getElem?_getD, List.getElem?_eq_none (by simp; omega)]; rfl
        rw [this]; decide
end Go.Proofs.Ytmnilpjgkjkecaa

namespace Go.Proofs.Ytmnilpjgkjkecaa
open Sx Go Hd
set_option linter.unusedVariables false
set_option linter.unusedSimpArgs false
theorem drop_rev {B : List Int} {k : Nat} (hk : k < B.length) : (B.drop k).reverse = (B.drop (k + 1)).reverse ++ [B.getD k 0] := by
  rw [List.drop_eq_getElem_cons hk, List.reverse_cons, List.getD_eq_getElem?_getD, List.getElem?_eq_getElem hk]; rfl
theorem nil_u16 (w0 : World) : ArgRd w0 (.slice none ([] : List Int).length 0) ([] : List Int).length (ints .u16 []) := argRd_mk ⟨none, 0, rfl, fun _ => rfl, Nat.le_refl _⟩ (fun j v h => by simp [ints] at h)
theorem okI_app {A B : List Int} (hA : OKI A) (hB : OKI B) : OKI (A ++ B) := fun j => by
  rcases Nat.lt_or_ge j A.length with h | h
  · have := hA j
    rwa [List.getD_eq_getElem?_getD, List.getElem?_append_left h, ← List.getD_eq_getElem?_getD]
  · have := hB (j - A.length)
    rwa [List.getD_eq_getElem?_getD, List.getElem?_append_right h, ← List.getD_eq_getElem?_getD]
theorem okI_rev {A : List Int} (hA : OKI A) : OKI A.reverse := fun j => by
  rcases Nat.lt_or_ge j A.length with h | h
  · have := hA (A.length - 1 - j)
    rwa [List.getD_eq_getElem?_getD, List.getElem?_reverse h, ← List.getD_eq_getElem?_getD]
  · rw [List.getD_eq_getElem?_getD, List.getElem?_eq_none (by simpa using h)]
    decide
/-- values, each once, recorded in a histogram that grows -/
theorem RecordedA_c {w0 : World} {H : List Asn} (lo hi dg : Int) (hs : shOK lo hi dg) (hhi : hi < 9223372036854775808) (lp : Option Addr) (lc m : Nat) (L : List Int) (hm : L.length = m) (hl : m ≤ 40) (hL : Rd w0 H (.slice lp m lc) m (ints .i64 L))
    (okL : ∀ j, -9223372036854775808 ≤ L.getD j 0 ∧ L.getD j 0 < 9223372036854775808) (w : World) (hw : St w0 H w) :
    Calls Try.prog 11 #[hagg lo hi dg, .bool true, .slice lp m lc, .slice none 0 0] w fun e w' => ∃ (h m b r : Nat) (es : List MapEntry) (clock : Nat) (q : Option Addr) (d : Nat), e = .returned (.tuple #[.pointer (some ⟨h, 0, none⟩), .pointer (some ⟨r, 0, none⟩)]) ∧
      HM es clock (recA (uOf lo) (gOf dg) (1 + bkt (uOf lo) (gOf dg) hi.toNat) L).2 ∧
      St w0 (hA h m b r lo hi dg (uOf lo) (gOf dg) true (recA (uOf lo) (gOf dg) (1 + bkt (uOf lo) (gOf dg) hi.toNat) L).1 es clock (recA (uOf lo) (gOf dg) (1 + bkt (uOf lo) (gOf dg) hi.toNat) L).2 q d ++ H) w' := by
  subst hm
  have h := Recorded_c lo hi dg true hs hhi lp none lc 0 L [] hL ((nil_u16 w0).rd _) okL (fun j => by simp) (by omega) (by decide) w hw
  rw [show min L.length 40 = L.length by omega] at h
  exact h
set_option maxRecDepth 10000 in
set_option maxHeartbeats 8000000 in
theorem HdrOrder_l (a0 a1 : Int) (ap : Option Addr) (ac am : Nat) (A : List Int) (bp : Option Addr) (bc bm : Nat) (B : List Int) (w0 : World) (h0 : 0 ≤ a0 ∧ a0 < 18446744073709551616) (h1 : 0 ≤ a1 ∧ a1 < 256)
    (jA : ArgRd w0 (.slice ap am ac) am (ints .i64 A)) (lA : A.length = am) (ksA' : OKI A ∧ (ap = none → am = 0) ∧ am ≤ 17592186043904) (jB : ArgRd w0 (.slice bp bm bc) bm (ints .i64 B)) (lB : B.length = bm) (ksB' : OKI B ∧ (bp = none → bm = 0) ∧ bm ≤ 17592186043904) :
    Calls Try.prog 5 #[.int .u64 a0, .int .u8 a1, .slice ap am ac, .slice bp bm bc] w0 fun e w' => e = .returned (.bool true) ∧ RowKit.Below w0.heap.size w0 w' := by
  have hs := law_sh a0 a1 100000 h0 h1 (by decide)
  have hl1 : 1 ≤ lawLo a0 ∧ lawLo a0 ≤ 100000 := by unfold lawLo; omega
  have hhi : lawHi a0 100000 < 9223372036854775808 := by unfold lawHi; omega
  have hd1 : 1 ≤ lawDg a1 ∧ lawDg a1 ≤ 5 := by unfold lawDg; omega
  have hSh := fun {H} w hw => Shape17_c (w0 := w0) (H := H) a0 a1 100000 h0 h1 (by decide) w hw
  refine enter (vs := [.int .u64 a0, .int .u8 a1, .slice ap am ac, .slice bp bm bc]) Try.func5 rfl rfl rfl (St.start w0) ?_
  generalize lawLo a0 = lo at *
  generalize lawHi a0 100000 = hi at *
  generalize lawDg a1 = dg at *
  have hug := hs.2
  have hgd := gOf_bd hd1
  have hg' : 1 ≤ gOf dg ∧ gOf dg ≤ 18 := by omega
  have hb0 : 1 + bkt (uOf lo) (gOf dg) hi.toNat ≤ 64 := by
    have := bkt_63 (u := uOf lo) (g := gOf dg) (v := hi.toNat) (by omega) (by omega)
    omega
  repeat (first | (refine sx ?_; try intro _))
  refine JO_call Try.call9 rfl rfl fun w hw => (alive18_c w hw).mono ?_
  rintro e w' ⟨rfl, hw'⟩
  (refine ⟨_, rfl, _, hw', ?_⟩; clear hw' hw w w')
  by_cases h20 : am > 20
  · repeat (first | (refine sx ?_; try intro _))
    exact JS_ret Try.func5 rfl rfl fun w hw => ⟨rfl, hw.grown⟩
  by_cases h20b : bm > 20
  · repeat (first | (refine sx ?_; try intro _))
    exact JS_ret Try.func5 rfl rfl fun w hw => ⟨rfl, hw.grown⟩
  repeat (first | (refine sx ?_; try intro _))
  refine JO_call Try.call10 rfl rfl fun w hw => (hSh w hw).mono ?_
  rintro e w' ⟨rfl, hw'⟩
  (refine ⟨_, rfl, _, hw', ?_⟩; clear hw' hw w w')
  clear hSh
  repeat (first | (refine sx ?_; try intro _))
  rename_i bx
  refine JO_call Try.call11 rfl rfl fun w hw => (RecordedA_c lo hi dg hs hhi ap ac am A lA (by omega) (jA.rd _) ksA'.1 w hw).mono ?_
  rintro e w' ⟨x1, m1, b1, r1, es1, c1, q1, d1, rfl, hE1, hw'⟩
  -- what is told of all four
  have gA : ∀ j, A.getD j 0 < 9223372036854775808 := fun j => (ksA'.1 j).2
  have gB : ∀ j, B.getD j 0 < 9223372036854775808 := fun j => (ksB'.1 j).2
  have okAB : ∀ j, -9223372036854775808 ≤ (A ++ B).getD j 0 ∧ (A ++ B).getD j 0 < 9223372036854775808 := okI_app ksA'.1 ksB'.1
  have okBK : ∀ j, -9223372036854775808 ≤ (B.reverse ++ A.reverse).getD j 0 ∧ (B.reverse ++ A.reverse).getD j 0 < 9223372036854775808 := okI_app (okI_rev ksB'.1) (okI_rev ksA'.1)
  obtain ⟨pkA, nA⟩ := OKS.of_recA (L := A) hug hg' hb0 gA
  obtain ⟨pkB, nB⟩ := OKS.of_recA (L := B) hug hg' hb0 gB
  have rgA := recS_rg (u := uOf lo) (g := gOf dg) (bu := 1 + bkt (uOf lo) (gOf dg) hi.toNat) (L := A) (wtN_bd []) A.length (by omega)
  have rgB := recS_rg (u := uOf lo) (g := gOf dg) (bu := 1 + bkt (uOf lo) (gOf dg) hi.toNat) (L := B) (wtN_bd []) B.length (by omega)
  have tA : sw (recA (uOf lo) (gOf dg) (1 + bkt (uOf lo) (gOf dg) hi.toNat) A).2 ≤ 20000 := Int.le_trans rgA.tot (by omega)
  have tB : sw (recA (uOf lo) (gOf dg) (1 + bkt (uOf lo) (gOf dg) hi.toNat) B).2 ≤ 20000 := Int.le_trans rgB.tot (by omega)
  have ksA : KSI (uOf lo) (gOf dg) (recA (uOf lo) (gOf dg) (1 + bkt (uOf lo) (gOf dg) hi.toNat) A).2 := rgA.ksi hug hg'.1 gA
  have ksB : KSI (uOf lo) (gOf dg) (recA (uOf lo) (gOf dg) (1 + bkt (uOf lo) (gOf dg) hi.toNat) B).2 := rgB.ksi hug hg'.1 gB
  have eAB := recA_app (A := A) (B := B) hug hg' hb0 gA gB (fun j => (okAB j).2) (by omega) (by omega) (by omega)
  have eBK : recA (uOf lo) (gOf dg) (1 + bkt (uOf lo) (gOf dg) hi.toNat) (B.reverse ++ A.reverse) = recA (uOf lo) (gOf dg) (1 + bkt (uOf lo) (gOf dg) hi.toNat) (A ++ B) :=
    (recA_perm hug hg' hb0 (fun j => (okAB j).2) (fun j => (okBK j).2) (by rw [List.length_append]; omega) (by rw [← List.reverse_append]; exact (List.reverse_perm _).symm)).symm
  have hRA := fun {H} lp lc m L hm hl hL okL w hw => RecordedA_c (w0 := w0) (H := H) lo hi dg hs hhi lp lc m L hm hl hL okL w hw
  clear rgA rgB
  generalize uOf lo = u at *
  generalize gOf dg = g at *
  generalize 1 + bkt u g hi.toNat = bu0 at *
  generalize recA u g bu0 A = sA at *
  obtain ⟨bA, TA⟩ := sA
  generalize hR : ([blk m1 (mc lo hi dg u g), blk bx [.int .i64 lo, .int .i64 hi, .int .i64 dg]] : List Asn) = R
  have w1 : blk m1 (mc lo hi dg u g) ∈ R := hR ▸ List.Mem.head _
  have w2 : blk bx [.int .i64 lo, .int .i64 hi, .int .i64 dg] ∈ R := hR ▸ List.Mem.tail _ (List.Mem.head _)
  refine ⟨_, rfl, blk x1 (hc m1 b1 true bA (sw TA)) :: mapL b1 es1 c1 :: R, by rw [← hR]; exact St.sub (by repeat (first | exact List.Sublist.refl _ | apply List.Sublist.cons_cons | apply List.Sublist.cons)) hw', ?_⟩
  clear hw' hw w w' hR
  dsimp only at *
  repeat (first | (apply gJO; refine JO_v (oL (V_loadA (tb := tb) rfl (List.Mem.tail _ (List.Mem.tail _ w2)) rfl rfl rfl rfl)) ?_) | first | (refine sx ?_; try intro _))
  refine JO_call Try.call11 rfl rfl fun w hw => (hRA bp bc bm B lB (by omega) (jB.rd _) ksB'.1 w hw).mono ?_
  rintro e w' ⟨x2, m2, b2, r2, es2, c2, q2, d2, rfl, hE2, hw'⟩
  generalize recA u g bu0 B = sB at *
  obtain ⟨bB, TB⟩ := sB
  dsimp only at *
  generalize hR2 : (blk x2 (hc m2 b2 true bB (sw TB)) :: mapL b2 es2 c2 :: blk m2 (mc lo hi dg u g) :: R : List Asn) = R2
  have w3 : blk x2 (hc m2 b2 true bB (sw TB)) ∈ R2 := hR2 ▸ List.Mem.head _
  have w4 : mapL b2 es2 c2 ∈ R2 := hR2 ▸ List.Mem.tail _ (List.Mem.head _)
  have w5 : blk m2 (mc lo hi dg u g) ∈ R2 := hR2 ▸ List.Mem.tail _ (List.Mem.tail _ (List.Mem.head _))
  have v1 : blk m1 (mc lo hi dg u g) ∈ R2 := hR2 ▸ List.Mem.tail _ (List.Mem.tail _ (List.Mem.tail _ w1))
  have v2 : blk bx [.int .i64 lo, .int .i64 hi, .int .i64 dg] ∈ R2 := hR2 ▸ List.Mem.tail _ (List.Mem.tail _ (List.Mem.tail _ w2))
  refine ⟨_, rfl, blk x1 (hc m1 b1 true bA (sw TA)) :: mapL b1 es1 c1 :: R2, ?_, ?_⟩
  · rw [← hR2]
    exact (St.sub (by repeat (first | exact List.Sublist.refl _ | apply List.Sublist.cons_cons | apply List.Sublist.cons)) (hw'.perm (H' := blk x1 (hc m1 b1 true bA (sw TA)) :: mapL b1 es1 c1 :: blk x2 (hc m2 b2 true bB (sw TB)) :: mapL b2 es2 c2 :: blk m2 (mc lo hi dg u g) :: blk r2 (rc lo hi dg u g true bB (.slice q2 TB.length d2)) :: vec 58 2 (.slice q2 TB.length d2) TB.length (flat TB) :: R) (by (repeat (first | exact List.Perm.refl _ | refine List.Perm.cons _ ?_ | refine (List.perm_middle (l₁ := [_])).trans (List.Perm.cons _ ?_) | refine (List.perm_middle (l₁ := [_, _])).trans (List.Perm.cons _ ?_) | refine (List.perm_middle (l₁ := [_, _, _])).trans (List.Perm.cons _ ?_) | refine (List.perm_middle (l₁ := [_, _, _, _])).trans (List.Perm.cons _ ?_) | refine (List.perm_middle (l₁ := [_, _, _, _, _])).trans (List.Perm.cons _ ?_) | refine (List.perm_middle (l₁ := [_, _, _, _, _, _])).trans (List.Perm.cons _ ?_) | refine (List.perm_middle (l₁ := [_, _, _, _, _, _, _])).trans (List.Perm.cons _ ?_) | refine (List.perm_middle (l₁ := [_, _, _, _, _, _, _, _])).trans (List.Perm.cons _ ?_) | refine (List.perm_middle (l₁ := [_, _, _, _, _, _, _, _, _])).trans (List.Perm.cons _ ?_) | refine (List.perm_middle (l₁ := [_, _, _, _, _, _, _, _, _, _])).trans (List.Perm.cons _ ?_) | refine (List.perm_middle (l₁ := [_, _, _, _, _, _, _, _, _, _, _])).trans (List.Perm.cons _ ?_) | refine (List.perm_middle (l₁ := [_, _, _, _, _, _, _, _, _, _, _, _])).trans (List.Perm.cons _ ?_) | refine (List.perm_middle (l₁ := [_, _, _, _, _, _, _, _, _, _, _, _, _])).trans (List.Perm.cons _ ?_))))))
  clear hw' hw w w' hR2 w1 w2 R
  have hAB : recA u g bu0 (A ++ B) = (max bA bB, takeT TA TB) := eAB
  have pkAB := OKS.of_recA (L := A ++ B) hug hg' hb0 (fun j => (okAB j).2)
  have ksAB := takeT_ksi ksA ksB
  rw [hAB] at eBK pkAB
  generalize hC : (max bA bB, takeT TA TB) = sC at *
  obtain ⟨bC, TC⟩ := sC
  injection hC with hC1 hC2
  repeat (first | apply hIx 8 | first | (refine sx ?_; try intro _))
  refine Hold.go ?_
  refine JS_seq ?_
  refine JS_order2 (blk x1 (hc m1 b1 true bA (sw TA)) :: mapL b1 es1 c1 :: R2) [0, 2, 4, 1, 3, 5, 6, 7, 8, 9, 10, 11] [] (fun w hw => hw) (Picks.cons rfl (Picks.cons rfl (Picks.cons rfl (Picks.cons rfl (Picks.cons rfl (Picks.cons rfl (Picks.cons rfl (Picks.cons rfl (Picks.cons rfl (Picks.cons rfl (Picks.cons rfl (Picks.cons rfl (Picks.nil))))))))))))) (by kernel_rfl) (by kernel_rfl) rfl (by decide +kernel) ?_
  repeat (first | (apply gQR2; first | apply QR2_un | apply QR2_nil) | (apply gQO2; first | refine QO2_v rfl (oL (V_loadA (tb := tb) rfl (List.Mem.tail _ (List.Mem.tail _ v2)) rfl rfl rfl rfl)) ?_ | refine aQ2 ?_))
  refine QO2_e (E_buildSlice (tb := tb) rfl rfl rfl rfl rfl rfl rfl rfl rfl) rfl (fun _ w hw => St.sub (by repeat (first | exact List.Sublist.refl _ | apply List.Sublist.cons_cons | apply List.Sublist.cons)) hw) ?_
  intro pz
  repeat (first | (apply gQR2; first | apply QR2_un | apply QR2_nil) | (apply gQO2; refine aQ2 ?_))
  refine QO2_e (E_app (tb := tb) rfl rfl rfl rfl rfl rfl (by repeat (first | exact Sel.here _ _ | apply Sel.there)) (jA.rd _) (by rw [ints_len, Nat.mul_one, lA]) ints_one (by omega) rfl) rfl (fun _ w hw => St.sub (by repeat (first | exact List.Sublist.refl _ | apply List.Sublist.cons_cons | apply List.Sublist.cons)) hw) ?_
  rintro ⟨pz1, cz1⟩
  repeat (first | (apply gQR2; first | apply QR2_un | apply QR2_nil) | (apply gQO2; refine aQ2 ?_))
  refine QO2_e (E_app (tb := tb) rfl rfl rfl rfl rfl rfl (by repeat (first | exact Sel.here _ _ | apply Sel.there)) (jB.rd _) (by rw [ints_len, Nat.mul_one, lB]) ints_one (by omega) rfl) rfl (fun _ w hw => St.sub (by repeat (first | exact List.Sublist.refl _ | apply List.Sublist.cons_cons | apply List.Sublist.cons)) hw) ?_
  rintro ⟨pz2, cz2⟩
  dsimp only
  repeat (first | (apply gQR2; first | apply QR2_un | apply QR2_nil) | (apply gQO2; refine aQ2 ?_))
  refine QO2_call Try.call11 rfl rfl fun w hw => (hRA pz2 cz2 (0 + am + bm) (A ++ B) (by rw [List.length_append]; omega) (by omega) (by rw [← ints_app]; exact vec_rd (List.Mem.head _)) okAB w hw).mono ?_
  rintro e w' ⟨x3, m3, b3, r3, es3, c3, q3, d3, rfl, hE3, hw'⟩
  rw [hAB] at hE3 hw'
  dsimp only at hE3 hw'
  generalize hR3 : (blk x3 (hc m3 b3 true bC (sw TC)) :: mapL b3 es3 c3 :: blk r3 (rc lo hi dg u g true bC (.slice q3 TC.length d3)) :: vec 58 2 (.slice q3 TC.length d3) TC.length (flat TC) :: blk m3 (mc lo hi dg u g) :: R2 : List Asn) = R3
  have y1 : blk x3 (hc m3 b3 true bC (sw TC)) ∈ R3 := hR3 ▸ List.Mem.head _
  have y2 : mapL b3 es3 c3 ∈ R3 := hR3 ▸ List.Mem.tail _ (List.Mem.head _)
  have y3 : blk r3 (rc lo hi dg u g true bC (.slice q3 TC.length d3)) ∈ R3 := hR3 ▸ List.Mem.tail _ (List.Mem.tail _ (List.Mem.head _))
  have y4 : Rd w0 R3 (.slice q3 TC.length d3) TC.length (flat TC) := hR3 ▸ vec_rd (List.Mem.tail _ (List.Mem.tail _ (List.Mem.tail _ (List.Mem.head _))))
  have y5 : blk m3 (mc lo hi dg u g) ∈ R3 := hR3 ▸ List.Mem.tail _ (List.Mem.tail _ (List.Mem.tail _ (List.Mem.tail _ (List.Mem.head _))))
  have t5 : ∀ {a : Asn}, a ∈ R2 → a ∈ R3 := fun h => hR3 ▸ List.Mem.tail _ (List.Mem.tail _ (List.Mem.tail _ (List.Mem.tail _ (List.Mem.tail _ h))))
  have z1 := t5 v1
  have z2 := t5 v2
  have z3 := t5 w3
  have z4 := t5 w4
  have z5 := t5 w5
  have hsub : R2.Sublist R3 := hR3 ▸ (by repeat (first | exact List.Sublist.refl _ | apply List.Sublist.cons_cons | apply List.Sublist.cons))
  have hw2 : St w0 (blk x1 (hc m1 b1 true bA (sw TA)) :: mapL b1 es1 c1 :: R3) w' := by
    rw [← hR3]
    exact (St.sub (by repeat (first | exact List.Sublist.refl _ | apply List.Sublist.cons_cons | apply List.Sublist.cons)) (hw'.perm (H' := blk x1 (hc m1 b1 true bA (sw TA)) :: mapL b1 es1 c1 :: blk x3 (hc m3 b3 true bC (sw TC)) :: mapL b3 es3 c3 :: blk r3 (rc lo hi dg u g true bC (.slice q3 TC.length d3)) :: vec 58 2 (.slice q3 TC.length d3) TC.length (flat TC) :: blk m3 (mc lo hi dg u g) :: vec 2 1 (.slice pz2 (0 + am + bm) cz2) (0 + am + bm) (([] : List Value) ++ ints .i64 A ++ ints .i64 B) :: R2) (by (repeat (first | exact List.Perm.refl _ | refine List.Perm.cons _ ?_ | refine (List.perm_middle (l₁ := [_])).trans (List.Perm.cons _ ?_) | refine (List.perm_middle (l₁ := [_, _])).trans (List.Perm.cons _ ?_) | refine (List.perm_middle (l₁ := [_, _, _])).trans (List.Perm.cons _ ?_) | refine (List.perm_middle (l₁ := [_, _, _, _])).trans (List.Perm.cons _ ?_) | refine (List.perm_middle (l₁ := [_, _, _, _, _])).trans (List.Perm.cons _ ?_) | refine (List.perm_middle (l₁ := [_, _, _, _, _, _])).trans (List.Perm.cons _ ?_) | refine (List.perm_middle (l₁ := [_, _, _, _, _, _, _])).trans (List.Perm.cons _ ?_) | refine (List.perm_middle (l₁ := [_, _, _, _, _, _, _, _])).trans (List.Perm.cons _ ?_) | refine (List.perm_middle (l₁ := [_, _, _, _, _, _, _, _, _])).trans (List.Perm.cons _ ?_) | refine (List.perm_middle (l₁ := [_, _, _, _, _, _, _, _, _, _])).trans (List.Perm.cons _ ?_) | refine (List.perm_middle (l₁ := [_, _, _, _, _, _, _, _, _, _, _])).trans (List.Perm.cons _ ?_) | refine (List.perm_middle (l₁ := [_, _, _, _, _, _, _, _, _, _, _, _])).trans (List.Perm.cons _ ?_) | refine (List.perm_middle (l₁ := [_, _, _, _, _, _, _, _, _, _, _, _, _])).trans (List.Perm.cons _ ?_))))))
  refine ⟨_, rfl, _, hw2, (fun w hw => St.sub ((hsub.cons_cons _).cons_cons _) hw), ?_⟩
  clear hw2 hw' hw w w' hR3 v1 v2 w3 w4 w5 t5
  repeat (first | (apply gQR2; first | apply QR2_un | apply QR2_nil) | (apply gQO2; refine aQ2 ?_))
  repeat (first | (apply gJR; first | (refine sx ?_; try intro _)) | (apply gJO; first | (refine sx ?_; try intro _)) | apply JS_seq | apply JS_region)
  refine JS_block ?_
  refine JS_loop4 (fun (r n : Nat) (q : Option Addr) (d : Nat) => [(2, .slice ap am ac), (3, .slice bp bm bc), (9, .pointer (some ⟨bx, 0, none⟩)), (10, .pointer (some ⟨x1, 0, none⟩)), (12, .pointer (some ⟨x2, 0, none⟩)), (14, .pointer (some ⟨x3, 0, none⟩)), (15, .pointer (some ⟨r3, 0, none⟩)), (16, .slice q n d), (17, .int .i64 ((r : Int) - 1))])
    (fun r n q d => vec 2 1 (.slice q n d) n (ints .i64 (B.drop r).reverse) :: blk x1 (hc m1 b1 true bA (sw TA)) :: mapL b1 es1 c1 :: R3) (fun r n _ _ => n + r = bm) (fun r _ _ _ => r) bm 0 none 0 (by omega) (by repeat (first | exact trivial | refine ⟨rfl, ?_⟩ | refine ⟨lookI rfl (by omega), ?_⟩)) (fun w hw => by rw [List.drop_of_length_le (by omega)]; exact St.nilvec hw) ?_
  intro r n q d hrn again
  rcases Nat.eq_zero_or_pos r with rfl | hr
  · clear again
    obtain rfl : n = bm := by omega
    rw [List.drop_zero]
    repeat (first | (apply gJR; first | (refine sx ?_; try intro _)) | (apply gJO; first | (refine sx ?_; try intro _)) | apply JS_seq | apply JS_region | (apply gJS; refine JS_condF rfl ?_) | (apply gJS; refine JS_exit rfl ?_))
    refine JS_block ?_
    refine JS_loop4 (fun (r m : Nat) (q : Option Addr) (d : Nat) => [(2, .slice ap am ac), (9, .pointer (some ⟨bx, 0, none⟩)), (10, .pointer (some ⟨x1, 0, none⟩)), (12, .pointer (some ⟨x2, 0, none⟩)), (14, .pointer (some ⟨x3, 0, none⟩)), (15, .pointer (some ⟨r3, 0, none⟩)), (16, .slice q m d), (18, .int .i64 ((r : Int) - 1))])
      (fun r m q d => vec 2 1 (.slice q m d) m (ints .i64 (B.reverse ++ (A.drop r).reverse)) :: blk x1 (hc m1 b1 true bA (sw TA)) :: mapL b1 es1 c1 :: R3) (fun r m _ _ => m + r = n + am ∧ r ≤ am) (fun r _ _ _ => r) am n q d ⟨by omega, Nat.le_refl _⟩ (by repeat (first | exact trivial | refine ⟨rfl, ?_⟩ | refine ⟨lookI rfl (by omega), ?_⟩)) (fun w hw => by rw [List.drop_of_length_le (by omega), List.reverse_nil, List.append_nil]; exact hw) ?_
    intro r m q d ⟨hrm, hram⟩ again
    rcases Nat.eq_zero_or_pos r with rfl | hr
    · clear again
      obtain rfl : m = n + am := by omega
      rw [List.drop_zero]
      have z1' := List.Mem.tail (vec 2 1 (.slice q (n + am) d) (n + am) (ints .i64 (B.reverse ++ A.reverse))) (List.Mem.tail (blk x1 (hc m1 b1 true bA (sw TA))) (List.Mem.tail (mapL b1 es1 c1) z2))
      repeat (first | (apply gJO; refine JO_v (oL (V_loadA (tb := tb) rfl z1' rfl rfl rfl rfl)) ?_) | first | (refine sx ?_; try intro _))
      refine JO_call Try.call11 rfl rfl fun w hw => (hRA q d (n + am) (B.reverse ++ A.reverse) (by rw [List.length_append, List.length_reverse, List.length_reverse]; omega) (by omega) (vec_rd (List.Mem.head _)) okBK w hw).mono ?_
      rintro e w' ⟨x4, m4, b4, r4, es4, c4, q4, d4, rfl, hE4, hw'⟩
      rw [eBK] at hE4 hw'
      dsimp only at hE4 hw'
      have hw2 : St w0 (blk x1 (hc m1 b1 true bA (sw TA)) :: mapL b1 es1 c1 :: blk x4 (hc m4 b4 true bC (sw TC)) :: mapL b4 es4 c4 :: blk m4 (mc lo hi dg u g) :: R3) w' :=
        St.sub (by repeat (first | exact List.Sublist.refl _ | apply List.Sublist.cons_cons | apply List.Sublist.cons)) (hw'.perm (H' := blk x1 (hc m1 b1 true bA (sw TA)) :: mapL b1 es1 c1 :: blk x4 (hc m4 b4 true bC (sw TC)) :: mapL b4 es4 c4 :: blk m4 (mc lo hi dg u g) :: blk r4 (rc lo hi dg u g true bC (.slice q4 TC.length d4)) :: vec 58 2 (.slice q4 TC.length d4) TC.length (flat TC) :: vec 2 1 (.slice q (n + am) d) (n + am) (ints .i64 (B.reverse ++ A.reverse)) :: R3) (by (repeat (first | exact List.Perm.refl _ | refine List.Perm.cons _ ?_ | refine (List.perm_middle (l₁ := [_])).trans (List.Perm.cons _ ?_) | refine (List.perm_middle (l₁ := [_, _])).trans (List.Perm.cons _ ?_) | refine (List.perm_middle (l₁ := [_, _, _])).trans (List.Perm.cons _ ?_) | refine (List.perm_middle (l₁ := [_, _, _, _])).trans (List.Perm.cons _ ?_) | refine (List.perm_middle (l₁ := [_, _, _, _, _])).trans (List.Perm.cons _ ?_) | refine (List.perm_middle (l₁ := [_, _, _, _, _, _])).trans (List.Perm.cons _ ?_) | refine (List.perm_middle (l₁ := [_, _, _, _, _, _, _])).trans (List.Perm.cons _ ?_) | refine (List.perm_middle (l₁ := [_, _, _, _, _, _, _, _])).trans (List.Perm.cons _ ?_) | refine (List.perm_middle (l₁ := [_, _, _, _, _, _, _, _, _])).trans (List.Perm.cons _ ?_) | refine (List.perm_middle (l₁ := [_, _, _, _, _, _, _, _, _, _])).trans (List.Perm.cons _ ?_) | refine (List.perm_middle (l₁ := [_, _, _, _, _, _, _, _, _, _, _])).trans (List.Perm.cons _ ?_) | refine (List.perm_middle (l₁ := [_, _, _, _, _, _, _, _, _, _, _, _])).trans (List.Perm.cons _ ?_) | refine (List.perm_middle (l₁ := [_, _, _, _, _, _, _, _, _, _, _, _, _])).trans (List.Perm.cons _ ?_)))))
      refine ⟨_, rfl, _, hw2, ?_⟩
      clear hw2 hw' hw w w' z1'
      repeat (first | (refine sx ?_; try intro _))
      have hlB : TB.length ≤ 1000000 := by omega
      refine JO_call Try.call21 rfl rfl fun w hw => (HTake_c (lo := lo) (hi := hi) (dg := dg) (u := u) (g := g) (lo2 := lo) (hi2 := hi) (dg2 := dg) (u2 := u) (g2 := g) x1 m1 b1 x2 m2 b2 true true bA bB es1 es2 c1 c2 TA TB (List.Mem.tail _ (List.Mem.tail _ (List.Mem.tail _ z1))) (List.Mem.tail _ (List.Mem.tail _ (List.Mem.tail _ z5))) (List.Mem.tail _ (List.Mem.tail _ (List.Mem.tail _ z3))) (List.Mem.tail _ (List.Mem.tail _ (List.Mem.tail _ z4))) hE1 hE2 pkA.gt pkB.gt hlB pkA.bu pkB.bu true (by simp) w hw).mono ?_
      have htk : tkc true (sw TA) (sw TB) = 0 := by
        have : tkc true (sw TA) (sw TB) = if true = false then 3 else if 4611686018427387904 - sw TA < sw TB then 6 else 0 := rfl
        rw [if_neg (by decide), if_neg (by omega)] at this
        exact this
      rw [htk]
      rintro e w' ⟨rfl, ⟨hne, _⟩ | ⟨_, es5, c5, hE5, hw'⟩⟩
      · exact absurd rfl hne
      have hswC : sw TA + sw TB = sw TC := by
        rw [← hC2]
        have := takeT_ok (T := TA) (P := TB) pkA.gt pkB.gt (by omega) TB.length (Nat.le_refl _)
        rw [List.take_length] at this
        exact this.2.1.symm
      rw [hC2] at hE5
      rw [hC1, hswC] at hw'
      (refine ⟨_, rfl, _, hw', ?_⟩; clear hw' hw w w')
      have hS := fun (x m b : Nat) (es : List MapEntry) (c : Nat) {H : List Asn} h1 h2 h3 h4 h5 hE w hw => Same18_c (w0 := w0) (H := H) (lo := lo) (hi := hi) (dg := dg) (u := u) (g := g) x m b r3 true bC es c TC q3 d3 h1 h2 h3 h4 h5 hE pkAB.1.gt (hC2 ▸ ksAB) hug hg' pkAB.1.bu (by have := hs.1.2.2; omega) (by have := pkAB.2; rw [List.length_append] at this; dsimp only at this; omega) w hw
      have u3 : ∀ {a : Asn}, a ∈ R3 → a ∈ blk x1 (hc m1 b1 true bC (sw TC)) :: mapL b1 es5 c5 :: blk x4 (hc m4 b4 true bC (sw TC)) :: mapL b4 es4 c4 :: blk m4 (mc lo hi dg u g) :: R3 := fun h => List.Mem.tail _ (List.Mem.tail _ (List.Mem.tail _ (List.Mem.tail _ (List.Mem.tail _ h))))
      have y4' : Rd w0 (blk x1 (hc m1 b1 true bC (sw TC)) :: mapL b1 es5 c5 :: blk x4 (hc m4 b4 true bC (sw TC)) :: mapL b4 es4 c4 :: blk m4 (mc lo hi dg u g) :: R3) (.slice q3 TC.length d3) TC.length (flat TC) := Rd_weak y4 fun w hw => St.sub (by repeat (first | exact List.Sublist.refl _ | apply List.Sublist.cons_cons | apply List.Sublist.cons)) hw
      repeat (first | (refine sx ?_; try intro _))
      refine JO_call Try.call20 rfl rfl fun w hw => (hS x1 m1 b1 es5 c5 (List.Mem.head _) (List.Mem.tail _ (List.Mem.head _)) (u3 z1) (u3 y3) y4' hE5 w hw).mono ?_
      rintro e w' ⟨rfl, hw'⟩
      (refine ⟨_, rfl, _, hw', ?_⟩; clear hw' hw w w')
      repeat (first | (refine sx ?_; try intro _))
      refine JO_call Try.call20 rfl rfl fun w hw => (hS x3 m3 b3 es3 c3 (u3 y1) (u3 y2) (u3 y5) (u3 y3) y4' hE3 w hw).mono ?_
      rintro e w' ⟨rfl, hw'⟩
      (refine ⟨_, rfl, _, hw', ?_⟩; clear hw' hw w w')
      repeat (first | (refine sx ?_; try intro _))
      refine JO_call Try.call20 rfl rfl fun w hw => (hS x4 m4 b4 es4 c4 (List.Mem.tail _ (List.Mem.tail _ (List.Mem.head _))) (List.Mem.tail _ (List.Mem.tail _ (List.Mem.tail _ (List.Mem.head _)))) (List.Mem.tail _ (List.Mem.tail _ (List.Mem.tail _ (List.Mem.tail _ (List.Mem.head _))))) (u3 y3) y4' hE4 w hw).mono ?_
      rintro e w' ⟨rfl, hw'⟩
      (refine ⟨_, rfl, _, hw', ?_⟩; clear hw' hw w w')
      repeat (first | (refine sx ?_; try intro _))
      exact JS_ret Try.func5 rfl rfl fun w hw => ⟨rfl, hw.grown⟩
    · obtain ⟨k, rfl⟩ : ∃ k, r = k + 1 := ⟨r - 1, by omega⟩
      rw [show (((k + 1 : Nat) : Int) - 1) = (k : Int) by omega]
      have hlen : (B.reverse ++ (A.drop (k + 1)).reverse).length = m := by rw [List.length_append, List.length_reverse, List.length_reverse, List.length_drop]; omega
      repeat (first | (apply gJO; (refine JO_app (tb := tb) rfl rfl rfl rfl rfl rfl (by repeat (first | exact Sel.here _ _ | apply Sel.there)) (vec_rd (List.Mem.head _)) (by rfl) ⟨rfl, trivial⟩ (by omega) rfl ?_; intro _ _)) | first | (refine sx ?_; try intro _))
      refine JS_again4 again k (m + 1) _ _ ⟨by omega, by omega⟩ (by omega) (by repeat (first | exact trivial | refine ⟨rfl, ?_⟩ | refine ⟨lookI rfl (by omega), ?_⟩)) (fun w hw => ?_)
      rw [drop_rev (by omega), ← List.append_assoc, ← ints_app1]
      exact St.sub (by repeat (first | exact List.Sublist.refl _ | apply List.Sublist.cons_cons | apply List.Sublist.cons)) hw
  · obtain ⟨k, rfl⟩ : ∃ k, r = k + 1 := ⟨r - 1, by omega⟩
    rw [show (((k + 1 : Nat) : Int) - 1) = (k : Int) by omega]
    have hlen : ((B.drop (k + 1)).reverse).length = n := by rw [List.length_reverse, List.length_drop]; omega
    repeat (first | (apply gJO; (refine JO_app (tb := tb) rfl rfl rfl rfl rfl rfl (by repeat (first | exact Sel.here _ _ | apply Sel.there)) (vec_rd (List.Mem.head _)) (by rfl) ⟨rfl, trivial⟩ (by omega) rfl ?_; intro _ _)) | first | (refine sx ?_; try intro _))
    refine JS_again4 again k (n + 1) _ _ (by omega) (by omega) (by repeat (first | exact trivial | refine ⟨rfl, ?_⟩ | refine ⟨lookI rfl (by omega), ?_⟩)) (fun w hw => ?_)
    rw [drop_rev (by omega), ← ints_app1]
    exact St.sub (by repeat (first | exact List.Sublist.refl _ | apply List.Sublist.cons_cons | apply List.Sublist.cons)) hw
end Go.Proofs.Ytmnilpjgkjkecaa

namespace Go.Proofs.Ytmnilpjgkjkecaa
open Sx Go Hd
set_option linter.unusedVariables false
set_option linter.unusedSimpArgs false
/-! ## what can be loaded (plain) -/
/-- a number that is a cell's index -/
def isK (u g : Nat) (k : Int) : Prop := 0 ≤ k ∧ isI u g k.toNat
instance (u g : Nat) (k : Int) : Decidable (isK u g k) := by unfold isK; infer_instance
/-- how many buckets cells need -/
def ndT (u g bu : Nat) : List (Int × Int) → Nat
  | [] => bu
  | x :: r => ndT u g (max bu (1 + bkt u g (ival u g x.1.toNat))) r
theorem ndT_snoc (u g : Nat) (x : Int × Int) : ∀ (P : List (Int × Int)) (bu : Nat), ndT u g bu (P ++ [x]) = max (ndT u g bu P) (1 + bkt u g (ival u g x.1.toNat))
  | [], bu => rfl
  | y :: r, bu => by show ndT u g _ (r ++ [x]) = max (ndT u g _ r) _; rw [ndT_snoc u g x r]
theorem ndT_step (u g bu : Nat) (P : List (Int × Int)) {i : Nat} (hi : i < P.length) : ndT u g bu (P.take (i + 1)) = max (ndT u g bu (P.take i)) (1 + bkt u g (ival u g (P.getD i (0, 0)).1.toNat)) := by
  rw [List.take_add_one, List.getElem?_eq_getElem hi, Option.toList_some, ndT_snoc, List.getD_eq_getElem?_getD, List.getElem?_eq_getElem hi]; rfl
theorem ndT_le {u g : Nat} (hug : 1 ≤ u + g) : ∀ (P : List (Int × Int)) (bu : Nat), bu ≤ 64 → (∀ x ∈ P, isK u g x.1) → ndT u g bu P ≤ 64
  | [], bu, h, _ => h
  | x :: r, bu, h, hP => by
    have hx := hP x (by simp)
    have hb := bkt_63 (u := u) (g := g) (ival_lt hx.2) hug
    exact ndT_le hug r _ (by omega) fun y hy => hP y (by simp [hy])
theorem ndT_ge (u g : Nat) : ∀ (P : List (Int × Int)) (bu : Nat), bu ≤ ndT u g bu P
  | [], bu => Nat.le_refl _
  | x :: r, bu => Nat.le_trans (Nat.le_max_left _ _) (ndT_ge u g r _)
theorem isK_ksi {u g : Nat} {P : List (Int × Int)} (h : ∀ x ∈ P, isK u g x.1) : KSI u g P := fun x hx => ⟨x.1.toNat, by have := (h x hx).1; omega, (h x hx).2⟩
theorem KSI.isK {u g : Nat} {P : List (Int × Int)} (h : KSI u g P) : ∀ x ∈ P, isK u g x.1 := fun x hx => by
  obtain ⟨k, h1, h2⟩ := h x hx
  rw [h1]
  exact ⟨by omega, by rw [Int.toNat_natCast]; exact h2⟩
theorem right_srt {T : List (Int × Int)} (h : RIGHT T) : Srt T := by
  have key : ∀ j, j < T.length → ∀ i, i < j → (T.getD i (0, 0)).1 < (T.getD j (0, 0)).1 := by
    intro j
    induction j with
    | zero => intro _ i hi; omega
    | succ j ih =>
      intro hj i hi
      have h1 := (h (j + 1) hj).2.2 (by omega)
      rw [Nat.add_sub_cancel] at h1
      rcases Nat.lt_or_ge i j with h2 | h2
      · exact Int.lt_trans (ih (by omega) i h2) h1
      · have : i = j := by omega
        subst this; exact h1
  refine List.pairwise_iff_getElem.2 fun i j hi hj hij => ?_
  have := key j hj i hij
  rw [List.getD_eq_getElem?_getD, List.getD_eq_getElem?_getD, List.getElem?_eq_getElem hi, List.getElem?_eq_getElem hj] at this
  exact this
theorem right_gt {u g : Nat} {T : List (Int × Int)} (hug : u + g ≤ 62) (hg : 1 ≤ g ∧ g ≤ 18) (hT : OKT T) (h : RIGHT T) (hK : ∀ x ∈ T, isK u g x.1) : GT T := by
  refine ⟨right_srt h, fun x hx => ?_, fun x hx => ?_, (sw_all hT h).2⟩
  · have := isI_bd hug hg (hK x hx).2
    have := (hK x hx).1
    omega
  · obtain ⟨i, hi, rfl⟩ := List.getElem_of_mem hx
    have h1 := (h i hi).1
    have h2 := (hT _ hx).2.1
    rw [List.getD_eq_getElem?_getD, List.getElem?_eq_getElem hi] at h1
    have h1 : T[i].2 ≠ 0 := h1
    omega
theorem putT_last {k n : Int} : ∀ {T : List (Int × Int)}, (∀ x ∈ T, x.1 < k) → putT k n T = T ++ [(k, n)]
  | [], _ => rfl
  | x :: r, h => by
    rw [putT, if_pos (h x (by simp)), putT_last fun y hy => h y (by simp [hy])]; rfl
theorem srt_take {T : List (Int × Int)} (h : Srt T) {i : Nat} (hi : i < T.length) : ∀ x ∈ T.take i, x.1 < (T.getD i (0, 0)).1 := fun x hx => by
  obtain ⟨j, hj, rfl⟩ := List.getElem_of_mem hx
  rw [List.length_take] at hj
  rw [List.getElem_take, List.getD_eq_getElem?_getD, List.getElem?_eq_getElem hi]
  exact List.pairwise_iff_getElem.1 h j i (by omega) hi (by omega)
/-- may this be loaded? -/
def LOK (lo hi dg : Int) (gr : Bool) (bk : Int) (P : List (Int × Int)) : Prop :=
  shOK lo hi dg ∧ RIGHT P ∧ (∀ x ∈ P, isK (uOf lo) (gOf dg) x.1) ∧ bk = (ndT (uOf lo) (gOf dg) (1 + bkt (uOf lo) (gOf dg) hi.toNat) P : Nat) ∧ (gr = true ∨ ndT (uOf lo) (gOf dg) (1 + bkt (uOf lo) (gOf dg) hi.toNat) P ≤ 1 + bkt (uOf lo) (gOf dg) hi.toNat)
section
variable {w0 : World} {H : List Asn} {lo hi dg : Int} {u g : Nat}
theorem MValueK_c (b : Nat) (hM : blk b (mc lo hi dg u g) ∈ H) (hug : u + g ≤ 62) (hg : 1 ≤ g ∧ g ≤ 18) (k : Int) (hk : -9223372036854775808 ≤ k ∧ k < 9223372036854775808) (w : World) (hw : St w0 H w) :
    Calls Try.prog 38 #[.pointer (some ⟨b, 0, none⟩), .int .i64 k] w fun e w' => e = .returned (if isK u g k then .tuple #[.int .i64 (ival u g k.toNat : Nat), .int .i64 0] else .tuple #[.int .i64 0, .int .i64 5]) ∧ St w0 H w' := by
  by_cases h : k < 0
  · rw [if_neg (fun h' => absurd h'.1 (by omega))]
    exact MValueN_c b k h hk.1 w hw
  · obtain ⟨n, rfl⟩ := Int.eq_ofNat_of_zero_le (show 0 ≤ k by omega)
    have := MValue_c b hM hug hg n (by omega) w hw
    have e : isK u g (n : Int) ↔ isI u g n := ⟨fun h => h.2, fun h => ⟨by omega, h⟩⟩
    rw [Int.toNat_natCast]
    simp only [e]
    exact this
set_option maxRecDepth 10000 in
set_option maxHeartbeats 8000000 in
theorem HLoad_c (gr : Bool) (bk : Int) (q : Option Addr) (c : Nat) (P : List (Int × Int)) (hlo : -9223372036854775808 ≤ lo ∧ lo < 9223372036854775808) (hhi : -9223372036854775808 ≤ hi ∧ hi < 9223372036854775808) (hdg : -9223372036854775808 ≤ dg ∧ dg < 9223372036854775808) (hbk : -9223372036854775808 ≤ bk ∧ bk < 9223372036854775808)
    (hr : Rd w0 H (.slice q P.length c) P.length (flat P)) (hT : OKT P) (hl : P.length ≤ 1000000) (w : World) (hw : St w0 H w) :
    Calls Try.prog 22 #[hagg lo hi dg, .bool gr, .int .i64 bk, .slice q P.length c] w fun e w' =>
      (¬ LOK lo hi dg gr bk P ∧ e = .returned (.tuple #[.pointer none, .int .i64 1]) ∧ St w0 H w') ∨
      (LOK lo hi dg gr bk P ∧ ∃ bh mb bm es clock, e = .returned (.tuple #[.pointer (some ⟨bh, 0, none⟩), .int .i64 0]) ∧ HM es clock P ∧ St w0 (blk bh (hc mb bm gr (ndT (uOf lo) (gOf dg) (1 + bkt (uOf lo) (gOf dg) hi.toNat) P) (sw P)) :: mapL bm es clock :: blk mb (mc lo hi dg (uOf lo) (gOf dg)) :: H) w') := by
  refine enter (vs := [hagg lo hi dg, .bool gr, .int .i64 bk, .slice q P.length c]) Try.func22 rfl rfl rfl hw ?_
  clear hw w
  repeat (first | (refine sx ?_; try intro _))
  rename_i bx
  by_cases hs : shOK lo hi dg
  · refine JO_call Try.call18 rfl rfl fun w hw => (HNewT_c lo hi dg gr hs hhi.2 w hw).mono ?_
    rintro e w' ⟨bh, mb, bm, rfl, hw'⟩
    (refine ⟨_, rfl, _, hw', ?_⟩; clear hw' hw w w')
    have hug := hs.2
    have hgd := gOf_bd (dg := dg) ⟨hs.1.1, hs.1.2.1⟩
    have hg : 1 ≤ gOf dg ∧ gOf dg ≤ 18 := by omega
    have hb0 : 1 + bkt (uOf lo) (gOf dg) hi.toNat ≤ 64 := by
      have := bkt_63 (u := uOf lo) (g := gOf dg) (v := hi.toNat) (by omega) (by omega)
      omega
    have hF := fun {H} bh mb bm gr bu tot hh hM w hw => HFirst_c (w0 := w0) (H := H) (lo := lo) (hi := hi) (dg := dg) (u := uOf lo) (g := gOf dg) bh mb bm gr bu tot hh hM hug hhi w hw
    have hlok : LOK lo hi dg gr bk P ↔ shOK lo hi dg ∧ RIGHT P ∧ (∀ x ∈ P, isK (uOf lo) (gOf dg) x.1) ∧ bk = (ndT (uOf lo) (gOf dg) (1 + bkt (uOf lo) (gOf dg) hi.toNat) P : Nat) ∧ (gr = true ∨ ndT (uOf lo) (gOf dg) (1 + bkt (uOf lo) (gOf dg) hi.toNat) P ≤ 1 + bkt (uOf lo) (gOf dg) hi.toNat) := Iff.rfl
    generalize uOf lo = u at *
    generalize gOf dg = g at *
    generalize 1 + bkt u g hi.toNat = bu0 at *
    generalize LOK lo hi dg gr bk P = LK at *
    repeat (first | (refine sx ?_; try intro _))
    refine JO_call Try.call53 rfl rfl fun w hw => (WNewA_c q c P.length P (Rd_weak hr fun w hw => St.sub (by repeat (first | exact List.Sublist.refl _ | apply List.Sublist.cons_cons | apply List.Sublist.cons)) hw) rfl hT hl w hw).mono ?_
    rintro e w' ⟨x, r, rfl, ⟨hno, rfl, rfl, hw'⟩ | ⟨hR, rfl, b, a1, a2, a3, rfl, hI, hw'⟩⟩
    · (refine ⟨_, rfl, _, hw', ?_⟩; clear hw' hw w w')
      repeat (first | (refine sx ?_; try intro _))
      exact JS_ret Try.func22 rfl rfl fun w hw => .inl ⟨fun h => hno (hlok.1 h).2.1, rfl, St.sub (by repeat (first | exact List.Sublist.refl _ | apply List.Sublist.cons_cons | apply List.Sublist.cons)) hw⟩
    refine ⟨_, rfl, blk bh (hc mb bm gr bu0 (sw [])) :: mapL bm [] 0 :: a1 :: a2 :: a3 :: blk mb (mc lo hi dg u g) :: H, ?_, ?_⟩
    · exact St.sub (by repeat (first | exact List.Sublist.refl _ | apply List.Sublist.cons_cons | apply List.Sublist.cons)) (hw'.perm (H' := blk bh (hc mb bm gr bu0 (sw [])) :: mapL bm [] 0 :: a1 :: a2 :: a3 :: blk mb (mc lo hi dg u g) :: blk bx [.int .i64 lo, .int .i64 hi, .int .i64 dg] :: H) (by (repeat (first | exact List.Perm.refl _ | refine List.Perm.cons _ ?_ | refine (List.perm_middle (l₁ := [_])).trans (List.Perm.cons _ ?_) | refine (List.perm_middle (l₁ := [_, _])).trans (List.Perm.cons _ ?_) | refine (List.perm_middle (l₁ := [_, _, _])).trans (List.Perm.cons _ ?_) | refine (List.perm_middle (l₁ := [_, _, _, _])).trans (List.Perm.cons _ ?_) | refine (List.perm_middle (l₁ := [_, _, _, _, _])).trans (List.Perm.cons _ ?_) | refine (List.perm_middle (l₁ := [_, _, _, _, _, _])).trans (List.Perm.cons _ ?_) | refine (List.perm_middle (l₁ := [_, _, _, _, _, _, _])).trans (List.Perm.cons _ ?_) | refine (List.perm_middle (l₁ := [_, _, _, _, _, _, _, _])).trans (List.Perm.cons _ ?_) | refine (List.perm_middle (l₁ := [_, _, _, _, _, _, _, _, _])).trans (List.Perm.cons _ ?_) | refine (List.perm_middle (l₁ := [_, _, _, _, _, _, _, _, _, _])).trans (List.Perm.cons _ ?_) | refine (List.perm_middle (l₁ := [_, _, _, _, _, _, _, _, _, _, _])).trans (List.Perm.cons _ ?_) | refine (List.perm_middle (l₁ := [_, _, _, _, _, _, _, _, _, _, _, _])).trans (List.Perm.cons _ ?_) | refine (List.perm_middle (l₁ := [_, _, _, _, _, _, _, _, _, _, _, _, _])).trans (List.Perm.cons _ ?_)))))
    clear hw' hw w w'
    repeat (first | (apply gJR; first | (refine sx ?_; try intro _)) | (apply gJO; first | (refine sx ?_; try intro _)) | apply JS_seq | apply JS_region | (apply gJS; refine JS_condF rfl ?_) | apply JS_skip)
    refine JS_block ?_
    refine JS_loop3 (fun (i : Nat) (es : List MapEntry) (clock : Nat) => [(1, .bool gr), (2, .int .i64 bk), (10, .pointer (some ⟨bh, 0, none⟩)), (12, .pointer (some ⟨b, 0, none⟩)), (13, .int .i64 (ndT u g bu0 (P.take i) : Nat)), (38, .slice q P.length c), (39, .int .i64 P.length), (40, .int .i64 i)])
      (fun i es clock => blk bh (hc mb bm gr bu0 (sw [])) :: mapL bm es clock :: a1 :: a2 :: a3 :: blk mb (mc lo hi dg u g) :: H) (fun i es clock => i ≤ P.length ∧ HM es clock (P.take i) ∧ ∀ x ∈ P.take i, isK u g x.1) (fun i _ _ => P.length - i) 0 [] 0 ⟨Nat.zero_le _, HM.nil, by simp⟩ (by repeat (first | exact trivial | refine ⟨rfl, ?_⟩ | refine ⟨lookI rfl (by omega), ?_⟩)) (fun w hw => hw) ?_
    intro i es clock ⟨hi9, hE, hKi⟩ again
    by_cases hlt : i < P.length
    · have hat := flat_seg P i hlt
      have hst := ndT_step u g bu0 P hlt
      have hmem := getD_mem hlt
      have htk := srt_take (right_srt hR) hlt
      have hsn : P.take (i + 1) = P.take i ++ [P.getD i (0, 0)] := by rw [List.take_add_one, List.getElem?_eq_getElem hlt, Option.toList_some, List.getD_eq_getElem?_getD, List.getElem?_eq_getElem hlt]; rfl
      have hkb := (hT _ hmem).1
      have hle := ndT_le (u := u) (g := g) (by omega) (P.take i) bu0 hb0 hKi
      generalize ndT u g bu0 (P.take i) = nd at *
      generalize P.getD i (0, 0) = x at *
      obtain ⟨k, n⟩ := x
      dsimp only at *
      repeat (first | (apply gJO; refine JO_v (oL (V_loadCA (tb := tb) rfl (Rd_weak hr fun w hw => St.sub (by repeat (first | exact List.Sublist.refl _ | apply List.Sublist.cons_cons | apply List.Sublist.cons)) hw) rfl rfl rfl (by decide) hat rfl)) ?_) | first | (refine sx ?_; try intro _))
      rename_i bp
      have hV := fun w hw => MValueK_c (w0 := w0) (H := blk bp [.int .i64 k, .int .u64 n] :: blk bh (hc mb bm gr bu0 (sw [])) :: mapL bm es clock :: a1 :: a2 :: a3 :: blk mb (mc lo hi dg u g) :: H) mb (by repeat (first | apply List.Mem.head | apply List.Mem.tail)) hug hg k hkb w hw
      by_cases hk : isK u g k
      · rw [if_pos hk] at hV
        have hiv := ival_lt hk.2
        refine QO_call Try.call38 rfl rfl fun w hw => (hV w hw).mono ?_
        rintro e w' ⟨rfl, hw'⟩
        (refine ⟨_, rfl, _, hw', .inl fun w hw => hw, ?_⟩; clear hw' hw w w')
        clear hV
        repeat (first | (refine sx ?_; try intro _))
        refine JO_call Try.call43 rfl rfl fun w hw => (MBuckets_c mb (by repeat (first | apply List.Mem.head | apply List.Mem.tail)) hug (ival u g k.toNat : Nat) (by omega) w hw).mono ?_
        rw [Int.toNat_natCast]
        rintro e w' ⟨rfl, hw'⟩
        (refine ⟨_, rfl, _, hw', ?_⟩; clear hw' hw w w')
        have k3 : max (nd : Int) ((1 + bkt u g (ival u g k.toNat) : Nat) : Int) = ((max nd (1 + bkt u g (ival u g k.toNat)) : Nat) : Int) := by omega
        obtain ⟨hno, hE2⟩ := hE.new (n := n) hkb (fun y hy => by have := htk y hy; omega)
        rw [putT_last htk, ← hsn] at hE2
        repeat (first | (apply gJO; refine JO_v (V_max rfl rfl k3 rfl) ?_) | (apply gQO; refine QO_k rfl (K_mapUpdateF (tb := tb) kI rfl rfl rfl rfl (by repeat (first | exact Sel.here _ _ | apply Sel.there)) hE.ok (keyI hkb) hno rfl) rfl ?_) | first | (refine sx ?_; try intro _))
        refine JS_again3 again (i + 1) _ _ ⟨by omega, hE2, fun y hy => ?_⟩ (by omega) (by rw [hst]; exact (by repeat (first | exact trivial | refine ⟨rfl, ?_⟩ | refine ⟨lookI rfl (by omega), ?_⟩))) (fun w hw => hw.drop)
        rw [hsn] at hy
        rcases List.mem_append.1 hy with hy | hy
        · exact hKi y hy
        · rw [List.mem_singleton.1 hy]; exact hk
      · rw [if_neg hk] at hV
        refine QO_call Try.call38 rfl rfl fun w hw => (hV w hw).mono ?_
        rintro e w' ⟨rfl, hw'⟩
        (refine ⟨_, rfl, _, hw', .inl fun w hw => hw, ?_⟩; clear hw' hw w w')
        repeat (first | (refine sx ?_; try intro _))
        exact JS_ret Try.func22 rfl rfl fun w hw => .inl ⟨fun h => hk ((hlok.1 h).2.2.1 _ hmem), rfl, St.sub (by repeat (first | exact List.Sublist.refl _ | apply List.Sublist.cons_cons | apply List.Sublist.cons)) hw⟩
    · obtain rfl : i = P.length := by omega
      clear again
      rw [List.take_length] at *
      have hge := ndT_ge u g P bu0
      have hle := ndT_le (u := u) (g := g) (by omega) P bu0 hb0 hKi
      generalize ndT u g bu0 P = nd at *
      by_cases hbn : bk = (nd : Nat)
      · subst hbn
        repeat (first | (refine sx ?_; try intro _))
        refine JO_call Try.call54 rfl rfl fun w hw => (hF bh mb bm gr bu0 _ (List.Mem.head _) (by repeat (first | apply List.Mem.head | apply List.Mem.tail)) w hw).mono ?_
        rintro e w' ⟨rfl, hw'⟩
        (refine ⟨_, rfl, _, hw', ?_⟩; clear hw' hw w w')
        by_cases hgn : gr = true ∨ nd ≤ bu0
        · have hL := hlok.2 ⟨hs, hR, hKi, rfl, hgn⟩
          have fin : JS Try.prog 22 Try.f22.ntmps (fun e w' => (¬ LK ∧ e = .returned (.tuple #[.pointer none, .int .i64 1]) ∧ St w0 H w') ∨
      (LK ∧ ∃ bh mb bm es clock, e = .returned (.tuple #[.pointer (some ⟨bh, 0, none⟩), .int .i64 0]) ∧ HM es clock P ∧ St w0 (blk bh (hc mb bm gr nd (sw P)) :: mapL bm es clock :: blk mb (mc lo hi dg u g) :: H) w')) [] w0 (todo Try.f22 [.b, .b, .b, .b, .b, .b, .b, .b]) [(10, .pointer (some ⟨bh, 0, none⟩)), (12, .pointer (some ⟨b, 0, none⟩)), (13, .int .i64 nd)] (blk bh (hc mb bm gr bu0 (sw [])) :: mapL bm es clock :: a1 :: a2 :: a3 :: blk mb (mc lo hi dg u g) :: H) := by
            refine JS_at rfl ?_
            repeat (first | (refine sx ?_; try intro _))
            refine JO_call Try.call55 rfl rfl fun w hw => (TTotal_c b P ((hI (blk mb (mc lo hi dg u g) :: H)).sub (by repeat (first | exact List.Sublist.refl _ | apply List.Sublist.cons_cons | apply List.Sublist.cons))) hl w hw).mono ?_
            rintro e w' ⟨rfl, hw'⟩
            (refine ⟨_, rfl, _, hw', ?_⟩; clear hw' hw w w')
            repeat (first | (refine sx ?_; try intro _))
            exact JS_ret Try.func22 rfl rfl fun w hw => .inr ⟨hL, bh, mb, bm, es, clock, rfl, hE, St.sub (by repeat (first | exact List.Sublist.refl _ | apply List.Sublist.cons_cons | apply List.Sublist.cons)) hw⟩
          by_cases hgt : bu0 < nd
          · obtain rfl : gr = true := hgn.resolve_right (by omega)
            repeat (first | exact JS_of_at (fn := Try.f22) (p := [.b, .b, .b, .b, .b, .b, .b, .b]) (JS_ov (by repeat (first | exact trivial | refine ⟨rfl, ?_⟩ | refine ⟨lookI rfl (by omega), ?_⟩)) fin) rfl | first | (refine sx ?_; try intro _))
          · repeat (first | exact JS_of_at (fn := Try.f22) (p := [.b, .b, .b, .b, .b, .b, .b, .b]) (JS_ov (by repeat (first | exact trivial | refine ⟨rfl, ?_⟩ | refine ⟨lookI rfl (by omega), ?_⟩)) fin) rfl | first | (refine sx ?_; try intro _))
        · obtain ⟨hc1, hc2⟩ : gr = false ∧ bu0 < nd := by
            cases gr with
            | true => exact absurd (.inl rfl) hgn
            | false => exact ⟨rfl, Nat.lt_of_not_le fun h => hgn (.inr h)⟩
          subst hc1
          repeat (first | (refine sx ?_; try intro _))
          exact JS_ret Try.func22 rfl rfl fun w hw => .inl ⟨fun h => hgn (hlok.1 h).2.2.2.2, rfl, St.sub (by repeat (first | exact List.Sublist.refl _ | apply List.Sublist.cons_cons | apply List.Sublist.cons)) hw⟩
      · repeat (first | (refine sx ?_; try intro _))
        exact JS_ret Try.func22 rfl rfl fun w hw => .inl ⟨fun h => hbn (hlok.1 h).2.2.2.1, rfl, St.sub (by repeat (first | exact List.Sublist.refl _ | apply List.Sublist.cons_cons | apply List.Sublist.cons)) hw⟩
  · refine JO_call Try.call18 rfl rfl fun w hw => (HNewF_c lo hi dg gr hlo hhi hdg hs w hw).mono ?_
    rintro e w' ⟨rfl, hw'⟩
    (refine ⟨_, rfl, _, hw', ?_⟩; clear hw' hw w w')
    repeat (first | (refine sx ?_; try intro _))
    exact JS_ret Try.func22 rfl rfl fun w hw => .inl ⟨fun h => hs h.1, rfl, hw.drop⟩
end
end Go.Proofs.Ytmnilpjgkjkecaa

namespace Go.Proofs.Ytmnilpjgkjkecaa
open Sx Go Hd
set_option linter.unusedVariables false
set_option linter.unusedSimpArgs false
/-! ## buckets and tops (plain) -/
theorem top_bkt {u g n v : Nat} (hn : 1 ≤ n ∧ n ≤ 64) (hv : v < 9223372036854775808) : v ≤ topv u g n ↔ 1 + bkt u g v ≤ n := by
  have hb : bitLen v ≤ 63 := bl_v hv
  unfold topv bkt
  rw [show min (max n 1) 64 = n by omega]
  split
  · constructor
    · intro _; omega
    · intro _; omega
  · have h1 := bl_le (n := v) (k := n - 1 + u + g)
    have h2 := p2pos (n - 1 + u + g)
    constructor
    · intro h
      have := h1.2 (by omega)
      omega
    · intro h
      have := h1.1 (by omega)
      omega
theorem ndT_iff {u g : Nat} (B : Nat) : ∀ (P : List (Int × Int)) (bu : Nat), ndT u g bu P ≤ B ↔ bu ≤ B ∧ ∀ x ∈ P, 1 + bkt u g (ival u g x.1.toNat) ≤ B
  | [], bu => by simp [ndT]
  | x :: r, bu => by
    rw [ndT, ndT_iff B r, Nat.max_le]
    simp only [List.mem_cons, forall_eq_or_imp, and_assoc]
theorem putT_keys {k n : Int} : ∀ {T : List (Int × Int)} {j : Int}, (∃ x ∈ putT k n T, x.1 = j) ↔ j = k ∨ ∃ x ∈ T, x.1 = j
  | [], j => by simp [putT]; exact eq_comm
  | y :: r, j => by
    rw [putT]
    split
    · have ih := putT_keys (k := k) (n := n) (T := r) (j := j)
      simp only [List.mem_cons, exists_eq_or_imp]
      rw [ih]
      constructor
      · rintro (h | h | h)
        · exact .inr (.inl h)
        · exact .inl h
        · exact .inr (.inr h)
      · rintro (h | h | h)
        · exact .inr (.inl h)
        · exact .inl h
        · exact .inr (.inr h)
    · split
      · rename_i h1 h2
        simp only [List.mem_cons, exists_eq_or_imp]
        rw [h2]
        constructor
        · rintro (h | h)
          · exact .inl h.symm
          · exact .inr (.inr h)
        · rintro (h | h | h)
          · exact .inl h.symm
          · exact .inl h
          · exact .inr h
      · simp only [List.mem_cons, exists_eq_or_imp]
        constructor
        · rintro (h | h)
          · exact .inl h.symm
          · exact .inr h
        · rintro (h | h)
          · exact .inl h.symm
          · exact .inr h
theorem ndT_put {u g bu : Nat} (hg : 1 ≤ g) {T : List (Int × Int)} {v : Nat} {n : Int} : ndT u g bu (putT (idx u g v : Nat) n T) = max (ndT u g bu T) (1 + bkt u g v) := by
  have hb : bkt u g (ival u g (idx u g v)) = bkt u g v := by rw [idx_val hg, low_bkt hg]
  refine le_ext fun B => ?_
  rw [Nat.max_le, ndT_iff, ndT_iff]
  have key : ∀ T' : List (Int × Int), (∀ x ∈ T', 1 + bkt u g (ival u g x.1.toNat) ≤ B) ↔ ∀ j : Int, (∃ x ∈ T', x.1 = j) → 1 + bkt u g (ival u g j.toNat) ≤ B := fun T' => by
    constructor
    · rintro h j ⟨x, hx, rfl⟩; exact h x hx
    · intro h x hx; exact h x.1 ⟨x, hx, rfl⟩
  rw [key, key]
  constructor
  · rintro ⟨h1, h2⟩
    refine ⟨⟨h1, fun j hj => h2 j (putT_keys.2 (.inr hj))⟩, ?_⟩
    have := h2 (idx u g v : Nat) (putT_keys.2 (.inl rfl))
    rw [Int.toNat_natCast, hb] at this
    exact this
  · rintro ⟨⟨h1, h2⟩, h3⟩
    refine ⟨h1, fun j hj => ?_⟩
    rcases putT_keys.1 hj with rfl | hj
    · rw [Int.toNat_natCast, hb]; exact h3
    · exact h2 j hj
/-- what a histogram's buckets are: those that its cells need -/
structure NB (u g : Nat) (gr : Bool) (bu0 : Nat) (s : Nat × List (Int × Int)) : Prop where
  bu : s.1 = ndT u g bu0 s.2
  le : gr = true ∨ s.1 = bu0
theorem NB.rec1 {u g : Nat} {gr : Bool} {bu0 : Nat} {s : Nat × List (Int × Int)} {v n : Int} (hg : 1 ≤ g) (h0 : 1 ≤ bu0 ∧ bu0 ≤ 64) (h : NB u g gr bu0 s) (hn : 0 ≤ n) (hv : v < 9223372036854775808) : NB u g gr bu0 (rec1 u g gr s v n) := by
  obtain ⟨h1, h2⟩ := h
  unfold Go.Proofs.Ytmnilpjgkjkecaa.rec1
  by_cases hc : chk u g gr s.1 (sw s.2) v n = 0
  · rw [if_pos hc]
    obtain ⟨p1, p2, p3⟩ := chk_0 hn hc
    obtain ⟨x, rfl⟩ := Int.eq_ofNat_of_zero_le p2
    rw [Int.toNat_natCast]
    refine ⟨?_, ?_⟩
    · show max s.1 _ = ndT u g bu0 (putT _ _ _)
      rw [ndT_put hg, h1]
    · rcases h2 with h2 | h2
      · exact .inl h2
      · cases gr with
        | true => exact .inl rfl
        | false =>
          right
          show max s.1 _ = bu0
          have ht : x ≤ topv u g s.1 := by
            unfold chk at hc
            split at hc
            · omega
            · split at hc
              · omega
              · rename_i _ hh
                refine Nat.le_of_not_lt fun hlt => hh (.inr ⟨by omega, rfl⟩)
          have := (top_bkt (u := u) (g := g) (n := s.1) (by omega) (by omega)).1 ht
          omega
  · rw [if_neg hc]; exact ⟨h1, h2⟩
theorem NB.recS {u g : Nat} {gr : Bool} {bu0 : Nat} {L : List Int} {W : Nat → Int} (hg : 1 ≤ g) (h0 : 1 ≤ bu0 ∧ bu0 ≤ 64) (hW : ∀ j, 0 ≤ W j) (hL : ∀ j, L.getD j 0 < 9223372036854775808) : ∀ i, NB u g gr bu0 (recS u g gr bu0 L W i)
  | 0 => ⟨rfl, .inr rfl⟩
  | i + 1 => NB.rec1 hg h0 (NB.recS hg h0 hW hL i) (hW i) (hL i)
theorem recS_ksi {u g : Nat} {gr : Bool} {bu0 : Nat} {L : List Int} {W : Nat → Int} (hug : u + g ≤ 62) (hg : 1 ≤ g) (hW : ∀ j, 0 ≤ W j) (hL : ∀ j, L.getD j 0 < 9223372036854775808) : ∀ i, KSI u g (recS u g gr bu0 L W i).2
  | 0 => KSI.nil
  | i + 1 => by
    have ih := recS_ksi (gr := gr) (bu0 := bu0) hug hg hW hL i
    have e : recS u g gr bu0 L W (i + 1) = rec1 u g gr (recS u g gr bu0 L W i) (L.getD i 0) (W i) := rfl
    rw [e]
    unfold rec1
    split
    · rename_i hc
      have := chk_0 (hW i) hc
      have := hL i
      exact ih.put (idx_is hg hug (by omega)) _
    · exact ih
/-- what was told can be loaded -/
theorem NB.lok {lo hi dg : Int} {gr : Bool} {s : Nat × List (Int × Int)} (hs : shOK lo hi dg) (h : NB (uOf lo) (gOf dg) gr (1 + bkt (uOf lo) (gOf dg) hi.toNat) s) (hG : GT s.2) (hK : KSI (uOf lo) (gOf dg) s.2) : LOK lo hi dg gr s.1 s.2 :=
  ⟨hs, hG.right, hK.isK, by rw [h.bu], h.le.imp (fun h => h) fun h' => by rw [← h.bu, h']; exact Nat.le_refl _⟩
end Go.Proofs.Ytmnilpjgkjkecaa

namespace Go.Proofs.Ytmnilpjgkjkecaa
open Sx Go Hd
set_option linter.unusedVariables false
set_option linter.unusedSimpArgs false
section
variable {w0 : World} {H : List Asn} {lo hi dg : Int} {u g : Nat}
theorem RValueK_c (hug : u + g ≤ 62) (hg : 1 ≤ g ∧ g ≤ 18) (k : Int) (hk : -9223372036854775808 ≤ k ∧ k < 9223372036854775808) (w : World) (hw : St w0 H w) :
    Calls Try.prog 27 #[.int .i64 u, .int .i64 g, .int .i64 k] w fun e w' => e = .returned (if isK u g k then .tuple #[.int .i64 (ival u g k.toNat : Nat), .bool true] else .tuple #[.int .i64 0, .bool false]) ∧ St w0 H w' := by
  by_cases h : k < 0
  · rw [if_neg (fun h' => absurd h'.1 (by omega))]
    exact RValueN_c hg k h hk.1 w hw
  · obtain ⟨n, rfl⟩ := Int.eq_ofNat_of_zero_le (show 0 ≤ k by omega)
    have := RValue_c hug hg n (by omega) w hw
    have e : isK u g (n : Int) ↔ isI u g n := ⟨fun h => h.2, fun h => ⟨by omega, h⟩⟩
    rw [Int.toNat_natCast]
    simp only [e]
    exact this
/-- one cell alone: may it be loaded in a histogram that doesn't grow? -/
theorem lok_one {lo hi dg : Int} (hs : shOK lo hi dg) {bu : Nat} {key : Int} (hug : 1 ≤ uOf lo + gOf dg) (hb0 : 1 + bkt (uOf lo) (gOf dg) hi.toNat ≤ 64) : LOK lo hi dg false bu [(key, 1)] ↔ isK (uOf lo) (gOf dg) key ∧ ival (uOf lo) (gOf dg) key.toNat ≤ topv (uOf lo) (gOf dg) (1 + bkt (uOf lo) (gOf dg) hi.toNat) ∧ bu = 1 + bkt (uOf lo) (gOf dg) hi.toNat := by
  have hR : RIGHT [(key, (1 : Int))] := fun i hi => by
    have : i = 0 := by simpa using hi
    subst this
    exact ⟨show (1 : Int) ≠ 0 by decide, show (1 : Int) ≤ 4611686018427387904 - 0 by decide, fun h => absurd h (by decide)⟩
  have hnd : ndT (uOf lo) (gOf dg) (1 + bkt (uOf lo) (gOf dg) hi.toNat) [(key, 1)] = max (1 + bkt (uOf lo) (gOf dg) hi.toNat) (1 + bkt (uOf lo) (gOf dg) (ival (uOf lo) (gOf dg) key.toNat)) := rfl
  unfold LOK
  rw [hnd]
  generalize uOf lo = u at *
  generalize gOf dg = g at *
  constructor
  · rintro ⟨_, _, h3, h4, h5⟩
    have hk : isK u g key := h3 (key, 1) (by simp)
    have h5 := h5.resolve_left (by decide)
    exact ⟨hk, (top_bkt (by omega) (ival_lt hk.2)).2 (by omega), by omega⟩
  · rintro ⟨h1, h2, h3⟩
    have h4 := (top_bkt (u := u) (g := g) (n := 1 + bkt u g hi.toNat) (by omega) (ival_lt h1.2)).1 h2
    exact ⟨hs, hR, fun x hx => by rw [List.mem_singleton.1 hx]; exact h1, by omega, .inr (by omega)⟩
set_option maxRecDepth 10000 in
set_option maxHeartbeats 8000000 in
theorem LoadsFin2 (h m b r bx : Nat) (gr gr' : Bool) (bu bu' : Nat) (tot : Int) (vv : Value) (key : Int) (hs : shOK lo hi dg) (hhi : hi < 9223372036854775808) (hh : blk h (hc m b gr bu tot) ∈ H) (hb : blk r (rc lo hi dg (uOf lo) (gOf dg) gr' bu' vv) ∈ H) (hx : blk bx [.int .i64 lo, .int .i64 hi, .int .i64 dg] ∈ H) (hk : -9223372036854775808 ≤ key ∧ key < 9223372036854775808) (hbu : bu ≤ 64)
    (z : Option Addr) (e : Int) (hz : (LOK lo hi dg false bu [(key, 1)] ∧ z.isSome = true ∧ e = 0) ∨ (¬ LOK lo hi dg false bu [(key, 1)] ∧ z.isSome = false ∧ e = 1)) :
    JS Try.prog 6 Try.f6.ntmps (fun e w' => e = .returned (.bool true) ∧ RowKit.Below w0.heap.size w0 w') [] w0 (todo Try.f6 [.b, .b, .b, .b, .b, .b, .b, .b, .b, .b, .b]) [(6, .int .i64 key), (15, .pointer (some ⟨bx, 0, none⟩)), (16, .pointer (some ⟨h, 0, none⟩)), (17, .pointer (some ⟨r, 0, none⟩)), (24, .pointer z), (25, .int .i64 e)] H := by
  have hug := hs.2
  have hgd := gOf_bd (dg := dg) ⟨hs.1.1, hs.1.2.1⟩
  have hg : 1 ≤ gOf dg ∧ gOf dg ≤ 18 := by omega
  have hb0 : 1 + bkt (uOf lo) (gOf dg) hi.toNat ≤ 64 := by
    have := bkt_63 (u := uOf lo) (g := gOf dg) (v := hi.toNat) (by omega) (by omega)
    omega
  rw [lok_one hs (by omega) hb0] at hz
  have hNew := fun {H} w hw => RNewT_c (w0 := w0) (H := H) lo hi dg false hs hhi w hw
  generalize uOf lo = u at *
  generalize gOf dg = g at *
  generalize 1 + bkt u g hi.toNat = bu0 at *
  have hV := fun {H} w hw => RValueK_c (w0 := w0) (H := H) hug hg key hk w hw
  have hTop := fun {H} w hw => RTop_c (w0 := w0) (H := H) hug hg.1 bu0 (by omega) w hw
  refine JS_at rfl ?_
  repeat ((first | (apply gQO; first | refine QO_v rfl (oL (V_load (tb := tb) rfl hb rfl rfl rfl rfl)) ?_ | refine QO_v rfl (oL (V_loadA (tb := tb) rfl hx rfl rfl rfl rfl)) ?_) | (apply gJO; first | refine JO_v (oL (V_loadA (tb := tb) rfl hx rfl rfl rfl rfl)) ?_) | first | (refine sx ?_; try intro _)))
  refine QO_call Try.call27 rfl rfl fun w hw => (hV w hw).mono ?_
  rintro e w' ⟨rfl, hw'⟩
  by_cases hi : isK u g key
  · rw [if_pos hi]
    (refine ⟨_, rfl, _, hw', .inl fun w hw => St.sub (by repeat (first | exact List.Sublist.refl _ | apply List.Sublist.cons_cons | apply List.Sublist.cons)) hw, ?_⟩; clear hw' hw w w')
    have hiv := ival_lt hi.2
    generalize ival u g key.toNat = iv at *
    repeat ((first | (apply gQO; first | refine QO_v rfl (oL (V_load (tb := tb) rfl hb rfl rfl rfl rfl)) ?_ | refine QO_v rfl (oL (V_loadA (tb := tb) rfl hx rfl rfl rfl rfl)) ?_) | (apply gJO; first | refine JO_v (oL (V_loadA (tb := tb) rfl hx rfl rfl rfl rfl)) ?_) | first | (refine sx ?_; try intro _)))
    refine JO_call Try.call19 rfl rfl fun w hw => (hNew w hw).mono ?_
    rintro e w' ⟨r9, rfl, hw'⟩
    (refine ⟨_, rfl, _, hw', ?_⟩; clear hw' hw w w')
    repeat (first | apply hIx 17 | (first | (apply gQO; first | refine QO_v rfl (oL (V_load (tb := tb) rfl (List.Mem.tail _ hb) rfl rfl rfl rfl)) ?_ | refine QO_v rfl (oL (V_load (tb := tb) rfl (List.Mem.head _) rfl rfl rfl rfl)) ?_) | first | (refine sx ?_; try intro _)))
    refine Hold.go ?_
    refine JS_seq ?_
    refine JS_order [0, 1, 2, 3, 4, 5, 6, 7, 8, 9, 10, 11, 12, 13, 14, 15, 16, 17, 18, 19, 21, 22, 23, 24, 20, 25, 26, 27] [] (Picks.cons rfl (Picks.cons rfl (Picks.cons rfl (Picks.cons rfl (Picks.cons rfl (Picks.cons rfl (Picks.cons rfl (Picks.cons rfl (Picks.cons rfl (Picks.cons rfl (Picks.cons rfl (Picks.cons rfl (Picks.cons rfl (Picks.cons rfl (Picks.cons rfl (Picks.cons rfl (Picks.cons rfl (Picks.cons rfl (Picks.cons rfl (Picks.cons rfl (Picks.cons rfl (Picks.cons rfl (Picks.cons rfl (Picks.cons rfl (Picks.cons rfl (Picks.cons rfl (Picks.cons rfl (Picks.cons rfl (Picks.nil))))))))))))))))))))))))))))) (by kernel_rfl) (by kernel_rfl) rfl (by decide +kernel) ?_
    repeat ((first | (apply gQO; first | refine QO_v rfl (oL (V_load (tb := tb) rfl (List.Mem.tail _ hb) rfl rfl rfl rfl)) ?_ | refine QO_v rfl (oL (V_load (tb := tb) rfl (List.Mem.head _) rfl rfl rfl rfl)) ?_) | first | (refine sx ?_; try intro _)))
    refine QO_call Try.call28 rfl rfl fun w hw => (hTop w hw).mono ?_
    rintro e w' ⟨rfl, hw'⟩
    (refine ⟨_, rfl, _, hw', .inl fun w hw => St.sub (by repeat (first | exact List.Sublist.refl _ | apply List.Sublist.cons_cons | apply List.Sublist.cons)) hw, ?_⟩; clear hw' hw w w')
    by_cases ht : iv ≤ topv u g bu0
    · by_cases hbb : bu = bu0
      · obtain ⟨_, hz1, rfl⟩ := hz.resolve_right fun h' => h'.1 ⟨hi, ht, hbb⟩
        obtain ⟨a, rfl⟩ := Option.isSome_iff_exists.1 hz1
        subst hbb
        repeat ((first | (apply gQO; first | refine QO_v rfl (oL (V_load (tb := tb) rfl (List.Mem.tail _ hb) rfl rfl rfl rfl)) ?_ | refine QO_v rfl (oL (V_load (tb := tb) rfl (List.Mem.head _) rfl rfl rfl rfl)) ?_) | first | (refine sx ?_; try intro _)))
        refine QO_call Try.call23 rfl rfl fun w hw => (HBuckets_c h m b gr bu tot (List.Mem.tail _ hh) w hw).mono ?_
        rintro e w' ⟨rfl, hw'⟩
        (refine ⟨_, rfl, _, hw', .inl fun w hw => St.sub (by repeat (first | exact List.Sublist.refl _ | apply List.Sublist.cons_cons | apply List.Sublist.cons)) hw, ?_⟩; clear hw' hw w w')
        repeat ((first | (apply gQO; first | refine QO_v rfl (oL (V_load (tb := tb) rfl (List.Mem.tail _ hb) rfl rfl rfl rfl)) ?_ | refine QO_v rfl (oL (V_load (tb := tb) rfl (List.Mem.head _) rfl rfl rfl rfl)) ?_) | first | (refine sx ?_; try intro _)))
        exact JS_ret Try.func6 rfl rfl fun w hw => ⟨rfl, hw.grown⟩
      · obtain ⟨_, hz1, rfl⟩ := hz.resolve_left fun h' => hbb h'.1.2.2
        obtain rfl := Option.isSome_eq_false_iff.1 hz1 |> Option.isNone_iff_eq_none.1
        repeat ((first | (apply gQO; first | refine QO_v rfl (oL (V_load (tb := tb) rfl (List.Mem.tail _ hb) rfl rfl rfl rfl)) ?_ | refine QO_v rfl (oL (V_load (tb := tb) rfl (List.Mem.head _) rfl rfl rfl rfl)) ?_) | first | (refine sx ?_; try intro _)))
        refine QO_call Try.call23 rfl rfl fun w hw => (HBuckets_c h m b gr bu tot (List.Mem.tail _ hh) w hw).mono ?_
        rintro e w' ⟨rfl, hw'⟩
        (refine ⟨_, rfl, _, hw', .inl fun w hw => St.sub (by repeat (first | exact List.Sublist.refl _ | apply List.Sublist.cons_cons | apply List.Sublist.cons)) hw, ?_⟩; clear hw' hw w w')
        repeat ((first | (apply gQO; first | refine QO_v rfl (oL (V_load (tb := tb) rfl (List.Mem.tail _ hb) rfl rfl rfl rfl)) ?_ | refine QO_v rfl (oL (V_load (tb := tb) rfl (List.Mem.head _) rfl rfl rfl rfl)) ?_) | first | (refine sx ?_; try intro _)))
        exact JS_ret Try.func6 rfl rfl fun w hw => ⟨rfl, hw.grown⟩
    · obtain ⟨_, hz1, rfl⟩ := hz.resolve_left fun h' => ht h'.1.2.1
      obtain rfl := Option.isSome_eq_false_iff.1 hz1 |> Option.isNone_iff_eq_none.1
      repeat ((first | (apply gQO; first | refine QO_v rfl (oL (V_load (tb := tb) rfl (List.Mem.tail _ hb) rfl rfl rfl rfl)) ?_ | refine QO_v rfl (oL (V_load (tb := tb) rfl (List.Mem.head _) rfl rfl rfl rfl)) ?_) | first | (refine sx ?_; try intro _)))
      exact JS_ret Try.func6 rfl rfl fun w hw => ⟨rfl, hw.grown⟩
  · rw [if_neg hi]
    (refine ⟨_, rfl, _, hw', .inl fun w hw => St.sub (by repeat (first | exact List.Sublist.refl _ | apply List.Sublist.cons_cons | apply List.Sublist.cons)) hw, ?_⟩; clear hw' hw w w')
    obtain ⟨_, hz1, rfl⟩ := hz.resolve_left fun h' => hi h'.1.1
    obtain rfl := Option.isSome_eq_false_iff.1 hz1 |> Option.isNone_iff_eq_none.1
    repeat ((first | (apply gQO; first | refine QO_v rfl (oL (V_load (tb := tb) rfl hb rfl rfl rfl rfl)) ?_ | refine QO_v rfl (oL (V_loadA (tb := tb) rfl hx rfl rfl rfl rfl)) ?_) | (apply gJO; first | refine JO_v (oL (V_loadA (tb := tb) rfl hx rfl rfl rfl rfl)) ?_) | first | (refine sx ?_; try intro _)))
    refine JO_call Try.call19 rfl rfl fun w hw => (hNew w hw).mono ?_
    rintro e w' ⟨r9, rfl, hw'⟩
    (refine ⟨_, rfl, _, hw', ?_⟩; clear hw' hw w w')
    repeat (first | apply hIx 17 | (first | (apply gQO; first | refine QO_v rfl (oL (V_load (tb := tb) rfl (List.Mem.tail _ hb) rfl rfl rfl rfl)) ?_ | refine QO_v rfl (oL (V_load (tb := tb) rfl (List.Mem.head _) rfl rfl rfl rfl)) ?_) | first | (refine sx ?_; try intro _)))
    refine Hold.go ?_
    refine JS_seq ?_
    refine JS_order [0, 1, 2, 3, 4, 5, 6, 7, 8, 9, 10, 11, 12, 13, 14, 15, 16, 17, 18, 19, 21, 22, 23, 24, 20, 25, 26, 27] [] (Picks.cons rfl (Picks.cons rfl (Picks.cons rfl (Picks.cons rfl (Picks.cons rfl (Picks.cons rfl (Picks.cons rfl (Picks.cons rfl (Picks.cons rfl (Picks.cons rfl (Picks.cons rfl (Picks.cons rfl (Picks.cons rfl (Picks.cons rfl (Picks.cons rfl (Picks.cons rfl (Picks.cons rfl (Picks.cons rfl (Picks.cons rfl (Picks.cons rfl (Picks.cons rfl (Picks.cons rfl (Picks.cons rfl (Picks.cons rfl (Picks.cons rfl (Picks.cons rfl (Picks.cons rfl (Picks.cons rfl (Picks.nil))))))))))))))))))))))))))))) (by kernel_rfl) (by kernel_rfl) rfl (by decide +kernel) ?_
    repeat ((first | (apply gQO; first | refine QO_v rfl (oL (V_load (tb := tb) rfl (List.Mem.tail _ hb) rfl rfl rfl rfl)) ?_ | refine QO_v rfl (oL (V_load (tb := tb) rfl (List.Mem.head _) rfl rfl rfl rfl)) ?_) | first | (refine sx ?_; try intro _)))
    exact JS_ret Try.func6 rfl rfl fun w hw => ⟨rfl, hw.grown⟩
set_option maxRecDepth 10000 in
set_option maxHeartbeats 8000000 in
theorem LoadsFin (h m b r bx : Nat) (gr gr' : Bool) (bu bu' : Nat) (tot : Int) (vv : Value) (key : Int) (hs : shOK lo hi dg) (hhi : hi < 9223372036854775808) (hh : blk h (hc m b gr bu tot) ∈ H) (hb : blk r (rc lo hi dg (uOf lo) (gOf dg) gr' bu' vv) ∈ H) (hx : blk bx [.int .i64 lo, .int .i64 hi, .int .i64 dg] ∈ H) (hk : -9223372036854775808 ≤ key ∧ key < 9223372036854775808) (hbu : bu ≤ 64) :
    JS Try.prog 6 Try.f6.ntmps (fun e w' => e = .returned (.bool true) ∧ RowKit.Below w0.heap.size w0 w') [] w0 (todo Try.f6 [.b, .b, .b, .b, .b, .b, .b, .b, .b, .b]) [(6, .int .i64 key), (15, .pointer (some ⟨bx, 0, none⟩)), (16, .pointer (some ⟨h, 0, none⟩)), (17, .pointer (some ⟨r, 0, none⟩))] H := by
  obtain ⟨s1, s2, s3, s4⟩ := hs.1
  have hL := fun {H} q c (hr : Rd w0 H (.slice q [(key, (1 : Int))].length c) [(key, (1 : Int))].length (flat [(key, 1)])) w hw => HLoad_c (w0 := w0) (H := H) (lo := lo) (hi := hi) (dg := dg) false bu q c [(key, 1)] (by omega) (by omega) (by omega) (by omega) hr (fun x hx => by rw [List.mem_singleton.1 hx]; exact ⟨hk, show (0 : Int) ≤ 1 ∧ (1 : Int) < 18446744073709551616 by decide⟩) (show 1 ≤ 1000000 by decide) w hw
  have fin2 := fun {H} hh hb hx z e hz => LoadsFin2 (w0 := w0) (H := H) (lo := lo) (hi := hi) (dg := dg) h m b r bx gr gr' bu bu' tot vv key hs hhi hh hb hx hk hbu z e hz
  refine JS_at rfl ?_
  refine JS_seq ?_
  refine JS_tree (.node [0, 1, 3, 4] 2 (.leaf [5, 6, 7, 8, 9, 10, 11]) 5 (.leaf [2, 6, 7, 8, 9, 10, 11])) [] (.node (Picks.cons rfl (Picks.cons rfl (Picks.cons rfl (Picks.cons rfl (Picks.nil))))) rfl (.leaf (Picks.cons rfl (Picks.cons rfl (Picks.cons rfl (Picks.cons rfl (Picks.cons rfl (Picks.cons rfl (Picks.cons rfl (Picks.nil))))))))) rfl (.leaf (Picks.cons rfl (Picks.cons rfl (Picks.cons rfl (Picks.cons rfl (Picks.cons rfl (Picks.cons rfl (Picks.cons rfl (Picks.nil)))))))))) (by kernel_rfl) (by kernel_rfl) rfl (by decide +kernel) ?_
  refine QR_node ?_
  repeat ((first | (apply gQO; first | refine QO_v rfl (oL (V_load (tb := tb) rfl hb rfl rfl rfl rfl)) ?_ | refine QO_v rfl (oL (V_loadA (tb := tb) rfl hx rfl rfl rfl rfl)) ?_) | (apply gJO; first | refine JO_v (oL (V_loadA (tb := tb) rfl hx rfl rfl rfl rfl)) ?_) | first | (refine sx ?_; try intro _)))
  refine QR_both ?_ ?_
  · apply QR_un
    refine QO_call Try.call23 rfl rfl fun w hw => (HBuckets_c h m b gr bu tot hh w hw).mono ?_
    rintro e w' ⟨rfl, hw'⟩
    (refine ⟨_, rfl, _, hw', .inl fun w hw => St.sub (by repeat (first | exact List.Sublist.refl _ | apply List.Sublist.cons_cons | apply List.Sublist.cons)) hw, ?_⟩; clear hw' hw w w')
    refine QR_leaf ?_
    repeat ((first | (apply gQO; first | refine QO_v rfl (oL (V_load (tb := tb) rfl hb rfl rfl rfl rfl)) ?_ | refine QO_v rfl (oL (V_loadA (tb := tb) rfl hx rfl rfl rfl rfl)) ?_) | (apply gJO; first | refine JO_v (oL (V_loadA (tb := tb) rfl hx rfl rfl rfl rfl)) ?_) | first | (refine sx ?_; try intro _)))
    (refine QO_e (E_buildSlice (tb := tb) rfl rfl rfl rfl rfl rfl rfl rfl rfl) rfl (.inr fun _ _ hw => St.sub (by repeat (first | exact List.Sublist.refl _ | apply List.Sublist.cons_cons | apply List.Sublist.cons)) hw) ?_; intro _)
    rename_i pz
    repeat (first | (refine sx ?_; try intro _))
    refine QO_call Try.call22 rfl rfl fun w hw => (hL (some pz) 1 (vec_rd (List.Mem.head _)) w hw).mono ?_
    rintro e w' (⟨hno, rfl, hw'⟩ | ⟨hyes, y, ym, yb, es, c, rfl, _, hw'⟩)
    · (refine ⟨_, rfl, _, hw', .inl fun w hw => St.sub (by repeat (first | exact List.Sublist.refl _ | apply List.Sublist.cons_cons | apply List.Sublist.cons)) hw, ?_⟩; clear hw' hw w w')
      have f2 := fin2 hh hb hx none 1 (.inr ⟨hno, rfl, rfl⟩)
      repeat (first | exact JS_of_at (fn := Try.f6) (p := [.b, .b, .b, .b, .b, .b, .b, .b, .b, .b, .b]) (JS_weak f2 (by repeat (first | exact trivial | refine ⟨rfl, ?_⟩ | refine ⟨lookI rfl (by omega), ?_⟩)) (fun w hw => St.sub (by repeat (first | exact List.Sublist.refl _ | apply List.Sublist.cons_cons | apply List.Sublist.cons)) hw)) rfl | first | (refine sx ?_; try intro _))
    · (refine ⟨_, rfl, _, hw', .inl fun w hw => St.sub (by repeat (first | exact List.Sublist.refl _ | apply List.Sublist.cons_cons | apply List.Sublist.cons)) hw, ?_⟩; clear hw' hw w w')
      have f2 := fin2 hh hb hx (some ⟨y, 0, none⟩) 0 (.inl ⟨hyes, rfl, rfl⟩)
      repeat (first | exact JS_of_at (fn := Try.f6) (p := [.b, .b, .b, .b, .b, .b, .b, .b, .b, .b, .b]) (JS_weak f2 (by repeat (first | exact trivial | refine ⟨rfl, ?_⟩ | refine ⟨lookI rfl (by omega), ?_⟩)) (fun w hw => St.sub (by repeat (first | exact List.Sublist.refl _ | apply List.Sublist.cons_cons | apply List.Sublist.cons)) hw)) rfl | first | (refine sx ?_; try intro _))
  · apply QR_un
    (refine QO_e (E_buildSlice (tb := tb) rfl rfl rfl rfl rfl rfl rfl rfl rfl) rfl (.inr fun _ _ hw => St.sub (by repeat (first | exact List.Sublist.refl _ | apply List.Sublist.cons_cons | apply List.Sublist.cons)) hw) ?_; intro _)
    rename_i pz
    refine QR_leaf ?_
    repeat (first | (refine sx ?_; try intro _))
    refine QO_call Try.call23 rfl rfl fun w hw => (HBuckets_c h m b gr bu tot (List.Mem.tail _ hh) w hw).mono ?_
    rintro e w' ⟨rfl, hw'⟩
    (refine ⟨_, rfl, _, hw', .inl fun w hw => St.sub (by repeat (first | exact List.Sublist.refl _ | apply List.Sublist.cons_cons | apply List.Sublist.cons)) hw, ?_⟩; clear hw' hw w w')
    repeat (first | (refine sx ?_; try intro _))
    refine QO_call Try.call22 rfl rfl fun w hw => (hL (some pz) 1 (vec_rd (List.Mem.head _)) w hw).mono ?_
    rintro e w' (⟨hno, rfl, hw'⟩ | ⟨hyes, y, ym, yb, es, c, rfl, _, hw'⟩)
    · (refine ⟨_, rfl, _, hw', .inl fun w hw => St.sub (by repeat (first | exact List.Sublist.refl _ | apply List.Sublist.cons_cons | apply List.Sublist.cons)) hw, ?_⟩; clear hw' hw w w')
      have f2 := fin2 hh hb hx none 1 (.inr ⟨hno, rfl, rfl⟩)
      repeat (first | exact JS_of_at (fn := Try.f6) (p := [.b, .b, .b, .b, .b, .b, .b, .b, .b, .b, .b]) (JS_weak f2 (by repeat (first | exact trivial | refine ⟨rfl, ?_⟩ | refine ⟨lookI rfl (by omega), ?_⟩)) (fun w hw => St.sub (by repeat (first | exact List.Sublist.refl _ | apply List.Sublist.cons_cons | apply List.Sublist.cons)) hw)) rfl | first | (refine sx ?_; try intro _))
    · (refine ⟨_, rfl, _, hw', .inl fun w hw => St.sub (by repeat (first | exact List.Sublist.refl _ | apply List.Sublist.cons_cons | apply List.Sublist.cons)) hw, ?_⟩; clear hw' hw w w')
      have f2 := fin2 hh hb hx (some ⟨y, 0, none⟩) 0 (.inl ⟨hyes, rfl, rfl⟩)
      repeat (first | exact JS_of_at (fn := Try.f6) (p := [.b, .b, .b, .b, .b, .b, .b, .b, .b, .b, .b]) (JS_weak f2 (by repeat (first | exact trivial | refine ⟨rfl, ?_⟩ | refine ⟨lookI rfl (by omega), ?_⟩)) (fun w hw => St.sub (by repeat (first | exact List.Sublist.refl _ | apply List.Sublist.cons_cons | apply List.Sublist.cons)) hw)) rfl | first | (refine sx ?_; try intro _))
end
end Go.Proofs.Ytmnilpjgkjkecaa

namespace Go.Proofs.Ytmnilpjgkjkecaa
open Sx Go Hd
set_option linter.unusedVariables false
set_option linter.unusedSimpArgs false
set_option maxRecDepth 10000 in
set_option maxHeartbeats 8000000 in
theorem HdrLoads_l (a0 a1 : Int) (gr : Bool) (lp : Option Addr) (lc lm : Nat) (L : List Int) (np : Option Addr) (nc nm : Nat) (N : List Int) (more key : Int) (w0 : World) (h0 : 0 ≤ a0 ∧ a0 < 18446744073709551616) (h1 : 0 ≤ a1 ∧ a1 < 256)
    (hL : ArgRd w0 (.slice lp lm lc) lm (ints .i64 L)) (lL : L.length = lm) (kL : OKI L ∧ (lp = none → lm = 0) ∧ lm ≤ 17592186043904) (hN : ArgRd w0 (.slice np nm nc) nm (ints .u16 N)) (lN : N.length = nm) (kN : OKH N ∧ (np = none → nm = 0) ∧ nm ≤ 70368744175616)
    (h4 : -9223372036854775808 ≤ more ∧ more < 9223372036854775808) (h5 : -9223372036854775808 ≤ key ∧ key < 9223372036854775808) :
    Calls Try.prog 6 #[.int .u64 a0, .int .u8 a1, .bool gr, .slice lp lm lc, .slice np nm nc, .int .i64 more, .int .i64 key] w0 fun e w' => e = .returned (.bool true) ∧ RowKit.Below w0.heap.size w0 w' := by
  subst lL lN
  have hs := law_sh a0 a1 1000000 h0 h1 (by decide)
  have hl1 : 1 ≤ lawLo a0 ∧ lawLo a0 ≤ 100000 := by unfold lawLo; omega
  have hhi : lawHi a0 1000000 < 9223372036854775808 := by unfold lawHi; omega
  have hd1 : 1 ≤ lawDg a1 ∧ lawDg a1 ≤ 5 := by unfold lawDg; omega
  have hSh := fun {H} w hw => Shape17_c (w0 := w0) (H := H) a0 a1 1000000 h0 h1 (by decide) w hw
  refine enter (vs := [.int .u64 a0, .int .u8 a1, .bool gr, .slice lp L.length lc, .slice np N.length nc, .int .i64 more, .int .i64 key]) Try.func6 rfl rfl rfl (St.start w0) ?_
  generalize lawLo a0 = lo at *
  generalize lawHi a0 1000000 = hi at *
  generalize lawDg a1 = dg at *
  have hug := hs.2
  have hgd := gOf_bd hd1
  have hg' : 1 ≤ gOf dg ∧ gOf dg ≤ 18 := by omega
  repeat (first | (refine sx ?_; try intro _))
  refine JO_call Try.call9 rfl rfl fun w hw => (alive18_c w hw).mono ?_
  rintro e w' ⟨rfl, hw'⟩
  (refine ⟨_, rfl, _, hw', ?_⟩; clear hw' hw w w')
  repeat (first | (refine sx ?_; try intro _))
  refine JO_call Try.call10 rfl rfl fun w hw => (hSh w hw).mono ?_
  rintro e w' ⟨rfl, hw'⟩
  (refine ⟨_, rfl, _, hw', ?_⟩; clear hw' hw w w')
  repeat (first | (refine sx ?_; try intro _))
  rename_i bx
  refine JO_call Try.call11 rfl rfl fun w hw => (Recorded_c lo hi dg gr hs hhi lp np lc nc L N (hL.rd _) (hN.rd _) kL.1 kN.1 (by omega) (by omega) w hw).mono ?_
  rintro e w' ⟨h, m, b, r, es, clock, q, d, rfl, hE, hw'⟩
  have hb0 : 1 + bkt (uOf lo) (gOf dg) hi.toNat ≤ 64 := by
    have := bkt_63 (u := uOf lo) (g := gOf dg) (v := hi.toNat) (by omega) (by omega)
    omega
  have hWn : ∀ j, 0 ≤ wtN N j := fun j => by have := wtN_bd N j; omega
  have hLn : ∀ j, L.getD j 0 < 9223372036854775808 := fun j => (kL.1 j).2
  obtain ⟨⟨ob, ogt⟩, ol⟩ := recS_ok (u := uOf lo) (g := gOf dg) (gr := gr) (bu := 1 + bkt (uOf lo) (gOf dg) hi.toNat) (L := L) (W := wtN N) hug hg' hb0 hLn hWn (min L.length 40)
  have hks := recS_ksi (u := uOf lo) (g := gOf dg) (gr := gr) (bu0 := 1 + bkt (uOf lo) (gOf dg) hi.toNat) (L := L) (W := wtN N) hug hg'.1 hWn hLn (min L.length 40)
  have hnb := NB.recS (u := uOf lo) (g := gOf dg) (gr := gr) (bu0 := 1 + bkt (uOf lo) (gOf dg) hi.toNat) (L := L) (W := wtN N) hg'.1 (by omega) hWn hLn (min L.length 40)
  generalize recS (uOf lo) (gOf dg) gr (1 + bkt (uOf lo) (gOf dg) hi.toNat) L (wtN N) (min L.length 40) = s at *
  have hlok := hnb.lok hs ogt hks
  have hbu := hnb.bu
  obtain ⟨bu, T⟩ := s
  dsimp only at ob ogt ol hks hE hw' hlok hbu
  have hbu1 : 1 ≤ bu := by
    have := ndT_ge (uOf lo) (gOf dg) T (1 + bkt (uOf lo) (gOf dg) hi.toNat)
    omega
  have hHL := fun {H} (bk : Int) hbk q c hr w hw => HLoad_c (w0 := w0) (H := H) (lo := lo) (hi := hi) (dg := dg) gr bk q c T (by omega) (by have := hs.1.2.2.2; omega) (by omega) hbk hr ogt.okt (by omega) w hw
  have hne : ∀ bk : Int, bk ≠ bu → ¬ LOK lo hi dg gr bk T := fun bk hb' h => hb' (by rw [h.2.2.2.1, hbu])
  rw [← hbu] at hHL
  have hfin := fun {H} bu' vv hh hb hx => LoadsFin (w0 := w0) (H := H) (lo := lo) (hi := hi) (dg := dg) h m b r bx gr gr bu bu' (sw T) vv key hs hhi hh hb hx h5 ob
  have hi0 : 0 ≤ hi := by have := hs.1.2.2; omega
  generalize uOf lo = u at *
  generalize gOf dg = g at *
  (refine ⟨_, rfl, _, hw', ?_⟩; clear hw' hw w w')
  have c1 : IntKind.i64.wrap ((bu : Int) + 1) = (bu : Int) + 1 := wi64 (by omega)
  have c2 : IntKind.i64.wrap ((bu : Int) - 1) = (bu : Int) - 1 := wi64 (by omega)
  repeat (first | apply hIx 7 | first | (refine sx ?_; try intro _))
  refine Hold.go ?_
  refine JS_seq ?_
  refine JS_order [0, 1, 2, 4, 3, 5, 6, 7, 8, 9, 10, 11] [] (Picks.cons rfl (Picks.cons rfl (Picks.cons rfl (Picks.cons rfl (Picks.cons rfl (Picks.cons rfl (Picks.cons rfl (Picks.cons rfl (Picks.cons rfl (Picks.cons rfl (Picks.cons rfl (Picks.cons rfl (Picks.nil))))))))))))) (by kernel_rfl) (by kernel_rfl) rfl (by decide +kernel) ?_
  repeat (first | (refine sx ?_; try intro _))
  refine QO_call Try.call23 rfl rfl fun w hw => (HBuckets_c h m b gr bu (sw T) (by repeat (first | apply List.Mem.head | apply List.Mem.tail)) w hw).mono ?_
  rintro e w' ⟨rfl, hw'⟩
  (refine ⟨_, rfl, _, hw', .inl fun w hw => St.sub (by repeat (first | exact List.Sublist.refl _ | apply List.Sublist.cons_cons | apply List.Sublist.cons)) hw, ?_⟩; clear hw' hw w w')
  repeat (first | (refine sx ?_; try intro _))
  refine QO_call Try.call24 rfl rfl fun w hw => (HPairs_c h m b gr bu (sw T) es clock T (by repeat (first | apply List.Mem.head | apply List.Mem.tail)) (by repeat (first | apply List.Mem.head | apply List.Mem.tail)) hE ogt.srt ogt.key (by omega) w hw).mono ?_
  rintro e w' ⟨q7, d7, rfl, hw'⟩
  (refine ⟨_, rfl, _, hw', .inl fun w hw => St.sub (by repeat (first | exact List.Sublist.refl _ | apply List.Sublist.cons_cons | apply List.Sublist.cons)) hw, ?_⟩; clear hw' hw w w')
  repeat (first | (refine sx ?_; try intro _))
  refine QO_call Try.call22 rfl rfl fun w hw => (hHL bu (by omega) q7 d7 (vec_rd (List.Mem.head _)) w hw).mono ?_
  rintro e w' (⟨hno, _⟩ | ⟨_, y, ym, yb, yes, yc, rfl, hEy, hw'⟩)
  · exact absurd hlok hno
  (refine ⟨_, rfl, _, hw', .inl fun w hw => St.sub (by repeat (first | exact List.Sublist.refl _ | apply List.Sublist.cons_cons | apply List.Sublist.cons)) hw, ?_⟩; clear hw' hw w w')
  repeat (first | apply hIx 8 | first | (refine sx ?_; try intro _))
  refine Hold.go ?_
  refine JS_H (H' := blk y (hc ym yb gr bu (sw T)) :: mapL yb yes yc :: blk ym (mc lo hi dg u g) :: (hA h m b r lo hi dg u g gr bu es clock T q d ++ [blk bx [.int .i64 lo, .int .i64 hi, .int .i64 dg]])) (fun w hw => St.sub (by repeat (first | exact List.Sublist.refl _ | apply List.Sublist.cons_cons | apply List.Sublist.cons)) hw) ?_
  refine JS_seq ?_
  refine JS_order [0, 1, 2, 5, 3, 4, 6, 7, 8, 9, 10, 11, 12] [] (Picks.cons rfl (Picks.cons rfl (Picks.cons rfl (Picks.cons rfl (Picks.cons rfl (Picks.cons rfl (Picks.cons rfl (Picks.cons rfl (Picks.cons rfl (Picks.cons rfl (Picks.cons rfl (Picks.cons rfl (Picks.cons rfl (Picks.nil)))))))))))))) (by kernel_rfl) (by kernel_rfl) rfl (by decide +kernel) ?_
  repeat (first | (refine sx ?_; try intro _))
  refine QO_call Try.call23 rfl rfl fun w hw => (HBuckets_c h m b gr bu (sw T) (by repeat (first | apply List.Mem.head | apply List.Mem.tail)) w hw).mono ?_
  rintro e w' ⟨rfl, hw'⟩
  (refine ⟨_, rfl, _, hw', .inl fun w hw => St.sub (by repeat (first | exact List.Sublist.refl _ | apply List.Sublist.cons_cons | apply List.Sublist.cons)) hw, ?_⟩; clear hw' hw w w')
  repeat (first | (apply gQO; refine QO_v rfl (V_add rfl rfl c1 rfl) ?_) | first | (refine sx ?_; try intro _))
  refine QO_call Try.call24 rfl rfl fun w hw => (HPairs_c h m b gr bu (sw T) es clock T (by repeat (first | apply List.Mem.head | apply List.Mem.tail)) (by repeat (first | apply List.Mem.head | apply List.Mem.tail)) hE ogt.srt ogt.key (by omega) w hw).mono ?_
  rintro e w' ⟨q8, d8, rfl, hw'⟩
  (refine ⟨_, rfl, _, hw', .inl fun w hw => St.sub (by repeat (first | exact List.Sublist.refl _ | apply List.Sublist.cons_cons | apply List.Sublist.cons)) hw, ?_⟩; clear hw' hw w w')
  repeat (first | (refine sx ?_; try intro _))
  refine QO_call Try.call22 rfl rfl fun w hw => (hHL ((bu : Int) + 1) (by omega) q8 d8 (vec_rd (List.Mem.head _)) w hw).mono ?_
  rintro e w' hor
  obtain ⟨_, rfl, hw'⟩ := hor.resolve_right fun h' => hne _ (by omega) h'.1
  clear hor
  (refine ⟨_, rfl, _, hw', .inl fun w hw => St.sub (by repeat (first | exact List.Sublist.refl _ | apply List.Sublist.cons_cons | apply List.Sublist.cons)) hw, ?_⟩; clear hw' hw w w')
  repeat (first | apply hIx 9 | first | (refine sx ?_; try intro _))
  refine Hold.go ?_
  refine JS_H (H' := blk y (hc ym yb gr bu (sw T)) :: mapL yb yes yc :: blk ym (mc lo hi dg u g) :: (hA h m b r lo hi dg u g gr bu es clock T q d ++ [blk bx [.int .i64 lo, .int .i64 hi, .int .i64 dg]])) (fun w hw => St.sub (by repeat (first | exact List.Sublist.refl _ | apply List.Sublist.cons_cons | apply List.Sublist.cons)) hw) ?_
  refine JS_seq ?_
  refine JS_order [0, 1, 2, 5, 3, 4, 6, 7, 8, 9, 10, 11, 12] [] (Picks.cons rfl (Picks.cons rfl (Picks.cons rfl (Picks.cons rfl (Picks.cons rfl (Picks.cons rfl (Picks.cons rfl (Picks.cons rfl (Picks.cons rfl (Picks.cons rfl (Picks.cons rfl (Picks.cons rfl (Picks.cons rfl (Picks.nil)))))))))))))) (by kernel_rfl) (by kernel_rfl) rfl (by decide +kernel) ?_
  repeat (first | (refine sx ?_; try intro _))
  refine QO_call Try.call23 rfl rfl fun w hw => (HBuckets_c h m b gr bu (sw T) (by repeat (first | apply List.Mem.head | apply List.Mem.tail)) w hw).mono ?_
  rintro e w' ⟨rfl, hw'⟩
  (refine ⟨_, rfl, _, hw', .inl fun w hw => St.sub (by repeat (first | exact List.Sublist.refl _ | apply List.Sublist.cons_cons | apply List.Sublist.cons)) hw, ?_⟩; clear hw' hw w w')
  repeat (first | (apply gQO; refine QO_v rfl (V_sub rfl rfl c2 rfl) ?_) | first | (refine sx ?_; try intro _))
  refine QO_call Try.call24 rfl rfl fun w hw => (HPairs_c h m b gr bu (sw T) es clock T (by repeat (first | apply List.Mem.head | apply List.Mem.tail)) (by repeat (first | apply List.Mem.head | apply List.Mem.tail)) hE ogt.srt ogt.key (by omega) w hw).mono ?_
  rintro e w' ⟨q8, d8, rfl, hw'⟩
  (refine ⟨_, rfl, _, hw', .inl fun w hw => St.sub (by repeat (first | exact List.Sublist.refl _ | apply List.Sublist.cons_cons | apply List.Sublist.cons)) hw, ?_⟩; clear hw' hw w w')
  repeat (first | (refine sx ?_; try intro _))
  refine QO_call Try.call22 rfl rfl fun w hw => (hHL ((bu : Int) - 1) (by omega) q8 d8 (vec_rd (List.Mem.head _)) w hw).mono ?_
  rintro e w' hor
  obtain ⟨_, rfl, hw'⟩ := hor.resolve_right fun h' => hne _ (by omega) h'.1
  clear hor
  (refine ⟨_, rfl, _, hw', .inl fun w hw => St.sub (by repeat (first | exact List.Sublist.refl _ | apply List.Sublist.cons_cons | apply List.Sublist.cons)) hw, ?_⟩; clear hw' hw w w')
  repeat (first | apply hIx 10 | first | (refine sx ?_; try intro _))
  refine Hold.go ?_
  refine JS_H (H' := blk y (hc ym yb gr bu (sw T)) :: mapL yb yes yc :: blk ym (mc lo hi dg u g) :: (hA h m b r lo hi dg u g gr bu es clock T q d ++ [blk bx [.int .i64 lo, .int .i64 hi, .int .i64 dg]])) (fun w hw => St.sub (by repeat (first | exact List.Sublist.refl _ | apply List.Sublist.cons_cons | apply List.Sublist.cons)) hw) ?_
  refine JS_seq ?_
  repeat (first | (refine sx ?_; try intro _))
  have hSame := fun {H} bu T q d es clock g1 g2 g3 g4 g5 g6 g7 g8 g9 g10 w hw => Same18_c (w0 := w0) (H := H) (lo := lo) (hi := hi) (dg := dg) (u := u) (g := g) y ym yb r gr bu es clock T q d g1 g2 g3 g4 g5 g6 g7 g8 hug hg' g9 ⟨hi0, hhi⟩ g10 w hw
  refine JO_call Try.call20 rfl rfl fun w hw => (hSame bu T q d yes yc (by repeat (first | apply List.Mem.head | apply List.Mem.tail)) (by repeat (first | apply List.Mem.head | apply List.Mem.tail)) (by repeat (first | apply List.Mem.head | apply List.Mem.tail)) (by repeat (first | apply List.Mem.head | apply List.Mem.tail)) (vec_rd (by repeat (first | apply List.Mem.head | apply List.Mem.tail))) hEy ogt hks ob (by omega) w hw).mono ?_
  rintro e w' ⟨rfl, hw'⟩
  (refine ⟨_, rfl, _, hw', ?_⟩; clear hw' hw w w')
  repeat (first | (refine sx ?_; try intro _))
  refine JO_call Try.call25 rfl rfl fun w hw => (HRecord_c y ym yb gr bu yes yc T (by repeat (first | apply List.Mem.head | apply List.Mem.tail)) hug hg' ob hEy ogt more 1 h4 (by decide) w hw).mono ?_
  rintro e w' ⟨rfl, hor⟩
  have hRR := fun {H} a1 w hw => RRecord_c (w0 := w0) (H := H) (lo := lo) (hi := hi) (dg := dg) (u := u) (g := g) r gr bu q d T a1 (by omega) hug hg' ob ogt more 1 h4 (by decide) w hw
  by_cases hc0 : chk u g gr bu (sw T) more 1 = 0
  · obtain ⟨es', clock', hE', hw'⟩ := (hor.resolve_left fun h' => h'.1 hc0).2
    obtain ⟨p1, p2, p3⟩ := chk_0 (by decide) hc0
    have hmv : more.toNat < 9223372036854775808 := by omega
    obtain ⟨i1, _⟩ := idx_bd hug hg' hmv
    have hb3 := bkt_63 (u := u) (g := g) hmv (by omega)
    have ogt' := ogt.put (k := (idx u g more.toNat : Nat)) (n := 1) (by omega) (by decide) (by omega)
    have hks' := hks.put (idx_is hg'.1 hug hmv) 1
    have hln := putT_len (k := (idx u g more.toNat : Nat)) (n := 1) T
    have hsw := putT_sw (k := (idx u g more.toNat : Nat)) (n := 1) T
    have hbm : max bu (1 + bkt u g more.toNat) ≤ 64 := by omega
    rw [hc0] at hRR ⊢
    rw [← hsw] at hw'
    generalize putT (idx u g more.toNat : Nat) 1 T = T' at *
    generalize max bu (1 + bkt u g more.toNat) = bu' at *
    refine ⟨_, rfl, _, hw', ?_⟩
    clear hor hw' hw w w'
    repeat (first | (refine sx ?_; try intro _))
    refine JO_call Try.call26 rfl rfl fun w hw => (hRR (H := blk y (hc ym yb gr bu' (sw T')) :: mapL yb es' clock' :: blk ym (mc lo hi dg u g) :: blk h (hc m b gr bu (sw T)) :: mapL b es clock :: vec 58 2 (.slice q T.length d) T.length (flat T) :: blk m (mc lo hi dg u g) :: blk bx [.int .i64 lo, .int .i64 hi, .int .i64 dg] :: []) (vec_rd (by repeat (first | apply List.Mem.head | apply List.Mem.tail))) w (hw.perm (by (repeat (first | exact List.Perm.refl _ | refine List.Perm.cons _ ?_ | refine (List.perm_middle (l₁ := [_])).trans (List.Perm.cons _ ?_) | refine (List.perm_middle (l₁ := [_, _])).trans (List.Perm.cons _ ?_) | refine (List.perm_middle (l₁ := [_, _, _])).trans (List.Perm.cons _ ?_) | refine (List.perm_middle (l₁ := [_, _, _, _])).trans (List.Perm.cons _ ?_) | refine (List.perm_middle (l₁ := [_, _, _, _, _])).trans (List.Perm.cons _ ?_) | refine (List.perm_middle (l₁ := [_, _, _, _, _, _])).trans (List.Perm.cons _ ?_) | refine (List.perm_middle (l₁ := [_, _, _, _, _, _, _])).trans (List.Perm.cons _ ?_) | refine (List.perm_middle (l₁ := [_, _, _, _, _, _, _, _])).trans (List.Perm.cons _ ?_) | refine (List.perm_middle (l₁ := [_, _, _, _, _, _, _, _, _])).trans (List.Perm.cons _ ?_) | refine (List.perm_middle (l₁ := [_, _, _, _, _, _, _, _, _, _])).trans (List.Perm.cons _ ?_) | refine (List.perm_middle (l₁ := [_, _, _, _, _, _, _, _, _, _, _])).trans (List.Perm.cons _ ?_) | refine (List.perm_middle (l₁ := [_, _, _, _, _, _, _, _, _, _, _, _])).trans (List.Perm.cons _ ?_) | refine (List.perm_middle (l₁ := [_, _, _, _, _, _, _, _, _, _, _, _, _])).trans (List.Perm.cons _ ?_)))))).mono ?_
    rintro e w' ⟨rfl, ⟨hne', _⟩ | ⟨_, q', d', hw'⟩⟩
    · exact absurd rfl hne'
    (refine ⟨_, rfl, _, hw', ?_⟩; clear hw' hw w w')
    repeat (first | (refine sx ?_; try intro _))
    refine JO_call Try.call20 rfl rfl fun w hw => (hSame bu' T' q' d' es' clock' (by repeat (first | apply List.Mem.head | apply List.Mem.tail)) (by repeat (first | apply List.Mem.head | apply List.Mem.tail)) (by repeat (first | apply List.Mem.head | apply List.Mem.tail)) (by repeat (first | apply List.Mem.head | apply List.Mem.tail)) (vec_rd (by repeat (first | apply List.Mem.head | apply List.Mem.tail))) hE' ogt' hks' hbm (by omega) w hw).mono ?_
    rintro e w' ⟨rfl, hw'⟩
    (refine ⟨_, rfl, _, hw', ?_⟩; clear hw' hw w w')
    have f2 := hfin (H := [blk r (rc lo hi dg u g gr bu' (.slice q' T'.length d')), blk h (hc m b gr bu (sw T)), blk bx [.int .i64 lo, .int .i64 hi, .int .i64 dg]]) bu' _ (by repeat (first | apply List.Mem.head | apply List.Mem.tail)) (List.Mem.head _) (by repeat (first | apply List.Mem.head | apply List.Mem.tail))
    repeat (first | exact JS_of_at (fn := Try.f6) (p := [.b, .b, .b, .b, .b, .b, .b, .b, .b, .b]) (JS_weak f2 (by repeat (first | exact trivial | refine ⟨rfl, ?_⟩ | refine ⟨lookI rfl (by omega), ?_⟩)) (fun w hw => St.sub (by repeat (first | exact List.Sublist.refl _ | apply List.Sublist.cons_cons | apply List.Sublist.cons)) hw)) rfl | first | (refine sx ?_; try intro _))
  · have hw' := (hor.resolve_right fun h' => hc0 h'.1).2
    generalize chk u g gr bu (sw T) more 1 = cc at *
    refine ⟨_, rfl, _, hw', ?_⟩
    clear hor hw' hw w w'
    repeat (first | (refine sx ?_; try intro _))
    refine JO_call Try.call26 rfl rfl fun w hw => (hRR (H := blk y (hc ym yb gr bu (sw T)) :: mapL yb yes yc :: blk ym (mc lo hi dg u g) :: blk h (hc m b gr bu (sw T)) :: mapL b es clock :: vec 58 2 (.slice q T.length d) T.length (flat T) :: blk m (mc lo hi dg u g) :: blk bx [.int .i64 lo, .int .i64 hi, .int .i64 dg] :: []) (vec_rd (by repeat (first | apply List.Mem.head | apply List.Mem.tail))) w (hw.perm (by (repeat (first | exact List.Perm.refl _ | refine List.Perm.cons _ ?_ | refine (List.perm_middle (l₁ := [_])).trans (List.Perm.cons _ ?_) | refine (List.perm_middle (l₁ := [_, _])).trans (List.Perm.cons _ ?_) | refine (List.perm_middle (l₁ := [_, _, _])).trans (List.Perm.cons _ ?_) | refine (List.perm_middle (l₁ := [_, _, _, _])).trans (List.Perm.cons _ ?_) | refine (List.perm_middle (l₁ := [_, _, _, _, _])).trans (List.Perm.cons _ ?_) | refine (List.perm_middle (l₁ := [_, _, _, _, _, _])).trans (List.Perm.cons _ ?_) | refine (List.perm_middle (l₁ := [_, _, _, _, _, _, _])).trans (List.Perm.cons _ ?_) | refine (List.perm_middle (l₁ := [_, _, _, _, _, _, _, _])).trans (List.Perm.cons _ ?_) | refine (List.perm_middle (l₁ := [_, _, _, _, _, _, _, _, _])).trans (List.Perm.cons _ ?_) | refine (List.perm_middle (l₁ := [_, _, _, _, _, _, _, _, _, _])).trans (List.Perm.cons _ ?_) | refine (List.perm_middle (l₁ := [_, _, _, _, _, _, _, _, _, _, _])).trans (List.Perm.cons _ ?_) | refine (List.perm_middle (l₁ := [_, _, _, _, _, _, _, _, _, _, _, _])).trans (List.Perm.cons _ ?_) | refine (List.perm_middle (l₁ := [_, _, _, _, _, _, _, _, _, _, _, _, _])).trans (List.Perm.cons _ ?_)))))).mono ?_
    rintro e w' ⟨rfl, ⟨_, hw'⟩ | ⟨he0, _⟩⟩
    case' inr => exact absurd he0 hc0
    (refine ⟨_, rfl, _, hw', ?_⟩; clear hw' hw w w')
    repeat (first | (refine sx ?_; try intro _))
    refine JO_call Try.call20 rfl rfl fun w hw => (hSame bu T q d yes yc (by repeat (first | apply List.Mem.head | apply List.Mem.tail)) (by repeat (first | apply List.Mem.head | apply List.Mem.tail)) (by repeat (first | apply List.Mem.head | apply List.Mem.tail)) (by repeat (first | apply List.Mem.head | apply List.Mem.tail)) (vec_rd (by repeat (first | apply List.Mem.head | apply List.Mem.tail))) hEy ogt hks ob (by omega) w hw).mono ?_
    rintro e w' ⟨rfl, hw'⟩
    (refine ⟨_, rfl, _, hw', ?_⟩; clear hw' hw w w')
    have f2 := hfin (H := [blk r (rc lo hi dg u g gr bu (.slice q T.length d)), blk h (hc m b gr bu (sw T)), blk bx [.int .i64 lo, .int .i64 hi, .int .i64 dg]]) bu _ (by repeat (first | apply List.Mem.head | apply List.Mem.tail)) (List.Mem.head _) (by repeat (first | apply List.Mem.head | apply List.Mem.tail))
    repeat (first | exact JS_of_at (fn := Try.f6) (p := [.b, .b, .b, .b, .b, .b, .b, .b, .b, .b]) (JS_weak f2 (by repeat (first | exact trivial | refine ⟨rfl, ?_⟩ | refine ⟨lookI rfl (by omega), ?_⟩)) (fun w hw => St.sub (by repeat (first | exact List.Sublist.refl _ | apply List.Sublist.cons_cons | apply List.Sublist.cons)) hw)) rfl | first | (refine sx ?_; try intro _))
end Go.Proofs.Ytmnilpjgkjkecaa

namespace Go.Proofs.Ytmnilpjgkjkecaa
open Sx Go
set_option linter.unusedVariables false
set_option linter.unusedSimpArgs false
theorem add64_0 (a b : Int) (w : World) : (callFunc 92 #[.int .u64 a, .int .u64 b, .int .u64 0]).run Try.prog w = .ok (.value (.tuple #[.int .u64 (Int.ofNat ((a.toNat + b.toNat + 0) % 2 ^ 64)), .int .u64 (Int.ofNat ((a.toNat + b.toNat + 0) / 2 ^ 64))])) w := by kernel_rfl
theorem add64_1 (a b : Int) (w : World) : (callFunc 92 #[.int .u64 a, .int .u64 b, .int .u64 1]).run Try.prog w = .ok (.value (.tuple #[.int .u64 (Int.ofNat ((a.toNat + b.toNat + 1) % 2 ^ 64)), .int .u64 (Int.ofNat ((a.toNat + b.toNat + 1) / 2 ^ 64))])) w := by kernel_rfl
theorem ofN (n : Nat) (i : Int) (h : (n : Int) = i) : Int.ofNat n = i := h
theorem add64_run {a b c : Int} (ha : 0 ≤ a ∧ a < 18446744073709551616) (hb : 0 ≤ b ∧ b < 18446744073709551616) (hc : 0 ≤ c ∧ c ≤ 1) (w : World) :
    (callFunc 92 #[.int .u64 a, .int .u64 b, .int .u64 c]).run Try.prog w = .ok (.value (.tuple #[.int .u64 ((a + b + c) % 18446744073709551616), .int .u64 ((a + b + c) / 18446744073709551616)])) w := by
  rcases (show c = 0 ∨ c = 1 by omega) with rfl | rfl
  · rw [add64_0, ofN _ ((a + b + 0) % 18446744073709551616) (by omega), ofN _ ((a + b + 0) / 18446744073709551616) (by omega)]
  · rw [add64_1, ofN _ ((a + b + 1) % 18446744073709551616) (by omega), ofN _ ((a + b + 1) / 18446744073709551616) (by omega)]
/-- what is borrowed -/
def brw (a b : Int) : Int := if a < b then 1 else 0
theorem brw_T {a b : Int} (h : a < b) : brw a b = 1 := if_pos h
theorem brw_F {a b : Int} (h : ¬ a < b) : brw a b = 0 := if_neg h
theorem brw_01 (a b : Int) : 0 ≤ brw a b ∧ brw a b ≤ 1 := by unfold brw; split <;> omega
/-- a wide number's value -/
def num (h l : Int) : Value := .agg #[.int .u64 h, .int .u64 l]
theorem Add_c {w0 : World} {H : List Asn} (a b c d : Int) (ha : 0 ≤ a ∧ a < 18446744073709551616) (hb : 0 ≤ b ∧ b < 18446744073709551616) (hc : 0 ≤ c ∧ c < 18446744073709551616) (hd : 0 ≤ d ∧ d < 18446744073709551616) (w : World) (hw : St w0 H w) :
    Calls Try.prog 93 #[.agg #[.int .u64 a, .int .u64 b], .agg #[.int .u64 c, .int .u64 d]] w fun e w' => ∃ h l r, e = .returned (.tuple #[.agg #[.int .u64 h, .int .u64 l], .int .i64 r]) ∧ St w0 H w' ∧
      ((a + c + (b + d) / 18446744073709551616 < 18446744073709551616 ∧ r = 0 ∧ h = a + c + (b + d) / 18446744073709551616 ∧ l = (b + d) % 18446744073709551616) ∨
       (18446744073709551616 ≤ a + c + (b + d) / 18446744073709551616 ∧ r = 100 ∧ h = 0 ∧ l = 0)) := by
  refine enter (vs := [.agg #[.int .u64 a, .int .u64 b], .agg #[.int .u64 c, .int .u64 d]]) Try.func93 rfl rfl rfl hw ?_
  repeat (first | (refine sy ?_; try intro _))
  refine JO_v (V_ext rfl (add64_run hb hd (by omega)) rfl) ?_
  repeat (first | (refine sy ?_; try intro _))
  refine JO_v (V_ext rfl (add64_run ha hc (by omega)) rfl) ?_
  by_cases hs : a + c + (b + d) / 18446744073709551616 < 18446744073709551616
  · repeat (first | (refine sx ?_; try intro _))
    refine JS_retC (tb := tb) Try.func93 rfl (by first | exact ResV.agg (tb := tb) rfl (by repeat (first | apply List.Mem.head | apply List.Mem.tail)) rfl rfl rfl ResV.nil | exact ResV.agg (tb := tb) rfl (by repeat (first | apply List.Mem.head | apply List.Mem.tail)) rfl rfl rfl (ResV.tmp rfl ResV.nil) | exact ResV.agg (tb := tb) rfl (by repeat (first | apply List.Mem.head | apply List.Mem.tail)) rfl rfl rfl (ResV.tmp rfl (ResV.tmp rfl ResV.nil)) | exact ResV.one (tb := tb) rfl (by repeat (first | apply List.Mem.head | apply List.Mem.tail)) rfl rfl rfl ResV.nil | exact ResV.one (tb := tb) rfl (by repeat (first | apply List.Mem.head | apply List.Mem.tail)) rfl rfl rfl (ResV.tmp rfl ResV.nil) | exact ResV.one (tb := tb) rfl (by repeat (first | apply List.Mem.head | apply List.Mem.tail)) rfl rfl rfl (ResV.one (tb := tb) rfl (by repeat (first | apply List.Mem.head | apply List.Mem.tail)) rfl rfl rfl ResV.nil) | exact ResV.tmp rfl (ResV.agg (tb := tb) rfl (by repeat (first | apply List.Mem.head | apply List.Mem.tail)) rfl rfl rfl ResV.nil) | exact ResV.tmp rfl (ResV.one (tb := tb) rfl (by repeat (first | apply List.Mem.head | apply List.Mem.tail)) rfl rfl rfl ResV.nil)) ?_
    intro w hw
    exact ⟨_, _, _, rfl, hw.drop.drop.drop, .inl ⟨hs, rfl, by omega, by omega⟩⟩
  · repeat (first | (refine sx ?_; try intro _))
    refine JS_retC (tb := tb) Try.func93 rfl (by first | exact ResV.agg (tb := tb) rfl (by repeat (first | apply List.Mem.head | apply List.Mem.tail)) rfl rfl rfl ResV.nil | exact ResV.agg (tb := tb) rfl (by repeat (first | apply List.Mem.head | apply List.Mem.tail)) rfl rfl rfl (ResV.tmp rfl ResV.nil) | exact ResV.agg (tb := tb) rfl (by repeat (first | apply List.Mem.head | apply List.Mem.tail)) rfl rfl rfl (ResV.tmp rfl (ResV.tmp rfl ResV.nil)) | exact ResV.one (tb := tb) rfl (by repeat (first | apply List.Mem.head | apply List.Mem.tail)) rfl rfl rfl ResV.nil | exact ResV.one (tb := tb) rfl (by repeat (first | apply List.Mem.head | apply List.Mem.tail)) rfl rfl rfl (ResV.tmp rfl ResV.nil) | exact ResV.one (tb := tb) rfl (by repeat (first | apply List.Mem.head | apply List.Mem.tail)) rfl rfl rfl (ResV.one (tb := tb) rfl (by repeat (first | apply List.Mem.head | apply List.Mem.tail)) rfl rfl rfl ResV.nil) | exact ResV.tmp rfl (ResV.agg (tb := tb) rfl (by repeat (first | apply List.Mem.head | apply List.Mem.tail)) rfl rfl rfl ResV.nil) | exact ResV.tmp rfl (ResV.one (tb := tb) rfl (by repeat (first | apply List.Mem.head | apply List.Mem.tail)) rfl rfl rfl ResV.nil)) ?_
    intro w hw
    exact ⟨_, _, _, rfl, hw.drop.drop.drop, .inr ⟨by omega, rfl, rfl, rfl⟩⟩
end Go.Proofs.Ytmnilpjgkjkecaa

namespace Go.Proofs.Ytmnilpjgkjkecaa
open Sx Go
set_option linter.unusedVariables false
set_option linter.unusedSimpArgs false
/-- the mean of numbers by weights -/
def ME (T : List (Int × Int)) (a r : Int) : Prop := ((sw T = 0 ∨ 18446744073709551616 ≤ sw T) ∧ a = 0 ∧ r = 100) ∨
  (sw T ≠ 0 ∧ sw T < 18446744073709551616 ∧ r = 0 ∧ ∃ low, (∀ t ∈ T, low ≤ t.1) ∧ (∃ t ∈ T, t.1 = low) ∧ a = low + sp low T / sw T)
set_option maxHeartbeats 4000000 in
theorem Mean_c {w0 : World} {H : List Asn} (p : Option Addr) (c m : Nat) (T : List (Int × Int)) (hr : Rd w0 H (.slice p m c) m (flat T)) (hm : T.length = m) (hT : OKT T) (hm1 : m ≤ 1000000) (w : World) (hw : St w0 H w) :
    Calls Try.prog 63 #[.slice p m c] w fun e w' => ∃ a r, e = .returned (.tuple #[.int .i64 a, .int .i64 r]) ∧ St w0 H w' ∧ ME T a r := by
  refine enter (vs := [.slice p m c]) Try.func63 rfl rfl rfl hw ?_
  by_cases h0 : m = 0
  · have hT0 : T = [] := List.eq_nil_of_length_eq_zero (by omega)
    repeat (first | (refine sx ?_; try intro _))
    refine JS_ret Try.func63 rfl rfl ?_
    intro w hw
    exact ⟨_, _, rfl, hw, .inl ⟨.inl (by rw [hT0]; rfl), rfl, rfl⟩⟩
  repeat (first | (apply gJO; refine JO_v (V_loadC (tb := tb) rfl (by first | exact vec_rd (by repeat (first | apply List.Mem.head | apply List.Mem.tail)) | assumption | exact ArgRd.rd (by assumption) _ | (apply Rd_weak; assumption; intro _ hx; exact St.sub (by repeat (first | exact List.Sublist.refl _ | apply List.Sublist.cons_cons | apply List.Sublist.cons)) hx)) rfl rfl (flat_get0 T 0 (by omega)) rfl) ?_) | (apply gJR; first | (refine sx ?_; try intro _)) | (apply gJO; first | (refine sx ?_; try intro _)) | apply JS_seq | apply JS_region | refine JS_condF rfl ?_ | apply JS_skip)
  refine JS_block ?_
  refine JS_loop2 (fun (i : Nat) (low : Int) => [(0, .slice p m c), (4, .int .i64 low), (23, .slice p m c), (24, .int .i64 m), (25, .int .i64 i)]) (fun _ _ => H)
    (fun i low => i ≤ m ∧ (∀ j, j < i → low ≤ (T.getD j (0, 0)).1) ∧ ∃ t ∈ T, t.1 = low) (fun i _ => m - i) 0 (T.getD 0 (0, 0)).1 ⟨by omega, fun j h => by omega, _, mem_get 0 (by omega), rfl⟩ (by repeat (first | exact trivial | refine ⟨rfl, ?_⟩ | refine ⟨lookI rfl (by omega), ?_⟩)) (fun _ h => h) ?_
  intro i low ⟨hi, hlow, hex⟩ again
  by_cases him : i < m
  · have hb := (hT.get i (by omega)).1
    repeat (first | (apply gJO; refine JO_v (V_loadCA (tb := tb) (vs := [.int .i64 (T.getD i (0, 0)).1, .int .u64 (T.getD i (0, 0)).2]) rfl (by first | exact vec_rd (by repeat (first | apply List.Mem.head | apply List.Mem.tail)) | assumption | exact ArgRd.rd (by assumption) _ | (apply Rd_weak; assumption; intro _ hx; exact St.sub (by repeat (first | exact List.Sublist.refl _ | apply List.Sublist.cons_cons | apply List.Sublist.cons)) hx)) rfl rfl rfl (by omega) (flat_seg T i (by omega)) rfl) ?_) | (first | (refine sx ?_; try intro _)))
    exact JS_again2 again (i + 1) (min low (T.getD i (0, 0)).1) ⟨by omega, fun j hj => by
      rcases Nat.lt_or_ge j i with h | h
      · have := hlow j h; omega
      · obtain rfl : j = i := by omega
        omega, by
      rcases Int.le_total low (T.getD i (0, 0)).1 with h | h
      · rw [Int.min_eq_left h]; exact hex
      · rw [Int.min_eq_right h]; exact ⟨_, mem_get i (by omega), rfl⟩⟩ (by omega) (by repeat (first | exact trivial | refine ⟨rfl, ?_⟩ | refine ⟨lookI rfl (by omega), ?_⟩)) (fun w hw => St.sub (by repeat (first | exact List.Sublist.refl _ | apply List.Sublist.cons_cons | apply List.Sublist.cons)) hw)
  obtain rfl : i = m := by omega
  have hall : ∀ t ∈ T, low ≤ t.1 := fun t ht => by
    obtain ⟨j, hj, rfl⟩ := List.getElem_of_mem ht
    have := hlow j (by omega)
    simpa [hj] using this
  obtain ⟨t0, ht0, hlow0⟩ := hex
  have hlb := (hT t0 ht0).1
  rw [hlow0] at hlb
  have hsp : ∀ k, 0 ≤ sp low (T.take k) ∧ sp low (T.take k) ≤ 18446744073709551615 * sw (T.take k) := fun k => sp_bd fun t ht => by
    have h1 := hT t (List.mem_of_mem_take ht)
    have h2 := hall t (List.mem_of_mem_take ht)
    omega
  clear again hlow
  repeat (first | (apply gJR; first | (refine sx ?_; try intro _)) | (apply gJO; first | (refine sx ?_; try intro _)) | apply JS_seq | apply JS_region | refine JS_condF rfl ?_ | refine JS_exit rfl ?_ | apply JS_skip | (apply gJS; refine JS_inBlock ?_))
  rename_i b8
  refine JS_block ?_
  refine JS_loop3 (fun (k : Nat) (h l : Int) => [(4, .int .i64 low), (7, .int .u64 (sw (T.take k))), (8, .pointer (some ⟨b8, 0, none⟩)), (35, .slice p i c), (36, .int .i64 i), (37, .int .i64 k)]) (fun _ h l => blk b8 [.int .u64 h, .int .u64 l] :: H)
    (fun k h l => k ≤ i ∧ sw (T.take k) < 18446744073709551616 ∧ (0 ≤ h ∧ h < 18446744073709551616) ∧ (0 ≤ l ∧ l < 18446744073709551616) ∧ h * 18446744073709551616 + l = sp low (T.take k)) (fun k _ _ => i - k) 0 0 0 ⟨by omega, by simp [sw], by omega, by omega, by simp [sp]⟩ (by repeat (first | exact trivial | refine ⟨rfl, ?_⟩ | refine ⟨lookI rfl (by omega), ?_⟩)) (fun _ h => h) ?_
  intro k h l ⟨hk, hs, hh, hl, hv⟩ again
  have hs0 := sw_nonneg (hT.take k)
  have hr' : Rd w0 (blk b8 [.int .u64 h, .int .u64 l] :: H) (.slice p i c) i (flat T) := Rd_weak hr fun w hw => St.sub (by repeat (first | exact List.Sublist.refl _ | apply List.Sublist.cons_cons | apply List.Sublist.cons)) hw
  by_cases hki : k = i
  · have e1 : T.take k = T := List.take_of_length_le (by omega)
    have hsk := hsp k
    rw [e1] at hs hv hs0 hsk
    rw [e1]
    clear again hsp
    repeat (first | (refine sx ?_; try intro _))
    refine JO_call Try.call95 rfl rfl fun w hw => (Div_c h l (sw T) hh hl ⟨hs0, hs⟩ w hw).mono ?_
    rintro e w' ⟨a, b, q, r, rfl, hw', h1⟩
    refine ⟨_, rfl, _, hw', ?_⟩
    clear hw' hw w w'
    rcases h1 with ⟨h2, rfl, rfl, rfl, rfl⟩ | ⟨h2, rfl, hq, _, _, ha0, ha1, hb0, hb1, _, _⟩
    · repeat (first | (refine sx ?_; try intro _))
      refine JS_ret Try.func63 rfl rfl ?_
      intro w hw
      exact ⟨_, _, rfl, St.sub (by repeat (first | exact List.Sublist.refl _ | apply List.Sublist.cons_cons | apply List.Sublist.cons)) hw, .inl ⟨.inl h2, rfl, rfl⟩⟩
    · rw [hv] at hq
      have hmax : ∀ M : Int, (∀ t ∈ T, t.1 ≤ M) → sp low T / sw T ≤ M - low := fun M hM => by
        have h3 := (sp_bd (T := T) (low := low) (M := M - low) fun t ht => ⟨hall t ht, by have := hM t ht; omega, (hT t ht).2.1⟩).2
        have h4 := Int.ediv_le_ediv (show 0 < sw T by omega) h3
        rwa [Int.mul_ediv_cancel _ h2] at h4
      have hM := hmax 9223372036854775807 (fun t ht => by have := (hT t ht).1.2; omega)
      have hq0 : 0 ≤ sp low T / sw T := Int.ediv_nonneg hsk.1 hs0
      obtain ⟨rfl, hb⟩ : a = 0 ∧ b = sp low T / sw T := by omega
      rw [← hb] at hM
      clear hmax hq hq0 hsk hv
      repeat (first | (refine sx ?_; try intro _))
      refine JS_ret Try.func63 rfl rfl ?_
      intro w hw
      refine ⟨_, _, rfl, St.sub (by repeat (first | exact List.Sublist.refl _ | apply List.Sublist.cons_cons | apply List.Sublist.cons)) hw, .inr ⟨h2, hs, rfl, low, hall, ⟨t0, ht0, hlow0⟩, ?_⟩⟩
      omega
  · obtain ⟨hb1, hb2⟩ := hT.get k (by omega)
    have hst := sw_take T k (by omega)
    have hpt := sp_take low T k (by omega)
    have hlx := hall _ (mem_get (T := T) k (by omega))
    have hspk := hsp (k + 1)
    rw [hst, hpt] at hspk
    repeat (first | (apply gJO; refine JO_v (V_loadCA (tb := tb) (vs := [.int .i64 (T.getD k (0, 0)).1, .int .u64 (T.getD k (0, 0)).2]) rfl (by first | exact vec_rd (by repeat (first | apply List.Mem.head | apply List.Mem.tail)) | assumption | exact ArgRd.rd (by assumption) _ | (apply Rd_weak; assumption; intro _ hx; exact St.sub (by repeat (first | exact List.Sublist.refl _ | apply List.Sublist.cons_cons | apply List.Sublist.cons)) hx)) rfl rfl rfl (by omega) (flat_seg T k (by omega)) rfl) ?_) | (apply gJO; refine JO_v (V_ext rfl (add64_run ⟨hs0, hs⟩ hb2 (by omega)) rfl) ?_) | (first | (refine sy ?_; try intro _)))
    by_cases hov : 18446744073709551616 ≤ sw (T.take k) + (T.getD k (0, 0)).2
    · have := sw_le hT (k + 1)
      clear hspk
      repeat (first | (refine sx ?_; try intro _))
      refine JS_ret Try.func63 rfl rfl ?_
      intro w hw
      exact ⟨_, _, rfl, St.sub (by repeat (first | exact List.Sublist.refl _ | apply List.Sublist.cons_cons | apply List.Sublist.cons)) hw, .inl ⟨.inr (by omega), rfl, rfl⟩⟩
    · obtain ⟨x, n, hxn⟩ : ∃ x n, T.getD k (0, 0) = (x, n) := ⟨_, _, rfl⟩
      rw [hxn] at hb1 hb2 hst hpt hlx hspk hov
      rw [hxn]
      simp only at hb1 hb2 hst hpt hlx hspk hov
      have hP := mul_bd (a := x - low) (b := n) (by omega) hb2.1 (show x - low ≤ 18446744073709551615 by omega) (show n ≤ 18446744073709551615 by omega) (by omega)
      repeat (first | (refine sx ?_; try intro _))
      rw [show (x % 18446744073709551616 - low % 18446744073709551616) % 18446744073709551616 = x - low from by omega]
      refine QO_call Try.call94 rfl rfl fun w hw => (Mul_c (x - low) n (by omega) hb2 w hw).mono ?_
      rintro e w' ⟨rfl, hw'⟩
      refine ⟨_, rfl, _, hw', .inl fun _ h => h, ?_⟩
      clear hw' hw w w'
      generalize (x - low) * n = Q at *
      repeat (first | (refine sx ?_; try intro _))
      refine QO_call Try.call93 rfl rfl fun w hw => (Add_c h l (Q / 18446744073709551616) (Q % 18446744073709551616) hh hl (by omega) (by omega) w hw).mono ?_
      rintro e w' ⟨h', l', r, rfl, hw', h1⟩
      refine ⟨_, rfl, _, hw', .inl fun _ h => h, ?_⟩
      clear hw' hw w w'
      obtain ⟨rfl, hh', hl'⟩ : r = 0 ∧ h' = h + Q / 18446744073709551616 + (l + Q % 18446744073709551616) / 18446744073709551616 ∧ l' = (l + Q % 18446744073709551616) % 18446744073709551616 := by
        rcases h1 with ⟨_, h2, h3, h4⟩ | ⟨h2, _⟩
        · exact ⟨h2, h3, h4⟩
        · omega
      clear h1
      have bh : 0 ≤ h' ∧ h' < 18446744073709551616 := by omega
      have bl : 0 ≤ l' ∧ l' < 18446744073709551616 := by omega
      have hv' : h' * 18446744073709551616 + l' = sp low (T.take (k + 1)) := by omega
      clear hh' hl' hspk hpt hP
      repeat (first | (refine sx ?_; try intro _))
      exact JS_again3 again (k + 1) h' l' ⟨by omega, by omega, bh, bl, hv'⟩ (by omega) (by repeat (first | exact trivial | refine ⟨rfl, ?_⟩ | refine ⟨lookI rfl (by omega), ?_⟩)) (fun w hw => St.sub (by repeat (first | exact List.Sublist.refl _ | apply List.Sublist.cons_cons | apply List.Sublist.cons)) hw)
end Go.Proofs.Ytmnilpjgkjkecaa

namespace Go.Proofs.Ytmnilpjgkjkecaa
open Sx Go
set_option linter.unusedVariables false
set_option linter.unusedSimpArgs false
theorem cmp_step {V W x y A : Int} (hA : 0 < A) (hx : x = V / A % 65536) (hy : y = W / A % 65536) (h : V / (A * 65536) = W / (A * 65536)) : (x < y → V < W) ∧ (x = y → V / A = W / A) := by
  rw [← Int.ediv_ediv_of_nonneg (Int.le_of_lt hA), ← Int.ediv_ediv_of_nonneg (Int.le_of_lt hA)] at h
  refine ⟨fun hlt => ?_, fun he => by omega⟩
  rcases Int.lt_or_le V W with h1 | h1
  · exact h1
  · have := Int.ediv_le_ediv hA h1
    omega
end Go.Proofs.Ytmnilpjgkjkecaa

namespace Go.Proofs.Ytmnilpjgkjkecaa
open Sx Go
set_option linter.unusedVariables false
set_option linter.unusedSimpArgs false
theorem add_step {L X Y x y c n A : Int} (hn : n = x + y + c) (h : L + c * A = X + Y) : L + n % 65536 * A + n / 65536 * (A * 65536) = X + x * A + (Y + y * A) := by
  have e : n = 65536 * (n / 65536) + n % 65536 := by omega
  generalize n / 65536 = q at *
  generalize n % 65536 = r at *
  grind
theorem sub_step {L X Y x y c n A : Int} (hn : n = x + 65536 - y - c) (h : L - c * A = X - Y) : L + n % 65536 * A - (1 - n / 65536) * (A * 65536) = X + x * A - (Y + y * A) := by
  have e : n = 65536 * (n / 65536) + n % 65536 := by omega
  generalize n / 65536 = q at *
  generalize n % 65536 = r at *
  grind
set_option maxHeartbeats 4000000 in
/-- the reference's sum -/
theorem RAdd_c {w0 : World} {H : List Asn} (p : Option Addr) (c : Nat) (X : List Int) (hX : Rd w0 H (.slice p 8 c) 8 (ints .u64 X)) (lX : X.length = 8) (dX : D16 X)
    (q : Option Addr) (cq : Nat) (Y : List Int) (hY : Rd w0 H (.slice q 8 cq) 8 (ints .u64 Y)) (lY : Y.length = 8) (dY : D16 Y) (w : World) (hw : St w0 H w) :
    Calls Try.prog 64 #[.slice p 8 c, .slice q 8 cq] w fun e w' => ∃ (r : Option Addr) (cr : Nat) (L : List Int) (o : Bool), e = .returned (.tuple #[.slice r 8 cr, .bool o]) ∧ St w0 (vec 22 1 (.slice r 8 cr) 8 (ints .u64 L) :: H) w' ∧ L.length = 8 ∧ D16 L ∧
      ((o = true ∧ val L = val X + val Y) ∨ (o = false ∧ val L + 65536 ^ 8 = val X + val Y)) := by
  refine enter (vs := [.slice p 8 c, .slice q 8 cq]) Try.func64 rfl rfl rfl hw ?_
  repeat (first | (refine gJR ?_; first | (refine sy ?_; try intro _)) | (refine gJO ?_; first | (refine sy ?_; try intro _)) | refine JS_seq ?_ | refine JS_region ?_)
  refine JS_block ?_
  refine JS_loop5 (fun (i : Nat) (g : Int) (_ : List Int) (r : Option Addr) (cr : Nat) => [(0, .slice p 8 c), (1, .slice q 8 cq), (6, .slice r i cr), (7, .int .u64 g), (8, .int .i64 i)]) (fun i _ L r cr => vec 22 1 (.slice r i cr) i (ints .u64 L) :: H)
    (fun i g L r cr => i ≤ 8 ∧ L.length = i ∧ D16 L ∧ (0 ≤ g ∧ g ≤ 1) ∧ val L + g * 65536 ^ i = val (X.take i) + val (Y.take i)) (fun i _ _ _ _ => 8 - i) 0 0 [] none 0 ⟨by omega, rfl, D16_nil, by omega, by simp [val]⟩ (by repeat (first | exact trivial | refine ⟨rfl, ?_⟩ | refine ⟨lookI rfl (by omega), ?_⟩)) (fun _ h => St.nilvec h) ?_
  intro i g L r cr ⟨hi, hl, hd, hg, hv⟩ again
  have hX' : Rd w0 (vec 22 1 (.slice r i cr) i (ints .u64 L) :: H) (.slice p 8 c) 8 (ints .u64 X) := Rd_weak hX fun w hw => St.sub (by repeat (first | exact List.Sublist.refl _ | apply List.Sublist.cons_cons | apply List.Sublist.cons)) hw
  have hY' : Rd w0 (vec 22 1 (.slice r i cr) i (ints .u64 L) :: H) (.slice q 8 cq) 8 (ints .u64 Y) := Rd_weak hY fun w hw => St.sub (by repeat (first | exact List.Sublist.refl _ | apply List.Sublist.cons_cons | apply List.Sublist.cons)) hw
  by_cases h8 : i = 8
  · subst h8
    rw [List.take_of_length_le (by omega), List.take_of_length_le (by omega)] at hv
    by_cases hg0 : g = 0
    · subst hg0
      clear hX' hY' again
      repeat (first | (refine sx ?_; try intro _))
      refine JS_ret Try.func64 rfl rfl ?_
      intro w hw
      refine ⟨r, cr, L, true, rfl, hw, hl, hd, .inl ⟨rfl, ?_⟩⟩
      omega
    · obtain rfl : g = 1 := by omega
      clear hX' hY' again
      repeat (first | (refine sx ?_; try intro _))
      refine JS_ret Try.func64 rfl rfl ?_
      intro w hw
      refine ⟨r, cr, L, false, rfl, hw, hl, hd, .inr ⟨rfl, ?_⟩⟩
      omega
  · have hx := dX i
    have hy := dY i
    repeat (first | (refine sx ?_; try intro _))
    (refine JO_app (tb := tb) rfl rfl rfl rfl rfl rfl (by repeat (first | exact Sel.here _ _ | apply Sel.there)) (by first | exact vec_rd (by repeat (first | apply List.Mem.head | apply List.Mem.tail)) | assumption | exact ArgRd.rd (by assumption) _ | (apply Rd_weak; assumption; intro _ hx; exact St.sub (by repeat (first | exact List.Sublist.refl _ | apply List.Sublist.cons_cons | apply List.Sublist.cons)) hx)) (by simp only [ints_len, List.length_cons, List.length_nil]; first | omega | rfl) (by first | exact ints_one | (repeat (first | exact trivial | refine ⟨rfl, ?_⟩))) (by omega) rfl ?_; intro _ _)
    rename_i r2 cr2
    repeat (first | (refine sx ?_; try intro _))
    exact JS_again5 again (i + 1) ((X.getD i 0 + Y.getD i 0 + g) / 65536) (L ++ [(X.getD i 0 + Y.getD i 0 + g) % 65536]) r2 cr2 ⟨by omega, by simp [hl], D16_app hd (by omega), by omega, by
      rw [val_app, val_take X i (by omega), val_take Y i (by omega), hl, Int.pow_succ]
      exact add_step rfl hv⟩ (by omega) (by repeat (first | exact trivial | refine ⟨rfl, ?_⟩ | refine ⟨lookI rfl (by omega), ?_⟩)) (fun w hw => by rw [← ints_app1]; exact St.sub (by repeat (first | exact List.Sublist.refl _ | apply List.Sublist.cons_cons | apply List.Sublist.cons)) hw)
end Go.Proofs.Ytmnilpjgkjkecaa

namespace Go.Proofs.Ytmnilpjgkjkecaa
open Sx Go
set_option linter.unusedVariables false
set_option linter.unusedSimpArgs false
def RME (T : List (Int × Int)) (a : Int) (o : Bool) : Prop := ((sw T = 0 ∨ 18446744073709551616 ≤ sw T) ∧ o = false) ∨
  (sw T ≠ 0 ∧ sw T < 18446744073709551616 ∧ o = true ∧ ∃ low, (∀ t ∈ T, low ≤ t.1) ∧ (∃ t ∈ T, t.1 = low) ∧ a = low + sp low T / sw T)
theorem getD_fst (T : List (Int × Int)) (i : Nat) : (T.map Prod.fst).getD i 0 = (T.getD i (0, 0)).1 := by
  simp only [List.getD_eq_getElem?_getD, List.getElem?_map]
  cases T[i]? <;> rfl
theorem getD_snd (T : List (Int × Int)) (i : Nat) : (T.map Prod.snd).getD i 0 = (T.getD i (0, 0)).2 := by
  simp only [List.getD_eq_getElem?_getD, List.getElem?_map]
  cases T[i]? <;> rfl
set_option maxHeartbeats 4000000 in
theorem RMean_c {w0 : World} {H : List Asn} (p q : Option Addr) (c d m : Nat) (T : List (Int × Int)) (hv : Rd w0 H (.slice p m c) m (ints .i64 (T.map Prod.fst))) (hn : Rd w0 H (.slice q m d) m (ints .u64 (T.map Prod.snd))) (hm : T.length = m) (hT : OKT T) (hm1 : m ≤ 1000000) (w : World) (hw : St w0 H w) :
    Calls Try.prog 31 #[.slice p m c, .slice q m d] w fun e w' => ∃ a o, e = .returned (.tuple #[.int .i64 a, .bool o]) ∧ St w0 H w' ∧ RME T a o := by
  refine enter (vs := [.slice p m c, .slice q m d]) Try.func31 rfl rfl rfl hw ?_
  have g1 : ∀ i, i < m → (ints .i64 (T.map Prod.fst))[i]? = some (.int .i64 (T.getD i (0, 0)).1) := fun i hi => by rw [← getD_fst]; exact ints_get (by simpa [hm] using hi)
  have g2 : ∀ i, i < m → (ints .u64 (T.map Prod.snd))[i]? = some (.int .u64 (T.getD i (0, 0)).2) := fun i hi => by rw [← getD_snd]; exact ints_get (by simpa [hm] using hi)
  repeat (first | (apply gJR; first | (refine sx ?_; try intro _)) | (apply gJO; first | (refine sx ?_; try intro _)) | apply JS_seq | apply JS_region)
  refine JS_block ?_
  refine JS_loop1 (fun (i : Nat) => [(0, .slice p m c), (1, .slice q m d), (6, .int .u64 (sw (T.take i))), (7, .int .i64 i)]) (fun _ => H) (fun i => i ≤ m ∧ sw (T.take i) < 18446744073709551616) (fun i => m - i) 0 ⟨by omega, by simp [sw]⟩ (by repeat (first | exact trivial | refine ⟨rfl, ?_⟩ | refine ⟨lookI rfl (by omega), ?_⟩)) (fun _ h => h) ?_
  intro i ⟨hi, hs⟩ again
  have hs0 := sw_nonneg (hT.take i)
  by_cases him : i < m
  · have hb := (hT.get i (by omega)).2
    have hst := sw_take T i (by omega)
    have gi := g2 i him
    generalize (T.getD i (0, 0)).2 = x at *
    by_cases hov : 18446744073709551616 ≤ sw (T.take i) + x
    · have hle := sw_le hT (i + 1)
      have hwrap : (sw (T.take i) + x) % 18446744073709551616 = sw (T.take i) + x - 18446744073709551616 := by omega
      repeat (first | (apply gJO; refine JO_v (V_loadC (tb := tb) rfl (by first | exact vec_rd (by repeat (first | apply List.Mem.head | apply List.Mem.tail)) | assumption | exact ArgRd.rd (by assumption) _ | (apply Rd_weak; assumption; intro _ hx; exact St.sub (by repeat (first | exact List.Sublist.refl _ | apply List.Sublist.cons_cons | apply List.Sublist.cons)) hx)) rfl rfl gi rfl) ?_) | (apply gJO; refine JO_v (V_add rfl rfl (by rw [← hwrap]; exact mu64 _) rfl) ?_) | (first | (refine sx ?_; try intro _)))
      refine JS_ret Try.func31 rfl rfl ?_
      intro w hw
      exact ⟨_, _, rfl, hw, .inl ⟨.inr (by omega), rfl⟩⟩
    · repeat (first | (apply gJO; refine JO_v (V_loadC (tb := tb) rfl (by first | exact vec_rd (by repeat (first | apply List.Mem.head | apply List.Mem.tail)) | assumption | exact ArgRd.rd (by assumption) _ | (apply Rd_weak; assumption; intro _ hx; exact St.sub (by repeat (first | exact List.Sublist.refl _ | apply List.Sublist.cons_cons | apply List.Sublist.cons)) hx)) rfl rfl gi rfl) ?_) | (first | (refine sx ?_; try intro _)))
      exact JS_again1 again (i + 1) ⟨by omega, by omega⟩ (by omega) (by repeat (first | exact trivial | refine ⟨rfl, ?_⟩ | refine ⟨lookI rfl (by omega), ?_⟩)) (fun _ h => h)
  obtain rfl : i = m := by omega
  have e1 : T.take i = T := List.take_of_length_le (by omega)
  rw [e1] at hs hs0
  rw [e1]
  clear again
  by_cases h0 : sw T = 0
  · repeat (first | (refine sx ?_; try intro _))
    refine JS_ret Try.func31 rfl rfl ?_
    intro w hw
    exact ⟨_, _, rfl, hw, .inl ⟨.inl h0, rfl⟩⟩
  have hi0 : 0 < i := by
    rcases Nat.eq_zero_or_pos i with h | h
    · subst h
      have : T = [] := List.eq_nil_of_length_eq_zero hm
      exact absurd (by rw [this]; rfl) h0
    · exact h
  have g10 := g1 0 hi0
  repeat (first | (apply gJO; refine JO_v (V_loadC (tb := tb) rfl (by first | exact vec_rd (by repeat (first | apply List.Mem.head | apply List.Mem.tail)) | assumption | exact ArgRd.rd (by assumption) _ | (apply Rd_weak; assumption; intro _ hx; exact St.sub (by repeat (first | exact List.Sublist.refl _ | apply List.Sublist.cons_cons | apply List.Sublist.cons)) hx)) rfl rfl g10 rfl) ?_) | (apply gJR; first | (refine sx ?_; try intro _)) | (apply gJO; first | (refine sx ?_; try intro _)) | apply JS_seq | apply JS_region | refine JS_condF rfl ?_ | refine JS_condT rfl ?_ | refine JS_exit rfl ?_ | apply JS_skip | (apply gJS; refine JS_inBlock ?_))
  refine JS_block ?_
  refine JS_loop2 (fun (k : Nat) (low : Int) => [(0, .slice p i c), (1, .slice q i d), (6, .int .u64 (sw T)), (8, .int .i64 low), (9, .int .i64 k)]) (fun _ _ => H)
    (fun k low => k ≤ i ∧ (∀ j, j < k → low ≤ (T.getD j (0, 0)).1) ∧ ∃ t ∈ T, t.1 = low) (fun k _ => i - k) 0 (T.getD 0 (0, 0)).1 ⟨by omega, fun j h => by omega, _, mem_get 0 (by omega), rfl⟩ (by repeat (first | exact trivial | refine ⟨rfl, ?_⟩ | refine ⟨lookI rfl (by omega), ?_⟩)) (fun _ h => h) ?_
  intro k low ⟨hk, hlow, hex⟩ again
  by_cases hki : k < i
  · have gk := g1 k hki
    by_cases hlt : (T.getD k (0, 0)).1 < low
    · repeat (first | (apply gJO; refine JO_v (V_loadC (tb := tb) rfl (by first | exact vec_rd (by repeat (first | apply List.Mem.head | apply List.Mem.tail)) | assumption | exact ArgRd.rd (by assumption) _ | (apply Rd_weak; assumption; intro _ hx; exact St.sub (by repeat (first | exact List.Sublist.refl _ | apply List.Sublist.cons_cons | apply List.Sublist.cons)) hx)) rfl rfl gk rfl) ?_) | (first | (refine sx ?_; try intro _)))
      exact JS_again2 again (k + 1) (T.getD k (0, 0)).1 ⟨by omega, fun j hj => by
        rcases Nat.lt_or_ge j k with h | h
        · have := hlow j h; omega
        · obtain rfl : j = k := by omega
          omega, ⟨_, mem_get k (by omega), rfl⟩⟩ (by omega) (by repeat (first | exact trivial | refine ⟨rfl, ?_⟩ | refine ⟨lookI rfl (by omega), ?_⟩)) (fun _ h => h)
    · repeat (first | (apply gJO; refine JO_v (V_loadC (tb := tb) rfl (by first | exact vec_rd (by repeat (first | apply List.Mem.head | apply List.Mem.tail)) | assumption | exact ArgRd.rd (by assumption) _ | (apply Rd_weak; assumption; intro _ hx; exact St.sub (by repeat (first | exact List.Sublist.refl _ | apply List.Sublist.cons_cons | apply List.Sublist.cons)) hx)) rfl rfl gk rfl) ?_) | (first | (refine sx ?_; try intro _)))
      exact JS_again2 again (k + 1) low ⟨by omega, fun j hj => by
        rcases Nat.lt_or_ge j k with h | h
        · exact hlow j h
        · obtain rfl : j = k := by omega
          omega, hex⟩ (by omega) (by repeat (first | exact trivial | refine ⟨rfl, ?_⟩ | refine ⟨lookI rfl (by omega), ?_⟩)) (fun _ h => h)
  obtain rfl : k = i := by omega
  have hall : ∀ t ∈ T, low ≤ t.1 := fun t ht => by
    obtain ⟨j, hj, rfl⟩ := List.getElem_of_mem ht
    have := hlow j (by omega)
    simpa [hj] using this
  obtain ⟨t0, ht0, hlow0⟩ := hex
  have hlb := (hT t0 ht0).1
  rw [hlow0] at hlb
  have hsp : ∀ k, 0 ≤ sp low (T.take k) ∧ sp low (T.take k) ≤ 18446744073709551615 * sw (T.take k) := fun k => sp_bd fun t ht => by
    have h1 := hT t (List.mem_of_mem_take ht)
    have h2 := hall t (List.mem_of_mem_take ht)
    omega
  clear again hlow
  repeat (first | (apply gJR; first | (refine sx ?_; try intro _)) | (apply gJO; first | (refine sx ?_; try intro _)) | apply JS_seq | apply JS_region | refine JS_condF rfl ?_ | refine JS_condT rfl ?_ | refine JS_exit rfl ?_ | apply JS_skip | (apply gJS; refine JS_inBlock ?_))
  rename_i po
  rw [show (rep (Int.toNat 8) [Value.int IntKind.u64 0]) = ints .u64 (List.replicate 8 0) from ints_rep]
  refine JS_block ?_
  refine JS_loop4 (fun (j : Nat) (L : List Int) (r : Option Addr) (cr : Nat) => [(0, .slice p k c), (1, .slice q k d), (6, .int .u64 (sw T)), (8, .int .i64 low), (10, .slice r 8 cr), (11, .int .i64 j)]) (fun _ L r cr => vec 22 1 (.slice r 8 cr) 8 (ints .u64 L) :: H)
    (fun j L _ _ => j ≤ k ∧ L.length = 8 ∧ D16 L ∧ val L = sp low (T.take j)) (fun j _ _ _ => k - j) 0 (List.replicate 8 0) (some po) 8 ⟨by omega, rfl, D16_rep 8, by rw [val_rep]; simp [sp]⟩ (by repeat (first | exact trivial | refine ⟨rfl, ?_⟩ | refine ⟨lookI rfl (by omega), ?_⟩)) (fun _ h => h) ?_
  intro j L r cr ⟨hj, hl, hd, hvL⟩ again
  have hv' : Rd w0 (vec 22 1 (.slice r 8 cr) 8 (ints .u64 L) :: H) (.slice p k c) k (ints .i64 (T.map Prod.fst)) := Rd_weak hv fun w hw => St.sub (by repeat (first | exact List.Sublist.refl _ | apply List.Sublist.cons_cons | apply List.Sublist.cons)) hw
  have hn' : Rd w0 (vec 22 1 (.slice r 8 cr) 8 (ints .u64 L) :: H) (.slice q k d) k (ints .u64 (T.map Prod.snd)) := Rd_weak hn fun w hw => St.sub (by repeat (first | exact List.Sublist.refl _ | apply List.Sublist.cons_cons | apply List.Sublist.cons)) hw
  by_cases hjk : j < k
  · obtain ⟨hb1, hb2⟩ := hT.get j (by omega)
    have hst := sw_take T j (by omega)
    have hpt := sp_take low T j (by omega)
    have hlx := hall _ (mem_get (T := T) j (by omega))
    have hspk := hsp (j + 1)
    have hle := sw_le hT (j + 1)
    have gj1 := g1 j hjk
    have gj2 := g2 j hjk
    rw [hpt] at hspk
    obtain ⟨x, n, hxn⟩ : ∃ x n, T.getD j (0, 0) = (x, n) := ⟨_, _, rfl⟩
    rw [hxn] at hb1 hb2 hpt hlx hspk gj1 gj2
    simp only at hb1 hb2 hpt hlx hspk gj1 gj2
    have hP := mul_bd (a := x - low) (b := n) (by omega) hb2.1 (show x - low ≤ 18446744073709551615 by omega) (show n ≤ 18446744073709551615 by omega) (by omega)
    repeat (first | (apply gQO; refine QO_v rfl (V_loadC (tb := tb) rfl (by first | exact vec_rd (by repeat (first | apply List.Mem.head | apply List.Mem.tail)) | assumption | exact ArgRd.rd (by assumption) _ | (apply Rd_weak; assumption; intro _ hx; exact St.sub (by repeat (first | exact List.Sublist.refl _ | apply List.Sublist.cons_cons | apply List.Sublist.cons)) hx)) rfl rfl gj1 rfl) ?_) | (apply gQO; refine QO_v rfl (V_loadC (tb := tb) rfl (by first | exact vec_rd (by repeat (first | apply List.Mem.head | apply List.Mem.tail)) | assumption | exact ArgRd.rd (by assumption) _ | (apply Rd_weak; assumption; intro _ hx; exact St.sub (by repeat (first | exact List.Sublist.refl _ | apply List.Sublist.cons_cons | apply List.Sublist.cons)) hx)) rfl rfl gj2 rfl) ?_) | (first | (refine sy ?_; try intro _)))
    rw [show (x % 18446744073709551616 - low % 18446744073709551616) % 18446744073709551616 = x - low from by omega]
    refine QO_call Try.call65 rfl rfl fun w hw => (RMul_c (x - low) n (by omega) hb2 w hw).mono ?_
    rintro e w' ⟨pm, cm, M, rfl, hw', lM, dM, vM⟩
    refine ⟨_, rfl, _, hw', .inl fun w hw => St.sub (by repeat (first | exact List.Sublist.refl _ | apply List.Sublist.cons_cons | apply List.Sublist.cons)) hw, ?_⟩
    clear hw' hw w w'
    repeat (first | (refine sy ?_; try intro _))
    refine QO_call Try.call64 rfl rfl fun w hw => (RAdd_c r cr L (vec_rd (by repeat (first | apply List.Mem.head | apply List.Mem.tail))) hl hd pm cm M (vec_rd (by repeat (first | apply List.Mem.head | apply List.Mem.tail))) lM dM w hw).mono ?_
    rintro e w' ⟨r2, cr2, L2, o, rfl, hw', lL2, dL2, h2⟩
    refine ⟨_, rfl, _, hw', .inl fun w hw => St.sub (by repeat (first | exact List.Sublist.refl _ | apply List.Sublist.cons_cons | apply List.Sublist.cons)) hw, ?_⟩
    clear hw' hw w w'
    have hL2 := val_nonneg dL2
    rw [vM, hvL] at h2
    generalize (x - low) * n = Q at *
    have hval : val L2 = sp low (T.take (j + 1)) := by
      rw [hpt]
      rcases h2 with ⟨_, h2⟩ | ⟨_, h2⟩
      · exact h2
      · omega
    clear h2 hspk hpt hP vM
    repeat (first | (refine sy ?_; try intro _))
    exact JS_again4 again (j + 1) L2 r2 cr2 ⟨by omega, lL2, dL2, hval⟩ (by omega) (by repeat (first | exact trivial | refine ⟨rfl, ?_⟩ | refine ⟨lookI rfl (by omega), ?_⟩)) (fun w hw => St.sub (by repeat (first | exact List.Sublist.refl _ | apply List.Sublist.cons_cons | apply List.Sublist.cons)) hw)
  obtain rfl : j = k := by omega
  rw [e1] at hvL
  have hsk := hsp j
  rw [e1] at hsk
  clear again hsp
  repeat (first | (refine sx ?_; try intro _))
  refine JO_call Try.call66 rfl rfl fun w hw => (RDiv_c r cr L (vec_rd (by repeat (first | apply List.Mem.head | apply List.Mem.tail))) hl hd (sw T) (by omega) w hw).mono ?_
  rintro e w' ⟨pq, cq, D, l, rfl, hw', lD, dD, vD, _⟩
  refine ⟨_, rfl, _, hw', ?_⟩
  clear hw' hw w w'
  repeat (first | (refine sx ?_; try intro _))
  refine JO_call Try.call67 rfl rfl fun w hw => (Number_c pq cq D (vec_rd (by repeat (first | apply List.Mem.head | apply List.Mem.tail))) lD dD 0 (by omega) w hw).mono ?_
  rintro e w' ⟨n0, rfl, hw', e0⟩
  refine ⟨_, rfl, _, hw', ?_⟩
  clear hw' hw w w'
  have hM : sp low T / sw T ≤ 9223372036854775807 - low := by
    have h3 := (sp_bd (T := T) (low := low) (M := 9223372036854775807 - low) fun t ht => ⟨hall t ht, by have := (hT t ht).1.2; omega, (hT t ht).2.1⟩).2
    have h4 := Int.ediv_le_ediv (show 0 < sw T by omega) h3
    rwa [Int.mul_ediv_cancel _ h0] at h4
  have hq0 : 0 ≤ sp low T / sw T := Int.ediv_nonneg hsk.1 hs0
  have hn0 : n0 = sp low T / sw T := by
    rw [e0, (num4_of lD dD vD).1, hvL]; omega
  rw [← hn0] at hM hq0
  clear hsk hvL e0
  repeat (first | (refine sx ?_; try intro _))
  refine JS_ret Try.func31 rfl rfl ?_
  intro w hw
  refine ⟨_, _, rfl, St.sub (by repeat (first | exact List.Sublist.refl _ | apply List.Sublist.cons_cons | apply List.Sublist.cons)) hw, .inr ⟨h0, hs, rfl, low, hall, ⟨t0, ht0, hlow0⟩, ?_⟩⟩
  omega
end Go.Proofs.Ytmnilpjgkjkecaa

namespace Go.Proofs.Ytmnilpjgkjkecaa
open Sx Go Hd
set_option linter.unusedVariables false
set_option linter.unusedSimpArgs false
theorem ME_same {T : List (Int × Int)} {a r a' : Int} {o : Bool} (h : ME T a r) (h' : RME T a' o) (h1 : sw T ≠ 0) (h2 : sw T < 18446744073709551616) : o = true ∧ r = 0 ∧ a = a' := by
  unfold ME RME at *
  rcases h with ⟨h3, _⟩ | ⟨_, _, h3, low, h4, ⟨t, ht, e⟩, h6⟩
  · omega
  · rcases h' with ⟨h7, _⟩ | ⟨_, _, h7, low', h8, ⟨t', ht', e'⟩, h10⟩
    · omega
    · have l1 := h4 t' ht'
      have l2 := h8 t ht
      have : low = low' := by omega
      subst this
      exact ⟨h7, h3, by rw [h6, h10]⟩
/-- the middle of a cell -/
def mid (u g k : Nat) : Nat := ival u g k + siz u g (ival u g k) / 2
def midT (u g : Nat) (T : List (Int × Int)) : List (Int × Int) := T.map fun x => ((mid u g x.1.toNat : Nat), x.2)
theorem mid_lt {u g k : Nat} (hug : u + g ≤ 62) (hg : 1 ≤ g) (h : isI u g k) : mid u g k < 9223372036854775808 := by
  have h1 := hi_lt hg hug (ival_lt h)
  rw [(ival_idx hg h).2] at h1
  have h2 : 0 < siz u g (ival u g k) := p2pos _
  unfold mid
  omega
theorem sw_mid (u g : Nat) : ∀ T, sw (midT u g T) = sw T
  | [] => rfl
  | x :: r => by show sw (_ :: midT u g r) = _; rw [sw, sw, sw_mid u g r]
theorem midT_ok {u g : Nat} (hug : u + g ≤ 62) (hg : 1 ≤ g) {T : List (Int × Int)} (hT : OKT T) (hK : KSI u g T) : OKT (midT u g T) := fun y hy => by
  obtain ⟨x, hx, rfl⟩ := List.mem_map.1 hy
  obtain ⟨k, h1, h2⟩ := hK x hx
  have := mid_lt hug hg h2
  rw [h1, Int.toNat_natCast]
  exact ⟨by dsimp only; omega, (hT x hx).2⟩
theorem midT_len (u g : Nat) (T : List (Int × Int)) : (midT u g T).length = T.length := by simp [midT]
theorem take_snoc {T : List (Int × Int)} {i : Nat} (hi : i < T.length) : T.take (i + 1) = T.take i ++ [T.getD i (0, 0)] := by
  rw [List.take_add_one, List.getElem?_eq_getElem hi, Option.toList_some, List.getD_eq_getElem?_getD, List.getElem?_eq_getElem hi]; rfl
section
variable {w0 : World} {H : List Asn} {lo hi dg : Int} {u g : Nat}
set_option maxRecDepth 10000 in
set_option maxHeartbeats 8000000 in
theorem HMean_c (bh mb bm : Nat) (gr : Bool) (bu : Nat) (tot : Int) (es : List MapEntry) (clock : Nat) (T : List (Int × Int)) (hh : blk bh (hc mb bm gr bu tot) ∈ H) (hm : mapL bm es clock ∈ H) (hM : blk mb (mc lo hi dg u g) ∈ H) (hE : HM es clock T) (hG : GT T) (hK : KSI u g T) (hug : u + g ≤ 62) (hg : 1 ≤ g ∧ g ≤ 18) (hl : T.length ≤ 1000000) (w : World) (hw : St w0 H w) :
    Calls Try.prog 29 #[.pointer (some ⟨bh, 0, none⟩)] w fun e w' => ∃ a r, e = .returned (.tuple #[.int .i64 a, .int .i64 r]) ∧ St w0 H w' ∧ (T = [] → a = 0 ∧ r = 8) ∧ (T ≠ [] → ME (midT u g T) a r) := by
  refine enter (vs := [.pointer (some ⟨bh, 0, none⟩)]) Try.func29 rfl rfl rfl hw ?_
  clear hw w
  repeat (first | (refine sx ?_; try intro _))
  refine JO_call Try.call24 rfl rfl fun w hw => (HPairs_c bh mb bm gr bu tot es clock T hh hm hE hG.srt hG.key hl w hw).mono ?_
  rintro e w' ⟨q, d, rfl, hw'⟩
  (refine ⟨_, rfl, _, hw', ?_⟩; clear hw' hw w w')
  repeat (first | (apply gJR; first | (refine sx ?_; try intro _)) | (apply gJO; first | (refine sx ?_; try intro _)) | apply JS_seq | apply JS_region)
  refine JS_block ?_
  refine JS_loop3 (fun (i : Nat) (p : Option Addr) (c : Nat) => [(0, .pointer (some ⟨bh, 0, none⟩)), (4, .slice p i c), (12, .slice q T.length d), (13, .int .i64 T.length), (14, .int .i64 i)])
    (fun i p c => vec 111 2 (.slice p i c) i (flat (midT u g (T.take i))) :: vec 58 2 (.slice q T.length d) T.length (flat T) :: H) (fun i _ _ => i ≤ T.length) (fun i _ _ => T.length - i) 0 none 0 (Nat.zero_le _) (by repeat (first | exact trivial | refine ⟨rfl, ?_⟩ | refine ⟨lookI rfl (by omega), ?_⟩)) (fun w hw => St.nilvec hw) ?_
  intro i p c hi9 again
  by_cases hlt : i < T.length
  · have hat := flat_seg T i hlt
    have hsn := take_snoc hlt
    obtain ⟨hk1, hk2⟩ := hK.at hlt
    have hm2 : midT u g (T.take (i + 1)) = midT u g (T.take i) ++ [(((mid u g (T.getD i (0, 0)).1.toNat : Nat) : Int), (T.getD i (0, 0)).2)] := by rw [hsn]; simp [midT]
    have hn2 := (hG.okt _ (getD_mem hlt)).2
    generalize T.getD i (0, 0) = x at *
    obtain ⟨k', n⟩ := x
    dsimp only at *
    generalize k'.toNat = k at *
    subst hk1
    have hkb := isI_bd hug hg hk2
    have hml := mid_lt hug hg.1 hk2
    have hmid : mid u g k = ival u g k + siz u g (ival u g k) / 2 := rfl
    repeat (first | (apply gJO; refine JO_v (oL (V_loadCA (tb := tb) rfl (vec_rd (List.Mem.tail _ (List.Mem.head _))) rfl rfl rfl (by decide) hat rfl)) ?_) | (apply gQO; refine QO_v rfl (oL (V_load (tb := tb) rfl (List.Mem.tail _ (List.Mem.tail _ (List.Mem.tail _ hh))) rfl rfl rfl rfl)) ?_) | first | (refine sx ?_; try intro _))
    refine QO_call Try.call38 rfl rfl fun w hw => (MValue_c mb (List.Mem.tail _ (List.Mem.tail _ (List.Mem.tail _ hM))) hug hg k (by omega) w hw).mono ?_
    rw [if_pos hk2]
    rintro e w' ⟨rfl, hw'⟩
    (refine ⟨_, rfl, _, hw', .inl fun w hw => St.sub (by repeat (first | exact List.Sublist.refl _ | apply List.Sublist.cons_cons | apply List.Sublist.cons)) hw, ?_⟩; clear hw' hw w w')
    have hiv := ival_lt hk2
    generalize ival u g k = iv at *
    repeat (first | (apply gJO; refine JO_v (oL (V_load (tb := tb) rfl (List.Mem.tail _ (List.Mem.tail _ (List.Mem.tail _ hh))) rfl rfl rfl rfl)) ?_) | first | (refine sx ?_; try intro _))
    refine JO_call Try.call62 rfl rfl fun w hw => (MSize_c mb (List.Mem.tail _ (List.Mem.tail _ (List.Mem.tail _ hM))) hug hg.1 iv hiv w hw).mono ?_
    rintro e w' ⟨rfl, hw'⟩
    (refine ⟨_, rfl, _, hw', ?_⟩; clear hw' hw w w')
    have hsz := hi_lt hg.1 hug hiv
    generalize siz u g iv = sz at *
    have c1 : IntKind.i64.wrap (Int.tdiv (sz : Int) 2) = ((sz / 2 : Nat) : Int) := by
      rw [show Int.tdiv (sz : Int) 2 = ((sz / 2 : Nat) : Int) from (Int.ofNat_tdiv sz 2).symm]
      exact wi64 (by omega)
    have c2 : IntKind.i64.wrap ((iv : Int) + ((sz / 2 : Nat) : Int)) = ((mid u g k : Nat) : Int) := (wi64 (by omega)).trans (by omega)
    repeat (first | (apply gJO; first | refine JO_v (V_quo rfl rfl (by decide) c1 rfl) ?_ | refine JO_v (V_add rfl rfl c2 rfl) ?_ | (refine JO_app (tb := tb) rfl rfl rfl rfl rfl rfl (by repeat (first | exact Sel.here _ _ | apply Sel.there)) (vec_rd (List.Mem.head _)) (by rfl) ⟨rfl, rfl, trivial⟩ (by omega) rfl ?_; intro _ _)) | first | (refine sx ?_; try intro _))
    refine JS_again3 again (i + 1) _ _ (by omega) (by omega) (by repeat (first | exact trivial | refine ⟨rfl, ?_⟩ | refine ⟨lookI rfl (by omega), ?_⟩)) (fun w hw => ?_)
    rw [hm2, ← flat_app1]
    exact St.sub (by repeat (first | exact List.Sublist.refl _ | apply List.Sublist.cons_cons | apply List.Sublist.cons)) hw
  · obtain rfl : i = T.length := by omega
    clear again
    rw [List.take_length]
    have hml := midT_len u g T
    by_cases hT : T = []
    · have hlen : T.length = 0 := by rw [hT]; rfl
      repeat (first | (refine sx ?_; try intro _))
      exact JS_ret Try.func29 rfl rfl fun w hw => ⟨_, _, rfl, St.sub (by repeat (first | exact List.Sublist.refl _ | apply List.Sublist.cons_cons | apply List.Sublist.cons)) hw, fun _ => ⟨rfl, rfl⟩, fun h => absurd hT h⟩
    · have hlen := List.length_pos_iff.2 hT
      repeat (first | (refine sx ?_; try intro _))
      refine JO_call Try.call63 rfl rfl fun w hw => (Mean_c p c T.length (midT u g T) (vec_rd (List.Mem.head _)) hml (midT_ok hug hg.1 hG.okt hK) hl w hw).mono ?_
      rintro e w' ⟨a, r, rfl, hw', hME⟩
      (refine ⟨_, rfl, _, hw', ?_⟩; clear hw' hw w w')
      repeat (first | (refine sx ?_; try intro _))
      exact JS_ret Try.func29 rfl rfl fun w hw => ⟨_, _, rfl, St.sub (by repeat (first | exact List.Sublist.refl _ | apply List.Sublist.cons_cons | apply List.Sublist.cons)) hw, fun h => absurd h hT, fun _ => hME⟩
end
end Go.Proofs.Ytmnilpjgkjkecaa

namespace Go.Proofs.Ytmnilpjgkjkecaa
open Sx Go Hd
set_option linter.unusedVariables false
set_option linter.unusedSimpArgs false
set_option maxRecDepth 10000 in
set_option maxHeartbeats 8000000 in
theorem HdrMeans_l (a0 a1 : Int) (lp : Option Addr) (lc lm : Nat) (L : List Int) (np : Option Addr) (nc nm : Nat) (N : List Int) (w0 : World) (h0 : 0 ≤ a0 ∧ a0 < 18446744073709551616) (h1 : 0 ≤ a1 ∧ a1 < 256)
    (hL : ArgRd w0 (.slice lp lm lc) lm (ints .i64 L)) (lL : L.length = lm) (kL : OKI L ∧ (lp = none → lm = 0) ∧ lm ≤ 17592186043904) (hN : ArgRd w0 (.slice np nm nc) nm (ints .u16 N)) (lN : N.length = nm) (kN : OKH N ∧ (np = none → nm = 0) ∧ nm ≤ 70368744175616) :
    Calls Try.prog 7 #[.int .u64 a0, .int .u8 a1, .slice lp lm lc, .slice np nm nc] w0 fun e w' => e = .returned (.bool true) ∧ RowKit.Below w0.heap.size w0 w' := by
  subst lL lN
  have hs := law_sh a0 a1 1000000 h0 h1 (by decide)
  have hl1 : 1 ≤ lawLo a0 ∧ lawLo a0 ≤ 100000 := by unfold lawLo; omega
  have hhi : lawHi a0 1000000 < 9223372036854775808 := by unfold lawHi; omega
  have hd1 : 1 ≤ lawDg a1 ∧ lawDg a1 ≤ 5 := by unfold lawDg; omega
  have hSh := fun {H} w hw => Shape17_c (w0 := w0) (H := H) a0 a1 1000000 h0 h1 (by decide) w hw
  refine enter (vs := [.int .u64 a0, .int .u8 a1, .slice lp L.length lc, .slice np N.length nc]) Try.func7 rfl rfl rfl (St.start w0) ?_
  generalize lawLo a0 = lo at *
  generalize lawHi a0 1000000 = hi at *
  generalize lawDg a1 = dg at *
  have hug := hs.2
  have hgd := gOf_bd hd1
  have hg' : 1 ≤ gOf dg ∧ gOf dg ≤ 18 := by omega
  repeat (first | (refine sx ?_; try intro _))
  refine JO_call Try.call9 rfl rfl fun w hw => (alive18_c w hw).mono ?_
  rintro e w' ⟨rfl, hw'⟩
  (refine ⟨_, rfl, _, hw', ?_⟩; clear hw' hw w w')
  repeat (first | (refine sx ?_; try intro _))
  refine JO_call Try.call10 rfl rfl fun w hw => (hSh w hw).mono ?_
  rintro e w' ⟨rfl, hw'⟩
  (refine ⟨_, rfl, _, hw', ?_⟩; clear hw' hw w w')
  repeat (first | (refine sx ?_; try intro _))
  refine JO_call Try.call11 rfl rfl fun w hw => (Recorded_c lo hi dg true hs hhi lp np lc nc L N (hL.rd _) (hN.rd _) kL.1 kN.1 (by omega) (by omega) w hw).mono ?_
  rintro e w' ⟨h, m, b, r, es, clock, q, d, rfl, hE, hw'⟩
  have hb0 : 1 + bkt (uOf lo) (gOf dg) hi.toNat ≤ 64 := by
    have := bkt_63 (u := uOf lo) (g := gOf dg) (v := hi.toNat) (by omega) (by omega)
    omega
  obtain ⟨⟨ob, ogt⟩, ol⟩ := recS_ok (u := uOf lo) (g := gOf dg) (gr := true) (bu := 1 + bkt (uOf lo) (gOf dg) hi.toNat) (L := L) (W := wtN N) hug hg' hb0 (fun j => (kL.1 j).2) (fun j => by have := wtN_bd N j; omega) (min L.length 40)
  have hks := recS_ksi (u := uOf lo) (g := gOf dg) (gr := true) (bu0 := 1 + bkt (uOf lo) (gOf dg) hi.toNat) (L := L) (W := wtN N) hug hg'.1 (fun j => by have := wtN_bd N j; omega) (fun j => (kL.1 j).2) (min L.length 40)
  generalize recS (uOf lo) (gOf dg) true (1 + bkt (uOf lo) (gOf dg) hi.toNat) L (wtN N) (min L.length 40) = s at *
  obtain ⟨bu, T⟩ := s
  dsimp only at ob ogt ol hks hE hw'
  generalize uOf lo = u at *
  generalize gOf dg = g at *
  (refine ⟨_, rfl, _, hw', ?_⟩; clear hw' hw w w')
  repeat (first | (refine sx ?_; try intro _))
  refine JO_call Try.call29 rfl rfl fun w hw => (HMean_c h m b true bu (sw T) es clock T (by repeat (first | apply List.Mem.head | apply List.Mem.tail)) (by repeat (first | apply List.Mem.head | apply List.Mem.tail)) (by repeat (first | apply List.Mem.head | apply List.Mem.tail)) hE ogt hks hug hg' (by omega) w hw).mono ?_
  rintro e w' ⟨a, rr, rfl, hw', hM1, hM2⟩
  (refine ⟨_, rfl, _, hw', ?_⟩; clear hw' hw w w')
  by_cases hT : T = []
  · obtain ⟨rfl, rfl⟩ := hM1 hT
    have hlen : T.length = 0 := by rw [hT]; rfl
    repeat (first | (refine sx ?_; try intro _))
    exact JS_ret Try.func7 rfl rfl fun w hw => ⟨rfl, hw.grown⟩
  have hlen := List.length_pos_iff.2 hT
  have hME := hM2 hT
  have hmo := midT_ok hug hg'.1 ogt.okt hks
  have hml := midT_len u g T
  clear hM1 hM2
  repeat (first | (apply gJR; first | (refine sx ?_; try intro _)) | (apply gJO; first | (refine sx ?_; try intro _)) | apply JS_seq | apply JS_region | (apply gJS; refine JS_condF rfl ?_) | (apply gJS; refine JS_cond_F rfl (by omega) ?_) | apply JS_skip)
  refine JS_block ?_
  refine JS_loop5 (fun (i : Nat) (p1 : Option Addr) (e1 : Nat) (p2 : Option Addr) (e2 : Nat) => [(10, .pointer (some ⟨r, 0, none⟩)), (11, .int .i64 a), (12, .int .i64 rr), (13, .slice p1 i e1), (14, .slice p2 i e2), (15, .int .i64 i)])
    (fun i p1 e1 p2 e2 => vec 2 1 (.slice p1 i e1) i (ints .i64 ((midT u g (T.take i)).map Prod.fst)) :: vec 22 1 (.slice p2 i e2) i (ints .u64 ((midT u g (T.take i)).map Prod.snd)) :: blk r (rc lo hi dg u g true bu (.slice q T.length d)) :: vec 58 2 (.slice q T.length d) T.length (flat T) :: [])
    (fun i _ _ _ _ => i ≤ T.length) (fun i _ _ _ _ => T.length - i) 0 none 0 none 0 (Nat.zero_le _) (by repeat (first | exact trivial | refine ⟨rfl, ?_⟩ | refine ⟨lookI rfl (by omega), ?_⟩)) (fun w hw => ?_) ?_
  · have g1 := St.nilvec (e := 22) (sz := 1) (base := none) (St.sub (H' := blk r (rc lo hi dg u g true bu (.slice q T.length d)) :: vec 58 2 (.slice q T.length d) T.length (flat T) :: []) (by repeat (first | exact List.Sublist.refl _ | apply List.Sublist.cons_cons | apply List.Sublist.cons)) hw)
    exact St.nilvec (e := 2) (sz := 1) (base := none) g1
  intro i p1 e1 p2 e2 hi9 again
  by_cases hlt : i < T.length
  · have gk := flat_get0 T i hlt
    have gn := flat_get1 T i hlt
    have hsn := take_snoc hlt
    obtain ⟨hk1, hk2⟩ := hks.at hlt
    have hm1 : (midT u g (T.take (i + 1))).map Prod.fst = (midT u g (T.take i)).map Prod.fst ++ [((mid u g (T.getD i (0, 0)).1.toNat : Nat) : Int)] := by rw [hsn]; simp [midT]
    have hm2 : (midT u g (T.take (i + 1))).map Prod.snd = (midT u g (T.take i)).map Prod.snd ++ [(T.getD i (0, 0)).2] := by rw [hsn]; simp [midT]
    generalize T.getD i (0, 0) = x at *
    obtain ⟨k', n⟩ := x
    dsimp only at *
    generalize k'.toNat = k at *
    subst hk1
    have hkb := isI_bd hug hg' hk2
    have hmlt := mid_lt hug hg'.1 hk2
    have hmid : mid u g k = ival u g k + siz u g (ival u g k) / 2 := rfl
    have hV := fun {H} w hw => RValue_c (w0 := w0) (H := H) hug hg' k (by omega) w hw
    rw [if_pos hk2] at hV
    have hC := fun {H} w hw => RCell_c (w0 := w0) (H := H) hug hg'.1 (ival u g k) (ival_lt hk2) w hw
    rw [(ival_idx hg'.1 hk2).2] at hC
    have hiv := ival_lt hk2
    have hsz := hi_lt hg'.1 hug hiv
    rw [(ival_idx hg'.1 hk2).2] at hsz
    repeat (first | (apply gQO; refine QO_v rfl (oL (V_loadC (tb := tb) rfl (vec_rd (by repeat (first | apply List.Mem.head | apply List.Mem.tail))) rfl rfl gk rfl)) ?_) | first | (refine sx ?_; try intro _))
    refine QO_call Try.call27 rfl rfl fun w hw => (hV w hw).mono ?_
    rintro e w' ⟨rfl, hw'⟩
    (refine ⟨_, rfl, _, hw', .inl fun w hw => St.sub (by repeat (first | exact List.Sublist.refl _ | apply List.Sublist.cons_cons | apply List.Sublist.cons)) hw, ?_⟩; clear hw' hw w w')
    generalize ival u g k = iv at *
    repeat (first | (refine sx ?_; try intro _))
    refine QO_call Try.call30 rfl rfl fun w hw => (hC w hw).mono ?_
    rintro e w' ⟨rfl, hw'⟩
    (refine ⟨_, rfl, _, hw', .inl fun w hw => St.sub (by repeat (first | exact List.Sublist.refl _ | apply List.Sublist.cons_cons | apply List.Sublist.cons)) hw, ?_⟩; clear hw' hw w w')
    generalize siz u g iv = sz at *
    have c1 : IntKind.i64.wrap (Int.tdiv (sz : Int) 2) = ((sz / 2 : Nat) : Int) := by
      rw [show Int.tdiv (sz : Int) 2 = ((sz / 2 : Nat) : Int) from (Int.ofNat_tdiv sz 2).symm]
      exact wi64 (by omega)
    have c2 : IntKind.i64.wrap ((iv : Int) + ((sz / 2 : Nat) : Int)) = ((mid u g k : Nat) : Int) := (wi64 (by omega)).trans (by omega)
    repeat (first | (apply gJO; first | refine JO_v (V_quo rfl rfl (by decide) c1 rfl) ?_ | refine JO_v (V_add rfl rfl c2 rfl) ?_ | refine JO_v (oL (V_loadC (tb := tb) rfl (vec_rd (by repeat (first | apply List.Mem.head | apply List.Mem.tail))) rfl rfl gn rfl)) ?_ | (refine JO_app (tb := tb) rfl rfl rfl rfl rfl rfl (by repeat (first | exact Sel.here _ _ | apply Sel.there)) (vec_rd (List.Mem.head _)) (by rfl) ⟨rfl, trivial⟩ (by omega) rfl ?_; intro _ _)) | first | (refine sx ?_; try intro _))
    refine JS_again5 again (i + 1) _ _ _ _ (by omega) (by omega) (by repeat (first | exact trivial | refine ⟨rfl, ?_⟩ | refine ⟨lookI rfl (by omega), ?_⟩)) (fun w hw => ?_)
    rw [hm1, hm2, ← ints_app1, ← ints_app1]
    exact St.sub (by repeat (first | exact List.Sublist.refl _ | apply List.Sublist.cons_cons | apply List.Sublist.cons)) hw
  · obtain rfl : i = T.length := by omega
    clear again
    rw [List.take_length]
    repeat (first | (refine sx ?_; try intro _))
    refine JO_call Try.call31 rfl rfl fun w hw => (RMean_c p1 p2 e1 e2 T.length (midT u g T) (vec_rd (by repeat (first | apply List.Mem.head | apply List.Mem.tail))) (vec_rd (by repeat (first | apply List.Mem.head | apply List.Mem.tail))) hml hmo (by omega) w hw).mono ?_
    rintro e w' ⟨a', o, rfl, hw', hRME⟩
    have hsp : sw T ≠ 0 := by
      obtain ⟨y, hy⟩ := List.exists_mem_of_ne_nil T hT
      have := sw_mem ogt.pos y hy
      have := ogt.pos y hy
      omega
    obtain ⟨rfl, rfl, rfl⟩ := ME_same hME hRME (by rw [sw_mid]; exact hsp) (by rw [sw_mid]; have := ogt.tot; omega)
    (refine ⟨_, rfl, _, hw', ?_⟩; clear hw' hw w w')
    repeat (first | (refine sx ?_; try intro _))
    exact JS_ret Try.func7 rfl rfl fun w hw => ⟨rfl, hw.grown⟩
end Go.Proofs.Ytmnilpjgkjkecaa
