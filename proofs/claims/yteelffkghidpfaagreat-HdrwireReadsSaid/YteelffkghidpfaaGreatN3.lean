import Derived.WalkKit
import Derived.ProofKit
import Derived.OpenShut
import Derived.ChangeSlices
import Derived.Test.YteelffkghidpfaaGreatN2
namespace Go.Proofs.YteelffkghidpfaaGreat
open Sx Go Hd
set_option linter.unusedVariables false
set_option linter.unusedSimpArgs false
/-! ## ranks among what was recorded (plain) -/
/-- how much is up to x -/
def upS (L : List Int) (W : Nat → Int) (x : Int) : Nat → Int
  | 0 => 0
  | k + 1 => upS L W x k + if 0 ≤ L.getD k 0 ∧ L.getD k 0 ≤ x then W k else 0
/-- the least value whose rank is not less than r; -1: none -/
def rkB (L : List Int) (W : Nat → Int) (m : Nat) (r : Int) : Nat → Int
  | 0 => -1
  | i + 1 => if L.getD i 0 < 0 ∨ (0 ≤ rkB L W m r i ∧ rkB L W m r i ≤ L.getD i 0) then rkB L W m r i else if r ≤ upS L W (L.getD i 0) m then L.getD i 0 else rkB L W m r i
/-- how much has a key up to i -/
def cumK (i : Int) : List (Int × Int) → Int
  | [] => 0
  | x :: r => (if x.1 ≤ i then x.2 else 0) + cumK i r
/-- how much of the values that p picks -/
def upP (p : Int → Bool) (L : List Int) (W : Nat → Int) : Nat → Int
  | 0 => 0
  | k + 1 => upP p L W k + if p (L.getD k 0) then W k else 0
def inC (u g : Nat) (z : Int) (l : Int) : Bool := decide (0 ≤ l ∧ ((idx u g l.toNat : Nat) : Int) ≤ z)
/-- the histogram that grows: what its cells tell -/
structure RG (u g : Nat) (L : List Int) (W : Nat → Int) (i : Nat) (T : List (Int × Int)) : Prop where
  tot : sw T ≤ 1000 * i
  key : ∀ x ∈ T, ∃ k, k < i ∧ 0 ≤ L.getD k 0 ∧ x.1 = (idx u g (L.getD k 0).toNat : Nat)
  cum : ∀ z : Int, cumK z T = upP (inC u g z) L W i
end Go.Proofs.YteelffkghidpfaaGreat

namespace Go.Proofs.YteelffkghidpfaaGreat
open Sx Go Hd
set_option linter.unusedVariables false
set_option linter.unusedSimpArgs false
/-! ## what can be loaded (plain) -/
/-- a number that is a cell's index -/
def isK (u g : Nat) (k : Int) : Prop := 0 ≤ k ∧ isI u g k.toNat
instance (u g : Nat) (k : Int) : Decidable (isK u g k) := by unfold isK; infer_instance
/-- how many buckets cells need -/
def ndT (u g bu : Nat) : List (Int × Int) → Nat
  | [] => bu
  | x :: r => ndT u g (max bu (1 + bkt u g (ival u g x.1.toNat))) r
theorem ndT_snoc (u g : Nat) (x : Int × Int) : ∀ (P : List (Int × Int)) (bu : Nat), ndT u g bu (P ++ [x]) = max (ndT u g bu P) (1 + bkt u g (ival u g x.1.toNat))
  | [], bu => rfl
  | y :: r, bu => by show ndT u g _ (r ++ [x]) = max (ndT u g _ r) _; rw [ndT_snoc u g x r]
theorem ndT_step (u g bu : Nat) (P : List (Int × Int)) {i : Nat} (hi : i < P.length) : ndT u g bu (P.take (i + 1)) = max (ndT u g bu (P.take i)) (1 + bkt u g (ival u g (P.getD i (0, 0)).1.toNat)) := by
  rw [List.take_add_one, List.getElem?_eq_getElem hi, Option.toList_some, ndT_snoc, List.getD_eq_getElem?_getD, List.getElem?_eq_getElem hi]; rfl
theorem ndT_le {u g : Nat} (hug : 1 ≤ u + g) : ∀ (P : List (Int × Int)) (bu : Nat), bu ≤ 64 → (∀ x ∈ P, isK u g x.1) → ndT u g bu P ≤ 64
  | [], bu, h, _ => h
  | x :: r, bu, h, hP => by
    have hx := hP x (by simp)
    have hb := bkt_63 (u := u) (g := g) (ival_lt hx.2) hug
    exact ndT_le hug r _ (by omega) fun y hy => hP y (by simp [hy])
theorem ndT_ge (u g : Nat) : ∀ (P : List (Int × Int)) (bu : Nat), bu ≤ ndT u g bu P
  | [], bu => Nat.le_refl _
  | x :: r, bu => Nat.le_trans (Nat.le_max_left _ _) (ndT_ge u g r _)
theorem KSI.isK {u g : Nat} {P : List (Int × Int)} (h : KSI u g P) : ∀ x ∈ P, isK u g x.1 := fun x hx => by
  obtain ⟨k, h1, h2⟩ := h x hx
  rw [h1]
  exact ⟨by omega, by rw [Int.toNat_natCast]; exact h2⟩
theorem right_srt {T : List (Int × Int)} (h : RIGHT T) : Srt T := by
  have key : ∀ j, j < T.length → ∀ i, i < j → (T.getD i (0, 0)).1 < (T.getD j (0, 0)).1 := by
    intro j
    induction j with
    | zero => intro _ i hi; omega
    | succ j ih =>
      intro hj i hi
      have h1 := (h (j + 1) hj).2.2 (by omega)
      rw [Nat.add_sub_cancel] at h1
      rcases Nat.lt_or_ge i j with h2 | h2
      · exact Int.lt_trans (ih (by omega) i h2) h1
      · have : i = j := by omega
        subst this; exact h1
  refine List.pairwise_iff_getElem.2 fun i j hi hj hij => ?_
  have := key j hj i hij
  rw [List.getD_eq_getElem?_getD, List.getD_eq_getElem?_getD, List.getElem?_eq_getElem hi, List.getElem?_eq_getElem hj] at this
  exact this
theorem right_gt {u g : Nat} {T : List (Int × Int)} (hug : u + g ≤ 62) (hg : 1 ≤ g ∧ g ≤ 18) (hT : OKT T) (h : RIGHT T) (hK : ∀ x ∈ T, isK u g x.1) : GT T := by
  refine ⟨right_srt h, fun x hx => ?_, fun x hx => ?_, (sw_all hT h).2⟩
  · have := isI_bd hug hg (hK x hx).2
    have := (hK x hx).1
    omega
  · obtain ⟨i, hi, rfl⟩ := List.getElem_of_mem hx
    have h1 := (h i hi).1
    have h2 := (hT _ hx).2.1
    rw [List.getD_eq_getElem?_getD, List.getElem?_eq_getElem hi] at h1
    have h1 : T[i].2 ≠ 0 := h1
    omega
theorem putT_last {k n : Int} : ∀ {T : List (Int × Int)}, (∀ x ∈ T, x.1 < k) → putT k n T = T ++ [(k, n)]
  | [], _ => rfl
  | x :: r, h => by
    rw [putT, if_pos (h x (by simp)), putT_last fun y hy => h y (by simp [hy])]; rfl
theorem srt_take {T : List (Int × Int)} (h : Srt T) {i : Nat} (hi : i < T.length) : ∀ x ∈ T.take i, x.1 < (T.getD i (0, 0)).1 := fun x hx => by
  obtain ⟨j, hj, rfl⟩ := List.getElem_of_mem hx
  rw [List.length_take] at hj
  rw [List.getElem_take, List.getD_eq_getElem?_getD, List.getElem?_eq_getElem hi]
  exact List.pairwise_iff_getElem.1 h j i (by omega) hi (by omega)
/-- may this be loaded? -/
def LOK (lo hi dg : Int) (gr : Bool) (bk : Int) (P : List (Int × Int)) : Prop :=
  shOK lo hi dg ∧ RIGHT P ∧ (∀ x ∈ P, isK (uOf lo) (gOf dg) x.1) ∧ bk = (ndT (uOf lo) (gOf dg) (1 + bkt (uOf lo) (gOf dg) hi.toNat) P : Nat) ∧ (gr = true ∨ ndT (uOf lo) (gOf dg) (1 + bkt (uOf lo) (gOf dg) hi.toNat) P ≤ 1 + bkt (uOf lo) (gOf dg) hi.toNat)
section
variable {w0 : World} {H : List Asn} {lo hi dg : Int} {u g : Nat}
theorem MValueK_c (b : Nat) (hM : blk b (mc lo hi dg u g) ∈ H) (hug : u + g ≤ 62) (hg : 1 ≤ g ∧ g ≤ 18) (k : Int) (hk : -9223372036854775808 ≤ k ∧ k < 9223372036854775808) (w : World) (hw : St w0 H w) :
    Calls Tryz.prog 114 #[.pointer (some ⟨b, 0, none⟩), .int .i64 k] w fun e w' => e = .returned (if isK u g k then .tuple #[.int .i64 (ival u g k.toNat : Nat), .int .i64 0] else .tuple #[.int .i64 0, .int .i64 5]) ∧ St w0 H w' := by
  by_cases h : k < 0
  · rw [if_neg (fun h' => absurd h'.1 (by omega))]
    exact MValueN_c b k h hk.1 w hw
  · obtain ⟨n, rfl⟩ := Int.eq_ofNat_of_zero_le (show 0 ≤ k by omega)
    have := MValue_c b hM hug hg n (by omega) w hw
    have e : isK u g (n : Int) ↔ isI u g n := ⟨fun h => h.2, fun h => ⟨by omega, h⟩⟩
    rw [Int.toNat_natCast]
    simp only [e]
    exact this
set_option maxRecDepth 10000 in
set_option maxHeartbeats 8000000 in
theorem HLoad_c (gr : Bool) (bk : Int) (q : Option Addr) (c : Nat) (P : List (Int × Int)) (hlo : -9223372036854775808 ≤ lo ∧ lo < 9223372036854775808) (hhi : -9223372036854775808 ≤ hi ∧ hi < 9223372036854775808) (hdg : -9223372036854775808 ≤ dg ∧ dg < 9223372036854775808) (hbk : -9223372036854775808 ≤ bk ∧ bk < 9223372036854775808)
    (hr : Rd w0 H (.slice q P.length c) P.length (flat P)) (hT : OKT P) (hl : P.length ≤ 1000000) (w : World) (hw : St w0 H w) :
    Calls Tryz.prog 73 #[hagg lo hi dg, .bool gr, .int .i64 bk, .slice q P.length c] w fun e w' =>
      (¬ LOK lo hi dg gr bk P ∧ e = .returned (.tuple #[.pointer none, .int .i64 1]) ∧ St w0 H w') ∨
      (LOK lo hi dg gr bk P ∧ ∃ bh mb bm es clock, e = .returned (.tuple #[.pointer (some ⟨bh, 0, none⟩), .int .i64 0]) ∧ HM es clock P ∧ St w0 (blk bh (hc mb bm gr (ndT (uOf lo) (gOf dg) (1 + bkt (uOf lo) (gOf dg) hi.toNat) P) (sw P)) :: mapL bm es clock :: blk mb (mc lo hi dg (uOf lo) (gOf dg)) :: H) w') := by
  refine enter (vs := [hagg lo hi dg, .bool gr, .int .i64 bk, .slice q P.length c]) Tryz.func73 rfl rfl rfl hw ?_
  clear hw w
  repeat (first | (refine sx ?_; try intro _))
  rename_i bx
  by_cases hs : shOK lo hi dg
  · refine JO_call Tryz.call55 rfl rfl fun w hw => (HNewT_c lo hi dg gr hs hhi.2 w hw).mono ?_
    rintro e w' ⟨bh, mb, bm, rfl, hw'⟩
    (refine ⟨_, rfl, _, hw', ?_⟩; clear hw' hw w w')
    have hug := hs.2
    have hgd := gOf_bd (dg := dg) ⟨hs.1.1, hs.1.2.1⟩
    have hg : 1 ≤ gOf dg ∧ gOf dg ≤ 18 := by omega
    have hb0 : 1 + bkt (uOf lo) (gOf dg) hi.toNat ≤ 64 := by
      have := bkt_63 (u := uOf lo) (g := gOf dg) (v := hi.toNat) (by omega) (by omega)
      omega
    have hF := fun {H} bh mb bm gr bu tot hh hM w hw => HFirst_c (w0 := w0) (H := H) (lo := lo) (hi := hi) (dg := dg) (u := uOf lo) (g := gOf dg) bh mb bm gr bu tot hh hM hug hhi w hw
    have hlok : LOK lo hi dg gr bk P ↔ shOK lo hi dg ∧ RIGHT P ∧ (∀ x ∈ P, isK (uOf lo) (gOf dg) x.1) ∧ bk = (ndT (uOf lo) (gOf dg) (1 + bkt (uOf lo) (gOf dg) hi.toNat) P : Nat) ∧ (gr = true ∨ ndT (uOf lo) (gOf dg) (1 + bkt (uOf lo) (gOf dg) hi.toNat) P ≤ 1 + bkt (uOf lo) (gOf dg) hi.toNat) := Iff.rfl
    generalize uOf lo = u at *
    generalize gOf dg = g at *
    generalize 1 + bkt u g hi.toNat = bu0 at *
    generalize LOK lo hi dg gr bk P = LK at *
    repeat (first | (refine sx ?_; try intro _))
    refine JO_call Tryz.call113 rfl rfl fun w hw => (WNewA_c q c P.length P (Rd_weak hr fun w hw => dS hw) rfl hT hl w hw).mono ?_
    rintro e w' ⟨x, r, rfl, ⟨hno, rfl, rfl, hw'⟩ | ⟨hR, rfl, b, a1, a2, a3, rfl, hI, hw'⟩⟩
    · (refine ⟨_, rfl, _, hw', ?_⟩; clear hw' hw w w')
      repeat (first | (refine sx ?_; try intro _))
      exact JS_ret Tryz.func73 rfl rfl fun w hw => .inl ⟨fun h => hno (hlok.1 h).2.1, rfl, dS hw⟩
    refine ⟨_, rfl, blk bh (hc mb bm gr bu0 (sw [])) :: mapL bm [] 0 :: a1 :: a2 :: a3 :: blk mb (mc lo hi dg u g) :: H, ?_, ?_⟩
    · exact dS (hw'.perm (H' := blk bh (hc mb bm gr bu0 (sw [])) :: mapL bm [] 0 :: a1 :: a2 :: a3 :: blk mb (mc lo hi dg u g) :: blk bx [.int .i64 lo, .int .i64 hi, .int .i64 dg] :: H) (by (repeat (first | exact List.Perm.refl _ | refine List.Perm.cons _ ?_ | refine (List.perm_middle (l₁ := [_])).trans (List.Perm.cons _ ?_) | refine (List.perm_middle (l₁ := [_, _])).trans (List.Perm.cons _ ?_) | refine (List.perm_middle (l₁ := [_, _, _])).trans (List.Perm.cons _ ?_) | refine (List.perm_middle (l₁ := [_, _, _, _])).trans (List.Perm.cons _ ?_) | refine (List.perm_middle (l₁ := [_, _, _, _, _])).trans (List.Perm.cons _ ?_) | refine (List.perm_middle (l₁ := [_, _, _, _, _, _])).trans (List.Perm.cons _ ?_) | refine (List.perm_middle (l₁ := [_, _, _, _, _, _, _])).trans (List.Perm.cons _ ?_) | refine (List.perm_middle (l₁ := [_, _, _, _, _, _, _, _])).trans (List.Perm.cons _ ?_) | refine (List.perm_middle (l₁ := [_, _, _, _, _, _, _, _, _])).trans (List.Perm.cons _ ?_) | refine (List.perm_middle (l₁ := [_, _, _, _, _, _, _, _, _, _])).trans (List.Perm.cons _ ?_) | refine (List.perm_middle (l₁ := [_, _, _, _, _, _, _, _, _, _, _])).trans (List.Perm.cons _ ?_) | refine (List.perm_middle (l₁ := [_, _, _, _, _, _, _, _, _, _, _, _])).trans (List.Perm.cons _ ?_) | refine (List.perm_middle (l₁ := [_, _, _, _, _, _, _, _, _, _, _, _, _])).trans (List.Perm.cons _ ?_)))))
    clear hw' hw w w'
    repeat (first | (apply gJR; first | (refine sx ?_; try intro _)) | (apply gJO; first | (refine sx ?_; try intro _)) | apply JS_seq | apply JS_region | (apply gJS; refine JS_condF rfl ?_) | apply JS_skip)
    refine JS_block ?_
    refine JS_loop3 (fun (i : Nat) (es : List MapEntry) (clock : Nat) => [(1, .bool gr), (2, .int .i64 bk), (10, .pointer (some ⟨bh, 0, none⟩)), (12, .pointer (some ⟨b, 0, none⟩)), (13, .int .i64 (ndT u g bu0 (P.take i) : Nat)), (38, .slice q P.length c), (39, .int .i64 P.length), (40, .int .i64 i)])
      (fun i es clock => blk bh (hc mb bm gr bu0 (sw [])) :: mapL bm es clock :: a1 :: a2 :: a3 :: blk mb (mc lo hi dg u g) :: H) (fun i es clock => i ≤ P.length ∧ HM es clock (P.take i) ∧ ∀ x ∈ P.take i, isK u g x.1) (fun i _ _ => P.length - i) 0 [] 0 ⟨Nat.zero_le _, HM.nil, by simp⟩ (by repeat (first | exact trivial | refine ⟨rfl, ?_⟩ | refine ⟨lookI rfl (by omega), ?_⟩)) (fun w hw => hw) ?_
    intro i es clock ⟨hi9, hE, hKi⟩ again
    by_cases hlt : i < P.length
    · have hat := flat_seg P i hlt
      have hst := ndT_step u g bu0 P hlt
      have hmem := getD_mem hlt
      have htk := srt_take (right_srt hR) hlt
      have hsn : P.take (i + 1) = P.take i ++ [P.getD i (0, 0)] := by rw [List.take_add_one, List.getElem?_eq_getElem hlt, Option.toList_some, List.getD_eq_getElem?_getD, List.getElem?_eq_getElem hlt]; rfl
      have hkb := (hT _ hmem).1
      have hle := ndT_le (u := u) (g := g) (by omega) (P.take i) bu0 hb0 hKi
      generalize ndT u g bu0 (P.take i) = nd at *
      generalize P.getD i (0, 0) = x at *
      obtain ⟨k, n⟩ := x
      dsimp only at *
      repeat (first | (apply gJO; refine JO_v (oL (V_loadCA (tb := tb) rfl (Rd_weak hr fun w hw => dS hw) rfl rfl rfl (by decide) hat rfl)) ?_) | first | (refine sx ?_; try intro _))
      rename_i bp
      have hV := fun w hw => MValueK_c (w0 := w0) (H := blk bp [.int .i64 k, .int .u64 n] :: blk bh (hc mb bm gr bu0 (sw [])) :: mapL bm es clock :: a1 :: a2 :: a3 :: blk mb (mc lo hi dg u g) :: H) mb (by repeat (first | apply List.Mem.head | apply List.Mem.tail)) hug hg k hkb w hw
      by_cases hk : isK u g k
      · rw [if_pos hk] at hV
        have hiv := ival_lt hk.2
        refine QO_call Tryz.call114 rfl rfl fun w hw => (hV w hw).mono ?_
        rintro e w' ⟨rfl, hw'⟩
        (refine ⟨_, rfl, _, hw', .inl fun w hw => hw, ?_⟩; clear hw' hw w w')
        clear hV
        repeat (first | (refine sx ?_; try intro _))
        refine JO_call Tryz.call72 rfl rfl fun w hw => (MBuckets_c mb (by repeat (first | apply List.Mem.head | apply List.Mem.tail)) hug (ival u g k.toNat : Nat) (by omega) w hw).mono ?_
        rw [Int.toNat_natCast]
        rintro e w' ⟨rfl, hw'⟩
        (refine ⟨_, rfl, _, hw', ?_⟩; clear hw' hw w w')
        have k3 : max (nd : Int) ((1 + bkt u g (ival u g k.toNat) : Nat) : Int) = ((max nd (1 + bkt u g (ival u g k.toNat)) : Nat) : Int) := by omega
        obtain ⟨hno, hE2⟩ := hE.new (n := n) hkb (fun y hy => by have := htk y hy; omega)
        rw [putT_last htk, ← hsn] at hE2
        repeat (first | (apply gJO; refine JO_v (V_max rfl rfl k3 rfl) ?_) | (apply gQO; refine QO_k rfl (K_mapUpdateF (tb := tb) kI rfl rfl rfl rfl (by repeat (first | exact Sel.here _ _ | apply Sel.there)) hE.ok (keyI hkb) hno rfl) rfl ?_) | first | (refine sx ?_; try intro _))
        refine JS_again3 again (i + 1) _ _ ⟨by omega, hE2, fun y hy => ?_⟩ (by omega) (by rw [hst]; exact (by repeat (first | exact trivial | refine ⟨rfl, ?_⟩ | refine ⟨lookI rfl (by omega), ?_⟩))) (fun w hw => hw.drop)
        rw [hsn] at hy
        rcases List.mem_append.1 hy with hy | hy
        · exact hKi y hy
        · rw [List.mem_singleton.1 hy]; exact hk
      · rw [if_neg hk] at hV
        refine QO_call Tryz.call114 rfl rfl fun w hw => (hV w hw).mono ?_
        rintro e w' ⟨rfl, hw'⟩
        (refine ⟨_, rfl, _, hw', .inl fun w hw => hw, ?_⟩; clear hw' hw w w')
        repeat (first | (refine sx ?_; try intro _))
        exact JS_ret Tryz.func73 rfl rfl fun w hw => .inl ⟨fun h => hk ((hlok.1 h).2.2.1 _ hmem), rfl, dS hw⟩
    · obtain rfl : i = P.length := by omega
      clear again
      rw [List.take_length] at *
      have hge := ndT_ge u g P bu0
      have hle := ndT_le (u := u) (g := g) (by omega) P bu0 hb0 hKi
      generalize ndT u g bu0 P = nd at *
      by_cases hbn : bk = (nd : Nat)
      · subst hbn
        repeat (first | (refine sx ?_; try intro _))
        refine JO_call Tryz.call59 rfl rfl fun w hw => (hF bh mb bm gr bu0 _ (List.Mem.head _) (by repeat (first | apply List.Mem.head | apply List.Mem.tail)) w hw).mono ?_
        rintro e w' ⟨rfl, hw'⟩
        (refine ⟨_, rfl, _, hw', ?_⟩; clear hw' hw w w')
        by_cases hgn : gr = true ∨ nd ≤ bu0
        · have hL := hlok.2 ⟨hs, hR, hKi, rfl, hgn⟩
          have fin : JS Tryz.prog 73 Tryz.f73.ntmps (fun e w' => (¬ LK ∧ e = .returned (.tuple #[.pointer none, .int .i64 1]) ∧ St w0 H w') ∨
      (LK ∧ ∃ bh mb bm es clock, e = .returned (.tuple #[.pointer (some ⟨bh, 0, none⟩), .int .i64 0]) ∧ HM es clock P ∧ St w0 (blk bh (hc mb bm gr nd (sw P)) :: mapL bm es clock :: blk mb (mc lo hi dg u g) :: H) w')) [] w0 (todo Tryz.f73 [.b, .b, .b, .b, .b, .b, .b, .b]) [(10, .pointer (some ⟨bh, 0, none⟩)), (12, .pointer (some ⟨b, 0, none⟩)), (13, .int .i64 nd)] (blk bh (hc mb bm gr bu0 (sw [])) :: mapL bm es clock :: a1 :: a2 :: a3 :: blk mb (mc lo hi dg u g) :: H) := by
            refine JS_at rfl ?_
            repeat (first | (refine sx ?_; try intro _))
            refine JO_call Tryz.call115 rfl rfl fun w hw => (TTotal_c b P ((hI (blk mb (mc lo hi dg u g) :: H)).sub (by repeat (first | exact List.Sublist.refl _ | apply List.Sublist.cons_cons | apply List.Sublist.cons))) hl w hw).mono ?_
            rintro e w' ⟨rfl, hw'⟩
            (refine ⟨_, rfl, _, hw', ?_⟩; clear hw' hw w w')
            repeat (first | (refine sx ?_; try intro _))
            exact JS_ret Tryz.func73 rfl rfl fun w hw => .inr ⟨hL, bh, mb, bm, es, clock, rfl, hE, dS hw⟩
          by_cases hgt : bu0 < nd
          · obtain rfl : gr = true := hgn.resolve_right (by omega)
            repeat (first | exact JS_of_at (fn := Tryz.f73) (p := [.b, .b, .b, .b, .b, .b, .b, .b]) (JS_ov (by repeat (first | exact trivial | refine ⟨rfl, ?_⟩ | refine ⟨lookI rfl (by omega), ?_⟩)) fin) rfl | first | (refine sx ?_; try intro _))
          · repeat (first | exact JS_of_at (fn := Tryz.f73) (p := [.b, .b, .b, .b, .b, .b, .b, .b]) (JS_ov (by repeat (first | exact trivial | refine ⟨rfl, ?_⟩ | refine ⟨lookI rfl (by omega), ?_⟩)) fin) rfl | first | (refine sx ?_; try intro _))
        · obtain ⟨hc1, hc2⟩ : gr = false ∧ bu0 < nd := by
            cases gr with
            | true => exact absurd (.inl rfl) hgn
            | false => exact ⟨rfl, Nat.lt_of_not_le fun h => hgn (.inr h)⟩
          subst hc1
          repeat (first | (refine sx ?_; try intro _))
          exact JS_ret Tryz.func73 rfl rfl fun w hw => .inl ⟨fun h => hgn (hlok.1 h).2.2.2.2, rfl, dS hw⟩
      · repeat (first | (refine sx ?_; try intro _))
        exact JS_ret Tryz.func73 rfl rfl fun w hw => .inl ⟨fun h => hbn (hlok.1 h).2.2.2.1, rfl, dS hw⟩
  · refine JO_call Tryz.call55 rfl rfl fun w hw => (HNewF_c lo hi dg gr hlo hhi hdg hs w hw).mono ?_
    rintro e w' ⟨rfl, hw'⟩
    (refine ⟨_, rfl, _, hw', ?_⟩; clear hw' hw w w')
    repeat (first | (refine sx ?_; try intro _))
    exact JS_ret Tryz.func73 rfl rfl fun w hw => .inl ⟨fun h => hs h.1, rfl, hw.drop⟩
end
end Go.Proofs.YteelffkghidpfaaGreat

namespace Go.Proofs.YteelffkghidpfaaGreat
open Sx Go Hd
set_option linter.unusedVariables false
set_option linter.unusedSimpArgs false
/-! ## giving up, and being caught -/
section
variable {w0 : World} {H : List Asn}
theorem inv_f2 {q : Nat} {cap args : Array Value} {w : World} (hc : ∀ args w, (callFunc q args).run Tryz.prog w = .ok (.enter q args) w) : (invoke (.fn (.func q) cap) args).run Tryz.prog w = .ok (.enter q (args ++ cap)) w := by
  simp only [invoke]
  simpa using hc (args ++ cap) w
set_option maxRecDepth 10000 in
theorem CaughtI_c (xb eb : Nat) (w : World) (hw : St w0 H w) :
    CallsD Tryz.prog 67 #[.pointer (some ⟨xb, 0, none⟩), .pointer (some ⟨eb, 0, none⟩)] .returning w fun e u' w' => u' = .returning ∧ e = .returned (.tuple #[]) ∧ St w0 H w' := by
  refine enterR (vs := [.pointer (some ⟨xb, 0, none⟩), .pointer (some ⟨eb, 0, none⟩)]) Tryz.func67 rfl rfl rfl rfl hw (.inl ⟨rfl, rfl, rfl⟩) ?_
  repeat (first | (apply gJO; refine JO_v (V_eqIN (tb := tb) rfl rfl rfl) ?_) | first | (refine sx ?_; try intro _))
  exact JS_fin Tryz.func67 rfl rfl fun w hw => ⟨rfl, hw⟩
set_option maxRecDepth 10000 in
theorem CaughtG_c (xb eb : Nat) (p : Option Addr) (r : Int) (w : World) (hw : St w0 (blk eb [.int .i64 r] :: blk xb [.pointer p] :: H) w) :
    CallsD Tryz.prog 67 #[.pointer (some ⟨xb, 0, none⟩), .pointer (some ⟨eb, 0, none⟩)] (.panicking FB) w fun e u' w' => u' = .panicking [{ v := .iface 154 (.agg #[]), recovered := true }] ∧ e = .returned (.tuple #[]) ∧ St w0 (blk eb [.int .i64 9] :: blk xb [.pointer none] :: H) w' := by
  refine enterR (vs := [.pointer (some ⟨xb, 0, none⟩), .pointer (some ⟨eb, 0, none⟩)]) Tryz.func67 rfl rfl rfl rfl hw (.inr ⟨[], rfl, rfl⟩) ?_
  repeat (first | (apply gJO; first | refine JO_v (V_eqIV (tb := tb) rfl rfl rfl) ?_ | refine JO_v (V_assertT (tb := tb) rfl rfl (by simp) rfl) ?_) | first | (refine sx ?_; try intro _))
  exact JS_fin Tryz.func67 rfl rfl fun w hw => ⟨rfl, dS hw⟩
/-- the way out when a reading was given up, and when all went well -/
abbrev defR (xb eb : Nat) : List Deferred := [⟨.fn (.func 67) #[], #[.pointer (some ⟨xb, 0, none⟩), .pointer (some ⟨eb, 0, none⟩)]⟩]
theorem LvR_err {R : Ending → World → Prop} {n : Nat} {xb eb : Nat} {p : Option Addr} {r : Int} {a : Act} {D : List Deferred} (ha : Rep n D [(2, .pointer (some ⟨xb, 0, none⟩)), (3, .pointer (some ⟨eb, 0, none⟩))] a) {w : World} (hw : St w0 (blk eb [.int .i64 r] :: blk xb [.pointer p] :: H) w)
    (hR : ∀ w, St w0 H w → R (.returned (.tuple #[.pointer none, .int .i64 9])) w) : Leaves Tryz.prog Tryz.f38 a.tmps R (defR xb eb) (.panicking FB) w := by
  refine leaves_cons (f := 67) (args := #[.pointer (some ⟨xb, 0, none⟩), .pointer (some ⟨eb, 0, none⟩)]) (by simp) (inv_f2 Tryz.call67) ?_
  refine (CaughtG_c xb eb p r w hw).mono ?_
  rintro e u' w' ⟨rfl, rfl, hw'⟩
  show Leaves _ _ _ _ _ (settle _) _
  rw [show settle (.panicking [{ v := .iface 154 (.agg #[]), recovered := true }]) = .returning from rfl]
  exact ⟨_, results_cells (tb := tb) (vs := [.pointer none, .int .i64 9]) (ResV.one (tb := tb) rfl (by repeat (first | apply List.Mem.head | apply List.Mem.tail)) rfl rfl rfl (ResV.one (tb := tb) rfl (by repeat (first | apply List.Mem.head | apply List.Mem.tail)) rfl rfl rfl ResV.nil)) ha hw', hR w' hw'.drop.drop⟩
theorem LvR_ok {R : Ending → World → Prop} {n : Nat} {xb eb : Nat} {p : Option Addr} {a : Act} {D : List Deferred} (ha : Rep n D [(2, .pointer (some ⟨xb, 0, none⟩)), (3, .pointer (some ⟨eb, 0, none⟩))] a) {w : World} (hw : St w0 (blk eb [.int .i64 0] :: blk xb [.pointer p] :: H) w)
    (hR : ∀ w, St w0 H w → R (.returned (.tuple #[.pointer p, .int .i64 0])) w) : Leaves Tryz.prog Tryz.f38 a.tmps R (defR xb eb) .returning w := by
  refine leaves_cons (f := 67) (args := #[.pointer (some ⟨xb, 0, none⟩), .pointer (some ⟨eb, 0, none⟩)]) (by simp) (inv_f2 Tryz.call67) ?_
  refine (CaughtI_c xb eb w hw).mono ?_
  rintro e u' w' ⟨rfl, rfl, hw'⟩
  show Leaves _ _ _ _ _ (settle _) _
  rw [show settle .returning = .returning from rfl]
  exact ⟨_, results_cells (tb := tb) (vs := [.pointer p, .int .i64 0]) (ResV.one (tb := tb) rfl (by repeat (first | apply List.Mem.head | apply List.Mem.tail)) rfl rfl rfl (ResV.one (tb := tb) rfl (by repeat (first | apply List.Mem.head | apply List.Mem.tail)) rfl rfl rfl ResV.nil)) ha hw', hR w' hw'.drop.drop⟩
end
end Go.Proofs.YteelffkghidpfaaGreat

set_option linter.unusedVariables false
namespace Sx
open Go
/-! a region that draws its order, in a function with deferred calls: a call in it may panic -/
section
variable {P : Program} {E : List PanicEntry → List Deferred → World → Prop} {ops : Array Oper} {C : World → Prop} {S : List Nat} {Q : Act → World → Prop} {I : Act → Prop}
theorem Oper.wp_of_NI {o : Oper} {a : Act} {w : World} {K : Act → World → Prop} {Q' : Exit → Act → World → Prop} (hE : ∀ ch w, E ch a.defers w → Q' (.panic ch) a w) (hh : Oper.wpN P E o a w K) : o.wp P a w K Q' := by
  unfold Oper.wpN at hh
  unfold Oper.wp
  generalize (execOp a.eval o).run P w = r at *
  cases r with
  | ok n w' =>
    cases n <;> simp only [Oper.upN] at hh <;> simp only [Oper.upon] <;>
      first
        | exact hh
        | exact Calls.mono hh (fun e w'' h' => by rcases h' with ⟨v, he, hk⟩ | ⟨ch, he, hk⟩; (subst he; exact hk); (subst he; exact hE _ _ hk))
  | halt x w' => simp only [Oper.upN] at hh
theorem wpOp_of_stepNI {i : Nat} {a : Act} {w : World} {K : Act → World → Prop} {Q' : Exit → Act → World → Prop} (hE : ∀ ch w, E ch a.defers w → Q' (.panic ch) a w) (hh : stepN P E ops i K a w) : wpOp P ops Q' i K a w := by
  unfold stepN at hh
  unfold wpOp
  split
  · rename_i ho; simp only [ho] at hh
  · rename_i o ho
    simp only [ho] at hh
    split
    · rename_i hw; simp only [hw, if_true] at hh; exact .inl (Oper.wp_of_NI hE hh)
    · rename_i hw; simp only [hw] at hh; exact hh
theorem stepN_I {i : Nat} {a : Act} {w : World} {K : Act → World → Prop} (hI : ∀ o v, ops[i]? = some o → I (a.put o.dst v)) (hh : stepN P E ops i K a w) : stepN P E ops i (fun a' w' => I a' ∧ K a' w') a w := by
  unfold stepN at *
  split
  · rename_i ho; simp only [ho] at hh
  · rename_i o ho
    have h1 := fun v => hI o v ho
    simp only [ho] at hh
    split
    · rename_i hw
      simp only [hw, if_true] at hh
      unfold Oper.wpN at *
      generalize (execOp a.eval o).run P w = r at *
      cases r with
      | ok n w' =>
        cases n <;> simp only [Oper.upN] at hh ⊢ <;>
          first
            | exact ⟨h1 _, hh⟩
            | exact Calls.mono hh (fun e w'' h' => by
                rcases h' with ⟨v, he, hk⟩ | ⟨ch, he, hk⟩
                · exact .inl ⟨v, he, h1 v, hk⟩
                · exact .inr ⟨ch, he, hk⟩)
      | halt x w' => simp only [Oper.upN] at hh
    · rename_i hw; simp only [hw] at hh; exact ⟨h1 _, hh⟩
theorem wpAny_of_SI {Q' : Exit → Act → World → Prop} (hI : ∀ (i : Nat) (a : Act) o v, I a → ops[i]? = some o → I (a.put o.dst v)) (hE : ∀ ch (a : Act) w, I a → E ch a.defers w → Q' (.panic ch) a w) (hQ : ∀ a w, Q a w → Q' .normal a w) : ∀ (fuel : Nat) (listed : Array Bool) (a : Act) (w : World), I a → wpS P E ops C S Q fuel listed a w → wpAny P .any ops Q' fuel listed a w
  | 0, _, _, _, _, h => ⟨h.1, hQ _ _ h.2⟩
  | fuel + 1, _, a, _, ha, h => ⟨fun h0 => hQ _ _ (h.1 h0), fun i hi => wpOp_of_stepNI (fun ch w => hE ch a w ha) (stepN_mono (fun a' w' h' => wpAny_of_SI hI hE hQ fuel _ a' w' h'.1 h'.2.2) (stepN_I (I := I) (fun o v ho => hI i a o v ha ho) (h.2 i hi)))⟩
end
/-- at the end of a region, and where it panics, with deferred calls -/
def QQD (P : Program) (f : Nat) (fn : Func) (R : Ending → World → Prop) (k : List Item) : Exit → Act → World → Prop
  | .normal, a, w => J P f k a w R
  | .panic ch, a, w => Leaves P fn a.tmps R a.defers (.panicking ch) w
  | _, _, _ => False
theorem J_of_wpD {P : Program} {f : Nat} {fn : Func} (hf : P.funcs[f]? = some fn) {c : Code} {k : List Item} {a : Act} {w : World} {R : Ending → World → Prop} (h : c.wp P (QQD P f fn R k) a w) : J P f (.code c :: k) a w R := by
  unfold J
  intro b cs hb hk
  obtain ⟨e, a', w', hq, harr⟩ := h b k cs
  cases e with
  | normal =>
    have hq : J P f k a' w' R := hq
    unfold J at hq
    obtain ⟨e, w'', fr, hR, hc, hrest⟩ := hq b cs hb hk
    exact ⟨e, w'', fr, hR, Comes.of_steps harr hc, hrest⟩
  | panic ch =>
    obtain ⟨todo, hs⟩ := harr
    obtain ⟨e', w'', fr', hR', hs', hfn', hk', hl'⟩ := leaves_stepsK a'.defers (.panicking ch) w' { b.at a' todo with mode := .panicking ch } cs rfl rfl rfl (by rw [← hf]; exact congrArg (P.funcs[·]?) hb) hq
    exact ⟨e', w'', fr', hR', Comes.of_steps hs hs', hfn'.trans hb, hk', hl'⟩
  | _ => exact hq.elim
section
variable {P : Program} {f n : Nat} {R : Ending → World → Prop} {D : List Deferred} {w0 : World} {k : List Item} {ov : Ov} {H H' : List Asn} {K : KC}
  {Z : Array Oper × List Nat} {l : List Oper}
def QD (P : Program) (f n : Nat) (fn : Func) (R : Ending → World → Prop) (D : List Deferred) (base : Ov) (k : List Item) : KC :=
  ⟨fun C a => ∀ w, C w → J P f k a w R, fun ch ds w => ∀ a, Rep n D base a → Leaves P fn a.tmps R D (.panicking ch) w⟩
theorem QRD_nil {fn : Func} {base : Ov} (h : JS P f n R D w0 k ov H) : QR P n D w0 Z [] ov H (QD P f n fn R D base k) := by
  unfold QR; unfold JS at h
  exact fun a ha w hw => h a w ha hw
theorem QD_e {fn : Func} {base : Ov} {ch : List PanicEntry} {ds : List Deferred} {w : World} (h : ∀ a, Rep n D base a → Leaves P fn a.tmps R D (.panicking ch) w) : (QD P f n fn R D base k).e ch ds w := h
def baseB (base : Ov) (n : Nat) (l : List Oper) : Bool := l.all fun o => match o.dst with
  | none => true
  | some t => Nat.blt t n && (look base t).isNone
theorem Rep.stays {base : Ov} {a : Act} (h : Rep n D base a) {d : Option Nat} (hd : match d with | none => True | some t => Nat.blt t n = true ∧ look base t = none) (v : Value) : Rep n D base (a.put d v) := by
  cases d with
  | none => exact h
  | some t =>
    have h1 := h.put (d := some t) (by simpa [dOk] using hd.1) v
    refine ⟨h1.size, h1.defers, fun s x hs => h1.val s x ?_⟩
    show look ((t, v) :: base) s = some x
    rw [look_cons]
    have hne : t ≠ s := fun h' => by rw [← h', hd.2] at hs; cases hs
    rw [if_neg hne]; exact hs
theorem JS_orderD {fn : Func} (base : Ov) (hf : P.funcs[f]? = some fn) (hb : sub base ov) {id : Nat} {l : List Oper} (st sy : List Nat) {l' : List Oper} (hp : Picks l st l') (hbb : baseB base n l = true) (hm : P.follows .mixedOrders = true) (hs : Region.noSelect l.toArray = true) (hlen : st.length = l.length)
    (hB : ordB l.toArray sy [] st (Array.replicate l.length false) = true) (h : QR P n D w0 (l.toArray, sy) l' ov H (QD P f n fn R D base k)) :
    JS P f n R D w0 (.code (.region id l.toArray true) :: k) ov H := by
  unfold JS; unfold QR at h
  intro a w ha hw
  refine J_of_wpD hf (wp_region_any hm ?_)
  have h0 : ∀ j, (Array.replicate l.length false).getD j false = false := fun j => by
    rcases Nat.lt_or_ge j l.length with h | h
    · simp [h]
    · simp [h]
  have hws := wpS_walk (P := P) (E := (QD P f n fn R D base k).e) (K := (QD P f n fn R D base k).k) (sy := sy) hs st [] l' (Array.replicate l.length false) (St w0 H) a hp.map hB (by simp) (fun j => by rw [h0 j]; simp)
    (fun S _ => ⟨fun j oj _ hj => (by rw [h0 j] at hj; cases hj), fun k _ _ hk => (by rw [h0 k] at hk; cases hk)⟩) (h a ha) w.drew hw.drew
  have hI : ∀ (i : Nat) (a : Act) o v, Rep n D base a → l.toArray[i]? = some o → Rep n D base (a.put o.dst v) := fun i a o v ha ho => by
    refine ha.stays ?_ v
    unfold baseB at hbb
    rw [List.all_eq_true] at hbb
    have hmem : o ∈ l := by
      have : l[i]? = some o := by simpa using ho
      exact List.mem_of_getElem? this
    have := hbb o hmem
    cases hd : o.dst with
    | none => trivial
    | some t =>
      rw [hd] at this
      simp only [Bool.and_eq_true, Option.isNone_iff_eq_none] at this
      exact this
  have := wpAny_of_SI (I := Rep n D base) (Q' := QQD P f fn R k) hI (fun ch a w hI h => by
    show Leaves P fn a.tmps R a.defers (.panicking ch) w
    rw [hI.defers]; exact h a hI) (fun a w ⟨C, hC, hk⟩ => hk w hC) _ _ _ _ (ha.sub hb) hws
  rw [hlen] at this
  simpa using this
end
section
variable {P : Program} {n : Nat} {D : List Deferred} {w0 : World} {ov : Ov} {H : List Asn} {d : Option Nat} {T : Nat} {pos : String} {af : Array Edge} {g : Option (Nat × Bool)} {tb : Tb P}
theorem E_allocD {e : Nat} {ty : Ty} {sz by' : Nat} {cs : List Value} (hT : tlook tb.l e = some ⟨ty, sz, by', some cs⟩) (hd : dOk d n = true) : OpE (ι := Nat) P n D w0 ov H ⟨d, .alloc e, T, pos, af, g⟩ (fun b => .pointer (some ⟨b, 0, none⟩)) (fun b => blk b cs :: H) :=
  ⟨hd, fun a w ha hw => ⟨w.heap.size, w.alloc (.cells cs.toArray e), by
    obtain ⟨zv, hc, hz⟩ := Tb.run_zero w hT
    simp [execOp, Instr.alloc, newVar, newRow, cellsL_eq, hc, hz], hw.new cs e _ fun w' h' => blk_holds.2 ⟨rfl, e, h'⟩⟩⟩
end
end Sx

namespace Go.Proofs.YteelffkghidpfaaGreat
open Sx Go
set_option linter.unusedVariables false
set_option linter.unusedSimpArgs false
theorem mem_okb {B : List Int} (h : ∀ x ∈ B, 0 ≤ x ∧ x < 256) : OKB B := fun j => by
  rcases Nat.lt_or_ge j B.length with hj | hj
  · rw [List.getD_eq_getElem?_getD, List.getElem?_eq_getElem hj]; exact h _ (List.getElem_mem _)
  · rw [List.getD_eq_getElem?_getD, List.getElem?_eq_none hj]; decide
theorem Rd_dropC {w0 : World} {H : List Asn} {p : Option Addr} {m c n : Nat} {X : List Int} (h : Rd w0 H (.slice p m c) m (ints .u8 X)) (hm : X.length = m) (hn : n ≤ m) : Rd w0 H (.slice (subB p n c 1) (m - n) (c - n)) (m - n) (ints .u8 (X.drop n)) := by
  have := Rd_sub (lo := n) (hi := m) (sz := 1) h hn (Nat.le_refl _)
  rw [Nat.mul_one, Nat.mul_one, List.take_of_length_le (by simp [ints, hm])] at this
  unfold ints at this ⊢
  rw [List.map_drop]
  exact this
end Go.Proofs.YteelffkghidpfaaGreat

namespace Go.Proofs.YteelffkghidpfaaGreat
open Sx Go Hd
set_option linter.unusedVariables false
set_option linter.unusedSimpArgs false
def hd7 : List Nat := [4, 4, 4, 4, 6, 6, 6]
/-- bytes that are a histogram's plain form (plain) -/
structure RDP (B : List Int) (lo hi dg : Int) (T : List (Int × Int)) : Prop where
  err : (decs hd7 B).2.2 = 0
  mag : (decs hd7 B).1.getD 0 0 = 478450451
  len : (decs hd7 B).1.getD 1 0 = ((B.length : Int) - 40) % 18446744073709551616
  used : (decs hd7 B).2.1 = 40
  dgE : (decs hd7 B).1.getD 3 0 = dg
  loE : (decs hd7 B).1.getD 4 0 = lo
  hiE : (decs hd7 B).1.getD 5 0 = hi
  dg5 : dg ≤ 5
  lo63 : lo < 9223372036854775808
  hi63 : hi < 9223372036854775808
  sh : shOK lo hi dg
  cel : celA ((1 + bkt (uOf lo) (gOf dg) hi.toNat + 1) * 2 ^ (gOf dg - 1) : Nat) (B.drop 40) = some T
  lok : LOK lo hi dg false (1 + bkt (uOf lo) (gOf dg) hi.toNat : Nat) T
  wr : wrB lo hi dg T = B
theorem RDP.fun {B : List Int} {lo hi dg lo' hi' dg' : Int} {T T' : List (Int × Int)} (h : RDP B lo hi dg T) (h' : RDP B lo' hi' dg' T') : lo = lo' ∧ hi = hi' ∧ dg = dg' ∧ T = T' := by
  obtain rfl : lo = lo' := h.loE.symm.trans h'.loE
  obtain rfl : hi = hi' := h.hiE.symm.trans h'.hiE
  obtain rfl : dg = dg' := h.dgE.symm.trans h'.dgE
  exact ⟨rfl, rfl, rfl, Option.some.inj (h.cel.symm.trans h'.cel)⟩
theorem decs_use : ∀ (ks : List Nat) (B : List Int), OKB B → (decs ks B).2.1 ≤ B.length ∧ (∀ x ∈ (decs ks B).1, 0 ≤ x ∧ x < 18446744073709551616)
  | [], B, _ => ⟨Nat.zero_le _, fun x hx => absurd hx (by simp [decs])⟩
  | k :: ks, B, h => by
    have h1 := dec_ok k B h
    have h2 := decs_use ks (B.drop (dec k B).2.1) (h.drop _)
    rw [List.length_drop] at h2
    have h3 := h1.used
    unfold decs
    split
    · exact ⟨Nat.zero_le _, fun x hx => absurd hx (by simp)⟩
    · split
      · exact ⟨Nat.zero_le _, fun x hx => absurd hx (by simp)⟩
      · refine ⟨by dsimp only; omega, fun x hx => ?_⟩
        rcases List.mem_cons.1 hx with rfl | hx
        · exact h1.num
        · exact h2.2 x hx
theorem LOK_bu {lo hi dg : Int} {T : List (Int × Int)} {b : Nat} (h : LOK lo hi dg false b T) : ndT (uOf lo) (gOf dg) (1 + bkt (uOf lo) (gOf dg) hi.toNat) T = b := by
  have := h.2.2.2.1; omega
section
variable {w0 : World} {H : List Asn}
/-- a histogram that was read -/
abbrev rdH (bh mb bm : Nat) (lo hi dg : Int) (es : List MapEntry) (clock : Nat) (T : List (Int × Int)) (H : List Asn) : List Asn :=
  blk bh (hc mb bm false (1 + bkt (uOf lo) (gOf dg) hi.toNat) (sw T)) :: mapL bm es clock :: blk mb (mc lo hi dg (uOf lo) (gOf dg)) :: H
def ReadR (w0 : World) (H : List Asn) (B : List Int) : Ending → World → Prop := fun e w' =>
  ((∀ lo hi dg T, ¬ RDP B lo hi dg T) ∧ e = .returned (.tuple #[.pointer none, .int .i64 9]) ∧ St w0 H w') ∨
  (∃ lo hi dg T, RDP B lo hi dg T ∧ T.length ≤ B.length ∧ GT T ∧ ∃ bh mb bm es clock, HM es clock T ∧ e = .returned (.tuple #[.pointer (some ⟨bh, 0, none⟩), .int .i64 0]) ∧ St w0 (rdH bh mb bm lo hi dg es clock T H) w')
set_option maxRecDepth 10000 in
set_option maxHeartbeats 8000000 in
theorem HRead_c (p : Option Addr) (c m : Nat) (B : List Int) (hr : Rd w0 H (.slice p m c) m (ints .u8 B)) (hm : B.length = m) (hB : OKB B) (hm1 : m ≤ 1000000) (hpm : p = none → m = 0) (w : World) (hw : St w0 H w) :
    Calls Tryz.prog 38 #[.slice p m c] w (ReadR w0 H B) := by
  have hmc : m ≤ c := (hr.lcap hw).1
  have hus := decs_use hd7 B hB
  have hGet := fun {H'} (hr' : Rd w0 H' (.slice p m c) m (ints .u8 B)) w hw => Get_c (w0 := w0) (H := H') hd7 (by decide) (by decide) p c m B hr' hm hB (by omega) hpm w hw
  refine enter (vs := [.slice p m c]) Tryz.func38 rfl rfl rfl hw ?_
  clear hw w
  unfold ReadR
  repeat (first | (apply gJO; refine JO_defer rfl rfl ?_) | first | (refine sx ?_; try intro _))
  rename_i xb eb
  refine JO_call (vs := [.string (bstr [87, 87, 87, 87, 81, 81, 81]), .slice p m c]) Tryz.call66 rfl rfl fun w hw => (hGet (Rd_weak hr fun w hw => dS hw) w hw).mono ?_
  rintro e w' (⟨he, rfl, hw'⟩ | ⟨he, hl7, q, d, rfl, hw'⟩)
  · -- the head cannot be read
    have hno : ∀ lo hi dg T, ¬ RDP B lo hi dg T := fun lo hi dg T h => he h.err
    (refine ⟨_, rfl, _, hw', ?_⟩; clear hw' hw w w')
    generalize (decs hd7 B).2.2 = er at *
    repeat (first | (refine sx ?_; try intro _))
    refine JO_callE Tryz.func38 Tryz.call68 rfl rfl fun A hA w hw => (Need19_c _ w hw).mono ?_
    rintro e w' (⟨h, rfl, hw'⟩ | ⟨h, rfl, hw'⟩)
    · (exact absurd h (by first | (simp; done) | (simp; omega)))
    · (exact .inr ⟨_, rfl, LvR_err (hA.sub (by repeat (first | exact trivial | refine ⟨rfl, ?_⟩ | refine ⟨lookI rfl (by omega), ?_⟩))) (dS hw') fun w hw => .inl ⟨hno, rfl, hw⟩⟩)
  have hlen7 : hd7.length = 7 := rfl
  rw [hlen7] at hl7 hw'
  rw [hlen7]
  have hmg := fun lo hi dg T (h : RDP B lo hi dg T) => h.mag
  have hlg := fun lo hi dg T (h : RDP B lo hi dg T) => h.len
  have hud := fun lo hi dg T (h : RDP B lo hi dg T) => h.used
  have hdg := fun lo hi dg T (h : RDP B lo hi dg T) => h.dgE
  have hlo := fun lo hi dg T (h : RDP B lo hi dg T) => h.loE
  have hhi := fun lo hi dg T (h : RDP B lo hi dg T) => h.hiE
  have hmk := fun (lo hi dg : Int) T h1 h2 h3 h4 h5 h6 => RDP.mk (B := B) (lo := lo) (hi := hi) (dg := dg) (T := T) he h1 h2 h3 h4 h5 h6
  clear hGet
  generalize (decs hd7 B).1 = F at *
  generalize (decs hd7 B).2.1 = us at *
  match F, hl7 with
  | [f0, f1, f2, f3, f4, f5, f6], _ =>
  have b0 := hus.2 f0 (by simp)
  have b1 := hus.2 f1 (by simp)
  have b3 := hus.2 f3 (by simp)
  have b4 := hus.2 f4 (by simp)
  have b5 := hus.2 f5 (by simp)
  simp only [List.getD_cons_zero, List.getD_cons_succ] at hmg hlg hdg hlo hhi hmk
  (refine ⟨_, rfl, _, hw', ?_⟩; clear hw' hw w w')
  have g0 : (ints .u64 [f0, f1, f2, f3, f4, f5, f6])[0]? = some (.int .u64 f0) := rfl
  have g1 : (ints .u64 [f0, f1, f2, f3, f4, f5, f6])[1]? = some (.int .u64 f1) := rfl
  have g3 : (ints .u64 [f0, f1, f2, f3, f4, f5, f6])[3]? = some (.int .u64 f3) := rfl
  have g4 : (ints .u64 [f0, f1, f2, f3, f4, f5, f6])[4]? = some (.int .u64 f4) := rfl
  have g5 : (ints .u64 [f0, f1, f2, f3, f4, f5, f6])[5]? = some (.int .u64 f5) := rfl
  have cL : IntKind.i64.wrap ((m : Int) - 40) = (m : Int) - 40 := wi64 (by omega)
  have cU : IntKind.u64.wrap ((m : Int) - 40) = ((m : Int) - 40) % 18446744073709551616 := mu64 _
  rw [hm] at hlg hmk
  generalize hwl : ((m : Int) - 40) % 18446744073709551616 = wl at *
  have hcase : (¬ f0 = 478450451) ∨ (f0 = 478450451 ∧ ¬ f1 = wl) ∨ (f0 = 478450451 ∧ f1 = wl ∧ ¬ us = 40) ∨ (f0 = 478450451 ∧ f1 = wl ∧ us = 40) := by omega
  rcases hcase with h0 | ⟨h0, h1⟩ | ⟨h0, h1, h2⟩ | ⟨h0, h1, h2⟩
  · have hno : ∀ lo hi dg T, ¬ RDP B lo hi dg T := fun lo hi dg T h => h0 (hmg _ _ _ _ h)
    repeat (first | (apply gJO; first | refine JO_v (V_sub rfl rfl cL rfl) ?_ | refine JO_v (V_conv (tb := tb) rfl rfl rfl cU rfl) ?_ | refine JO_v (oL (V_loadC (tb := tb) rfl (vec_rd (by repeat (first | apply List.Mem.head | apply List.Mem.tail))) rfl rfl g0 rfl)) ?_ | refine JO_v (oL (V_loadC (tb := tb) rfl (vec_rd (by repeat (first | apply List.Mem.head | apply List.Mem.tail))) rfl rfl g1 rfl)) ?_ | refine JO_v (oL (V_loadC (tb := tb) rfl (vec_rd (by repeat (first | apply List.Mem.head | apply List.Mem.tail))) rfl rfl g3 rfl)) ?_ | refine JO_v (oL (V_loadC (tb := tb) rfl (vec_rd (by repeat (first | apply List.Mem.head | apply List.Mem.tail))) rfl rfl g4 rfl)) ?_ | refine JO_v (oL (V_loadC (tb := tb) rfl (vec_rd (by repeat (first | apply List.Mem.head | apply List.Mem.tail))) rfl rfl g5 rfl)) ?_) | first | (refine sx ?_; try intro _))
    refine JO_callE Tryz.func38 Tryz.call68 rfl rfl fun A hA w hw => (Need19_c _ w hw).mono ?_
    rintro e w' (⟨h, rfl, hw'⟩ | ⟨h, rfl, hw'⟩)
    · (exact absurd h (by first | (simp; done) | (simp; omega)))
    · (exact .inr ⟨_, rfl, LvR_err (hA.sub (by repeat (first | exact trivial | refine ⟨rfl, ?_⟩ | refine ⟨lookI rfl (by omega), ?_⟩))) (dS hw') fun w hw => .inl ⟨hno, rfl, hw⟩⟩)
  · have hno : ∀ lo hi dg T, ¬ RDP B lo hi dg T := fun lo hi dg T h => h1 (hlg _ _ _ _ h)
    repeat (first | (apply gJO; first | refine JO_v (V_sub rfl rfl cL rfl) ?_ | refine JO_v (V_conv (tb := tb) rfl rfl rfl cU rfl) ?_ | refine JO_v (oL (V_loadC (tb := tb) rfl (vec_rd (by repeat (first | apply List.Mem.head | apply List.Mem.tail))) rfl rfl g0 rfl)) ?_ | refine JO_v (oL (V_loadC (tb := tb) rfl (vec_rd (by repeat (first | apply List.Mem.head | apply List.Mem.tail))) rfl rfl g1 rfl)) ?_ | refine JO_v (oL (V_loadC (tb := tb) rfl (vec_rd (by repeat (first | apply List.Mem.head | apply List.Mem.tail))) rfl rfl g3 rfl)) ?_ | refine JO_v (oL (V_loadC (tb := tb) rfl (vec_rd (by repeat (first | apply List.Mem.head | apply List.Mem.tail))) rfl rfl g4 rfl)) ?_ | refine JO_v (oL (V_loadC (tb := tb) rfl (vec_rd (by repeat (first | apply List.Mem.head | apply List.Mem.tail))) rfl rfl g5 rfl)) ?_) | first | (refine sx ?_; try intro _))
    refine JO_callE Tryz.func38 Tryz.call68 rfl rfl fun A hA w hw => (Need19_c _ w hw).mono ?_
    rintro e w' (⟨h, rfl, hw'⟩ | ⟨h, rfl, hw'⟩)
    · (exact absurd h (by first | (simp; done) | (simp; omega)))
    · (exact .inr ⟨_, rfl, LvR_err (hA.sub (by repeat (first | exact trivial | refine ⟨rfl, ?_⟩ | refine ⟨lookI rfl (by omega), ?_⟩))) (dS hw') fun w hw => .inl ⟨hno, rfl, hw⟩⟩)
  · have hno : ∀ lo hi dg T, ¬ RDP B lo hi dg T := fun lo hi dg T h => h2 (hud _ _ _ _ h)
    repeat (first | (apply gJO; first | refine JO_v (V_sub rfl rfl cL rfl) ?_ | refine JO_v (V_conv (tb := tb) rfl rfl rfl cU rfl) ?_ | refine JO_v (oL (V_loadC (tb := tb) rfl (vec_rd (by repeat (first | apply List.Mem.head | apply List.Mem.tail))) rfl rfl g0 rfl)) ?_ | refine JO_v (oL (V_loadC (tb := tb) rfl (vec_rd (by repeat (first | apply List.Mem.head | apply List.Mem.tail))) rfl rfl g1 rfl)) ?_ | refine JO_v (oL (V_loadC (tb := tb) rfl (vec_rd (by repeat (first | apply List.Mem.head | apply List.Mem.tail))) rfl rfl g3 rfl)) ?_ | refine JO_v (oL (V_loadC (tb := tb) rfl (vec_rd (by repeat (first | apply List.Mem.head | apply List.Mem.tail))) rfl rfl g4 rfl)) ?_ | refine JO_v (oL (V_loadC (tb := tb) rfl (vec_rd (by repeat (first | apply List.Mem.head | apply List.Mem.tail))) rfl rfl g5 rfl)) ?_) | first | (refine sx ?_; try intro _))
    refine JO_callE Tryz.func38 Tryz.call68 rfl rfl fun A hA w hw => (Need19_c _ w hw).mono ?_
    rintro e w' (⟨h, rfl, hw'⟩ | ⟨h, rfl, hw'⟩)
    · (exact absurd h (by first | (simp; done) | (simp; omega)))
    · (exact .inr ⟨_, rfl, LvR_err (hA.sub (by repeat (first | exact trivial | refine ⟨rfl, ?_⟩ | refine ⟨lookI rfl (by omega), ?_⟩))) (dS hw') fun w hw => .inl ⟨hno, rfl, hw⟩⟩)
  repeat (first | (apply gJO; first | refine JO_v (V_sub rfl rfl cL rfl) ?_ | refine JO_v (V_conv (tb := tb) rfl rfl rfl cU rfl) ?_ | refine JO_v (oL (V_loadC (tb := tb) rfl (vec_rd (by repeat (first | apply List.Mem.head | apply List.Mem.tail))) rfl rfl g0 rfl)) ?_ | refine JO_v (oL (V_loadC (tb := tb) rfl (vec_rd (by repeat (first | apply List.Mem.head | apply List.Mem.tail))) rfl rfl g1 rfl)) ?_ | refine JO_v (oL (V_loadC (tb := tb) rfl (vec_rd (by repeat (first | apply List.Mem.head | apply List.Mem.tail))) rfl rfl g3 rfl)) ?_ | refine JO_v (oL (V_loadC (tb := tb) rfl (vec_rd (by repeat (first | apply List.Mem.head | apply List.Mem.tail))) rfl rfl g4 rfl)) ?_ | refine JO_v (oL (V_loadC (tb := tb) rfl (vec_rd (by repeat (first | apply List.Mem.head | apply List.Mem.tail))) rfl rfl g5 rfl)) ?_) | first | (refine sx ?_; try intro _))
  refine JO_callE Tryz.func38 Tryz.call68 rfl rfl fun A hA w hw => (Need19_c _ w hw).mono ?_
  rintro e w' (⟨h, rfl, hw'⟩ | ⟨h, rfl, hw'⟩)
  rotate_left
  · (exact absurd h (by first | (simp; done) | (simp; omega)))
  (refine .inl ⟨_, rfl, _, hw', ?_⟩; clear hw' hw w w' hA A h)
  have hcase : (¬ f3 ≤ 5) ∨ (f3 ≤ 5 ∧ ¬ f4 < 9223372036854775808) ∨ (f3 ≤ 5 ∧ f4 < 9223372036854775808 ∧ ¬ f5 < 9223372036854775808) ∨ (f3 ≤ 5 ∧ f4 < 9223372036854775808 ∧ f5 < 9223372036854775808) := by omega
  rcases hcase with h3 | ⟨h3, h4⟩ | ⟨h3, h4, h5⟩ | ⟨h3, h4, h5⟩
  · have hno : ∀ lo hi dg T, ¬ RDP B lo hi dg T := fun lo hi dg T h => h3 (by rw [hdg _ _ _ _ h]; exact h.dg5)
    repeat (first | (apply gJO; first | refine JO_v (V_sub rfl rfl cL rfl) ?_ | refine JO_v (V_conv (tb := tb) rfl rfl rfl cU rfl) ?_ | refine JO_v (oL (V_loadC (tb := tb) rfl (vec_rd (by repeat (first | apply List.Mem.head | apply List.Mem.tail))) rfl rfl g0 rfl)) ?_ | refine JO_v (oL (V_loadC (tb := tb) rfl (vec_rd (by repeat (first | apply List.Mem.head | apply List.Mem.tail))) rfl rfl g1 rfl)) ?_ | refine JO_v (oL (V_loadC (tb := tb) rfl (vec_rd (by repeat (first | apply List.Mem.head | apply List.Mem.tail))) rfl rfl g3 rfl)) ?_ | refine JO_v (oL (V_loadC (tb := tb) rfl (vec_rd (by repeat (first | apply List.Mem.head | apply List.Mem.tail))) rfl rfl g4 rfl)) ?_ | refine JO_v (oL (V_loadC (tb := tb) rfl (vec_rd (by repeat (first | apply List.Mem.head | apply List.Mem.tail))) rfl rfl g5 rfl)) ?_) | first | (refine sx ?_; try intro _))
    refine JO_callE Tryz.func38 Tryz.call68 rfl rfl fun A hA w hw => (Need19_c _ w hw).mono ?_
    rintro e w' (⟨h, rfl, hw'⟩ | ⟨h, rfl, hw'⟩)
    · (exact absurd h (by first | (simp; done) | (simp; omega)))
    · (exact .inr ⟨_, rfl, LvR_err (hA.sub (by repeat (first | exact trivial | refine ⟨rfl, ?_⟩ | refine ⟨lookI rfl (by omega), ?_⟩))) (dS hw') fun w hw => .inl ⟨hno, rfl, hw⟩⟩)
  · have hno : ∀ lo hi dg T, ¬ RDP B lo hi dg T := fun lo hi dg T h => h4 (by rw [hlo _ _ _ _ h]; exact h.lo63)
    repeat (first | (apply gJO; first | refine JO_v (V_sub rfl rfl cL rfl) ?_ | refine JO_v (V_conv (tb := tb) rfl rfl rfl cU rfl) ?_ | refine JO_v (oL (V_loadC (tb := tb) rfl (vec_rd (by repeat (first | apply List.Mem.head | apply List.Mem.tail))) rfl rfl g0 rfl)) ?_ | refine JO_v (oL (V_loadC (tb := tb) rfl (vec_rd (by repeat (first | apply List.Mem.head | apply List.Mem.tail))) rfl rfl g1 rfl)) ?_ | refine JO_v (oL (V_loadC (tb := tb) rfl (vec_rd (by repeat (first | apply List.Mem.head | apply List.Mem.tail))) rfl rfl g3 rfl)) ?_ | refine JO_v (oL (V_loadC (tb := tb) rfl (vec_rd (by repeat (first | apply List.Mem.head | apply List.Mem.tail))) rfl rfl g4 rfl)) ?_ | refine JO_v (oL (V_loadC (tb := tb) rfl (vec_rd (by repeat (first | apply List.Mem.head | apply List.Mem.tail))) rfl rfl g5 rfl)) ?_) | first | (refine sx ?_; try intro _))
    refine JO_callE Tryz.func38 Tryz.call68 rfl rfl fun A hA w hw => (Need19_c _ w hw).mono ?_
    rintro e w' (⟨h, rfl, hw'⟩ | ⟨h, rfl, hw'⟩)
    · (exact absurd h (by first | (simp; done) | (simp; omega)))
    · (exact .inr ⟨_, rfl, LvR_err (hA.sub (by repeat (first | exact trivial | refine ⟨rfl, ?_⟩ | refine ⟨lookI rfl (by omega), ?_⟩))) (dS hw') fun w hw => .inl ⟨hno, rfl, hw⟩⟩)
  · have hno : ∀ lo hi dg T, ¬ RDP B lo hi dg T := fun lo hi dg T h => h5 (by rw [hhi _ _ _ _ h]; exact h.hi63)
    repeat (first | (apply gJO; first | refine JO_v (V_sub rfl rfl cL rfl) ?_ | refine JO_v (V_conv (tb := tb) rfl rfl rfl cU rfl) ?_ | refine JO_v (oL (V_loadC (tb := tb) rfl (vec_rd (by repeat (first | apply List.Mem.head | apply List.Mem.tail))) rfl rfl g0 rfl)) ?_ | refine JO_v (oL (V_loadC (tb := tb) rfl (vec_rd (by repeat (first | apply List.Mem.head | apply List.Mem.tail))) rfl rfl g1 rfl)) ?_ | refine JO_v (oL (V_loadC (tb := tb) rfl (vec_rd (by repeat (first | apply List.Mem.head | apply List.Mem.tail))) rfl rfl g3 rfl)) ?_ | refine JO_v (oL (V_loadC (tb := tb) rfl (vec_rd (by repeat (first | apply List.Mem.head | apply List.Mem.tail))) rfl rfl g4 rfl)) ?_ | refine JO_v (oL (V_loadC (tb := tb) rfl (vec_rd (by repeat (first | apply List.Mem.head | apply List.Mem.tail))) rfl rfl g5 rfl)) ?_) | first | (refine sx ?_; try intro _))
    refine JO_callE Tryz.func38 Tryz.call68 rfl rfl fun A hA w hw => (Need19_c _ w hw).mono ?_
    rintro e w' (⟨h, rfl, hw'⟩ | ⟨h, rfl, hw'⟩)
    · (exact absurd h (by first | (simp; done) | (simp; omega)))
    · (exact .inr ⟨_, rfl, LvR_err (hA.sub (by repeat (first | exact trivial | refine ⟨rfl, ?_⟩ | refine ⟨lookI rfl (by omega), ?_⟩))) (dS hw') fun w hw => .inl ⟨hno, rfl, hw⟩⟩)
  repeat (first | (apply gJO; first | refine JO_v (V_sub rfl rfl cL rfl) ?_ | refine JO_v (V_conv (tb := tb) rfl rfl rfl cU rfl) ?_ | refine JO_v (oL (V_loadC (tb := tb) rfl (vec_rd (by repeat (first | apply List.Mem.head | apply List.Mem.tail))) rfl rfl g0 rfl)) ?_ | refine JO_v (oL (V_loadC (tb := tb) rfl (vec_rd (by repeat (first | apply List.Mem.head | apply List.Mem.tail))) rfl rfl g1 rfl)) ?_ | refine JO_v (oL (V_loadC (tb := tb) rfl (vec_rd (by repeat (first | apply List.Mem.head | apply List.Mem.tail))) rfl rfl g3 rfl)) ?_ | refine JO_v (oL (V_loadC (tb := tb) rfl (vec_rd (by repeat (first | apply List.Mem.head | apply List.Mem.tail))) rfl rfl g4 rfl)) ?_ | refine JO_v (oL (V_loadC (tb := tb) rfl (vec_rd (by repeat (first | apply List.Mem.head | apply List.Mem.tail))) rfl rfl g5 rfl)) ?_) | first | (refine sx ?_; try intro _))
  refine JO_callE Tryz.func38 Tryz.call68 rfl rfl fun A hA w hw => (Need19_c _ w hw).mono ?_
  rintro e w' (⟨h, rfl, hw'⟩ | ⟨h, rfl, hw'⟩)
  rotate_left
  · (exact absurd h (by first | (simp; done) | (simp; omega)))
  (refine .inl ⟨_, rfl, _, hw', ?_⟩; clear hw' hw w w' hA A h)
  have c3 : IntKind.i64.wrap f3 = f3 := wi64 (by omega)
  have c4 : IntKind.i64.wrap f4 = f4 := wi64 (by omega)
  have c5 : IntKind.i64.wrap f5 = f5 := wi64 (by omega)
  repeat (first | (apply gQO; first | (refine QO_e (E_allocD (tb := tb) rfl rfl) rfl (.inr fun _ w hw => hw.drop) ?_; intro _) | refine QO_v rfl (oL (V_loadC (tb := tb) rfl (vec_rd (by repeat (first | apply List.Mem.head | apply List.Mem.tail))) rfl rfl g3 rfl)) ?_ | refine QO_v rfl (oL (V_loadC (tb := tb) rfl (vec_rd (by repeat (first | apply List.Mem.head | apply List.Mem.tail))) rfl rfl g4 rfl)) ?_ | refine QO_v rfl (oL (V_loadC (tb := tb) rfl (vec_rd (by repeat (first | apply List.Mem.head | apply List.Mem.tail))) rfl rfl g5 rfl)) ?_ | refine QO_v rfl (V_conv (tb := tb) rfl rfl rfl c3 rfl) ?_ | refine QO_v rfl (V_conv (tb := tb) rfl rfl rfl c4 rfl) ?_ | refine QO_v rfl (V_conv (tb := tb) rfl rfl rfl c5 rfl) ?_) | first | (refine sx ?_; try intro _))
  rename_i hb
  refine JO_call Tryz.call71 rfl rfl fun w hw => (MNew_c f4 f5 f3 (by omega) (by omega) (by omega) w hw).mono ?_
  rintro e w' (⟨hsh, rfl, hw'⟩ | ⟨hsh, mb0, rfl, hw'⟩)
  · have hno : ∀ lo hi dg T, ¬ RDP B lo hi dg T := fun lo hi dg T h => hsh (by rw [hlo _ _ _ _ h, hhi _ _ _ _ h, hdg _ _ _ _ h]; exact h.sh)
    (refine ⟨_, rfl, _, hw', ?_⟩; clear hw' hw w w')
    repeat (first | (refine sx ?_; try intro _))
    refine JO_callE Tryz.func38 Tryz.call68 rfl rfl fun A hA w hw => (Need19_c _ w hw).mono ?_
    rintro e w' (⟨h, rfl, hw'⟩ | ⟨h, rfl, hw'⟩)
    · (exact absurd h (by first | (simp; done) | (simp; omega)))
    · (exact .inr ⟨_, rfl, LvR_err (hA.sub (by repeat (first | exact trivial | refine ⟨rfl, ?_⟩ | refine ⟨lookI rfl (by omega), ?_⟩))) (dS hw') fun w hw => .inl ⟨hno, rfl, hw⟩⟩)
  (refine ⟨_, rfl, _, hw', ?_⟩; clear hw' hw w w')
  repeat (first | (refine sx ?_; try intro _))
  refine JO_callE Tryz.func38 Tryz.call68 rfl rfl fun A hA w hw => (Need19_c _ w hw).mono ?_
  rintro e w' (⟨h, rfl, hw'⟩ | ⟨h, rfl, hw'⟩)
  rotate_left
  · (exact absurd h (by first | (simp; done) | (simp; omega)))
  (refine .inl ⟨_, rfl, _, hw', ?_⟩; clear hw' hw w w' hA A h)
  have hgd := gOf_bd (dg := f3) ⟨hsh.1.1, h3⟩
  have hug := hsh.2
  have hbk : bkt (uOf f4) (gOf f3) f5.toNat ≤ 63 := by
    have := bl_v (v := f5.toNat) (by omega)
    unfold bkt; omega
  have hbk2 : bkt (uOf f4) (gOf f3) f5.toNat + 1 ≤ 64 := by omega
  repeat (first | (refine sx ?_; try intro _))
  refine JO_call Tryz.call72 rfl rfl fun w hw => (MBuckets_c mb0 (List.Mem.head _) hug f5 (by omega) w hw).mono ?_
  rintro e w' ⟨rfl, hw'⟩
  (refine ⟨_, rfl, _, hw', ?_⟩; clear hw' hw w w')
  have hp17 := Nat.pow_le_pow_right (n := 2) (by decide) (show gOf f3 - 1 ≤ 17 by omega)
  have hmost : (1 + bkt (uOf f4) (gOf f3) f5.toNat + 1) * 2 ^ (gOf f3 - 1) ≤ 1000000000 := by
    have : (1 + bkt (uOf f4) (gOf f3) f5.toNat + 1) * 2 ^ (gOf f3 - 1) ≤ 66 * 2 ^ 17 := Nat.mul_le_mul (by omega) hp17
    omega
  have hm40 : 40 ≤ m := by omega
  have hrD : Rd w0 H (.slice (subB p 40 c 1) (m - 40) (c - 40)) (m - 40) (ints .u8 (B.drop 40)) := Rd_dropC hr hm hm40
  have hCe := fun {H'} (hr' : Rd w0 H' (.slice (subB p 40 c 1) (m - 40) (c - 40)) (m - 40) (ints .u8 (B.drop 40))) w hw => Cells_c (w0 := w0) (H := H') (subB p 40 c 1) (c - 40) (m - 40) (B.drop 40) hr' (by rw [List.length_drop, hm]) (hB.drop 40) (by omega) (fun h => by
    cases p with
    | none => have := hpm rfl; omega
    | some a => unfold subB at h; split at h <;> simp at h) _ hmost w hw
  have hLd := fun {H'} (q : Option Addr) (d : Nat) (T : List (Int × Int)) (hT : OKT T) (hl : T.length ≤ 1000000) (hr' : Rd w0 H' (.slice q T.length d) T.length (flat T)) w hw => HLoad_c (w0 := w0) (H := H') (lo := f4) (hi := f5) (dg := f3) false (1 + bkt (uOf f4) (gOf f3) f5.toNat : Nat) q d T (by omega) (by omega) (by omega) (by omega) hr' hT hl w hw
  have hMC := fun {H'} (hM : blk mb0 (mc f4 f5 f3 (uOf f4) (gOf f3)) ∈ H') w hw => MCells_c (w0 := w0) (H := H') mb0 hM (by omega) (1 + bkt (uOf f4) (gOf f3) f5.toNat) (by omega) w hw
  have hWr := fun {H'} (bh mb bm : Nat) (es : List MapEntry) (clock : Nat) (T : List (Int × Int)) (hlk : LOK f4 f5 f3 false (1 + bkt (uOf f4) (gOf f3) f5.toNat : Nat) T) (x1 : blk bh (hc mb bm false (1 + bkt (uOf f4) (gOf f3) f5.toNat) (sw T)) ∈ H') (x2 : mapL bm es clock ∈ H') (x3 : blk mb (mc f4 f5 f3 (uOf f4) (gOf f3)) ∈ H') (hE : HM es clock T) (hG : GT T) (hl : T.length ≤ 1000000) w hw => HWrite_c (w0 := w0) (H := H') bh mb bm false (1 + bkt (uOf f4) (gOf f3) f5.toNat) es clock T x1 x2 x3 hE hG hug (by omega) (by omega) hl (by omega) (by omega) (by omega) w hw
  have hrc : rchv (uOf f4) (gOf f3) f5 (1 + bkt (uOf f4) (gOf f3) f5.toNat) = f5 := if_pos rfl
  rw [hrc] at hWr
  have hbuE := fun T (h : LOK f4 f5 f3 false (1 + bkt (uOf f4) (gOf f3) f5.toNat : Nat) T) => LOK_bu h
  have hGT := fun T (hT : OKT T) (h : LOK f4 f5 f3 false (1 + bkt (uOf f4) (gOf f3) f5.toNat : Nat) T) => right_gt hug (by omega) hT h.2.1 h.2.2.1
  have hmk2 := fun T => hmk f4 f5 f3 T h0 h1 h2 rfl rfl rfl h3 h4 h5 hsh
  have hcel := fun lo hi dg T (h : RDP B lo hi dg T) => show celA ((1 + bkt (uOf f4) (gOf f3) f5.toNat + 1) * 2 ^ (gOf f3 - 1) : Nat) (B.drop 40) = some T by
    have e1 := hlo _ _ _ _ h
    have e2 := hhi _ _ _ _ h
    have e3 := hdg _ _ _ _ h
    subst e1 e2 e3
    exact h.cel
  have hlk0 := fun lo hi dg T (h : RDP B lo hi dg T) => show LOK f4 f5 f3 false (1 + bkt (uOf f4) (gOf f3) f5.toNat : Nat) T by
    have e1 := hlo _ _ _ _ h
    have e2 := hhi _ _ _ _ h
    have e3 := hdg _ _ _ _ h
    subst e1 e2 e3
    exact h.lok
  have hwr0 := fun lo hi dg T (h : RDP B lo hi dg T) => show wrB f4 f5 f3 T = B by
    have e1 := hlo _ _ _ _ h
    have e2 := hhi _ _ _ _ h
    have e3 := hdg _ _ _ _ h
    subst e1 e2 e3
    exact h.wr
  clear hmk hmg hlg hud hrc
  generalize hbq : 1 + bkt (uOf f4) (gOf f3) f5.toNat = bq at *
  generalize hmq : (bq + 1) * 2 ^ (gOf f3 - 1) = most at *
  repeat (first | apply hIx 9 | first | (refine sx ?_; try intro _))
  refine Hold.go ?_
  refine JS_seq ?_
  refine JS_orderD [(2, .pointer (some ⟨xb, 0, none⟩)), (3, .pointer (some ⟨eb, 0, none⟩))] Tryz.func38 (by repeat (first | exact trivial | refine ⟨rfl, ?_⟩ | refine ⟨lookI rfl (by omega), ?_⟩)) [0, 1, 2, 3, 4, 5, 6, 7, 8, 9, 10, 11, 12, 13] [1, 0] (Picks.cons rfl (Picks.cons rfl (Picks.cons rfl (Picks.cons rfl (Picks.cons rfl (Picks.cons rfl (Picks.cons rfl (Picks.cons rfl (Picks.cons rfl (Picks.cons rfl (Picks.cons rfl (Picks.cons rfl (Picks.cons rfl (Picks.cons rfl (Picks.nil))))))))))))))) (by kernel_rfl) (by kernel_rfl) (by kernel_rfl) rfl (by decide +kernel) ?_
  repeat (first | (apply gQO; first | refine QO_v rfl (oL (V_loadA (tb := tb) rfl (by repeat (first | apply List.Mem.head | apply List.Mem.tail)) rfl rfl rfl rfl)) ?_ | refine QO_v rfl (V_slice (tb := tb) (lo := 40) (hi := m) rfl rfl rfl rfl rfl rfl (by omega) (fun w hw => ⟨by omega, by omega⟩) rfl) ?_) | first | (refine sx ?_; try intro _))
  refine QO_call Tryz.call75 rfl rfl fun w hw => (hMC (List.Mem.head _) w hw).mono ?_
  rintro e w' ⟨rfl, hw'⟩
  refine ⟨_, rfl, _, hw', .inl fun w hw => hw, ?_⟩
  clear hw' hw w w'
  repeat (first | (refine sx ?_; try intro _))
  refine QO_callE Tryz.call74 rfl rfl fun w hw => (hCe (Rd_weak hrD fun w hw => dS hw) w hw).mono ?_
  rintro e w' (⟨hn, rfl, hw'⟩ | ⟨T, q2, d2, hT, hTl, hTO, rfl, hw'⟩)
  · have hno : ∀ lo hi dg T, ¬ RDP B lo hi dg T := fun lo hi dg T h => by
      have := hcel _ _ _ _ h
      rw [hn] at this; cases this
    exact .inr ⟨_, rfl, QD_e fun a ha => LvR_err ha (dS hw') fun w hw => .inl ⟨hno, rfl, hw⟩⟩
  have hTu := fun lo hi dg T' (h : RDP B lo hi dg T') => show T' = T from Option.some.inj ((hcel _ _ _ _ h).symm.trans hT)
  refine .inl ⟨_, rfl, _, hw', .inl fun w hw => hw.drop, ?_⟩
  clear hw' hw w w' hCe hcel
  repeat (first | (refine sx ?_; try intro _))
  refine QO_call Tryz.call73 rfl rfl fun w hw => (hLd q2 d2 T hTO (by omega) (vec_rd (List.Mem.head _)) w hw).mono ?_
  rintro e w' (⟨hlk, rfl, hw'⟩ | ⟨hlk, bh, mb, bm, es, clock, rfl, hE, hw'⟩)
  · have hno : ∀ lo hi dg T, ¬ RDP B lo hi dg T := fun lo hi dg T' h => by
      obtain rfl := hTu _ _ _ _ h
      exact hlk (hlk0 _ _ _ _ h)
    refine ⟨_, rfl, _, hw', .inl fun w hw => hw, ?_⟩
    clear hw' hw w w'
    repeat (first | (apply gQO; refine QO_k rfl (K_store (tb := tb) rfl rfl (by repeat (first | apply Upd.here | apply Upd.there)) rfl rfl rfl (by repeat (first | exact trivial | refine ⟨rfl, ?_⟩)) rfl rfl) rfl ?_) | apply QRD_nil | first | (refine sx ?_; try intro _))
    refine JO_callE Tryz.func38 Tryz.call68 rfl rfl fun A hA w hw => (Need19_c _ w hw).mono ?_
    rintro e w' (⟨h, rfl, hw'⟩ | ⟨h, rfl, hw'⟩)
    · (exact absurd h (by first | (simp; done) | (simp; omega)))
    · (exact .inr ⟨_, rfl, LvR_err (hA.sub (by repeat (first | exact trivial | refine ⟨rfl, ?_⟩ | refine ⟨lookI rfl (by omega), ?_⟩))) (dS hw') fun w hw => .inl ⟨hno, rfl, hw⟩⟩)
  have hG := hGT T hTO hlk
  rw [hbuE T hlk] at hw'
  refine ⟨_, rfl, _, hw', .inl fun w hw => hw.drop.drop.drop, ?_⟩
  clear hw' hw w w' hLd
  repeat (first | (apply gQO; refine QO_k rfl (K_store (tb := tb) rfl rfl (by repeat (first | apply Upd.here | apply Upd.there)) rfl rfl rfl (by repeat (first | exact trivial | refine ⟨rfl, ?_⟩)) rfl rfl) rfl ?_) | apply QRD_nil | first | (refine sx ?_; try intro _))
  refine JO_callE Tryz.func38 Tryz.call68 rfl rfl fun A hA w hw => (Need19_c _ w hw).mono ?_
  rintro e w' (⟨h, rfl, hw'⟩ | ⟨h, rfl, hw'⟩)
  rotate_left
  · (exact absurd h (by first | (simp; done) | (simp; omega)))
  (refine .inl ⟨_, rfl, _, hw', ?_⟩; clear hw' hw w w' hA A h)
  repeat (first | (refine sx ?_; try intro _))
  refine JO_call Tryz.call32 rfl rfl fun w hw => (hWr bh mb bm es clock T hlk (List.Mem.head _) (List.Mem.tail _ (List.Mem.head _)) (List.Mem.tail _ (List.Mem.tail _ (List.Mem.head _))) hE hG (by omega) w hw).mono ?_
  rintro e w' ⟨p3, c3', rfl, hw'⟩
  (refine ⟨_, rfl, _, hw', ?_⟩; clear hw' hw w w')
  repeat (first | (refine sx ?_; try intro _))
  refine JO_call Tryz.call70 rfl rfl fun w hw => (Equal_c p3 p c3' c _ m (wrB f4 f5 f3 T) B (vec_rd (List.Mem.head _)) (Rd_weak hr fun w hw => dS hw) rfl hm (by rw [wrB_len]; have := cntA_len T; omega) (by omega) w hw).mono ?_
  rintro e w' ⟨rfl, hw'⟩
  by_cases heq : wrB f4 f5 f3 T = B
  rotate_left
  · have hno : ∀ lo hi dg T, ¬ RDP B lo hi dg T := fun lo hi dg T' h => by
      obtain rfl := hTu _ _ _ _ h
      exact heq (hwr0 _ _ _ _ h)
    rw [decide_eq_false heq]
    (refine ⟨_, rfl, _, hw', ?_⟩; clear hw' hw w w')
    repeat (first | (refine sx ?_; try intro _))
    refine JO_callE Tryz.func38 Tryz.call68 rfl rfl fun A hA w hw => (Need19_c _ w hw).mono ?_
    rintro e w' (⟨h, rfl, hw'⟩ | ⟨h, rfl, hw'⟩)
    · (exact absurd h (by first | (simp; done) | (simp; omega)))
    · (exact .inr ⟨_, rfl, LvR_err (hA.sub (by repeat (first | exact trivial | refine ⟨rfl, ?_⟩ | refine ⟨lookI rfl (by omega), ?_⟩))) (dS hw') fun w hw => .inl ⟨hno, rfl, hw⟩⟩)
  rw [decide_eq_true heq]
  (refine ⟨_, rfl, _, hw', ?_⟩; clear hw' hw w w')
  have hR := hmk2 T hT hlk heq
  repeat (first | (refine sx ?_; try intro _))
  refine JO_callE Tryz.func38 Tryz.call68 rfl rfl fun A hA w hw => (Need19_c _ w hw).mono ?_
  rintro e w' (⟨h, rfl, hw'⟩ | ⟨h, rfl, hw'⟩)
  rotate_left
  · (exact absurd h (by first | (simp; done) | (simp; omega)))
  (refine .inl ⟨_, rfl, _, hw', ?_⟩; clear hw' hw w w' hA A h)
  repeat (first | (refine sx ?_; try intro _))
  refine JS_retD Tryz.func38 fun A w hA hw => ?_
  refine LvR_ok (p := some ⟨bh, 0, none⟩) (H := rdH bh mb bm f4 f5 f3 es clock T H) (hA.sub (by repeat (first | exact trivial | refine ⟨rfl, ?_⟩ | refine ⟨lookI rfl (by omega), ?_⟩))) ?_ fun w hw => .inr ⟨f4, f5, f3, T, hR, by omega, hG, bh, mb, bm, es, clock, hE, rfl, hw⟩
  have hw2 : St w0 (blk bh (hc mb bm false bq (sw T)) :: mapL bm es clock :: blk mb (mc f4 f5 f3 (uOf f4) (gOf f3)) :: blk eb [.int .i64 0] :: blk xb [.pointer (some ⟨bh, 0, none⟩)] :: H) w := dS hw
  unfold rdH
  rw [hbq]
  exact hw2.perm (by (repeat (first | exact List.Perm.refl _ | refine List.Perm.cons _ ?_ | refine (List.perm_middle (l₁ := [_])).trans (List.Perm.cons _ ?_) | refine (List.perm_middle (l₁ := [_, _])).trans (List.Perm.cons _ ?_) | refine (List.perm_middle (l₁ := [_, _, _])).trans (List.Perm.cons _ ?_) | refine (List.perm_middle (l₁ := [_, _, _, _])).trans (List.Perm.cons _ ?_) | refine (List.perm_middle (l₁ := [_, _, _, _, _])).trans (List.Perm.cons _ ?_) | refine (List.perm_middle (l₁ := [_, _, _, _, _, _])).trans (List.Perm.cons _ ?_) | refine (List.perm_middle (l₁ := [_, _, _, _, _, _, _])).trans (List.Perm.cons _ ?_) | refine (List.perm_middle (l₁ := [_, _, _, _, _, _, _, _])).trans (List.Perm.cons _ ?_) | refine (List.perm_middle (l₁ := [_, _, _, _, _, _, _, _, _])).trans (List.Perm.cons _ ?_) | refine (List.perm_middle (l₁ := [_, _, _, _, _, _, _, _, _, _])).trans (List.Perm.cons _ ?_) | refine (List.perm_middle (l₁ := [_, _, _, _, _, _, _, _, _, _, _])).trans (List.Perm.cons _ ?_) | refine (List.perm_middle (l₁ := [_, _, _, _, _, _, _, _, _, _, _, _])).trans (List.Perm.cons _ ?_) | refine (List.perm_middle (l₁ := [_, _, _, _, _, _, _, _, _, _, _, _, _])).trans (List.Perm.cons _ ?_))))
end
end Go.Proofs.YteelffkghidpfaaGreat

namespace Go.Proofs.YteelffkghidpfaaGreat
open Sx Go
set_option linter.unusedVariables false
set_option linter.unusedSimpArgs false
/-! ## what was written is read (plain) -/
theorem mod_step {n : Int} (h : 0 ≤ n) (s : Nat) : n % 256 ^ (s + 1) = n % 256 ^ s + lowF n s * 256 ^ s := by
  obtain ⟨k, rfl⟩ := Int.eq_ofNat_of_zero_le h
  unfold lowF
  have e : ((256 : Int) ^ s) = ((256 ^ s : Nat) : Int) := by simp
  rw [Int.pow_succ, e]
  generalize 256 ^ s = p
  have h1 := Nat.mod_mul (x := k) (a := p) (b := 256)
  have e1 : ((p : Int) * 256) = ((p * 256 : Nat) : Int) := by simp
  rw [e1, ← Int.natCast_emod, h1, Int.natCast_add, Int.natCast_emod, Int.natCast_mul, Int.natCast_emod, Int.natCast_ediv, Int.mul_comm]
  rfl
theorem lowN_lowB {n : Int} (h : 0 ≤ n) : ∀ s, lowN (lowB s n) = n % 256 ^ s
  | 0 => by simp [lowB, tab, lowN]
  | s + 1 => by
    rw [lowB_snoc, lowN_app, lowN_lowB h s, mod_step h]
    congr 2
    exact congrArg _ (tab_len _ _)
theorem hiN_cons (x : Int) (L : List Int) : hiN (x :: L) = x * 256 ^ L.length + hiN L := by
  refine snoc_in2 (p := fun L => hiN (x :: L) = x * 256 ^ L.length + hiN L) (by simp [hiN]) (fun A y ih => ?_) L
  rw [← List.cons_append, hiN_app, hiN_app, ih, List.length_append, List.length_singleton, Int.pow_succ, Int.add_mul, Int.mul_assoc]
  omega
theorem hiN_hiB {n : Int} (h : 0 ≤ n) : ∀ s, hiN (hiB s n) = n % 256 ^ s
  | 0 => by simp [hiB, tab, hiN]
  | s + 1 => by
    rw [hiB_cons, hiN_cons, hiN_hiB h s, mod_step h, show (hiB s n).length = s from tab_len _ _]
    omega
theorem take_app {A R : List Int} {s : Nat} (h : A.length = s) : (A ++ R).take s = A := by rw [← h, List.take_left']; rfl
theorem dFix_low {s : Nat} {n : Int} (h : 0 ≤ n ∧ n < 256 ^ s) (R : List Int) : dFix false s (lowB s n ++ R) = (n, s, 0) := by
  have hl : (lowB s n).length = s := tab_len _ _
  unfold dFix
  rw [if_neg (by rw [List.length_append]; omega), take_app hl, if_neg (by decide), lowN_lowB h.1, Int.emod_eq_of_lt h.1 h.2]
theorem dFix_hi {s : Nat} {n : Int} (h : 0 ≤ n ∧ n < 256 ^ s) (R : List Int) : dFix true s (hiB s n ++ R) = (n, s, 0) := by
  have hl : (hiB s n).length = s := tab_len _ _
  unfold dFix
  rw [if_neg (by rw [List.length_append]; omega), take_app hl, if_pos rfl, hiN_hiB h.1, Int.emod_eq_of_lt h.1 h.2]
theorem mul_parts (m z : Int) : m % 128 * z + m / 128 * (z * 128) = m * z := by
  have h := Int.mul_ediv_add_emod m 128
  have : m / 128 * (z * 128) = 128 * (m / 128) * z := by rw [Int.mul_comm z 128, ← Int.mul_assoc, Int.mul_comm (m / 128) 128]
  rw [this, ← Int.add_mul, Int.add_comm, h]
theorem dNine_var : ∀ (f i : Nat) (a m : Int) (R : List Int), i + f = 8 → 0 ≤ m → m < 256 * 128 ^ f → (m = 0 → i = 0) → dNine i a (varB f m ++ R) = (uns (a + m * 128 ^ i), i + (varB f m).length, 0)
  | 0, i, a, m, R, hi, h0, h1, hz => by
    obtain rfl : i = 8 := by omega
    have hm : m ≠ 0 := fun h => by have := hz h; omega
    rw [varB, List.singleton_append, dNine, if_neg (by omega), if_neg (by omega), if_pos rfl]; rfl
  | f + 1, i, a, m, R, hi, h0, h1, hz => by
    by_cases h7 : m ≤ 127
    · rw [varB_last h7, List.singleton_append, dNine, if_neg (by omega), if_neg (fun h => by have := hz h.1; omega), if_neg (by omega), show m % 128 = m by omega]; rfl
    · rw [varB_step h7, List.cons_append, dNine, if_pos ⟨by omega, by omega⟩]
      rw [dNine_var f (i + 1) _ (m / 128) R (by omega) (by omega) (by
        rw [Int.pow_succ] at h1
        generalize (128 : Int) ^ f = z at *
        omega) (by omega)]
      have e1 : (m % 128 + 128) % 128 = m % 128 := by omega
      rw [e1, Int.pow_succ, Int.add_assoc, mul_parts, List.length_cons]
      congr 2
      omega
theorem dLeb_var : ∀ (f i : Nat) (a m : Int) (R : List Int), i + f = 9 → 0 ≤ m → m < 2 * 128 ^ f → (m = 0 → i = 0) → dLeb i a (varB f m ++ R) = (a + m * 128 ^ i, i + (varB f m).length, 0)
  | 0, i, a, m, R, hi, h0, h1, hz => by
    obtain rfl : i = 9 := by omega
    have hm : m ≠ 0 := fun h => by have := hz h; omega
    simp at h1
    rw [varB, List.singleton_append, dLeb, if_neg (by omega), if_neg (by omega), if_neg (by omega), show m % 128 = m by omega]; rfl
  | f + 1, i, a, m, R, hi, h0, h1, hz => by
    by_cases h7 : m ≤ 127
    · rw [varB_last h7, List.singleton_append, dLeb, if_neg (by omega), if_neg (by omega), if_neg (fun h => by have := hz h.1; omega), show m % 128 = m by omega]; rfl
    · rw [varB_step h7, List.cons_append, dLeb, if_neg (by omega), if_pos (by omega)]
      rw [dLeb_var f (i + 1) _ (m / 128) R (by omega) (by omega) (by
        rw [Int.pow_succ] at h1
        generalize (128 : Int) ^ f = z at *
        omega) (by omega)]
      have e1 : (m % 128 + 128) % 128 = m % 128 := by omega
      rw [e1, Int.pow_succ, Int.add_assoc, mul_parts, List.length_cons]
      congr 2
      omega
theorem dec_enc {k : Nat} (hk : k < 10) {n : Int} (hn : 0 ≤ n ∧ n < 18446744073709551616) (hf : fitA k n) (R : List Int) : dec k (encN k n ++ R) = (n, (encN k n).length, 0) := by
  have h8 : (256 : Int) ^ 8 = 18446744073709551616 := by decide
  have hs := sgn_bd hn
  have hus := uns_sgn hn
  have p9 : (18446744073709551616 : Int) = 2 * 128 ^ 9 := by decide
  have p8 : (18446744073709551616 : Int) = 256 * 128 ^ 8 := by decide
  have hfit : ∀ s : Nat, szA k = s → 0 < s → n < 256 ^ s := fun s h h0 => by
    rcases hf with h1 | h1 | ⟨_, _, h1⟩
    · omega
    · have : s = 8 := by omega
      subst this; rw [h8]; exact hn.2
    · rw [h, Int.toNat_natCast] at h1; exact h1
  match k, hk with
  | 0, _ => exact (dFix_low (s := 1) ⟨hn.1, hfit 1 rfl (by decide)⟩ R).trans (by rw [show (encN 0 n).length = 1 from tab_len _ _])
  | 1, _ => exact (dFix_low (s := 2) ⟨hn.1, hfit 2 rfl (by decide)⟩ R).trans (by rw [show (encN 1 n).length = 2 from tab_len _ _])
  | 2, _ => exact (dFix_hi (s := 2) ⟨hn.1, hfit 2 rfl (by decide)⟩ R).trans (by rw [show (encN 2 n).length = 2 from tab_len _ _])
  | 3, _ => exact (dFix_low (s := 4) ⟨hn.1, hfit 4 rfl (by decide)⟩ R).trans (by rw [show (encN 3 n).length = 4 from tab_len _ _])
  | 4, _ => exact (dFix_hi (s := 4) ⟨hn.1, hfit 4 rfl (by decide)⟩ R).trans (by rw [show (encN 4 n).length = 4 from tab_len _ _])
  | 5, _ => exact (dFix_low (s := 8) ⟨hn.1, hfit 8 rfl (by decide)⟩ R).trans (by rw [show (encN 5 n).length = 8 from tab_len _ _])
  | 6, _ => exact (dFix_hi (s := 8) ⟨hn.1, hfit 8 rfl (by decide)⟩ R).trans (by rw [show (encN 6 n).length = 8 from tab_len _ _])
  | 7, _ =>
    have := dLeb_var 9 0 0 n R rfl hn.1 (p9 ▸ hn.2) (fun _ => rfl)
    show dLeb 0 0 (varB 9 n ++ R) = _
    rw [this]; simp; rfl
  | 8, _ =>
    have := dLeb_var 9 0 0 (sgn n) R rfl hs.1 (p9 ▸ hs.2) (fun _ => rfl)
    show (uns (dLeb 0 0 (varB 9 (sgn n) ++ R)).1, (dLeb 0 0 (varB 9 (sgn n) ++ R)).2.1, (dLeb 0 0 (varB 9 (sgn n) ++ R)).2.2) = _
    rw [this]; simp [hus]; rfl
  | 9, _ =>
    have := dNine_var 8 0 0 (sgn n) R rfl hs.1 (p8 ▸ hs.2) (fun _ => rfl)
    show dNine 0 0 (varB 8 (sgn n) ++ R) = _
    rw [this]; simp [hus]; rfl
  | k + 10, h => exact absurd h (by omega)
theorem decs_encs : ∀ (ks : List Nat) (L : List Int) (R : List Int), L.length = ks.length → (∀ k ∈ ks, k < 10) → (∀ j, 0 ≤ L.getD j 0 ∧ L.getD j 0 < 18446744073709551616) → (∀ j, j < L.length → fitA (ks.getD j 0) (L.getD j 0)) → decs ks (encs ks L ++ R) = (L, (encs ks L).length, 0)
  | [], [], R, _, _, _, _ => by simp [decs, encs]
  | k :: ks, n :: L, R, hl, hk, hn, hf => by
    have h1 := dec_enc (hk k List.mem_cons_self) (hn 0) (hf 0 (by simp)) (encs ks L ++ R)
    simp only [List.getD_cons_zero] at h1
    have h2 := decs_encs ks L R (by simpa using hl) (fun x hx => hk x (List.mem_cons_of_mem _ hx)) (fun j => by simpa using hn (j + 1)) (fun j hj => by simpa using hf (j + 1) (by simpa using hj))
    have hd : (encN k n ++ (encs ks L ++ R)).drop (encN k n).length = encs ks L ++ R := List.drop_left' rfl
    rw [encs, decs, List.append_assoc, h1, if_neg (by simp), hd, h2, if_neg (by simp)]
    simp
end Go.Proofs.YteelffkghidpfaaGreat

namespace Go.Proofs.YteelffkghidpfaaGreat
open Sx Go Hd
set_option linter.unusedVariables false
set_option linter.unusedSimpArgs false
/-- cells that were written -/
theorem celF_one {most : Int} {f : Nat} {a n : Int} {R : List Int} (hn : 0 ≤ n ∧ n < 18446744073709551616) : celF most (f + 1) a (encN 9 n ++ R) =
    if i64v n < 0 then (if i64v n ≠ -9223372036854775808 ∧ 0 - i64v n ≤ most - a then celF most f (a + (0 - i64v n)) R else none)
    else if a < most then (if 0 < i64v n then (celF most f (a + 1) R).map (fun T => (a, n) :: T) else celF most f (a + 1) R) else none := by
  have hl := encN_len 9 n
  have h1 := dec_enc (k := 9) (by decide) hn (.inl rfl) R
  have hd : (encN 9 n ++ R).drop (encN 9 n).length = R := List.drop_left' rfl
  rw [celF, if_neg (fun h => by have := congrArg List.length h; rw [List.length_append, List.length_nil] at this; omega), h1]
  simp only [hd]
  rw [if_neg (by simp)]
theorem celF_cnt {most : Int} (hmo : most < 4611686018427387904) : ∀ (T : List (Int × Int)) (a : Int) (f : Nat), 0 ≤ a → (∀ x ∈ T, a ≤ x.1 ∧ x.1 < most ∧ 0 < x.2 ∧ x.2 < 9223372036854775808) → T.Pairwise (fun x y => x.1 < y.1) → (cntB a T).length ≤ f → celF most f a (cntB a T) = some T
  | [], a, f, _, _, _, _ => celF_nil most f a
  | x :: r, a, f, ha, hT, hP, hf => by
    obtain ⟨x1, x2⟩ := x
    have hx := hT (x1, x2) List.mem_cons_self
    simp only [] at hx
    have hr := List.pairwise_cons.1 hP
    have ih := fun f => celF_cnt hmo r (x1 + 1) f (by omega) (fun y hy => by
      have h1 := hT y (List.mem_cons_of_mem _ hy)
      have h2 := hr.1 y hy
      dsimp only at h2
      omega) hr.2
    rw [cntB] at hf ⊢
    dsimp only at hf ⊢
    have hl1 := encN_len 9 x2
    have hi : i64v x2 = x2 := by unfold i64v; rw [if_pos hx.2.2.2]
    have hone : ∀ f, (encN 9 x2 ++ cntB (x1 + 1) r).length ≤ f → celF most f x1 (encN 9 x2 ++ cntB (x1 + 1) r) = some ((x1, x2) :: r) := fun f hf => by
      rw [List.length_append] at hf
      obtain ⟨k, rfl⟩ : ∃ k, f = k + 1 := ⟨f - 1, by omega⟩
      rw [celF_one (by omega), hi, if_neg (by omega), if_pos hx.2.1, if_pos hx.2.2.1, ih k (by omega)]; rfl
    rw [List.append_assoc] at hf ⊢
    unfold gapB at hf ⊢
    by_cases h1 : x1 - a = 1
    · rw [if_pos h1] at hf ⊢
      have hl0 := encN_len 9 0
      rw [List.length_append] at hf
      obtain ⟨k, rfl⟩ : ∃ k, f = k + 1 := ⟨f - 1, by omega⟩
      rw [celF_one (by decide), show i64v 0 = 0 from rfl, if_neg (by decide), if_pos (by omega), if_neg (by decide), show a + 1 = x1 by omega]
      exact hone k (by omega)
    · rw [if_neg h1] at hf ⊢
      by_cases h2 : 1 < x1 - a
      · rw [if_pos h2] at hf ⊢
        have hl0 := encN_len 9 (18446744073709551616 - (x1 - a))
        rw [List.length_append] at hf
        obtain ⟨k, rfl⟩ : ∃ k, f = k + 1 := ⟨f - 1, by omega⟩
        have hv : i64v (18446744073709551616 - (x1 - a)) = a - x1 := by unfold i64v; rw [if_neg (by omega)]; omega
        rw [celF_one (by omega), hv, if_pos (by omega), if_pos (by omega), show a + (0 - (a - x1)) = x1 by omega]
        exact hone k (by omega)
      · rw [if_neg h2] at hf ⊢
        rw [List.nil_append] at hf ⊢
        obtain rfl : x1 = a := by omega
        exact hone f hf
theorem celA_cnt {most : Int} (hmo : 0 < most ∧ most < 4611686018427387904) {T : List (Int × Int)} (hT : ∀ x ∈ T, 0 ≤ x.1 ∧ x.1 < most ∧ 0 < x.2 ∧ x.2 < 9223372036854775808) (hP : T.Pairwise (fun x y => x.1 < y.1)) : celA most (cntA T) = some T := by
  unfold celA cntA
  by_cases h : T = []
  · subst h
    rw [if_pos rfl]
    have hl0 := encN_len 9 0
    have h1 := celF_one (most := most) (f := (encN 9 0).length - 1) (a := 0) (n := 0) (R := []) (by decide)
    rw [List.append_nil, show (encN 9 0).length - 1 + 1 = (encN 9 0).length by omega] at h1
    rw [h1, show i64v 0 = 0 from rfl, if_neg (by decide), if_pos hmo.1, if_neg (by decide), celF_nil]
  · rw [if_neg h]
    exact celF_cnt hmo.2 T 0 _ (Int.le_refl _) hT hP (Nat.le_refl _)
end Go.Proofs.YteelffkghidpfaaGreat

namespace Go.Proofs.YteelffkghidpfaaGreat
open Sx Go Hd
set_option linter.unusedVariables false
set_option linter.unusedSimpArgs false
/-! ## the order makes no difference (plain) -/
/-- all values of a list are recorded, each once -/
def recA (u g bu : Nat) (L : List Int) : Nat × List (Int × Int) := recS u g true bu L (wtN []) L.length
end Go.Proofs.YteelffkghidpfaaGreat

namespace Go.Proofs.YteelffkghidpfaaGreat
open Sx Go Hd
set_option linter.unusedVariables false
set_option linter.unusedSimpArgs false
/-! ## buckets and tops (plain) -/
theorem ndT_iff {u g : Nat} (B : Nat) : ∀ (P : List (Int × Int)) (bu : Nat), ndT u g bu P ≤ B ↔ bu ≤ B ∧ ∀ x ∈ P, 1 + bkt u g (ival u g x.1.toNat) ≤ B
  | [], bu => by simp [ndT]
  | x :: r, bu => by
    rw [ndT, ndT_iff B r, Nat.max_le]
    simp only [List.mem_cons, forall_eq_or_imp, and_assoc]
/-- what a histogram's buckets are: those that its cells need -/
structure NB (u g : Nat) (gr : Bool) (bu0 : Nat) (s : Nat × List (Int × Int)) : Prop where
  bu : s.1 = ndT u g bu0 s.2
  le : gr = true ∨ s.1 = bu0
end Go.Proofs.YteelffkghidpfaaGreat

namespace Go.Proofs.YteelffkghidpfaaGreat
open Sx Go Hd
set_option linter.unusedVariables false
set_option linter.unusedSimpArgs false
/-! ## the plain form of a histogram is read as it (plain) -/
theorem hd_fit {lo reach dg : Int} {n : Nat} (hlo : 0 ≤ lo ∧ lo < 9223372036854775808) (hre : 0 ≤ reach ∧ reach < 9223372036854775808) (hdg : 0 ≤ dg ∧ dg < 4294967296) (hn : n < 4294967296) :
    (∀ j, 0 ≤ [478450451, (n : Int), 0, dg, lo, reach, 4607182418800017408].getD j 0 ∧ [478450451, (n : Int), 0, dg, lo, reach, 4607182418800017408].getD j 0 < 18446744073709551616) ∧
    (∀ j, j < [478450451, (n : Int), 0, dg, lo, reach, 4607182418800017408].length → fitA (hd7.getD j 0) ([478450451, (n : Int), 0, dg, lo, reach, 4607182418800017408].getD j 0)) := by
  constructor
  · intro j
    match j with
    | 0 => exact (by decide : (0 : Int) ≤ 478450451 ∧ (478450451 : Int) < 18446744073709551616)
    | 1 => show 0 ≤ (n : Int) ∧ (n : Int) < 18446744073709551616; omega
    | 2 => exact (by decide : (0 : Int) ≤ 0 ∧ (0 : Int) < 18446744073709551616)
    | 3 => show 0 ≤ dg ∧ dg < 18446744073709551616; omega
    | 4 => show 0 ≤ lo ∧ lo < 18446744073709551616; omega
    | 5 => show 0 ≤ reach ∧ reach < 18446744073709551616; omega
    | 6 => exact (by decide : (0 : Int) ≤ 4607182418800017408 ∧ (4607182418800017408 : Int) < 18446744073709551616)
    | j + 7 => exact (by decide : (0 : Int) ≤ 0 ∧ (0 : Int) < 18446744073709551616)
  · intro j hj
    match j, hj with
    | 0, _ => exact .inr (.inr ⟨by decide, by decide, (by decide : (478450451 : Int) < 256 ^ 4)⟩)
    | 1, _ => exact .inr (.inr ⟨by decide, by decide, (by rw [show (256 : Int) ^ 4 = 4294967296 by decide]; omega : (n : Int) < 256 ^ 4)⟩)
    | 2, _ => exact .inr (.inr ⟨by decide, by decide, (by decide : (0 : Int) < 256 ^ 4)⟩)
    | 3, _ => exact .inr (.inr ⟨by decide, by decide, (by rw [show (256 : Int) ^ 4 = 4294967296 by decide]; omega : dg < 256 ^ 4)⟩)
    | 4, _ => exact .inr (.inl rfl)
    | 5, _ => exact .inr (.inl rfl)
    | 6, _ => exact .inr (.inl rfl)
    | j + 7, h => simp at h; omega
theorem hd_decs {lo reach dg : Int} {n : Nat} (hlo : 0 ≤ lo ∧ lo < 9223372036854775808) (hre : 0 ≤ reach ∧ reach < 9223372036854775808) (hdg : 0 ≤ dg ∧ dg < 4294967296) (hn : n < 4294967296) (R : List Int) :
    decs hd7 (hdB lo reach dg n ++ R) = ([478450451, (n : Int), 0, dg, lo, reach, 4607182418800017408], 40, 0) := by
  obtain ⟨h1, h2⟩ := hd_fit hlo hre hdg hn
  have := decs_encs hd7 [478450451, (n : Int), 0, dg, lo, reach, 4607182418800017408] R rfl (by decide) h1 h2
  have hl := hdB_len lo reach dg n
  have he : encs hd7 [478450451, (n : Int), 0, dg, lo, reach, 4607182418800017408] = hdB lo reach dg n := rfl
  rw [he, hl] at this
  exact this
theorem idx_top {u g v : Nat} (hg : 1 ≤ g) : idx u g v < (bkt u g v + 2) * 2 ^ (g - 1) := by
  have h1 := cel_lt (u := u) (g := g) (v := v)
  have h2 := half_two hg
  unfold idx
  rw [Nat.add_mul]; omega
theorem RDP_wr {lo hi dg : Int} {T : List (Int × Int)} (hs : shOK lo hi dg) (hhi : hi < 9223372036854775808) (hG : GT T) (hl : T.length ≤ 1000000) (hlok : LOK lo hi dg false (1 + bkt (uOf lo) (gOf dg) hi.toNat : Nat) T) : RDP (wrB lo hi dg T) lo hi dg T := by
  obtain ⟨s1, s2, s3, s4⟩ := hs.1
  have hg := gOf_bd (dg := dg) ⟨s1, s2⟩
  have hcl := cntA_len T
  have hd := hd_decs (lo := lo) (reach := hi) (dg := dg) (n := (cntA T).length) (by omega) (by omega) (by omega) (by omega) (cntA T)
  have hwl := wrB_len lo hi dg T
  have hw : wrB lo hi dg T = hdB lo hi dg (cntA T).length ++ cntA T := rfl
  have hbu := LOK_bu hlok
  have hK := hlok.2.2.1
  refine ⟨?_, ?_, ?_, ?_, ?_, ?_, ?_, s2, by omega, hhi, hs, ?_, hlok, rfl⟩
  · rw [hw, hd]
  · rw [hw, hd]; rfl
  · rw [hwl, hw, hd]
    show ((cntA T).length : Int) = _
    omega
  · rw [hw, hd]
  · rw [hw, hd]; rfl
  · rw [hw, hd]; rfl
  · rw [hw, hd]; rfl
  · rw [hw, List.drop_left' (hdB_len _ _ _ _)]
    have hp17 := Nat.pow_le_pow_right (n := 2) (by decide) (show gOf dg - 1 ≤ 17 by omega)
    have hpp := p2pos (gOf dg - 1)
    have hb63 : bkt (uOf lo) (gOf dg) hi.toNat ≤ 63 := by
      have := bl_v (v := hi.toNat) (by omega)
      unfold bkt; omega
    have hmo : (1 + bkt (uOf lo) (gOf dg) hi.toNat + 1) * 2 ^ (gOf dg - 1) ≤ 65 * 2 ^ 17 := Nat.mul_le_mul (by omega) hp17
    have hmp : 0 < (1 + bkt (uOf lo) (gOf dg) hi.toNat + 1) * 2 ^ (gOf dg - 1) := Nat.mul_pos (by omega) hpp
    refine celA_cnt ⟨by omega, by omega⟩ (fun x hx => ?_) hG.srt
    have hk := hK x hx
    have hb := ((ndT_iff (u := uOf lo) (g := gOf dg) _ T _).1 (Nat.le_of_eq hbu)).2 x hx
    have hi2 := (ival_idx (u := uOf lo) (g := gOf dg) (by omega) hk.2).1
    have hit := idx_top (u := uOf lo) (g := gOf dg) (v := ival (uOf lo) (gOf dg) x.1.toNat) (by omega)
    rw [hi2] at hit
    have hle : (bkt (uOf lo) (gOf dg) (ival (uOf lo) (gOf dg) x.1.toNat) + 2) * 2 ^ (gOf dg - 1) ≤ (1 + bkt (uOf lo) (gOf dg) hi.toNat + 1) * 2 ^ (gOf dg - 1) := Nat.mul_le_mul_right _ (by omega)
    have hp := hG.pos x hx
    have hsm := sw_mem hG.pos x hx
    have htot := hG.tot
    have h0 := hk.1
    omega
end Go.Proofs.YteelffkghidpfaaGreat

namespace Go.Proofs.YteelffkghidpfaaGreat
open Sx Go Hd
set_option linter.unusedVariables false
set_option linter.unusedSimpArgs false
/-- which form it is (plain) -/
def kndB (B : List Int) : Int := if (decs [4] B).2.2 ≠ 0 then 0 else if (decs [4] B).1.getD 0 0 = 478450451 then 1 else if (decs [4] B).1.getD 0 0 = 478450452 then 2 else 0
abbrev bA0 : List Int := [28, 132, 147, 19, 0, 0, 0, 1, 0, 0, 0, 0, 0, 0, 0, 3, 0, 0, 0, 0, 0, 0, 0, 1, 0, 0, 0, 0, 0, 0, 7, 208, 63, 240, 0, 0, 0, 0, 0, 0, 0]
abbrev bA1 : List Int := [28, 132, 147, 19, 0, 0, 0, 2, 0, 0, 0, 0, 0, 0, 0, 3, 0, 0, 0, 0, 0, 0, 0, 1, 0, 0, 0, 0, 0, 0, 7, 208, 63, 240, 0, 0, 0, 0, 0, 0, 3, 6]
theorem bA0_eq : wrB 1 2000 3 [] = bA0 := by decide +kernel
theorem bA1_eq : wrB 1 2000 3 [(2, 3)] = bA1 := by decide +kernel
theorem gt23 : GT [(2, 3)] := ⟨by decide, by decide, by decide, by decide⟩
theorem lok23 : LOK 1 2000 3 false (1 + bkt (uOf 1) (gOf 3) (Int.toNat 2000) : Nat) [(2, 3)] := by
  refine ⟨shOK_alive, gt23.right, ?_, ?_, ?_⟩
  · intro x hx
    rw [List.mem_singleton] at hx
    subst hx
    rw [u1, g3]
    exact ⟨by decide, by unfold isI; decide⟩
  · rw [u1, g3]; decide
  · rw [u1, g3]; decide
theorem rdp23 : RDP bA1 1 2000 3 [(2, 3)] := by
  have := RDP_wr (lo := 1) (hi := 2000) (dg := 3) shOK_alive (by decide) gt23 (by decide) lok23
  rw [bA1_eq] at this
  exact this
theorem bA1_knd : kndB bA1 = 1 := by decide +kernel
theorem V_eqStrC {n : Nat} {D : List Deferred} {w0 : World} {ov : Ov} {H : List Asn} {d : Option Nat} {T T1 T2 : Nat} {pos : String} {af : Array Edge} {g : Option (Nat × Bool)} {x y : Operand} {s : ByteArray}
    (hx : ev ov x = some (.string s)) (hy : ev ov y = some (.string s)) (hd : dOk d n = true) : OpV Tryz.prog n D w0 ov H ⟨d, .binOp .eql T1 x y T2, T, pos, af, g⟩ (.bool true) := by
  unfold OpV
  exact ⟨hd, fun a w ha _ => by simp [execOp, ha.ev hx, ha.ev hy, eqGuard, binOp, Op.stringOp]⟩
section
variable {w0 : World} {H : List Asn}
set_option maxRecDepth 10000 in
set_option maxHeartbeats 2000000 in
theorem Kind_c (p : Option Addr) (c m : Nat) (B : List Int) (hr : Rd w0 H (.slice p m c) m (ints .u8 B)) (hm : B.length = m) (hB : OKB B) (hm1 : m ≤ 140737488355328) (hpm : p = none → m = 0) (w : World) (hw : St w0 H w) :
    Calls Tryz.prog 36 #[.slice p m c] w fun e w' => e = .returned (.int .i64 (kndB B)) ∧ St w0 H w' := by
  have hG := fun w hw => Get_c (w0 := w0) (H := H) [4] (by decide) (by decide) p c m B hr hm hB hm1 hpm w hw
  unfold kndB
  generalize decs [4] B = D at *
  obtain ⟨F, us, er⟩ := D
  simp only [] at hG ⊢
  refine enter (vs := [.slice p m c]) Tryz.func36 rfl rfl rfl hw ?_
  clear hw w
  repeat (first | (refine sx ?_; try intro _))
  refine JO_call (vs := [.string (bstr [87]), .slice p m c]) Tryz.call66 rfl rfl fun w hw => (hG w hw).mono ?_
  rintro e w' (⟨he, rfl, hw'⟩ | ⟨he, hl1, q, d, rfl, hw'⟩)
  · (refine ⟨_, rfl, _, hw', ?_⟩; clear hw' hw w w')
    rw [if_pos he]
    repeat (first | (refine sx ?_; try intro _))
    exact JS_ret Tryz.func36 rfl rfl fun w hw => ⟨rfl, hw⟩
  · subst he
    rw [if_neg (by simp)]
    have hl7 : ([4] : List Nat).length = 1 := rfl
    rw [hl7] at hl1 hw' ⊢
    match F, hl1 with
    | [f0], _ =>
    have g0 : (ints .u64 [f0])[0]? = some (.int .u64 f0) := rfl
    simp only [List.getD_cons_zero]
    (refine ⟨_, rfl, _, hw', ?_⟩; clear hw' hw w w')
    by_cases h1 : f0 = 478450451
    · rw [if_pos h1]
      repeat (first | (apply gJO; first | refine JO_v (oL (V_loadC (tb := tb) rfl (vec_rd (List.Mem.head _)) rfl rfl g0 rfl)) ?_) | first | (refine sx ?_; try intro _))
      exact JS_ret Tryz.func36 rfl rfl fun w hw => ⟨rfl, hw.drop⟩
    · rw [if_neg h1]
      by_cases h2 : f0 = 478450452
      · rw [if_pos h2]
        repeat (first | (apply gJO; first | refine JO_v (oL (V_loadC (tb := tb) rfl (vec_rd (List.Mem.head _)) rfl rfl g0 rfl)) ?_) | first | (refine sx ?_; try intro _))
        exact JS_ret Tryz.func36 rfl rfl fun w hw => ⟨rfl, hw.drop⟩
      · rw [if_neg h2]
        repeat (first | (apply gJO; first | refine JO_v (oL (V_loadC (tb := tb) rfl (vec_rd (List.Mem.head _)) rfl rfl g0 rfl)) ?_) | first | (refine sx ?_; try intro _))
        exact JS_ret Tryz.func36 rfl rfl fun w hw => ⟨rfl, hw.drop⟩
set_option maxRecDepth 10000 in
set_option maxHeartbeats 8000000 in
theorem alive19_c (w : World) (hw : St w0 H w) : Calls Tryz.prog 26 #[] w fun e w' => e = .returned (.bool true) ∧ St w0 H w' := by
  have hNew := fun {H} w hw => HNew_c (w0 := w0) (H := H) 1 2000 3 false (by decide) (by decide) (by decide) w hw
  rw [u1, g3, b2000] at hNew
  have hrc : rchv 0 11 2000 1 = 2000 := by decide
  have hW := fun {H} (bh mb bm : Nat) (es : List MapEntry) (clock : Nat) (T : List (Int × Int)) (x1 : blk bh (hc mb bm false 1 (sw T)) ∈ H) (x2 : mapL bm es clock ∈ H) (x3 : blk mb (mc 1 2000 3 0 11) ∈ H) (hE : HM es clock T) (hG : GT T) (hl : T.length ≤ 1000000) w hw => HWrite_c (w0 := w0) (H := H) bh mb bm false 1 es clock T x1 x2 x3 hE hG (by decide) (by decide) (by decide) hl (by decide) (by decide) (by decide) w hw
  rw [hrc] at hW
  refine enter (vs := []) Tryz.func26 rfl rfl rfl hw ?_
  clear hw w
  repeat (first | (refine sx ?_; try intro _))
  refine JO_call Tryz.call55 rfl rfl fun w hw => (hNew w hw).mono ?_
  rintro e w' (⟨hno, _⟩ | ⟨_, bh, mb, bm, rfl, hw'⟩)
  · exact absurd shOK_alive hno
  (refine ⟨_, rfl, _, hw', ?_⟩; clear hw' hw w w')
  repeat (first | (refine sx ?_; try intro _))
  refine JO_call Tryz.call32 rfl rfl fun w hw => (hW bh mb bm [] 0 [] (List.Mem.head _) (List.Mem.tail _ (List.Mem.head _)) (List.Mem.tail _ (List.Mem.tail _ (List.Mem.head _))) HM.nil GT.nil (by decide) w hw).mono ?_
  rw [bA0_eq]
  rintro e w' ⟨p0, c0, rfl, hw'⟩
  (refine ⟨_, rfl, _, hw', ?_⟩; clear hw' hw w w')
  have l0 : bA0.length = 41 := rfl
  rw [l0]
  have hchk : chk 0 11 false 1 (sw []) 2 3 = 0 := by decide
  have hput : putT (idx 0 11 (Int.toNat 2) : Nat) 3 [] = [(2, 3)] := by decide
  have hmx : max 1 (1 + bkt 0 11 (Int.toNat 2)) = 1 := by decide
  have hsw : sw [] + 3 = sw [(2, 3)] := by decide
  repeat (first | (refine sx ?_; try intro _))
  refine JO_call Tryz.call56 rfl rfl fun w hw => (HRecord_c (H := vec 5 1 (.slice p0 41 c0) 41 (ints .u8 bA0) :: blk mb (mc 1 2000 3 0 11) :: H) bh mb bm false 1 [] 0 [] (List.Mem.tail _ (List.Mem.head _)) (by decide) (by decide) (by decide) HM.nil GT.nil 2 3 (by decide) (by decide) w (hw.perm (by (repeat (first | exact List.Perm.refl _ | refine List.Perm.cons _ ?_ | refine (List.perm_middle (l₁ := [_])).trans (List.Perm.cons _ ?_) | refine (List.perm_middle (l₁ := [_, _])).trans (List.Perm.cons _ ?_) | refine (List.perm_middle (l₁ := [_, _, _])).trans (List.Perm.cons _ ?_) | refine (List.perm_middle (l₁ := [_, _, _, _])).trans (List.Perm.cons _ ?_) | refine (List.perm_middle (l₁ := [_, _, _, _, _])).trans (List.Perm.cons _ ?_) | refine (List.perm_middle (l₁ := [_, _, _, _, _, _])).trans (List.Perm.cons _ ?_) | refine (List.perm_middle (l₁ := [_, _, _, _, _, _, _])).trans (List.Perm.cons _ ?_) | refine (List.perm_middle (l₁ := [_, _, _, _, _, _, _, _])).trans (List.Perm.cons _ ?_) | refine (List.perm_middle (l₁ := [_, _, _, _, _, _, _, _, _])).trans (List.Perm.cons _ ?_) | refine (List.perm_middle (l₁ := [_, _, _, _, _, _, _, _, _, _])).trans (List.Perm.cons _ ?_) | refine (List.perm_middle (l₁ := [_, _, _, _, _, _, _, _, _, _, _])).trans (List.Perm.cons _ ?_) | refine (List.perm_middle (l₁ := [_, _, _, _, _, _, _, _, _, _, _, _])).trans (List.Perm.cons _ ?_) | refine (List.perm_middle (l₁ := [_, _, _, _, _, _, _, _, _, _, _, _, _])).trans (List.Perm.cons _ ?_)))))).mono ?_
  rw [hchk, hput, hmx, hsw]
  rintro e w' ⟨rfl, ⟨hno, _⟩ | ⟨_, es', clock', hE', hw'⟩⟩
  · exact absurd rfl hno
  (refine ⟨_, rfl, _, hw', ?_⟩; clear hw' hw w w')
  repeat (first | (refine sx ?_; try intro _))
  refine JO_call Tryz.call32 rfl rfl fun w hw => (hW bh mb bm es' clock' [(2, 3)] (List.Mem.head _) (List.Mem.tail _ (List.Mem.head _)) (List.Mem.tail _ (List.Mem.tail _ (List.Mem.tail _ (List.Mem.head _)))) hE' gt23 (by decide) w hw).mono ?_
  rw [bA1_eq]
  rintro e w' ⟨p1, c1, rfl, hw'⟩
  (refine ⟨_, rfl, _, hw', ?_⟩; clear hw' hw w w')
  have l1 : bA1.length = 42 := rfl
  rw [l1]
  have okB1 : OKB bA1 := fun j => by
    have : ∀ j, j < 42 → 0 ≤ bA1.getD j 0 ∧ bA1.getD j 0 < 256 := by decide
    rcases Nat.lt_or_ge j 42 with h | h
    · exact this j h
    · rw [List.getD_eq_getElem?_getD, List.getElem?_eq_none h]; decide
  repeat (first | (refine sx ?_; try intro _))
  refine JO_call Tryz.call38 rfl rfl fun w hw => (HRead_c p1 c1 42 bA1 (vec_rd (List.Mem.head _)) rfl okB1 (by decide) (Rd.nil (vec_rd (List.Mem.head _)) hw) w hw).mono ?_
  unfold ReadR
  rintro e w' (⟨hno, _⟩ | ⟨lo, hi, dg, T, hR, _, hG, b2, mb2, bm2, es2, clock2, hE2, rfl, hw'⟩)
  · exact absurd rdp23 (hno _ _ _ _)
  obtain ⟨rfl, rfl, rfl, rfl⟩ := rdp23.fun hR
  unfold rdH at hw'
  rw [u1, g3, b2000] at hw'
  (refine ⟨_, rfl, _, hw', ?_⟩; clear hw' hw w w')
  have hV0 : Rd w0 (blk b2 (hc mb2 bm2 false 1 (sw [(2, 3)])) :: mapL bm2 es2 clock2 :: blk mb2 (mc 1 2000 3 0 11) :: vec 5 1 (.slice p1 42 c1) 42 (ints .u8 bA1) :: blk bh (hc mb bm false 1 (sw [(2, 3)])) :: mapL bm es' clock' :: vec 5 1 (.slice p0 41 c0) 41 (ints .u8 bA0) :: blk mb (mc 1 2000 3 0 11) :: H) (.slice p0 41 c0) 41 (ints .u8 bA0) := vec_rd (by repeat (first | apply List.Mem.head | apply List.Mem.tail))
  have hV1 : Rd w0 (blk b2 (hc mb2 bm2 false 1 (sw [(2, 3)])) :: mapL bm2 es2 clock2 :: blk mb2 (mc 1 2000 3 0 11) :: vec 5 1 (.slice p1 42 c1) 42 (ints .u8 bA1) :: blk bh (hc mb bm false 1 (sw [(2, 3)])) :: mapL bm es' clock' :: vec 5 1 (.slice p0 41 c0) 41 (ints .u8 bA0) :: blk mb (mc 1 2000 3 0 11) :: H) (.slice p1 42 c1) 42 (ints .u8 bA1) := vec_rd (by repeat (first | apply List.Mem.head | apply List.Mem.tail))
  have hb2 : blk b2 (hc mb2 bm2 false 1 (sw [(2, 3)])) ∈ (blk b2 (hc mb2 bm2 false 1 (sw [(2, 3)])) :: mapL bm2 es2 clock2 :: blk mb2 (mc 1 2000 3 0 11) :: vec 5 1 (.slice p1 42 c1) 42 (ints .u8 bA1) :: blk bh (hc mb bm false 1 (sw [(2, 3)])) :: mapL bm es' clock' :: vec 5 1 (.slice p0 41 c0) 41 (ints .u8 bA0) :: blk mb (mc 1 2000 3 0 11) :: H) := List.Mem.head _
  have hend : ∀ w, St w0 (blk b2 (hc mb2 bm2 false 1 (sw [(2, 3)])) :: mapL bm2 es2 clock2 :: blk mb2 (mc 1 2000 3 0 11) :: vec 5 1 (.slice p1 42 c1) 42 (ints .u8 bA1) :: blk bh (hc mb bm false 1 (sw [(2, 3)])) :: mapL bm es' clock' :: vec 5 1 (.slice p0 41 c0) 41 (ints .u8 bA0) :: blk mb (mc 1 2000 3 0 11) :: H) w → St w0 H w := fun w hw => dS hw
  generalize (blk b2 (hc mb2 bm2 false 1 (sw [(2, 3)])) :: mapL bm2 es2 clock2 :: blk mb2 (mc 1 2000 3 0 11) :: vec 5 1 (.slice p1 42 c1) 42 (ints .u8 bA1) :: blk bh (hc mb bm false 1 (sw [(2, 3)])) :: mapL bm es' clock' :: vec 5 1 (.slice p0 41 c0) 41 (ints .u8 bA0) :: blk mb (mc 1 2000 3 0 11) :: H) = Q at *
  have g40 : (ints .u8 bA0)[40]? = some (.int .u8 0) := rfl
  have hS0 : Rd w0 Q (.slice (subB p0 0 c0 1) (4 - 0) (c0 - 0)) (4 - 0) (ints .u8 [28, 132, 147, 19]) := Rd_sub (lo := 0) (hi := 4) (sz := 1) hV0 (by decide) (by decide)
  have hS1 : Rd w0 Q (.slice (subB p1 40 c1 1) (42 - 40) (c1 - 40)) (42 - 40) (ints .u8 [3, 6]) := Rd_sub (lo := 40) (hi := 42) (sz := 1) hV1 (by decide) (by decide)
  have hsw3 : sw [(2, 3)] = 3 := by decide
  rw [hsw3] at hb2
  repeat (first | (apply gJO; first | refine JO_v (V_eqStrC (s := bstr [28, 132, 147, 19]) rfl rfl rfl) ?_ | refine JO_v (V_eqStrC (s := bstr [3, 6]) rfl rfl rfl) ?_ | refine JO_v (oIA (V_index (tb := tb) rfl rfl rfl rfl (Rd.sl hV0) (by decide) rfl rfl)) ?_ | refine JO_v (oL (V_loadC (tb := tb) rfl hV0 rfl rfl g40 rfl)) ?_ | refine JO_v (V_slice (tb := tb) (lo := 0) (hi := 4) rfl rfl rfl rfl rfl rfl rfl (fun w hw => ⟨by omega, by have := (hV0.lcap hw).1; omega⟩) rfl) ?_ | refine JO_v (V_slice (tb := tb) (lo := 40) (hi := 42) rfl rfl rfl rfl rfl rfl rfl (fun w hw => ⟨by omega, by have := (hV1.lcap hw).1; omega⟩) rfl) ?_ | refine JO_v (V_str (tb := tb) rfl hS0 rfl rfl rfl rfl rfl) ?_ | refine JO_v (V_str (tb := tb) rfl hS1 rfl rfl rfl rfl rfl) ?_) | first | (refine sx ?_; try intro _))
  refine JO_call Tryz.call43 rfl rfl fun w hw => (HTotal_c b2 mb2 bm2 false 1 3 hb2 w hw).mono ?_
  rintro e w' ⟨rfl, hw'⟩
  (refine ⟨_, rfl, _, hw', ?_⟩; clear hw' hw w w')
  repeat (first | (refine sx ?_; try intro _))
  refine JO_call Tryz.call36 rfl rfl fun w hw => (Kind_c p1 c1 42 bA1 hV1 rfl okB1 (by decide) (Rd.nil hV1 hw) w hw).mono ?_
  rw [bA1_knd]
  rintro e w' ⟨rfl, hw'⟩
  (refine ⟨_, rfl, _, hw', ?_⟩; clear hw' hw w w')
  repeat (first | (refine sx ?_; try intro _))
  exact JS_ret Tryz.func26 rfl rfl fun w hw => ⟨rfl, hend w hw⟩
end
end Go.Proofs.YteelffkghidpfaaGreat

namespace Go.Proofs.YteelffkghidpfaaGreat
open Sx Go Hd
set_option linter.unusedVariables false
set_option linter.unusedSimpArgs false
/-- the weights of the wire's law -/
def wtW (N : List Int) (i : Nat) : Int := if i < N.length then (1 + N.getD i 0 % 1000) * ((2 ^ (N.getD i 0 % 40).toNat : Nat) : Int) else 1
section
variable {w0 : World} {H : List Asn}
/-- a histogram of what was recorded -/
abbrev hW (h m b : Nat) (lo hi dg : Int) (u g : Nat) (gr : Bool) (es : List MapEntry) (clock : Nat) (s : Nat × List (Int × Int)) (H : List Asn) : List Asn :=
  blk h (hc m b gr s.1 (sw s.2)) :: mapL b es clock :: blk m (mc lo hi dg u g) :: H
end
end Go.Proofs.YteelffkghidpfaaGreat

namespace Go.Proofs.YteelffkghidpfaaGreat
open Sx Go Go.ChangeShapes Go.WideShapes
set_option linter.unusedVariables false
set_option linter.unusedSimpArgs false
theorem cell_lt {w : World} {a : Addr} {v : Value} (h : w.cell? a = some v) : a.block < w.heap.size := by
  rcases Nat.lt_or_ge a.block w.heap.size with h1 | h1
  · exact h1
  · simp [World.cell?, Array.getElem?_eq_none h1] at h
theorem wf64 {a : Int} (h : (Lit.int .i64 a).wf = true) : -9223372036854775808 ≤ a ∧ a < 9223372036854775808 := by
  simp only [Lit.wf, Bool.and_eq_true, decide_eq_true_eq] at h
  have h1 : IntKind.i64.min = -9223372036854775808 := by decide
  have h2 : IntKind.i64.max = 9223372036854775808 - 1 := by decide
  omega
theorem argRd_mk {w0 : World} {u : Value} {m : Nat} {cs : List Value} (h1 : isSl u m) (h2 : ∀ j v, cs[j]? = some v → ∃ a, cellPtr u j = .pointer (some a) ∧ a.block < w0.heap.size ∧ w0.cell? a = some v) : ArgRd w0 u m cs := by
  unfold ArgRd; exact ⟨h1, h2⟩
def iv : Value → Int
  | .int _ n => n
  | _ => 0
theorem wfu8 {a : Int} (h : (Lit.int .u8 a).wf = true) : 0 ≤ a ∧ a < 256 := by
  simp only [Lit.wf, Bool.and_eq_true, decide_eq_true_eq] at h
  have h1 : IntKind.u8.min = 0 := by decide
  have h2 : IntKind.u8.max = 256 - 1 := by decide
  omega
end Go.Proofs.YteelffkghidpfaaGreat

namespace Go.Proofs.YteelffkghidpfaaGreat
open Sx Go Go.ChangeShapes Go.WideShapes
set_option linter.unusedVariables false
set_option linter.unusedSimpArgs false
theorem cells3 : Tryz.prog.cellsOf 3 = 1 := by kernel_rfl
def OKI (B : List Int) : Prop := ∀ j, -9223372036854775808 ≤ B.getD j 0 ∧ B.getD j 0 < 9223372036854775808
set_option maxRecDepth 100000 in
/-- a slice of numbers that came in -/
theorem open_ints {H : Type} {enc : TypeId × Value → H} {W : World} {base : Nat} {v : Value} {d : DataW H} {p : List MemPlace} (hval : Value.okWide Tryz.prog W .any base 199 v) (h : DataW.Trod enc Tryz.prog W 0 (fun _ => true) true 199 v d p) :
    ∃ (b : Option Addr) (c m : Nat) (B : List Int), v = .slice b m c ∧ ArgRd W (.slice b m c) m (ints .i64 B) ∧ B.length = m ∧ (OKI B ∧ (b = none → m = 0)) ∧ (m = 0 ∨ ∃ E S, d = .slice E S ∧ E.length = m) := by
  obtain ⟨b, m, c, rfl⟩ := okWide_slice Tryz.underlying199 hval
  obtain ⟨fuel, hf⟩ := h
  rcases Go.ChangeShapes.open_ints Tryz.underlying199 Tryz.underlying3 cells3 hf with ⟨hcs, _⟩ | ⟨a, len', cap', zs, hcs, _, hl, hm, hz, hx, hcell, hwz⟩
  · simp [Value.cells] at hcs
    obtain ⟨rfl, rfl, rfl⟩ := hcs
    exact ⟨none, 0, 0, [], rfl, argRd_mk ⟨none, 0, rfl, fun _ => rfl, Nat.le_refl _⟩ (fun j v h => by simp [ints] at h), rfl, ⟨fun j => by simp, fun _ => rfl⟩, .inl rfl⟩
  · simp [Value.cells] at hcs
    obtain ⟨rfl, rfl, rfl⟩ := hcs
    simp only [if_true] at hz
    refine ⟨some a, c, m, zs.take m, rfl, argRd_mk ⟨some a, c, rfl, (fun h => by cases h), hl⟩ (fun j v hv => ?_), by simp; omega, ⟨fun j => ?_, fun h => (by cases h)⟩, .inr ⟨_, _, congrArg Prod.fst hx, by simp [lits]; omega⟩⟩
    · have hj : j < m := by
        have := (List.getElem?_eq_some_iff.1 hv).1
        simp [ints] at this; omega
      have e : (ints .i64 (zs.take m))[j]? = some (.int .i64 (zs.getD j 0)) := by
        have := ints_get (K := .i64) (l := zs.take m) (j := j) (by simp; omega)
        rw [this]
        congr 2
        simp [List.getD_eq_getElem?_getD, List.getElem?_take, hj]
      rw [e] at hv
      obtain rfl := Option.some.inj hv
      exact ⟨a.add j, cellPtr_eq a m c j, by simpa using cell_lt (hcell j (by omega)), hcell j (by omega)⟩
    · rcases Nat.lt_or_ge j m with hj | hj
      · have : (zs.take m).getD j 0 = zs[j]'(by omega) := by simp [List.getD_eq_getElem?_getD, List.getElem?_take, hj, show j < zs.length by omega]
        rw [this]
        exact wf64 (hwz _ (List.getElem_mem _))
      · have : (zs.take m).getD j 0 = 0 := by
          rw [List.getD_eq_getElem?_getD, List.getElem?_eq_none (by simp; omega)]; rfl
        rw [this]; decide
end Go.Proofs.YteelffkghidpfaaGreat

namespace Go.Proofs.YteelffkghidpfaaGreat
open Sx Go Go.ChangeShapes Go.WideShapes
set_option linter.unusedVariables false
set_option linter.unusedSimpArgs false
def OKW (B : List Int) : Prop := ∀ j, 0 ≤ B.getD j 0 ∧ B.getD j 0 < 4294967296
end Go.Proofs.YteelffkghidpfaaGreat

namespace Go.Proofs.YteelffkghidpfaaGreat
open Sx Go Hd
set_option linter.unusedVariables false
set_option linter.unusedSimpArgs false
theorem cntB_byt : ∀ (T : List (Int × Int)) (a : Int), 0 ≤ a → (∀ x ∈ T, (0 ≤ x.1 ∧ x.1 < 4611686018427387904) ∧ 0 < x.2 ∧ x.2 < 18446744073709551616) → ∀ y ∈ cntB a T, 0 ≤ y ∧ y < 256
  | [], a, _, _, y, hy => absurd hy (by simp [cntB])
  | x :: r, a, ha, h, y, hy => by
    have hx := h x List.mem_cons_self
    have ih := cntB_byt r (x.1 + 1) (by omega) (fun z hz => h z (List.mem_cons_of_mem _ hz))
    rw [cntB] at hy
    rcases List.mem_append.1 hy with hy | hy
    · rcases List.mem_append.1 hy with hy | hy
      · unfold gapB at hy
        split at hy
        · exact encN_byt 9 (by decide) y hy
        · split at hy
          · exact encN_byt 9 (by omega) y hy
          · simp at hy
      · exact encN_byt 9 (by omega) y hy
    · exact ih y hy
theorem wrB_okb {lo reach dg : Int} {T : List (Int × Int)} (hlo : 0 ≤ lo ∧ lo < 9223372036854775808) (hre : 0 ≤ reach ∧ reach < 9223372036854775808) (hdg : 0 ≤ dg ∧ dg < 4294967296) (hG : GT T) (hl : T.length ≤ 1000000) : OKB (wrB lo reach dg T) := by
  have hcl := cntA_len T
  refine mem_okb fun x hx => ?_
  unfold wrB at hx
  rcases List.mem_append.1 hx with hx | hx
  · have h1 := (hd_fit (n := (cntA T).length) hlo hre hdg (by omega)).1
    refine encs_byt _ _ (fun y hy => ?_) x hx
    obtain ⟨i, hi, rfl⟩ := List.getElem_of_mem hy
    have := h1 i
    rw [List.getD_eq_getElem?_getD, List.getElem?_eq_getElem hi] at this
    exact this
  · unfold cntA at hx
    split at hx
    · exact encN_byt 9 (by decide) x hx
    · refine cntB_byt T 0 (Int.le_refl _) (fun y hy => ⟨hG.key y hy, hG.pos y hy, ?_⟩) x hx
      have := sw_mem hG.pos y hy
      have := hG.tot
      omega
end Go.Proofs.YteelffkghidpfaaGreat

set_option linter.unusedVariables false
set_option linter.unusedSimpArgs false
namespace Go.Proofs.YteelffkghidpfaaGreat
open Sx Go
/-! ## the sum Adler-32 -/
def adS (B : List Int) : Nat → Int × Int
  | 0 => (1, 0)
  | i + 1 => (((adS B i).1 + B.getD i 0) % 65521, ((adS B i).2 + ((adS B i).1 + B.getD i 0) % 65521) % 65521)
def adl (B : List Int) : Int := 65536 * (adS B B.length).2 + (adS B B.length).1
theorem adS_bd (B : List Int) (hB : OKB B) : ∀ i, 0 ≤ (adS B i).1 ∧ (adS B i).1 < 65521 ∧ 0 ≤ (adS B i).2 ∧ (adS B i).2 < 65521
  | 0 => by simp [adS]
  | i + 1 => by
    have h := adS_bd B hB i
    have hb := hB i
    simp only [adS]
    omega
theorem adl_bd {B : List Int} (hB : OKB B) : 0 ≤ adl B ∧ adl B < 4294967296 := by
  have h := adS_bd B hB B.length
  unfold adl; omega
theorem or16_u64 {a b : Int} (ha : 0 ≤ a ∧ a < 65536) (hb : 0 ≤ b ∧ b < 65536) : IntKind.u64.wrap ((BitVec.ofInt IntKind.u64.bits (b * 65536) ||| BitVec.ofInt IntKind.u64.bits a).toNat) = 65536 * b + a := by
  have hbits : (2 : Int) ^ IntKind.u64.bits = 18446744073709551616 := by decide
  rw [or_nat .u64 ⟨by omega, by rw [hbits]; omega⟩ ⟨by omega, by rw [hbits]; omega⟩]
  have h := Nat.two_pow_add_eq_or_of_lt (i := 16) (b := a.toNat) (by omega) b.toNat
  have e : (b * 65536).toNat = 2 ^ 16 * b.toNat := by omega
  rw [e, ← h]
  exact (wu64 (by omega)).trans (by omega)
section
variable {w0 : World} {H : List Asn}
set_option maxRecDepth 10000 in
theorem AOf_c (w : World) (hw : St w0 H w) : Calls Tryz.prog 156 #[.int .u32 1] w fun e w' => e = .returned (.agg #[.int .u64 1, .int .u64 0]) ∧ St w0 H w' := by
  refine enter (vs := [.int .u32 1]) Tryz.func156 rfl rfl rfl hw ?_
  clear hw w
  repeat (first | (apply gJO; refine JO_v (V_and rfl rfl (c := 1) (by decide) rfl) ?_) | (first | (refine sx ?_; try intro _)))
  refine JS_retC (tb := tb) (vs := [.agg #[.int .u64 1, .int .u64 0]]) Tryz.func156 rfl (by first | exact ResV.agg (tb := tb) rfl (by repeat (first | apply List.Mem.head | apply List.Mem.tail)) rfl rfl rfl ResV.nil | exact ResV.agg (tb := tb) rfl (by repeat (first | apply List.Mem.head | apply List.Mem.tail)) rfl rfl rfl (ResV.tmp rfl ResV.nil) | exact ResV.agg (tb := tb) rfl (by repeat (first | apply List.Mem.head | apply List.Mem.tail)) rfl rfl rfl (ResV.tmp rfl (ResV.tmp rfl ResV.nil)) | exact ResV.one (tb := tb) rfl (by repeat (first | apply List.Mem.head | apply List.Mem.tail)) rfl rfl rfl ResV.nil | exact ResV.one (tb := tb) rfl (by repeat (first | apply List.Mem.head | apply List.Mem.tail)) rfl rfl rfl (ResV.tmp rfl ResV.nil) | exact ResV.one (tb := tb) rfl (by repeat (first | apply List.Mem.head | apply List.Mem.tail)) rfl rfl rfl (ResV.one (tb := tb) rfl (by repeat (first | apply List.Mem.head | apply List.Mem.tail)) rfl rfl rfl ResV.nil) | exact ResV.tmp rfl (ResV.agg (tb := tb) rfl (by repeat (first | apply List.Mem.head | apply List.Mem.tail)) rfl rfl rfl ResV.nil) | exact ResV.tmp rfl (ResV.one (tb := tb) rfl (by repeat (first | apply List.Mem.head | apply List.Mem.tail)) rfl rfl rfl ResV.nil)) ?_
  intro w hw
  exact ⟨rfl, hw.drop⟩
set_option maxRecDepth 10000 in
theorem AAdd_c (b : Nat) (p q x : Int) (hp : 0 ≤ p ∧ p < 65521) (hq : 0 ≤ q ∧ q < 65521) (hx : 0 ≤ x ∧ x < 256) (w : World) (hw : St w0 (blk b [.int .u64 p, .int .u64 q] :: H) w) :
    Calls Tryz.prog 157 #[.pointer (some ⟨b, 0, none⟩), .int .u8 x] w fun e w' => e = .returned (.tuple #[]) ∧ St w0 (blk b [.int .u64 ((p + x) % 65521), .int .u64 ((q + (p + x) % 65521) % 65521)] :: H) w' := by
  refine enter (vs := [.pointer (some ⟨b, 0, none⟩), .int .u8 x]) Tryz.func157 rfl rfl rfl hw ?_
  clear hw w
  repeat (first | (refine sx ?_; try intro _))
  refine JS_fin Tryz.func157 rfl rfl (vs := []) fun w hw => ⟨rfl, hw⟩
set_option maxRecDepth 10000 in
theorem ASumP_c (p q : Int) (hp : 0 ≤ p ∧ p < 65521) (hq : 0 ≤ q ∧ q < 65521) (w : World) (hw : St w0 H w) :
    Calls Tryz.prog 158 #[.agg #[.int .u64 p, .int .u64 q]] w fun e w' => e = .returned (.int .u32 (65536 * q + p)) ∧ St w0 H w' := by
  refine enter (vs := [.agg #[.int .u64 p, .int .u64 q]]) Tryz.func158 rfl rfl rfl hw ?_
  clear hw w
  have hsh : IntKind.u64.wrap (q * 2 ^ 16) = q * 65536 := wu64 (by omega)
  repeat (first | (apply gJO; refine JO_v (V_shl (m := 16) rfl rfl (by decide) rfl hsh rfl) ?_) | (apply gJO; refine JO_v (V_or rfl rfl (or16_u64 ⟨hp.1, by omega⟩ ⟨hq.1, by omega⟩) rfl) ?_) | (first | (refine sx ?_; try intro _)))
  refine JS_ret Tryz.func158 rfl rfl fun w hw => ⟨rfl, hw.drop⟩
set_option maxRecDepth 10000 in
set_option maxHeartbeats 2000000 in
theorem AMore_c (p : Option Addr) (c m : Nat) (B : List Int) (hr : Rd w0 H (.slice p m c) m (ints .u8 B)) (hm : B.length = m) (hB : OKB B) (hmx : m ≤ 140737488355328) (w : World) (hw : St w0 H w) :
    Calls Tryz.prog 120 #[.int .u32 1, .slice p m c] w fun e w' => e = .returned (.int .u32 (adl B)) ∧ St w0 H w' := by
  refine enter (vs := [.int .u32 1, .slice p m c]) Tryz.func120 rfl rfl rfl hw ?_
  clear hw w
  repeat (first | (refine sx ?_; try intro _))
  refine JO_call Tryz.call156 rfl rfl fun w hw => (AOf_c w hw).mono ?_
  rintro e w' ⟨rfl, hw'⟩
  refine ⟨_, rfl, _, hw', ?_⟩
  clear hw' hw w w'
  repeat (first | (refine sx ?_; try intro _))
  rename_i b
  refine JS_loop1 (fun (i : Nat) => [(1, .slice p m c), (5, .pointer (some ⟨b, 0, none⟩)), (6, .func (.func 157) #[.pointer (some ⟨b, 0, none⟩)] #[]), (12, .slice p m c), (13, .int .i64 m), (14, .int .i64 i)]) (fun i => blk b [.int .u64 (adS B i).1, .int .u64 (adS B i).2] :: H) (fun i => i ≤ m) (fun i => m - i) 0 (Nat.zero_le _) (by repeat (first | exact trivial | refine ⟨rfl, ?_⟩ | refine ⟨lookI rfl (by omega), ?_⟩)) (fun w h => h) ?_
  intro i hi again
  have hbd := adS_bd B hB i
  by_cases him : i < m
  · have gB : (ints .u8 B)[i]? = some (.int .u8 (B.getD i 0)) := ints_get (by omega)
    have hb := hB i
    have hs : adS B (i + 1) = (((adS B i).1 + B.getD i 0) % 65521, ((adS B i).2 + ((adS B i).1 + B.getD i 0) % 65521) % 65521) := rfl
    repeat (first | (apply gJO; refine JO_v (oL (V_loadC (tb := tb) rfl (Rd_weak hr fun w hw => dS hw) rfl rfl gB rfl)) ?_) | (first | (refine sx ?_; try intro _)))
    refine JO_callv (us := [.pointer (some ⟨b, 0, none⟩)]) (cs := []) rfl Tryz.call157 rfl rfl fun w hw => (AAdd_c b (adS B i).1 (adS B i).2 (B.getD i 0) ⟨hbd.1, hbd.2.1⟩ ⟨hbd.2.2.1, hbd.2.2.2⟩ hb w hw).mono ?_
    rintro e w' ⟨rfl, hw'⟩
    refine ⟨_, rfl, _, hw', ?_⟩
    clear hw' hw w w'
    repeat (first | (refine sx ?_; try intro _))
    exact JS_again1 again (i + 1) (by omega) (by omega) (by repeat (first | exact trivial | refine ⟨rfl, ?_⟩ | refine ⟨lookI rfl (by omega), ?_⟩)) (fun w hw => by rw [hs]; exact hw)
  · obtain rfl : i = m := by omega
    clear again
    repeat (first | (refine sx ?_; try intro _))
    refine JO_call Tryz.call158 rfl rfl fun w hw => (ASumP_c (adS B i).1 (adS B i).2 ⟨hbd.1, hbd.2.1⟩ ⟨hbd.2.2.1, hbd.2.2.2⟩ w hw).mono ?_
    rintro e w' ⟨rfl, hw'⟩
    refine ⟨_, rfl, _, hw', ?_⟩
    clear hw' hw w w'
    repeat (first | (refine sx ?_; try intro _))
    refine JS_ret Tryz.func120 rfl rfl fun w hw => ⟨by unfold adl; rw [hm]; rfl, hw.drop⟩
theorem ASum_c (p : Option Addr) (c m : Nat) (B : List Int) (hr : Rd w0 H (.slice p m c) m (ints .u8 B)) (hm : B.length = m) (hB : OKB B) (hmx : m ≤ 140737488355328) (w : World) (hw : St w0 H w) :
    Calls Tryz.prog 79 #[.slice p m c] w fun e w' => e = .returned (.int .u32 (adl B)) ∧ St w0 H w' := by
  refine enter (vs := [.slice p m c]) Tryz.func79 rfl rfl rfl hw ?_
  clear hw w
  repeat (first | (refine sx ?_; try intro _))
  refine JO_call Tryz.call120 rfl rfl fun w hw => (AMore_c p c m B hr hm hB hmx w hw).mono ?_
  rintro e w' ⟨rfl, hw'⟩
  refine ⟨_, rfl, _, hw', ?_⟩
  clear hw' hw w w'
  repeat (first | (refine sx ?_; try intro _))
  refine JS_ret Tryz.func79 rfl rfl fun w hw => ⟨rfl, hw⟩
set_option maxRecDepth 10000 in
set_option maxHeartbeats 2000000 in
theorem RMore3_c (p : Option Addr) (c m : Nat) (B : List Int) (hr : Rd w0 H (.slice p m c) m (ints .u8 B)) (hm : B.length = m) (hB : OKB B) (hmx : m ≤ 140737488355328) (w : World) (hw : St w0 H w) :
    Calls Tryz.prog 176 #[.int .u32 1, .slice p m c] w fun e w' => e = .returned (.int .u32 (adl B)) ∧ St w0 H w' := by
  refine enter (vs := [.int .u32 1, .slice p m c]) Tryz.func176 rfl rfl rfl hw ?_
  clear hw w
  repeat (first | (refine sx ?_; try intro _))
  refine JS_loop1 (fun (i : Nat) => [(1, .slice p m c), (5, .int .u32 (adS B i).1), (6, .int .u32 (adS B i).2), (7, .int .i64 i)]) (fun i => H) (fun i => i ≤ m) (fun i => m - i) 0 (Nat.zero_le _) (by repeat (first | exact trivial | refine ⟨rfl, ?_⟩ | refine ⟨lookI rfl (by omega), ?_⟩)) (fun w h => h) ?_
  intro i hi again
  have hbd := adS_bd B hB i
  by_cases him : i < m
  · have gB : (ints .u8 B)[i]? = some (.int .u8 (B.getD i 0)) := ints_get (by omega)
    have hb := hB i
    have hs : adS B (i + 1) = (((adS B i).1 + B.getD i 0) % 65521, ((adS B i).2 + ((adS B i).1 + B.getD i 0) % 65521) % 65521) := rfl
    have hs2 : (((adS B i).1 + B.getD i 0) % 65521 + (adS B i).2) % 65521 = (adS B (i + 1)).2 := by rw [hs, Int.add_comm]
    repeat (first | (apply gJO; refine JO_v (oL (V_loadC (tb := tb) rfl (Rd_weak hr fun w hw => dS hw) rfl rfl gB rfl)) ?_) | (first | (refine sx ?_; try intro _)))
    rw [hs2, show ((adS B i).1 + B.getD i 0) % 65521 = (adS B (i + 1)).1 by rw [hs]]
    exact JS_again1 again (i + 1) (by omega) (by omega) (by repeat (first | exact trivial | refine ⟨rfl, ?_⟩ | refine ⟨lookI rfl (by omega), ?_⟩)) (fun w hw => hw)
  · obtain rfl : i = m := by omega
    clear again
    have hfin : 65536 * (adS B i).2 + (adS B i).1 = adl B := by unfold adl; rw [hm]
    repeat (first | (refine sx ?_; try intro _))
    refine JS_ret Tryz.func176 rfl rfl fun w hw => ⟨by rw [← hfin]; rfl, hw⟩
theorem RSum3_c (p : Option Addr) (c m : Nat) (B : List Int) (hr : Rd w0 H (.slice p m c) m (ints .u8 B)) (hm : B.length = m) (hB : OKB B) (hmx : m ≤ 140737488355328) (w : World) (hw : St w0 H w) :
    Calls Tryz.prog 126 #[.slice p m c] w fun e w' => e = .returned (.int .u32 (adl B)) ∧ St w0 H w' := by
  refine enter (vs := [.slice p m c]) Tryz.func126 rfl rfl rfl hw ?_
  clear hw w
  repeat (first | (refine sx ?_; try intro _))
  refine JO_call Tryz.call176 rfl rfl fun w hw => (RMore3_c p c m B hr hm hB hmx w hw).mono ?_
  rintro e w' ⟨rfl, hw'⟩
  refine ⟨_, rfl, _, hw', ?_⟩
  clear hw' hw w w'
  repeat (first | (refine sx ?_; try intro _))
  refine JS_ret Tryz.func126 rfl rfl fun w hw => ⟨rfl, hw⟩
end
end Go.Proofs.YteelffkghidpfaaGreat

set_option linter.unusedVariables false
set_option linter.unusedSimpArgs false
namespace Sx
open Go
/-! a slice's cells that a string shares: they are read, never written -/
def RoIn (e size : Nat) (v : Value) (n : Nat) (cs : List Value) (w : World) (fp : List Nat) : Prop :=
  cs.length = n * size ∧ ∃ g cap cur fr, v = .slice (some ⟨g, 0, none⟩) n cap ∧ fp = [g] ∧ w.heap[g]? = some (.cells cur e fr) ∧ n ≤ cap ∧ cur.size = cap * size ∧ cur.toList.take (n * size) = cs
@[irreducible] def roV (e size : Nat) (v : Value) (n : Nat) (cs : List Value) : Asn where
  holds := RoIn e size v n cs
  frame w w' fp h hk := by
    obtain ⟨h1, g, cap, cur, fr, h3, rfl, h4, h5⟩ := h
    exact ⟨h1, g, cap, cur, fr, h3, rfl, by rw [hk g (by simp)]; exact h4, h5⟩
  live w fp h b hb := by
    obtain ⟨h1, g, cap, cur, fr, h3, rfl, h4, h5⟩ := h
    simp at hb; subst hb; exact (Array.getElem?_eq_some_iff.1 h4).1
end Sx

set_option linter.unusedVariables false
set_option linter.unusedSimpArgs false
namespace Go.Proofs.YteelffkghidpfaaGreat
open Sx Go
/-! ## heads and sums' bytes -/
def sb4 (s : Int) : List Int := [s / 16777216, s / 65536 % 256, s / 256 % 256, s % 256]
/-- a right head -/
def hdOK (B : List Int) : Prop := 2 ≤ B.length ∧ B.getD 0 0 % 16 = 8 ∧ B.getD 0 0 / 16 ≤ 7 ∧ B.getD 1 0 / 32 % 2 = 0 ∧ (256 * B.getD 0 0 + B.getD 1 0) % 31 = 0
instance (B : List Int) : Decidable (hdOK B) := by unfold hdOK; infer_instance
theorem and15_u8 {x : Int} (hx : 0 ≤ x ∧ x < 256) : IntKind.u8.wrap ((BitVec.ofInt IntKind.u8.bits x &&& BitVec.ofInt IntKind.u8.bits 15).toNat) = x % 16 := by
  obtain ⟨n, rfl⟩ : ∃ n : Nat, x = n := ⟨x.toNat, by omega⟩
  have h : ∀ k : Fin 256, IntKind.u8.wrap ((BitVec.ofInt IntKind.u8.bits (k.val : Int) &&& BitVec.ofInt IntKind.u8.bits 15).toNat) = (k.val : Int) % 16 := by decide +kernel
  exact h ⟨n, by omega⟩
theorem and32_u8 {x : Int} (hx : 0 ≤ x ∧ x < 256) : IntKind.u8.wrap ((BitVec.ofInt IntKind.u8.bits x &&& BitVec.ofInt IntKind.u8.bits 32).toNat) = x / 32 % 2 * 32 := by
  obtain ⟨n, rfl⟩ : ∃ n : Nat, x = n := ⟨x.toNat, by omega⟩
  have h : ∀ k : Fin 256, IntKind.u8.wrap ((BitVec.ofInt IntKind.u8.bits (k.val : Int) &&& BitVec.ofInt IntKind.u8.bits 32).toNat) = (k.val : Int) / 32 % 2 * 32 := by decide +kernel
  exact h ⟨n, by omega⟩
theorem or8_i64 {a b : Int} (ha : 0 ≤ a ∧ a < 256) (hb : 0 ≤ b ∧ b < 256) : IntKind.i64.wrap ((BitVec.ofInt IntKind.i64.bits (b * 256) ||| BitVec.ofInt IntKind.i64.bits a).toNat) = 256 * b + a := by
  have hbits : (2 : Int) ^ IntKind.i64.bits = 18446744073709551616 := by decide
  rw [or_nat .i64 ⟨by omega, by rw [hbits]; omega⟩ ⟨by omega, by rw [hbits]; omega⟩]
  have h := Nat.two_pow_add_eq_or_of_lt (i := 8) (b := a.toNat) (by omega) b.toNat
  have e : (b * 256).toNat = 2 ^ 8 * b.toNat := by omega
  rw [e, ← h]
  exact (wi64 (by omega)).trans (by omega)
section
variable {w0 : World} {H : List Asn}
set_option maxRecDepth 10000 in
set_option maxHeartbeats 2000000 in
theorem ZHead_c (p : Option Addr) (c m : Nat) (B : List Int) (hr : Rd w0 H (.slice p m c) m (ints .u8 B)) (hm : B.length = m) (hB : OKB B) (w : World) (hw : St w0 H w) :
    Calls Tryz.prog 152 #[.slice p m c] w fun e w' => e = .returned (.bool (decide (hdOK B))) ∧ St w0 H w' := by
  refine enter (vs := [.slice p m c]) Tryz.func152 rfl rfl rfl hw ?_
  clear hw w
  by_cases h2 : m < 2
  · have hd : decide (hdOK B) = false := by rw [decide_eq_false_iff_not]; unfold hdOK; omega
    rw [hd]
    repeat (first | (refine sx ?_; try intro _))
    refine JS_ret Tryz.func152 rfl rfl fun w hw => ⟨rfl, hw⟩
  have b0 := hB 0
  have b1 := hB 1
  have g0 : (ints .u8 B)[0]? = some (.int .u8 (B.getD 0 0)) := ints_get (by omega)
  have g1 : (ints .u8 B)[1]? = some (.int .u8 (B.getD 1 0)) := ints_get (by omega)
  have hdef : decide (hdOK B) = decide (B.getD 0 0 % 16 = 8 ∧ B.getD 0 0 / 16 ≤ 7 ∧ B.getD 1 0 / 32 % 2 = 0 ∧ (256 * B.getD 0 0 + B.getD 1 0) % 31 = 0) := decide_eq_decide.2 ⟨fun h => h.2, fun h => ⟨by omega, h⟩⟩
  rw [hdef]
  clear hdef
  obtain ⟨x, hx⟩ : ∃ x, B.getD 0 0 = x := ⟨_, rfl⟩
  obtain ⟨y, hy⟩ : ∃ y, B.getD 1 0 = y := ⟨_, rfl⟩
  rw [hx] at b0 g0
  rw [hy] at b1 g1
  rw [hx, hy]
  have a1 := and15_u8 b0
  have a2 := and32_u8 b1
  have sh : IntKind.i64.wrap (x * 2 ^ 8) = x * 256 := wi64 (by omega)
  have a3 := or8_i64 b1 b0
  by_cases h8 : x % 16 = 8
  case' neg => have hd : decide (x % 16 = 8 ∧ x / 16 ≤ 7 ∧ y / 32 % 2 = 0 ∧ (256 * x + y) % 31 = 0) = false := by rw [decide_eq_false_iff_not]; omega
  case' pos =>
    by_cases h7 : x / 16 ≤ 7
    case' neg => have hd : decide (x % 16 = 8 ∧ x / 16 ≤ 7 ∧ y / 32 % 2 = 0 ∧ (256 * x + y) % 31 = 0) = false := by rw [decide_eq_false_iff_not]; omega
    case' pos =>
      by_cases h5 : y / 32 % 2 = 0
      case' neg => have hd : decide (x % 16 = 8 ∧ x / 16 ≤ 7 ∧ y / 32 % 2 = 0 ∧ (256 * x + y) % 31 = 0) = false := by rw [decide_eq_false_iff_not]; omega
      case' pos =>
        by_cases h31 : (256 * x + y) % 31 = 0
        case' neg => have hd : decide (x % 16 = 8 ∧ x / 16 ≤ 7 ∧ y / 32 % 2 = 0 ∧ (256 * x + y) % 31 = 0) = false := by rw [decide_eq_false_iff_not]; omega
        case' pos => have hd : decide (x % 16 = 8 ∧ x / 16 ≤ 7 ∧ y / 32 % 2 = 0 ∧ (256 * x + y) % 31 = 0) = true := by rw [decide_eq_true_iff]; omega
  all_goals
    rw [hd]
    clear hd
    repeat (first | (apply gQO; refine QO_v rfl (oL (V_loadC (tb := tb) rfl (Rd_weak hr fun w hw => dS hw) rfl rfl g0 rfl)) ?_) | (apply gQO; refine QO_v rfl (oL (V_loadC (tb := tb) rfl (Rd_weak hr fun w hw => dS hw) rfl rfl g1 rfl)) ?_) | (apply gQO; refine QO_v rfl (V_and rfl rfl a1 rfl) ?_) | (apply gQO; refine QO_v rfl (V_and rfl rfl a2 rfl) ?_) | (apply gQO; refine QO_v rfl (V_shl (m := 8) rfl rfl (by decide) rfl sh rfl) ?_) | (apply gQO; refine QO_v rfl (V_or rfl rfl a3 rfl) ?_) | (apply gQO; refine QO_v rfl (V_shr (m := 4) rfl rfl (by decide) rfl rfl rfl) ?_) | (first | (refine sx ?_; try intro _)))
    refine JS_ret Tryz.func152 rfl rfl fun w hw => ⟨rfl, hw⟩
set_option maxRecDepth 10000 in
/-- the sum's bytes, as an array -/
theorem ZSum_c (p : Option Addr) (c m : Nat) (B : List Int) (hr : Rd w0 H (.slice p m c) m (ints .u8 B)) (hm : B.length = m) (hB : OKB B) (hmx : m ≤ 140737488355328) (w : World) (hw : St w0 H w) :
    Calls Tryz.prog 78 #[.slice p m c, .func (.func 79) #[] #[]] w fun e w' => e = .returned (.agg #[.int .u8 (adl B / 16777216), .int .u8 (adl B / 65536 % 256), .int .u8 (adl B / 256 % 256), .int .u8 (adl B % 256)]) ∧ St w0 H w' := by
  have hbd := adl_bd hB
  refine enter (vs := [.slice p m c, .func (.func 79) #[] #[]]) Tryz.func78 rfl rfl rfl hw ?_
  clear hw w
  repeat (first | (refine sx ?_; try intro _))
  refine JO_callv (us := []) (cs := []) rfl Tryz.call79 rfl rfl fun w hw => (ASum_c p c m B (Rd_weak hr fun w hw => dS hw) hm hB hmx w hw).mono ?_
  rintro e w' ⟨rfl, hw'⟩
  obtain ⟨s, hs⟩ : ∃ s, adl B = s := ⟨_, rfl⟩
  rw [hs] at hbd ⊢
  refine ⟨_, rfl, _, hw', ?_⟩
  clear hw' hw w w'
  have c1 : IntKind.u8.wrap (s / 2 ^ 24) = s / 16777216 := wu8 (by omega)
  have c2 : IntKind.u8.wrap (s / 2 ^ 16) = s / 65536 % 256 := (mu8 _).trans (by omega)
  have c3 : IntKind.u8.wrap (s / 2 ^ 8) = s / 256 % 256 := (mu8 _).trans (by omega)
  have c4 : IntKind.u8.wrap s = s % 256 := mu8 _
  repeat (first | (apply gJO; refine JO_v (V_shr (m := 24) rfl rfl (by decide) rfl rfl rfl) ?_) | (apply gJO; refine JO_v (V_shr (m := 16) rfl rfl (by decide) rfl rfl rfl) ?_) | (apply gJO; refine JO_v (V_shr (m := 8) rfl rfl (by decide) rfl rfl rfl) ?_) | (apply gJO; first | refine JO_v (oCv (V_conv (tb := tb) rfl rfl rfl c1 rfl)) ?_ | refine JO_v (oCv (V_conv (tb := tb) rfl rfl rfl c2 rfl)) ?_ | refine JO_v (oCv (V_conv (tb := tb) rfl rfl rfl c3 rfl)) ?_ | refine JO_v (oCv (V_conv (tb := tb) rfl rfl rfl c4 rfl)) ?_) | (apply gJO; refine JO_v (V_buildA (tb := tb) rfl rfl rfl rfl rfl) ?_) | (first | (refine sx ?_; try intro _)))
  refine JS_retC Tryz.func78 rfl (by first | exact ResV.agg (tb := tb) rfl (by repeat (first | apply List.Mem.head | apply List.Mem.tail)) rfl rfl rfl ResV.nil | exact ResV.agg (tb := tb) rfl (by repeat (first | apply List.Mem.head | apply List.Mem.tail)) rfl rfl rfl (ResV.tmp rfl ResV.nil) | exact ResV.agg (tb := tb) rfl (by repeat (first | apply List.Mem.head | apply List.Mem.tail)) rfl rfl rfl (ResV.tmp rfl (ResV.tmp rfl ResV.nil)) | exact ResV.one (tb := tb) rfl (by repeat (first | apply List.Mem.head | apply List.Mem.tail)) rfl rfl rfl ResV.nil | exact ResV.one (tb := tb) rfl (by repeat (first | apply List.Mem.head | apply List.Mem.tail)) rfl rfl rfl (ResV.tmp rfl ResV.nil) | exact ResV.one (tb := tb) rfl (by repeat (first | apply List.Mem.head | apply List.Mem.tail)) rfl rfl rfl (ResV.one (tb := tb) rfl (by repeat (first | apply List.Mem.head | apply List.Mem.tail)) rfl rfl rfl ResV.nil) | exact ResV.tmp rfl (ResV.agg (tb := tb) rfl (by repeat (first | apply List.Mem.head | apply List.Mem.tail)) rfl rfl rfl ResV.nil) | exact ResV.tmp rfl (ResV.one (tb := tb) rfl (by repeat (first | apply List.Mem.head | apply List.Mem.tail)) rfl rfl rfl ResV.nil)) ?_
  intro w hw
  exact ⟨rfl, dS hw⟩
set_option maxRecDepth 10000 in
/-- the reference's sum's bytes -/
theorem RSum9_c (p : Option Addr) (c m : Nat) (B : List Int) (hr : Rd w0 H (.slice p m c) m (ints .u8 B)) (hm : B.length = m) (hB : OKB B) (hmx : m ≤ 140737488355328) (w : World) (hw : St w0 H w) :
    Calls Tryz.prog 83 #[.slice p m c] w fun e w' => ∃ q d, e = .returned (.slice q 4 d) ∧ St w0 (vec 5 1 (.slice q 4 d) 4 (ints .u8 (sb4 (adl B))) :: H) w' := by
  have hbd := adl_bd hB
  refine enter (vs := [.slice p m c]) Tryz.func83 rfl rfl rfl hw ?_
  clear hw w
  repeat (first | (refine sx ?_; try intro _))
  refine JO_call Tryz.call126 rfl rfl fun w hw => (RSum3_c p c m B hr hm hB hmx w hw).mono ?_
  rintro e w' ⟨rfl, hw'⟩
  obtain ⟨s, hs⟩ : ∃ s, adl B = s := ⟨_, rfl⟩
  rw [hs] at hbd ⊢
  refine ⟨_, rfl, _, hw', ?_⟩
  clear hw' hw w w'
  repeat (first | (refine sx ?_; try intro _))
  rename_i pq
  refine JS_ret Tryz.func83 rfl rfl fun w hw => ⟨some pq, 4, rfl, hw⟩
end
end Go.Proofs.YteelffkghidpfaaGreat

namespace Go.Proofs.YteelffkghidpfaaGreat
open Sx Go
set_option linter.unusedVariables false
set_option linter.unusedSimpArgs false
/-- the least length of a symbol, and how many bits follow -/
def lbase (n : Int) : Int × Int := if n < 257 ∨ 285 < n then (0, 0) else if n = 285 then (258, 0) else if n < 265 then (3 + (n - 257), 0) else (3 + (4 + (n - 257) % 4) * 2 ^ ((n - 257) / 4 - 1).toNat, (n - 257) / 4 - 1)
theorem Base_c {w0 : World} {H : List Asn} (s : Int) (hs : -9223372036854775808 ≤ s ∧ s < 9223372036854775808) (w : World) (hw : St w0 H w) :
    Calls Tryz.prog 242 #[.int .i64 s] w fun e w' => e = .returned (.tuple #[.int .i64 (lbase s).1, .int .i64 (lbase s).2]) ∧ St w0 H w' := by
  refine enter (vs := [.int .i64 s]) Tryz.func242 rfl rfl rfl hw ?_
  unfold lbase
  by_cases h1 : s < 257
  · rw [if_pos (.inl h1)]
    repeat (first | (refine sx ?_; try intro _))
    exact JS_ret Tryz.func242 rfl rfl fun w hw => ⟨rfl, hw⟩
  by_cases h2 : 285 < s
  · rw [if_pos (.inr h2)]
    repeat (first | (refine sx ?_; try intro _))
    exact JS_ret Tryz.func242 rfl rfl fun w hw => ⟨rfl, hw⟩
  rw [if_neg (by omega)]
  by_cases h3 : s = 285
  · rw [if_pos h3]
    repeat (first | (refine sx ?_; try intro _))
    exact JS_ret Tryz.func242 rfl rfl fun w hw => ⟨rfl, hw⟩
  rw [if_neg h3]
  by_cases h4 : s < 265
  · rw [if_pos h4]
    repeat (first | (refine sx ?_; try intro _))
    exact JS_ret Tryz.func242 rfl rfl fun w hw => ⟨rfl, hw⟩
  rw [if_neg h4]
  have h5 : ∃ k : Nat, (s - 257) / 4 - 1 = k ∧ (k = 1 ∨ k = 2 ∨ k = 3 ∨ k = 4 ∨ k = 5) := ⟨((s - 257) / 4 - 1).toNat, by omega, by omega⟩
  obtain ⟨k, hk, hk5⟩ := h5
  have hp : (2 : Int) ^ k ≤ 32 ∧ 1 ≤ (2 : Int) ^ k := by rcases hk5 with rfl | rfl | rfl | rfl | rfl <;> decide
  have hm : 0 ≤ (4 + (s - 257) % 4) * (2 : Int) ^ k ∧ (4 + (s - 257) % 4) * (2 : Int) ^ k ≤ 224 := by
    rcases hk5 with rfl | rfl | rfl | rfl | rfl <;> (simp only [Int.reducePow]; omega)
  have hw9 : IntKind.i64.wrap ((4 + (s - 257) % 4) * (2 : Int) ^ k) = (4 + (s - 257) % 4) * (2 : Int) ^ k := wi64 (by omega)
  have hmin : min ((s - 257) / 4 - 1).toNat IntKind.i64.bits = k := by
    rw [hk]; show min k 64 = k; omega
  have hkt : ((s - 257) / 4 - 1).toNat = k := by omega
  simp only [hkt]
  repeat (first | (apply gJO; refine JO_v (V_shl (m := k) rfl rfl (by omega) hmin hw9 rfl) ?_) | (first | (refine sx ?_; try intro _)))
  exact JS_ret Tryz.func242 rfl rfl fun w hw => ⟨rfl, hw⟩
theorem lbase_step : ∀ i : Nat, i < 27 → (lbase (257 + i)).1 + 2 ^ (lbase (257 + i)).2.toNat = (lbase (257 + (i + 1 : Nat))).1 := by
  have h : ∀ i : Fin 27, (lbase (257 + (i.val : Int))).1 + 2 ^ (lbase (257 + (i.val : Int))).2.toNat = (lbase (257 + ((i.val + 1 : Nat) : Int))).1 := by decide +kernel
  exact fun i hi => h ⟨i, hi⟩
theorem lbase_bd : ∀ i : Nat, i < 28 → 3 ≤ (lbase (257 + i)).1 ∧ (lbase (257 + i)).1 ≤ 258 ∧ 0 ≤ (lbase (257 + i)).2 ∧ (lbase (257 + i)).2 ≤ 5 ∧ (lbase (257 + i)).2 = if i < 8 then 0 else ((i : Int) - 4) / 4 := by
  have h : ∀ i : Fin 28, 3 ≤ (lbase (257 + (i.val : Int))).1 ∧ (lbase (257 + (i.val : Int))).1 ≤ 258 ∧ 0 ≤ (lbase (257 + (i.val : Int))).2 ∧ (lbase (257 + (i.val : Int))).2 ≤ 5 ∧ (lbase (257 + (i.val : Int))).2 = if i.val < 8 then 0 else ((i.val : Int) - 4) / 4 := by decide +kernel
  exact fun i hi => h ⟨i, hi⟩
set_option maxHeartbeats 1000000 in
theorem RBase_c {w0 : World} {H : List Asn} (s : Int) (hs : -9223372036854775808 ≤ s ∧ s < 9223372036854775808) (w : World) (hw : St w0 H w) :
    Calls Tryz.prog 181 #[.int .i64 s] w fun e w' => e = .returned (.tuple #[.int .i64 (lbase s).1, .int .i64 (lbase s).2]) ∧ St w0 H w' := by
  refine enter (vs := [.int .i64 s]) Tryz.func181 rfl rfl rfl hw ?_
  by_cases h1 : s < 257
  · rw [show lbase s = (0, 0) from if_pos (.inl h1)]
    repeat (first | (refine sx ?_; try intro _))
    exact JS_ret Tryz.func181 rfl rfl fun w hw => ⟨rfl, hw⟩
  by_cases h2 : 285 < s
  · rw [show lbase s = (0, 0) from if_pos (.inr h2)]
    repeat (first | (refine sx ?_; try intro _))
    exact JS_ret Tryz.func181 rfl rfl fun w hw => ⟨rfl, hw⟩
  by_cases h3 : s = 285
  · subst h3
    repeat (first | (refine sx ?_; try intro _))
    exact JS_ret Tryz.func181 rfl rfl fun w hw => ⟨rfl, hw⟩
  repeat (first | (apply gJR; first | (refine sx ?_; try intro _)) | (apply gJO; first | (refine sx ?_; try intro _)) | apply JS_seq | apply JS_region | refine JS_condF rfl ?_ | refine JS_cond_F rfl (by omega) ?_ | apply JS_skip)
  refine JS_block ?_
  refine JS_loop1 (fun (i : Nat) => [(0, .int .i64 s), (4, .int .i64 (lbase (257 + i)).1), (5, .int .i64 (257 + i))]) (fun _ => H) (fun i => (i : Int) ≤ s - 257) (fun i => 100 - i) 0 (by omega) (by repeat (first | exact trivial | refine ⟨rfl, ?_⟩ | refine ⟨lookI rfl (by omega), ?_⟩)) (fun _ h => h) ?_
  intro i hi again
  obtain ⟨b1, b2, b3, b4, b5⟩ := lbase_bd i (by omega)
  by_cases he : (i : Int) = s - 257
  · obtain rfl : s = 257 + i := by omega
    clear again
    by_cases h8 : i < 8
    · rw [if_pos h8] at b5
      repeat (first | (refine sx ?_; try intro _))
      refine JS_ret Tryz.func181 rfl rfl fun w hw => ⟨?_, hw⟩
      rw [b5]; rfl
    · rw [if_neg h8] at b5
      repeat (first | (refine sx ?_; try intro _))
      refine JS_ret Tryz.func181 rfl rfl fun w hw => ⟨?_, hw⟩
      rw [b5, show (257 + (i : Int) - 261) = i - 4 by omega]; rfl
  · have hst := lbase_step i (by omega)
    obtain ⟨c1, c2, _⟩ := lbase_bd (i + 1) (by omega)
    have hcast : (257 + (i : Int)) + 1 = 257 + ((i + 1 : Nat) : Int) := by omega
    by_cases h8 : i < 8
    · rw [if_pos h8] at b5
      rw [b5] at hst
      have hst' : (lbase (257 + i)).1 + 1 = (lbase (257 + (i + 1 : Nat))).1 := hst
      repeat (first | (apply gJO; refine JO_v (V_shl (m := 0) (c := 1) rfl rfl (by omega) (by decide) (by decide) rfl) ?_) | (first | (refine sx ?_; try intro _)))
      exact JS_again1 again (i + 1) (by omega) (by omega) (by exact ⟨rfl, lookI rfl (by omega), lookI rfl (by omega), trivial⟩) (fun w hw => hw)
    · rw [if_neg h8] at b5
      have hk : ∃ k : Nat, ((i : Int) - 4) / 4 = k ∧ k ≤ 5 := ⟨(((i : Int) - 4) / 4).toNat, by omega, by omega⟩
      obtain ⟨k, hk, hk5⟩ := hk
      rw [b5, hk] at hst
      have hpw : (2 : Int) ^ k ≤ 32 ∧ 1 ≤ (2 : Int) ^ k := by
        rcases (show k = 0 ∨ k = 1 ∨ k = 2 ∨ k = 3 ∨ k = 4 ∨ k = 5 by omega) with rfl | rfl | rfl | rfl | rfl | rfl <;> decide
      have hst' : (lbase (257 + i)).1 + 2 ^ k = (lbase (257 + (i + 1 : Nat))).1 := hst
      have e1 : (257 + (i : Int) - 261) / 4 = k := by rw [show (257 + (i : Int) - 261) = i - 4 by omega]; exact hk
      have hw9 : IntKind.i64.wrap (1 * (2 : Int) ^ k) = (2 : Int) ^ k := (congrArg _ (Int.one_mul _)).trans (wi64 (by omega))
      have hmin : min ((257 + (i : Int) - 261) / 4).toNat IntKind.i64.bits = k := by
        rw [e1]; show min k 64 = k; omega
      repeat (first | (apply gJO; refine JO_v (V_shl (m := k) rfl rfl (by omega) hmin hw9 rfl) ?_) | (first | (refine sx ?_; try intro _)))
      exact JS_again1 again (i + 1) (by omega) (by omega) (by exact ⟨rfl, lookI rfl (by omega), lookI rfl (by omega), trivial⟩) (fun w hw => hw)
end Go.Proofs.YteelffkghidpfaaGreat

namespace Go.Proofs.YteelffkghidpfaaGreat
open Sx Go
set_option linter.unusedVariables false
set_option linter.unusedSimpArgs false
/-- the least distance of a symbol, and how many bits follow -/
def lfar (n : Int) : Int × Int := if n < 0 ∨ 29 < n then (0, 0) else if n < 4 then (1 + n, 0) else (1 + (2 + n % 2) * 2 ^ (n / 2 - 1).toNat, n / 2 - 1)
theorem Far_c {w0 : World} {H : List Asn} (s : Int) (hs : -9223372036854775808 ≤ s ∧ s < 9223372036854775808) (w : World) (hw : St w0 H w) :
    Calls Tryz.prog 243 #[.int .i64 s] w fun e w' => e = .returned (.tuple #[.int .i64 (lfar s).1, .int .i64 (lfar s).2]) ∧ St w0 H w' := by
  refine enter (vs := [.int .i64 s]) Tryz.func243 rfl rfl rfl hw ?_
  unfold lfar
  by_cases h1 : s < 0
  · rw [if_pos (.inl h1)]
    repeat (first | (refine sx ?_; try intro _))
    exact JS_ret Tryz.func243 rfl rfl fun w hw => ⟨rfl, hw⟩
  by_cases h2 : 29 < s
  · rw [if_pos (.inr h2)]
    repeat (first | (refine sx ?_; try intro _))
    exact JS_ret Tryz.func243 rfl rfl fun w hw => ⟨rfl, hw⟩
  rw [if_neg (by omega)]
  by_cases h4 : s < 4
  · rw [if_pos h4]
    repeat (first | (refine sx ?_; try intro _))
    exact JS_ret Tryz.func243 rfl rfl fun w hw => ⟨rfl, hw⟩
  rw [if_neg h4]
  have h5 : ∃ k : Nat, s / 2 - 1 = k ∧ k ≤ 13 := ⟨(s / 2 - 1).toNat, by omega, by omega⟩
  obtain ⟨k, hk, hk5⟩ := h5
  have hp : (2 : Int) ^ k ≤ 8192 ∧ 1 ≤ (2 : Int) ^ k := by
    have h : ∀ j : Fin 14, (2 : Int) ^ j.val ≤ 8192 ∧ 1 ≤ (2 : Int) ^ j.val := by decide +kernel
    exact h ⟨k, by omega⟩
  have hm : 0 ≤ (2 + s % 2) * (2 : Int) ^ k ∧ (2 + s % 2) * (2 : Int) ^ k ≤ 24576 := by
    rcases (show s % 2 = 0 ∨ s % 2 = 1 by omega) with h | h <;> (rw [h]; omega)
  have hw9 : IntKind.i64.wrap ((2 + s % 2) * (2 : Int) ^ k) = (2 + s % 2) * (2 : Int) ^ k := wi64 (by omega)
  have hmin : min (s / 2 - 1).toNat IntKind.i64.bits = k := by
    rw [hk]; show min k 64 = k; omega
  have hkt : (s / 2 - 1).toNat = k := by omega
  simp only [hkt]
  repeat (first | (apply gJO; refine JO_v (V_shl (m := k) rfl rfl (by omega) hmin hw9 rfl) ?_) | (first | (refine sx ?_; try intro _)))
  exact JS_ret Tryz.func243 rfl rfl fun w hw => ⟨rfl, hw⟩
theorem lfar_step : ∀ i : Nat, i < 29 → (lfar i).1 + 2 ^ (lfar i).2.toNat = (lfar (i + 1 : Nat)).1 := by
  have h : ∀ i : Fin 29, (lfar (i.val : Int)).1 + 2 ^ (lfar (i.val : Int)).2.toNat = (lfar ((i.val + 1 : Nat) : Int)).1 := by decide +kernel
  exact fun i hi => h ⟨i, hi⟩
theorem lfar_bd : ∀ i : Nat, i < 30 → 1 ≤ (lfar i).1 ∧ (lfar i).1 ≤ 24577 ∧ 0 ≤ (lfar i).2 ∧ (lfar i).2 ≤ 13 ∧ (lfar i).2 = if i < 4 then 0 else ((i : Int) - 2) / 2 := by
  have h : ∀ i : Fin 30, 1 ≤ (lfar (i.val : Int)).1 ∧ (lfar (i.val : Int)).1 ≤ 24577 ∧ 0 ≤ (lfar (i.val : Int)).2 ∧ (lfar (i.val : Int)).2 ≤ 13 ∧ (lfar (i.val : Int)).2 = if i.val < 4 then 0 else ((i.val : Int) - 2) / 2 := by decide +kernel
  exact fun i hi => h ⟨i, hi⟩
set_option maxHeartbeats 1000000 in
theorem RFar_c {w0 : World} {H : List Asn} (s : Int) (hs : -9223372036854775808 ≤ s ∧ s < 9223372036854775808) (w : World) (hw : St w0 H w) :
    Calls Tryz.prog 182 #[.int .i64 s] w fun e w' => e = .returned (.tuple #[.int .i64 (lfar s).1, .int .i64 (lfar s).2]) ∧ St w0 H w' := by
  refine enter (vs := [.int .i64 s]) Tryz.func182 rfl rfl rfl hw ?_
  by_cases h1 : s < 0
  · rw [show lfar s = (0, 0) from if_pos (.inl h1)]
    repeat (first | (refine sx ?_; try intro _))
    exact JS_ret Tryz.func182 rfl rfl fun w hw => ⟨rfl, hw⟩
  by_cases h2 : 29 < s
  · rw [show lfar s = (0, 0) from if_pos (.inr h2)]
    repeat (first | (refine sx ?_; try intro _))
    exact JS_ret Tryz.func182 rfl rfl fun w hw => ⟨rfl, hw⟩
  repeat (first | (apply gJR; first | (refine sx ?_; try intro _)) | (apply gJO; first | (refine sx ?_; try intro _)) | apply JS_seq | apply JS_region | refine JS_condF rfl ?_ | refine JS_cond_F rfl (by omega) ?_ | apply JS_skip)
  refine JS_block ?_
  refine JS_loop1 (fun (i : Nat) => [(0, .int .i64 s), (4, .int .i64 (lfar i).1), (5, .int .i64 i)]) (fun _ => H) (fun i => (i : Int) ≤ s) (fun i => 100 - i) 0 (by omega) (by exact ⟨rfl, rfl, rfl, trivial⟩) (fun _ h => h) ?_
  intro i hi again
  obtain ⟨b1, b2, b3, b4, b5⟩ := lfar_bd i (by omega)
  by_cases he : (i : Int) = s
  · obtain rfl : s = i := by omega
    clear again
    by_cases h8 : i < 4
    · rw [if_pos h8] at b5
      repeat (first | (refine sx ?_; try intro _))
      refine JS_ret Tryz.func182 rfl rfl fun w hw => ⟨?_, hw⟩
      rw [b5]; rfl
    · rw [if_neg h8] at b5
      repeat (first | (refine sx ?_; try intro _))
      refine JS_ret Tryz.func182 rfl rfl fun w hw => ⟨?_, hw⟩
      rw [b5]; rfl
  · have hst := lfar_step i (by omega)
    obtain ⟨c1, c2, _⟩ := lfar_bd (i + 1) (by omega)
    by_cases h8 : i < 4
    · rw [if_pos h8] at b5
      rw [b5] at hst
      have hst' : (lfar i).1 + 1 = (lfar (i + 1 : Nat)).1 := hst
      repeat (first | (apply gJO; refine JO_v (V_shl (m := 0) (c := 1) rfl rfl (by omega) (by decide) (by decide) rfl) ?_) | (first | (refine sx ?_; try intro _)))
      exact JS_again1 again (i + 1) (by omega) (by omega) (by exact ⟨rfl, lookI rfl (by omega), lookI rfl (by omega), trivial⟩) (fun w hw => hw)
    · rw [if_neg h8] at b5
      have hk : ∃ k : Nat, ((i : Int) - 2) / 2 = k ∧ k ≤ 13 := ⟨(((i : Int) - 2) / 2).toNat, by omega, by omega⟩
      obtain ⟨k, hk, hk5⟩ := hk
      rw [b5, hk] at hst
      have hpw : (2 : Int) ^ k ≤ 8192 ∧ 1 ≤ (2 : Int) ^ k := by
        have h : ∀ j : Fin 14, (2 : Int) ^ j.val ≤ 8192 ∧ 1 ≤ (2 : Int) ^ j.val := by decide +kernel
        exact h ⟨k, by omega⟩
      have hst' : (lfar i).1 + 2 ^ k = (lfar (i + 1 : Nat)).1 := hst
      have hw9 : IntKind.i64.wrap (1 * (2 : Int) ^ k) = (2 : Int) ^ k := (congrArg _ (Int.one_mul _)).trans (wi64 (by omega))
      have hmin : min (((i : Int) - 2) / 2).toNat IntKind.i64.bits = k := by
        rw [hk]; show min k 64 = k; omega
      repeat (first | (apply gJO; refine JO_v (V_shl (m := k) rfl rfl (by omega) hmin hw9 rfl) ?_) | (first | (refine sx ?_; try intro _)))
      exact JS_again1 again (i + 1) (by omega) (by omega) (by exact ⟨rfl, lookI rfl (by omega), lookI rfl (by omega), trivial⟩) (fun w hw => hw)
end Go.Proofs.YteelffkghidpfaaGreat

namespace Go.Proofs.YteelffkghidpfaaGreat
open Sx Go
set_option linter.unusedVariables false
set_option maxRecDepth 10000
set_option linter.unusedSimpArgs false
/-! ## layer 08: lengths' and distances' symbols -/
/-- the greatest symbol from a on, of k ones, whose least number isn't above n -/
def grt (f : Int → Int × Int) (a n : Int) : Nat → Int × Int × Int
  | 0 => (0, 0, 0)
  | k + 1 => if (f (a + k)).1 ≤ n then (a + k, (f (a + k)).2, n - (f (a + k)).1) else grt f a n k
def pk (f : Int → Int × Int) (a n : Int) : Nat → Int
  | 0 => a
  | k + 1 => if (f (a + k)).1 ≤ n then a + k else pk f a n k
theorem pk_bd (f : Int → Int × Int) (a n : Int) : ∀ k : Nat, a ≤ pk f a n k ∧ (pk f a n k = a ∨ pk f a n k < a + k)
  | 0 => ⟨Int.le_refl _, .inl rfl⟩
  | k + 1 => by
    obtain ⟨h1, h2⟩ := pk_bd f a n k
    unfold pk
    split
    · exact ⟨by omega, .inr (by omega)⟩
    · exact ⟨h1, h2.imp id fun h => by omega⟩
theorem pk_le (f : Int → Int × Int) (a n : Int) (h : (f a).1 ≤ n) : ∀ k : Nat, (f (pk f a n k)).1 ≤ n
  | 0 => h
  | k + 1 => by
    unfold pk
    split
    · assumption
    · exact pk_le f a n h k
theorem grt_pk (f : Int → Int × Int) (a n : Int) (h : (f a).1 ≤ n) : ∀ k : Nat, grt f a n (k + 1) = (pk f a n (k + 1), (f (pk f a n (k + 1))).2, n - (f (pk f a n (k + 1))).1)
  | 0 => by
    have e : a + ((0 : Nat) : Int) = a := by omega
    have e1 : grt f a n (0 + 1) = (a, (f a).2, n - (f a).1) := by rw [grt, e, if_pos h]
    have e2 : pk f a n (0 + 1) = a := by rw [pk, e, if_pos h]
    rw [e1, e2]
  | k + 1 => by
    rw [grt, pk]
    split
    · rfl
    · exact grt_pk f a n h k
def lenS (n : Int) : Int × Int × Int := if n < 3 ∨ 258 < n then (0, 0, 0) else grt lbase 257 n 29
def spanS (n : Int) : Int × Int × Int := if n < 1 ∨ 32768 < n then (-1, 0, 0) else grt lfar 0 n 30
section
variable {w0 : World} {H : List Asn}
theorem Greatest_c (q : Nat) (f : Int → Int × Int) (hc : ∀ args w, (callFunc q args).run Tryz.prog w = .ok (.enter q args) w)
    (hq : ∀ s, 0 ≤ s ∧ s ≤ 1000 → ∀ w, St w0 H w → Calls Tryz.prog q #[.int .i64 s] w fun e w' => e = .returned (.tuple #[.int .i64 (f s).1, .int .i64 (f s).2]) ∧ St w0 H w')
    (a : Int) (K : Nat) (ha : 0 ≤ a ∧ a ≤ 300) (hK : K ≤ 300) (hf : ∀ i : Nat, i < K → 0 ≤ (f (a + i)).1) (n : Int) (hn : 0 ≤ n ∧ n ≤ 1000000) (w : World) (hw : St w0 H w) :
    Calls Tryz.prog 241 #[.int .i64 a, .int .i64 (a + K - 1), .int .i64 n, .func (.func q) #[] #[]] w fun e w' => e = .returned (.tuple #[.int .i64 (grt f a n K).1, .int .i64 (grt f a n K).2.1, .int .i64 (grt f a n K).2.2]) ∧ St w0 H w' := by
  refine enter (vs := [.int .i64 a, .int .i64 (a + K - 1), .int .i64 n, .func (.func q) #[] #[]]) Tryz.func241 rfl rfl rfl hw ?_
  repeat (first | (refine sx ?_; try intro _))
  refine JS_loop1 (fun (k : Nat) => [(0, .int .i64 a), (2, .int .i64 n), (3, .func (.func q) #[] #[]), (11, .int .i64 (a + k - 1))]) (fun _ => H) (fun k => k ≤ K ∧ grt f a n K = grt f a n k) (fun k => k) K ⟨Nat.le_refl _, rfl⟩ (by repeat (first | exact trivial | refine ⟨rfl, ?_⟩ | refine ⟨lookI rfl (by omega), ?_⟩)) (fun _ h => h) ?_
  intro k ⟨hk, he⟩ again
  cases k with
  | zero =>
    clear again
    simp only [Int.natCast_zero]
    repeat (first | (refine sx ?_; try intro _))
    exact JS_ret Tryz.func241 rfl rfl fun w hw => ⟨by rw [he]; rfl, hw⟩
  | succ k =>
    have hfk := hf k (by omega)
    have e1 : a + ((k + 1 : Nat) : Int) - 1 = a + k := by omega
    rw [e1]
    repeat (first | (refine sx ?_; try intro _))
    refine JO_callv (us := []) (cs := []) rfl hc rfl rfl fun w hw => (hq (a + k) (by omega) w hw).mono ?_
    rintro e w' ⟨rfl, hw'⟩
    refine ⟨_, rfl, _, hw', ?_⟩
    clear hw' hw w w'
    by_cases hle : (f (a + k)).1 ≤ n
    · repeat (first | (refine sx ?_; try intro _))
      refine JS_ret Tryz.func241 rfl rfl fun w hw => ⟨?_, hw⟩
      rw [he, grt, if_pos hle]
      rfl
    · repeat (first | (refine sx ?_; try intro _))
      exact JS_again1 again k ⟨by omega, by rw [he, grt, if_neg hle]⟩ (by omega) (by repeat (first | exact trivial | refine ⟨rfl, ?_⟩ | refine ⟨lookI rfl (by omega), ?_⟩)) (fun w hw => hw)
theorem lbase_nn (i : Nat) (h : i < 29) : 0 ≤ (lbase (257 + i)).1 := by
  have : ∀ i : Fin 29, 0 ≤ (lbase (257 + (i.val : Int))).1 := by decide +kernel
  exact this ⟨i, h⟩
theorem lfar_nn (i : Nat) (h : i < 30) : 0 ≤ (lfar (0 + i)).1 := by
  have : ∀ i : Fin 30, 0 ≤ (lfar (0 + (i.val : Int))).1 := by decide +kernel
  exact this ⟨i, h⟩
theorem TLength_c (n : Int) (w : World) (hw : St w0 H w) :
    Calls Tryz.prog 220 #[.int .i64 n] w fun e w' => e = .returned (.tuple #[.int .i64 (lenS n).1, .int .i64 (lenS n).2.1, .int .i64 (lenS n).2.2]) ∧ St w0 H w' := by
  refine enter (vs := [.int .i64 n]) Tryz.func220 rfl rfl rfl hw ?_
  unfold lenS
  by_cases h1 : n < 3
  · rw [if_pos (.inl h1)]
    repeat (first | (refine sx ?_; try intro _))
    exact JS_ret Tryz.func220 rfl rfl fun w hw => ⟨rfl, hw⟩
  by_cases h2 : 258 < n
  · rw [if_pos (.inr h2)]
    repeat (first | (refine sx ?_; try intro _))
    exact JS_ret Tryz.func220 rfl rfl fun w hw => ⟨rfl, hw⟩
  rw [if_neg (by omega)]
  repeat (first | (refine sx ?_; try intro _))
  refine JO_call Tryz.call241 rfl rfl fun w hw => (Greatest_c 242 lbase Tryz.call242 (fun s hs w hw => Base_c s (by omega) w hw) 257 29 (by omega) (by omega) lbase_nn n (by omega) w hw).mono ?_
  rintro e w' ⟨rfl, hw'⟩
  refine ⟨_, rfl, _, hw', ?_⟩
  clear hw' hw w w'
  repeat (first | (refine sx ?_; try intro _))
  exact JS_ret Tryz.func220 rfl rfl fun w hw => ⟨rfl, hw⟩
theorem Span_c (n : Int) (w : World) (hw : St w0 H w) :
    Calls Tryz.prog 221 #[.int .i64 n] w fun e w' => e = .returned (.tuple #[.int .i64 (spanS n).1, .int .i64 (spanS n).2.1, .int .i64 (spanS n).2.2]) ∧ St w0 H w' := by
  refine enter (vs := [.int .i64 n]) Tryz.func221 rfl rfl rfl hw ?_
  unfold spanS
  by_cases h1 : n < 1
  · rw [if_pos (.inl h1)]
    repeat (first | (refine sx ?_; try intro _))
    exact JS_ret Tryz.func221 rfl rfl fun w hw => ⟨rfl, hw⟩
  by_cases h2 : 32768 < n
  · rw [if_pos (.inr h2)]
    repeat (first | (refine sx ?_; try intro _))
    exact JS_ret Tryz.func221 rfl rfl fun w hw => ⟨rfl, hw⟩
  rw [if_neg (by omega)]
  repeat (first | (refine sx ?_; try intro _))
  refine JO_call Tryz.call241 rfl rfl fun w hw => (Greatest_c 243 lfar Tryz.call243 (fun s hs w hw => Far_c s (by omega) w hw) 0 30 (by omega) (by omega) lfar_nn n (by omega) w hw).mono ?_
  rintro e w' ⟨rfl, hw'⟩
  refine ⟨_, rfl, _, hw', ?_⟩
  clear hw' hw w w'
  repeat (first | (refine sx ?_; try intro _))
  exact JS_ret Tryz.func221 rfl rfl fun w hw => ⟨rfl, hw⟩
theorem RLength_c (n : Int) (hn : -9223372036854775808 ≤ n ∧ n < 9223372036854775808) (w : World) (hw : St w0 H w) :
    Calls Tryz.prog 172 #[.int .i64 n] w fun e w' => e = .returned (.tuple #[.int .i64 (lenS n).1, .int .i64 (lenS n).2.1, .int .i64 (lenS n).2.2]) ∧ St w0 H w' := by
  refine enter (vs := [.int .i64 n]) Tryz.func172 rfl rfl rfl hw ?_
  unfold lenS
  by_cases h1 : n < 3
  · rw [if_pos (.inl h1)]
    repeat (first | (refine sx ?_; try intro _))
    exact JS_ret Tryz.func172 rfl rfl fun w hw => ⟨rfl, hw⟩
  by_cases h2 : 258 < n
  · rw [if_pos (.inr h2)]
    repeat (first | (refine sx ?_; try intro _))
    exact JS_ret Tryz.func172 rfl rfl fun w hw => ⟨rfl, hw⟩
  rw [if_neg (by omega)]
  have hL : lbase (257 + (28 : Nat)) = (258, 0) := by decide +kernel
  by_cases h3 : n = 258
  · subst h3
    repeat (first | (refine sx ?_; try intro _))
    refine JS_ret Tryz.func172 rfl rfl fun w hw => ⟨?_, hw⟩
    rw [grt, if_pos (by rw [hL]; decide), hL]; rfl
  have hg : grt lbase 257 n 29 = (pk lbase 257 n 28, (lbase (pk lbase 257 n 28)).2, n - (lbase (pk lbase 257 n 28)).1) := by
    rw [grt, if_neg (by rw [hL]; simp only []; omega)]
    exact grt_pk lbase 257 n (by rw [show lbase 257 = (3, 0) by decide +kernel]; simp only []; omega) 27
  have hle := pk_le lbase 257 n (by rw [show lbase 257 = (3, 0) by decide +kernel]; simp only []; omega) 28
  obtain ⟨b1, b2⟩ := pk_bd lbase 257 n 28
  have hnn : 0 ≤ (lbase (pk lbase 257 n 28)).1 := by
    have := lbase_nn (pk lbase 257 n 28 - 257).toNat (by omega)
    rwa [show (257 : Int) + ((pk lbase 257 n 28 - 257).toNat : Int) = pk lbase 257 n 28 by omega] at this
  rw [hg]
  repeat (first | (refine sx ?_; try intro _))
  refine JS_loop1 (fun (k : Nat) => [(0, .int .i64 n), (5, .int .i64 (pk lbase 257 n k)), (6, .int .i64 (257 + k))]) (fun _ => H) (fun k => k ≤ 28) (fun k => 28 - k) 0 (by omega) (by repeat (first | exact trivial | refine ⟨rfl, ?_⟩ | refine ⟨lookI rfl (by omega), ?_⟩)) (fun _ h => h) ?_
  intro k hk again
  by_cases h28 : k < 28
  · repeat (first | (refine sx ?_; try intro _))
    refine JO_call Tryz.call181 rfl rfl fun w hw => (RBase_c (257 + k) (by omega) w hw).mono ?_
    rintro e w' ⟨rfl, hw'⟩
    refine ⟨_, rfl, _, hw', ?_⟩
    clear hw' hw w w'
    have hcast : (257 + (k : Int)) + 1 = 257 + ((k + 1 : Nat) : Int) := by omega
    by_cases hl : (lbase (257 + k)).1 ≤ n
    · have hp : pk lbase 257 n (k + 1) = 257 + k := by rw [pk, if_pos hl]
      repeat (first | (refine sx ?_; try intro _))
      exact JS_again1 again (k + 1) (by omega) (by omega) (by rw [hp]; exact ⟨rfl, rfl, lookI rfl (by omega), trivial⟩) (fun w hw => hw)
    · have hp : pk lbase 257 n (k + 1) = pk lbase 257 n k := by rw [pk, if_neg hl]
      repeat (first | (refine sx ?_; try intro _))
      exact JS_again1 again (k + 1) (by omega) (by omega) (by rw [hp]; exact ⟨rfl, rfl, lookI rfl (by omega), trivial⟩) (fun w hw => hw)
  · obtain rfl : k = 28 := by omega
    clear again
    repeat (first | (refine sx ?_; try intro _))
    refine JO_call Tryz.call181 rfl rfl fun w hw => (RBase_c (pk lbase 257 n 28) (by omega) w hw).mono ?_
    rintro e w' ⟨rfl, hw'⟩
    refine ⟨_, rfl, _, hw', ?_⟩
    clear hw' hw w w'
    repeat (first | (refine sx ?_; try intro _))
    exact JS_ret Tryz.func172 rfl rfl fun w hw => ⟨rfl, hw⟩
theorem RSpan_c (n : Int) (hn : -9223372036854775808 ≤ n ∧ n < 9223372036854775808) (w : World) (hw : St w0 H w) :
    Calls Tryz.prog 174 #[.int .i64 n] w fun e w' => e = .returned (.tuple #[.int .i64 (spanS n).1, .int .i64 (spanS n).2.1, .int .i64 (spanS n).2.2]) ∧ St w0 H w' := by
  refine enter (vs := [.int .i64 n]) Tryz.func174 rfl rfl rfl hw ?_
  unfold spanS
  by_cases h1 : n < 1
  · rw [if_pos (.inl h1)]
    repeat (first | (refine sx ?_; try intro _))
    exact JS_ret Tryz.func174 rfl rfl fun w hw => ⟨rfl, hw⟩
  by_cases h2 : 32768 < n
  · rw [if_pos (.inr h2)]
    repeat (first | (refine sx ?_; try intro _))
    exact JS_ret Tryz.func174 rfl rfl fun w hw => ⟨rfl, hw⟩
  rw [if_neg (by omega)]
  have hg : grt lfar 0 n 30 = (pk lfar 0 n 30, (lfar (pk lfar 0 n 30)).2, n - (lfar (pk lfar 0 n 30)).1) :=
    grt_pk lfar 0 n (by rw [show lfar 0 = (1, 0) by decide +kernel]; simp only []; omega) 29
  have hle := pk_le lfar 0 n (by rw [show lfar 0 = (1, 0) by decide +kernel]; simp only []; omega) 30
  obtain ⟨b1, b2⟩ := pk_bd lfar 0 n 30
  have hnn : 0 ≤ (lfar (pk lfar 0 n 30)).1 := by
    have := lfar_nn (pk lfar 0 n 30).toNat (by omega)
    rwa [show (0 : Int) + ((pk lfar 0 n 30).toNat : Int) = pk lfar 0 n 30 by omega] at this
  rw [hg]
  repeat (first | (refine sx ?_; try intro _))
  refine JS_loop1 (fun (k : Nat) => [(0, .int .i64 n), (5, .int .i64 (pk lfar 0 n k)), (6, .int .i64 k)]) (fun _ => H) (fun k => k ≤ 30) (fun k => 30 - k) 0 (by omega) (by repeat (first | exact trivial | refine ⟨rfl, ?_⟩ | refine ⟨lookI rfl (by omega), ?_⟩)) (fun _ h => h) ?_
  intro k hk again
  by_cases h28 : k < 30
  · repeat (first | (refine sx ?_; try intro _))
    refine JO_call Tryz.call182 rfl rfl fun w hw => (RFar_c k (by omega) w hw).mono ?_
    rintro e w' ⟨rfl, hw'⟩
    refine ⟨_, rfl, _, hw', ?_⟩
    clear hw' hw w w'
    by_cases hl : (lfar (0 + k)).1 ≤ n
    · have hp : pk lfar 0 n (k + 1) = k := by rw [pk, if_pos hl]; omega
      rw [Int.zero_add] at hl
      repeat (first | (refine sx ?_; try intro _))
      exact JS_again1 again (k + 1) (by omega) (by omega) (by rw [hp]; exact ⟨rfl, rfl, lookI rfl (by omega), trivial⟩) (fun w hw => hw)
    · have hp : pk lfar 0 n (k + 1) = pk lfar 0 n k := by rw [pk, if_neg hl]
      rw [Int.zero_add] at hl
      repeat (first | (refine sx ?_; try intro _))
      exact JS_again1 again (k + 1) (by omega) (by omega) (by rw [hp]; exact ⟨rfl, rfl, lookI rfl (by omega), trivial⟩) (fun w hw => hw)
  · obtain rfl : k = 30 := by omega
    clear again
    repeat (first | (refine sx ?_; try intro _))
    refine JO_call Tryz.call182 rfl rfl fun w hw => (RFar_c (pk lfar 0 n 30) (by omega) w hw).mono ?_
    rintro e w' ⟨rfl, hw'⟩
    refine ⟨_, rfl, _, hw', ?_⟩
    clear hw' hw w w'
    repeat (first | (refine sx ?_; try intro _))
    exact JS_ret Tryz.func174 rfl rfl fun w hw => ⟨rfl, hw⟩
end
end Go.Proofs.YteelffkghidpfaaGreat

namespace Go.Proofs.YteelffkghidpfaaGreat
open Sx Go
set_option linter.unusedVariables false
set_option linter.unusedSimpArgs false
set_option maxRecDepth 100000
/-- the cells of a set: its lengths, how many codes have each length, its symbols, whether it is full -/
def setCells (pl : Value) (f : Nat → Int) (ps : Value) (full : Bool) : List Value :=
  [pl, .int .i64 (f 0), .int .i64 (f 1), .int .i64 (f 2), .int .i64 (f 3), .int .i64 (f 4), .int .i64 (f 5), .int .i64 (f 6), .int .i64 (f 7), .int .i64 (f 8), .int .i64 (f 9), .int .i64 (f 10), .int .i64 (f 11), .int .i64 (f 12), .int .i64 (f 13), .int .i64 (f 14), .int .i64 (f 15), ps, .bool full]
theorem set_nth {pl : Value} {f : Nat → Int} {ps : Value} {full : Bool} {i : Nat} (h : i < 16) : nth (setCells pl f ps full) (1 + i) = some (.int .i64 (f i)) := by
  match i, h with
  | 0, _ | 1, _ | 2, _ | 3, _ | 4, _ | 5, _ | 6, _ | 7, _ | 8, _ | 9, _ | 10, _ | 11, _ | 12, _ | 13, _ | 14, _ | 15, _ => rfl
  | i + 16, h => exact absurd h (by omega)
theorem Full_c {w0 : World} {H : List Asn} (b : Nat) (pl : Value) (f : Nat → Int) (ps : Value) (full : Bool) (hb : blk b (setCells pl f ps full) ∈ H) (w : World) (hw : St w0 H w) :
    Calls Tryz.prog 234 #[.pointer (some ⟨b, 0, none⟩)] w fun e w' => e = .returned (.bool full) ∧ St w0 H w' := by
  refine enter (vs := [.pointer (some ⟨b, 0, none⟩)]) Tryz.func234 rfl rfl rfl hw ?_
  repeat (first | (apply gJO; refine JO_v (V_load (tb := tb) rfl hb rfl rfl rfl rfl) ?_) | (first | (refine sy ?_; try intro _)))
  refine JS_ret Tryz.func234 rfl rfl ?_
  intro w hw
  exact ⟨rfl, hw⟩
/-- a reader -/
theorem New_c {w0 : World} {H : List Asn} (p : Option Addr) (c m : Nat) (B : List Int) (hr : Rd w0 H (.slice p m c) m (ints .u8 B)) (hm : B.length = m) (hB : OKB B) (hm1 : m ≤ 140737488355328) (hpm : p = none → m = 0) (w : World) (hw : St w0 H w) :
    Calls Tryz.prog 205 #[.slice p m c] w fun e w' => ∃ b q d, e = .returned (.pointer (some ⟨b, 0, none⟩)) ∧ St w0 (blk b [.slice q m d, .int .i64 0] :: vec 5 1 (.slice q m d) m (ints .u8 B) :: H) w' := by
  refine enter (vs := [.slice p m c]) Tryz.func205 rfl rfl rfl hw ?_
  repeat (first | (refine sy ?_; try intro _))
  refine JO_call Tryz.call128 rfl rfl fun w hw => (Clone_c p c m B hr hm hB hm1 hpm w hw).mono ?_
  rintro e w' ⟨q, d, rfl, hw'⟩
  refine ⟨_, rfl, _, hw', ?_⟩
  clear hw' hw w w'
  repeat (first | (refine sy ?_; try intro _))
  rename_i b
  refine JS_ret Tryz.func205 rfl rfl ?_
  intro w hw
  exact ⟨b, q, d, rfl, hw⟩
theorem ReaderAt_c {w0 : World} {H : List Asn} (b : Nat) (u : Value) (n : Int) (hb : blk b [u, .int .i64 n] ∈ H) (w : World) (hw : St w0 H w) :
    Calls Tryz.prog 211 #[.pointer (some ⟨b, 0, none⟩)] w fun e w' => e = .returned (.int .i64 n) ∧ St w0 H w' := by
  refine enter (vs := [.pointer (some ⟨b, 0, none⟩)]) Tryz.func211 rfl rfl rfl hw ?_
  repeat (first | (apply gJO; refine JO_v (V_load (tb := tb) rfl hb rfl rfl rfl rfl) ?_) | (first | (refine sy ?_; try intro _)))
  refine JS_ret Tryz.func211 rfl rfl ?_
  intro w hw
  exact ⟨rfl, hw⟩
end Go.Proofs.YteelffkghidpfaaGreat

namespace Go.Proofs.YteelffkghidpfaaGreat
open Sx Go
set_option linter.unusedVariables false
set_option linter.unusedSimpArgs false
set_option maxRecDepth 100000
theorem set_nth' {pl : Value} {f : Nat → Int} {ps : Value} {full : Bool} {i : Nat} (h : i < 16) : nth (setCells pl f ps full) (0 + 1 + (i : Int).toNat * 1) = some (.int .i64 (f i)) := by
  rw [show 0 + 1 + (i : Int).toNat * 1 = 1 + i by omega]; exact set_nth h
theorem set_upd {pl : Value} {f : Nat → Int} {ps : Value} {full : Bool} {i : Nat} {v : Int} (h : i < 16) : setSeg (setCells pl f ps full) (0 + 1 + (i : Int).toNat * 1) [.int .i64 v] = some (setCells pl (fun j => if j = i then v else f j) ps full) := by
  match i, h with
  | 0, _ | 1, _ | 2, _ | 3, _ | 4, _ | 5, _ | 6, _ | 7, _ | 8, _ | 9, _ | 10, _ | 11, _ | 12, _ | 13, _ | 14, _ | 15, _ => rfl
  | i + 16, h => exact absurd h (by omega)
/-- how many lengths are k -/
def cn (l : List Int) (k : Nat) : Int := if k = 0 then 0 else (l.countP (fun x => x == (k : Int)) : Nat)
/-- what codes take, of 32768 -/
def tk : List Int → Int
  | [] => 0
  | x :: r => (if 0 < x then 2 ^ (15 - x.toNat) else 0) + tk r
theorem tk_app (A B : List Int) : tk (A ++ B) = tk A + tk B := by
  induction A with
  | nil => simp [tk]
  | cons x r ih => simp only [List.cons_append, tk, ih]; omega
theorem btake (B : List Int) (i : Nat) (h : i < B.length) : B.take (i + 1) = B.take i ++ [B.getD i 0] := by
  rw [List.take_succ_eq_append_getElem h]; simp [h]
theorem cn_step (B : List Int) (i : Nat) (h : i < B.length) (n : Nat) (hn : B.getD i 0 = (n : Int)) (h0 : 0 < n) : cn (B.take (i + 1)) = fun j => if j = n then cn (B.take i) n + 1 else cn (B.take i) j := by
  funext j
  unfold cn
  rw [btake B i h, List.countP_append, hn]
  by_cases hj : j = n
  · subst hj
    have : ¬ j = 0 := by omega
    simp [this]
  · rw [if_neg hj]
    have : ¬ ((n : Int) == (j : Int)) = true := by simp; omega
    simp [this]
theorem cn_zero (B : List Int) (i : Nat) (h : i < B.length) (hn : B.getD i 0 = 0) : cn (B.take (i + 1)) = cn (B.take i) := by
  funext j
  unfold cn
  rw [btake B i h, List.countP_append, hn]
  by_cases hj : j = 0
  · simp [hj]
  · have : ¬ ((0 : Int) == (j : Int)) = true := by simp; omega
    simp [hj, this]
theorem p2_bd (n : Nat) (h : n ≤ 15) : (1 : Int) ≤ 2 ^ (15 - n) ∧ (2 : Int) ^ (15 - n) ≤ 32768 := by
  have : ∀ k : Fin 16, (1 : Int) ≤ 2 ^ k.val ∧ (2 : Int) ^ k.val ≤ 32768 := by decide +kernel
  exact this ⟨15 - n, by omega⟩
theorem tk_step (B : List Int) (i : Nat) (h : i < B.length) (n : Nat) (hn : B.getD i 0 = (n : Int)) : tk (B.take (i + 1)) = tk (B.take i) + (if 0 < n then 2 ^ (15 - n) else 0) := by
  rw [btake B i h, tk_app, hn]
  simp only [tk, Int.add_zero, Int.toNat_natCast]
  by_cases h0 : 0 < n
  · simp [h0]
  · have : n = 0 := by omega
    subst this; simp
end Go.Proofs.YteelffkghidpfaaGreat

namespace Go.Proofs.YteelffkghidpfaaGreat
open Sx Go
set_option linter.unusedVariables false
set_option linter.unusedSimpArgs false
set_option maxRecDepth 100000
/-- the first j symbols' places that have the length n -/
def sy1 (B : List Int) (n j : Nat) : List Int := ((List.range j).filter (fun i => B.getD i 0 == (n : Int))).map (fun i : Nat => (i : Int))
theorem sy1_yes {B : List Int} {n j : Nat} (h : B.getD j 0 = (n : Int)) : sy1 B n (j + 1) = sy1 B n j ++ [(j : Int)] := by
  unfold sy1
  have : (B.getD j 0 == (n : Int)) = true := by simpa using h
  rw [List.range_succ, List.filter_append, List.map_append]
  simp only [List.filter_cons, this, if_true, List.filter_nil, List.map_cons, List.map_nil]
theorem sy1_no {B : List Int} {n j : Nat} (h : ¬ B.getD j 0 = (n : Int)) : sy1 B n (j + 1) = sy1 B n j := by
  unfold sy1
  have : (B.getD j 0 == (n : Int)) = false := by simpa using h
  rw [List.range_succ, List.filter_append, List.map_append]
  simp only [List.filter_cons, this, List.filter_nil, Bool.false_eq_true, if_false, List.map_nil, List.append_nil]
theorem sy1_len (B : List Int) (n j : Nat) : (sy1 B n j).length ≤ j := by
  unfold sy1
  rw [List.length_map]
  exact Nat.le_trans (List.length_filter_le _ _) (by simp)
/-- the symbols of the lengths 1 to n -/
def syA (B : List Int) : Nat → List Int
  | 0 => []
  | n + 1 => syA B n ++ sy1 B (n + 1) B.length
theorem syA_len (B : List Int) : ∀ n, (syA B n).length ≤ n * B.length
  | 0 => by simp [syA]
  | n + 1 => by
    have := syA_len B n
    have := sy1_len B (n + 1) B.length
    simp only [syA, List.length_append, Nat.add_mul, Nat.one_mul]; omega
set_option maxHeartbeats 4000000 in
theorem Make_c {w0 : World} {H : List Asn} (p : Option Addr) (c m : Nat) (B : List Int) (hr : Rd w0 H (.slice p m c) m (ints .u8 B)) (hm : B.length = m) (hB : OKB B) (hm1 : m ≤ 140737488355328) (hpm : p = none → m = 0) (w : World) (hw : St w0 H w) :
    Calls Tryz.prog 214 #[.slice p m c] w fun e w' => ∃ u r, e = .returned (.tuple #[u, .int .i64 r]) ∧
      (((320 < m ∨ ∃ j, 15 < B.getD j 0) ∧ u = .pointer none ∧ r = 1 ∧ St w0 H w') ∨
       (m ≤ 320 ∧ (∀ j, B.getD j 0 ≤ 15) ∧ ¬ (tk B = 32768 ∨ (syA B 15).length = 0 ∨ ((syA B 15).length = 1 ∧ cn B 1 = 1)) ∧ u = .pointer none ∧ r = 62 ∧ St w0 H w') ∨
       (m ≤ 320 ∧ (∀ j, B.getD j 0 ≤ 15) ∧ (tk B = 32768 ∨ (syA B 15).length = 0 ∨ ((syA B 15).length = 1 ∧ cn B 1 = 1)) ∧ r = 0 ∧ ∃ b q d s k, u = .pointer (some ⟨b, 0, none⟩) ∧
        St w0 (vec 3 1 (.slice s (syA B 15).length k) (syA B 15).length (ints .i64 (syA B 15)) :: blk b (setCells (.slice q m d) (cn B) (.slice s (syA B 15).length k) (decide (tk B = 32768))) :: vec 5 1 (.slice q m d) m (ints .u8 B) :: H) w')) := by
  refine enter (vs := [.slice p m c]) Tryz.func214 rfl rfl rfl hw ?_
  by_cases hbig : 320 < m
  · repeat (first | (refine sx ?_; try intro _))
    refine JS_ret Tryz.func214 rfl rfl ?_
    intro w hw
    exact ⟨_, _, rfl, .inl ⟨.inl hbig, rfl, rfl, hw⟩⟩
  repeat (first | (refine sx ?_; try intro _))
  refine JO_call Tryz.call238 rfl rfl fun w hw => (Contains_c p c m B hr hm hB (by omega) w hw).mono ?_
  rintro e w' ⟨o, rfl, hw', h1⟩
  refine ⟨_, rfl, _, hw', ?_⟩
  clear hw' hw w w'
  rcases h1 with ⟨rfl, h15⟩ | ⟨rfl, h15⟩
  case' inr =>
    repeat (first | (refine sx ?_; try intro _))
    refine JS_ret Tryz.func214 rfl rfl ?_
    intro w hw
    exact ⟨_, _, rfl, .inl ⟨.inr h15, rfl, rfl, hw⟩⟩
  repeat (first | (refine sx ?_; try intro _))
  refine JO_call Tryz.call128 rfl rfl fun w hw => (Clone_c p c m B hr hm hB hm1 hpm w hw).mono ?_
  rintro e w' ⟨q, d, rfl, hw'⟩
  refine ⟨_, rfl, _, hw', ?_⟩
  clear hw' hw w w'
  repeat (first | (apply gJR; first | (refine sx ?_; try intro _)) | (apply gJO; first | (refine sx ?_; try intro _)) | apply JS_seq | apply JS_region)
  rename_i b
  refine JS_block ?_
  refine JS_loop1 (fun (i : Nat) => [(0, .slice p m c), (4, .pointer (some ⟨b, 0, none⟩)), (5, .int .i64 (tk (B.take i))), (23, .slice p m c), (24, .int .i64 m), (25, .int .i64 i)]) (fun i => blk b (setCells (.slice q m d) (cn (B.take i)) (.slice none 0 0) false) :: vec 5 1 (.slice q m d) m (ints .u8 B) :: H)
    (fun i => i ≤ m ∧ 0 ≤ tk (B.take i) ∧ tk (B.take i) ≤ 32768 * i) (fun i => m - i) 0 ⟨by omega, by simp [tk], by simp [tk]⟩ (by repeat (first | exact trivial | refine ⟨rfl, ?_⟩ | refine ⟨lookI rfl (by omega), ?_⟩)) (fun _ h => h) ?_
  intro i ⟨hi, ht0, ht1⟩ again
  have hr' : Rd w0 (blk b (setCells (.slice q m d) (cn (B.take i)) (.slice none 0 0) false) :: vec 5 1 (.slice q m d) m (ints .u8 B) :: H) (.slice p m c) m (ints .u8 B) := Rd_weak hr fun w hw => dS hw
  by_cases him : i < m
  · have hb := hB i
    have hb15 := h15 i
    obtain ⟨n, hn⟩ := Int.eq_ofNat_of_zero_le hb.1
    have gi : (ints .u8 B)[i]? = some (.int .u8 (n : Int)) := by rw [← hn]; exact ints_get (by omega)
    have hn15 : n ≤ 15 := by omega
    have hts := tk_step B i (by omega) n hn
    have hp2 := p2_bd n hn15
    have hm2 : min ((15 : Int) - (n : Int)).toNat IntKind.i64.bits = 15 - n := by show min _ 64 = _; omega
    have hq2 : (1 : Int) * 2 ^ (15 - n) = 2 ^ (15 - n) := Int.one_mul _
    by_cases h0 : 0 < n
    · rw [if_pos h0] at hts
      have hcs := cn_step B i (by omega) n hn h0
      obtain ⟨P, hP⟩ : ∃ P, (2 : Int) ^ (15 - n) = P := ⟨_, rfl⟩
      rw [hP] at hts hp2
      have hcn0 : 0 ≤ cn (B.take i) n ∧ cn (B.take i) n ≤ 320 := by
        unfold cn
        split
        · omega
        · have := List.countP_le_length (p := fun x => x == (n : Int)) (l := B.take i)
          have : (B.take i).length ≤ i := by simp; omega
          omega
      clear hb hn hb15
      repeat (first | (apply gJO; refine JO_v (V_loadC (tb := tb) rfl (by first | exact vec_rd (by repeat (first | apply List.Mem.head | apply List.Mem.tail)) | assumption | exact ArgRd.rd (by assumption) _ | (apply Rd_weak; assumption; intro _ hx; exact dS hx)) rfl rfl gi rfl) ?_) | (apply gJO; refine JO_v (V_shl (m := 15 - n) (c := P) rfl rfl (by omega) hm2 (by rw [hq2, hP]; exact wi64 (by omega)) rfl) ?_) | (apply gQO; refine QO_v rfl (V_load (tb := tb) rfl (List.Mem.head _) rfl rfl (set_nth' (by omega)) rfl) ?_) | (apply gQO; refine QO_k rfl (K_store (tb := tb) rfl rfl (Upd.here _ _ _) rfl rfl rfl (by repeat (first | exact trivial | refine ⟨rfl, ?_⟩)) (set_upd (by omega)) rfl) rfl ?_) | (first | (refine sx ?_; try intro _)))
      exact JS_again1 again (i + 1) ⟨by omega, by omega, by omega⟩ (by omega) (by repeat (first | exact trivial | refine ⟨rfl, ?_⟩ | refine ⟨lookI rfl (by omega), ?_⟩)) (fun w hw => by rw [hcs]; exact hw)
    · obtain rfl : n = 0 := by omega
      rw [if_neg h0] at hts
      have hcs := cn_zero B i (by omega) hn
      clear hb hn hb15
      repeat (first | (apply gJO; refine JO_v (V_loadC (tb := tb) rfl (by first | exact vec_rd (by repeat (first | apply List.Mem.head | apply List.Mem.tail)) | assumption | exact ArgRd.rd (by assumption) _ | (apply Rd_weak; assumption; intro _ hx; exact dS hx)) rfl rfl gi rfl) ?_) | (first | (refine sx ?_; try intro _)))
      exact JS_again1 again (i + 1) ⟨by omega, by omega, by omega⟩ (by omega) (by repeat (first | exact trivial | refine ⟨rfl, ?_⟩ | refine ⟨lookI rfl (by omega), ?_⟩)) (fun w hw => by rw [hcs]; exact hw)
  obtain rfl : i = m := by omega
  have e1 : B.take i = B := List.take_of_length_le (by omega)
  rw [e1] at ht0 ht1
  rw [e1]
  clear again hr'
  have hsl : ∀ n j, n ≤ 15 → j ≤ i → (syA B n ++ sy1 B (n + 1) j).length ≤ 5120 := fun n j hn hj => by
    have h1 := syA_len B n
    have h2 := sy1_len B (n + 1) j
    have h3 : n * B.length ≤ 15 * 320 := Nat.mul_le_mul hn (by omega)
    rw [List.length_append]; omega
  repeat (first | (apply gJR; first | (refine sx ?_; try intro _)) | (apply gJO; first | (refine sx ?_; try intro _)) | apply JS_seq | apply JS_region | refine JS_condF rfl ?_ | refine JS_exit rfl ?_ | apply JS_skip | (apply gJS; refine JS_inBlock ?_))
  refine JS_block ?_
  refine JS_loop3 (fun (n : Nat) (s : Option Addr) (k : Nat) => [(0, .slice p i c), (4, .pointer (some ⟨b, 0, none⟩)), (5, .int .i64 (tk B)), (8, .int .u8 (n + 1))])
    (fun n s k => vec 3 1 (.slice s (syA B n).length k) (syA B n).length (ints .i64 (syA B n)) :: blk b (setCells (.slice q i d) (cn B) (.slice s (syA B n).length k) false) :: vec 5 1 (.slice q i d) i (ints .u8 B) :: H)
    (fun n _ _ => n ≤ 15) (fun n _ _ => 15 - n) 0 none 0 (by omega) (by repeat (first | exact trivial | refine ⟨rfl, ?_⟩ | refine ⟨lookI rfl (by omega), ?_⟩)) (fun _ h => St.nilvec h) ?_
  intro n s k hn again
  by_cases hn15 : n < 15
  · repeat (first | (apply gJR; first | (refine sx ?_; try intro _)) | (apply gJO; first | (refine sx ?_; try intro _)) | apply JS_seq | apply JS_region | refine JS_condT rfl ?_ | refine JS_cond_T rfl (by omega) ?_ | apply JS_skip | (apply gJS; refine JS_inBlock ?_) | (refine JS_block ?_; apply JS_seq; apply JS_region) )
    refine JS_block ?_
    refine JS_loop3 (fun (j : Nat) (s : Option Addr) (k : Nat) => [(0, .slice p i c), (4, .pointer (some ⟨b, 0, none⟩)), (5, .int .i64 (tk B)), (8, .int .u8 (n + 1)), (51, .slice p i c), (52, .int .i64 i), (53, .int .i64 j)])
      (fun j s k => vec 3 1 (.slice s (syA B n ++ sy1 B (n + 1) j).length k) (syA B n ++ sy1 B (n + 1) j).length (ints .i64 (syA B n ++ sy1 B (n + 1) j)) :: blk b (setCells (.slice q i d) (cn B) (.slice s (syA B n ++ sy1 B (n + 1) j).length k) false) :: vec 5 1 (.slice q i d) i (ints .u8 B) :: H)
      (fun j _ _ => j ≤ i) (fun j _ _ => i - j) 0 s k (by omega) (by repeat (first | exact trivial | refine ⟨rfl, ?_⟩ | refine ⟨lookI rfl (by omega), ?_⟩)) (fun w hw => by rw [show sy1 B (n + 1) 0 = [] from rfl, List.append_nil]; exact hw) ?_
    intro j s k hj again2
    have hlen := hsl n j (by omega) hj
    have hr' : Rd w0 (vec 3 1 (.slice s (syA B n ++ sy1 B (n + 1) j).length k) (syA B n ++ sy1 B (n + 1) j).length (ints .i64 (syA B n ++ sy1 B (n + 1) j)) :: blk b (setCells (.slice q i d) (cn B) (.slice s (syA B n ++ sy1 B (n + 1) j).length k) false) :: vec 5 1 (.slice q i d) i (ints .u8 B) :: H) (.slice p i c) i (ints .u8 B) := Rd_weak hr fun w hw => dS hw
    by_cases hji : j < i
    · have gj : (ints .u8 B)[j]? = some (.int .u8 (B.getD j 0)) := ints_get (by omega)
      by_cases heq : B.getD j 0 = ((n + 1 : Nat) : Int)
      · have hs1 := sy1_yes heq
        have heq' : B.getD j 0 = (n : Int) + 1 := by omega
        clear heq
        generalize hS : syA B n ++ sy1 B (n + 1) j = S at *
        have hS2 : syA B n ++ sy1 B (n + 1) (j + 1) = S ++ [(j : Int)] := by rw [hs1, ← hS, List.append_assoc]
        repeat (first | (apply gJO; refine JO_v (V_loadC (tb := tb) rfl (by first | exact vec_rd (by repeat (first | apply List.Mem.head | apply List.Mem.tail)) | assumption | exact ArgRd.rd (by assumption) _ | (apply Rd_weak; assumption; intro _ hx; exact dS hx)) rfl rfl gj rfl) ?_) | (first | (refine sx ?_; try intro _)))
        (refine JO_app (tb := tb) rfl rfl rfl rfl rfl rfl (by repeat (first | exact Sel.here _ _ | apply Sel.there)) (by first | exact vec_rd (by repeat (first | apply List.Mem.head | apply List.Mem.tail)) | assumption | exact ArgRd.rd (by assumption) _ | (apply Rd_weak; assumption; intro _ hx; exact dS hx)) (by simp only [ints_len, List.length_cons, List.length_nil]; first | omega | rfl) (by first | exact ints_one | (repeat (first | exact trivial | refine ⟨rfl, ?_⟩))) (by omega) rfl ?_; intro _ _)
        rename_i s' k'
        repeat (first | (refine sx ?_; try intro _))
        exact JS_again3 again2 (j + 1) s' k' (by omega) (by omega) (by repeat (first | exact trivial | refine ⟨rfl, ?_⟩ | refine ⟨lookI rfl (by omega), ?_⟩)) (fun w hw => by
          rw [hS2, show (S ++ [(j : Int)]).length = S.length + 1 from by simp, ← ints_app1]; exact dS hw)
      · have hs1 := sy1_no heq
        have heq' : ¬ B.getD j 0 = (n : Int) + 1 := by omega
        clear heq
        repeat (first | (apply gJO; refine JO_v (V_loadC (tb := tb) rfl (by first | exact vec_rd (by repeat (first | apply List.Mem.head | apply List.Mem.tail)) | assumption | exact ArgRd.rd (by assumption) _ | (apply Rd_weak; assumption; intro _ hx; exact dS hx)) rfl rfl gj rfl) ?_) | (first | (refine sx ?_; try intro _)))
        exact JS_again3 again2 (j + 1) s k (by omega) (by omega) (by repeat (first | exact trivial | refine ⟨rfl, ?_⟩ | refine ⟨lookI rfl (by omega), ?_⟩)) (fun w hw => by rw [hs1]; exact dS hw)
    · obtain rfl : j = i := by omega
      clear again2
      have hS2 : syA B (n + 1) = syA B n ++ sy1 B (n + 1) j := by rw [← hm]; rfl
      rw [← hS2]
      repeat (first | (refine sx ?_; try intro _))
      exact JS_again3 again (n + 1) s k (by omega) (by omega) (by repeat (first | exact trivial | refine ⟨rfl, ?_⟩ | refine ⟨lookI rfl (by omega), ?_⟩)) (fun w hw => dS hw)
  obtain rfl : n = 15 := by omega
  have hlen := hsl 15 0 (by omega) (by omega)
  rw [show sy1 B (15 + 1) 0 = [] from rfl, List.append_nil] at hlen
  obtain ⟨S, hS⟩ : ∃ S, S = syA B 15 := ⟨_, rfl⟩
  rw [← hS] at hlen
  rw [← hS]
  clear again hsl
  by_cases hf : tk B = 32768
  · by_cases hl1 : S.length = 1
    · by_cases hc1 : cn B 1 = 1
      · repeat (first | (refine sx ?_; try intro _))
        refine JS_ret Tryz.func214 rfl rfl ?_
        intro w hw
        exact ⟨_, _, rfl, .inr (.inr ⟨by omega, h15, by omega, rfl, b, q, d, s, k, rfl, by rw [decide_eq_true hf]; exact hw⟩)⟩
      · repeat (first | (refine sx ?_; try intro _))
        refine JS_ret Tryz.func214 rfl rfl ?_
        intro w hw
        exact ⟨_, _, rfl, .inr (.inr ⟨by omega, h15, by omega, rfl, b, q, d, s, k, rfl, by rw [decide_eq_true hf]; exact hw⟩)⟩
    · by_cases hl0 : S.length = 0
      · repeat (first | (refine sx ?_; try intro _))
        refine JS_ret Tryz.func214 rfl rfl ?_
        intro w hw
        exact ⟨_, _, rfl, .inr (.inr ⟨by omega, h15, by omega, rfl, b, q, d, s, k, rfl, by rw [decide_eq_true hf]; exact hw⟩)⟩
      · repeat (first | (refine sx ?_; try intro _))
        refine JS_ret Tryz.func214 rfl rfl ?_
        intro w hw
        exact ⟨_, _, rfl, .inr (.inr ⟨by omega, h15, by omega, rfl, b, q, d, s, k, rfl, by rw [decide_eq_true hf]; exact hw⟩)⟩
  · by_cases hl1 : S.length = 1
    · by_cases hc1 : cn B 1 = 1
      · repeat (first | (refine sx ?_; try intro _))
        refine JS_ret Tryz.func214 rfl rfl ?_
        intro w hw
        exact ⟨_, _, rfl, .inr (.inr ⟨by omega, h15, by omega, rfl, b, q, d, s, k, rfl, by rw [decide_eq_false hf]; exact hw⟩)⟩
      · repeat (first | (refine sx ?_; try intro _))
        refine JS_ret Tryz.func214 rfl rfl ?_
        intro w hw
        exact ⟨_, _, rfl, .inr (.inl ⟨by omega, h15, by omega, rfl, rfl, dS hw⟩)⟩
    · by_cases hl0 : S.length = 0
      · repeat (first | (refine sx ?_; try intro _))
        refine JS_ret Tryz.func214 rfl rfl ?_
        intro w hw
        exact ⟨_, _, rfl, .inr (.inr ⟨by omega, h15, by omega, rfl, b, q, d, s, k, rfl, by rw [decide_eq_false hf]; exact hw⟩)⟩
      · repeat (first | (refine sx ?_; try intro _))
        refine JS_ret Tryz.func214 rfl rfl ?_
        intro w hw
        exact ⟨_, _, rfl, .inr (.inl ⟨by omega, h15, by omega, rfl, rfl, dS hw⟩)⟩
end Go.Proofs.YteelffkghidpfaaGreat

namespace Go.Proofs.YteelffkghidpfaaGreat
open Sx Go
set_option linter.unusedVariables false
set_option linter.unusedSimpArgs false
set_option maxRecDepth 100000
theorem mask1_u8 {a : Int} (ha : 0 ≤ a ∧ a < 256) : IntKind.u8.wrap ((BitVec.ofInt IntKind.u8.bits a &&& BitVec.ofInt IntKind.u8.bits 1).toNat) = a % 2 := by
  obtain ⟨n, rfl⟩ := Int.eq_ofNat_of_zero_le ha.1
  have : ∀ k : Fin 256, IntKind.u8.wrap ((BitVec.ofInt IntKind.u8.bits (k.val : Int) &&& BitVec.ofInt IntKind.u8.bits 1).toNat) = (k.val : Int) % 2 := by decide +kernel
  exact this ⟨n, by omega⟩
theorem or0_u32 {x : Int} (hx : x = 0 ∨ x = 1) : IntKind.u32.wrap ((BitVec.ofInt IntKind.u32.bits 0 ||| BitVec.ofInt IntKind.u32.bits x).toNat) = x := by
  rcases hx with rfl | rfl <;> decide +kernel
theorem Left_c {w0 : World} {H : List Asn} (b : Nat) (q : Option Addr) (d m : Nat) (n : Int) (hb : blk b [.slice q m d, .int .i64 n] ∈ H) (hm1 : m ≤ 140737488355328) (hn : 0 ≤ n ∧ n ≤ 8 * m) (w : World) (hw : St w0 H w) :
    Calls Tryz.prog 246 #[.pointer (some ⟨b, 0, none⟩)] w fun e w' => e = .returned (.int .i64 (8 * m - n)) ∧ St w0 H w' := by
  refine enter (vs := [.pointer (some ⟨b, 0, none⟩)]) Tryz.func246 rfl rfl rfl hw ?_
  repeat (first | (apply gQO; refine QO_v rfl (V_load (tb := tb) rfl hb rfl rfl rfl rfl) ?_) | (first | (refine sy ?_; try intro _)))
  refine JS_ret Tryz.func246 rfl rfl ?_
  intro w hw
  exact ⟨rfl, hw⟩
set_option maxHeartbeats 2000000 in
/-- one bit -/
theorem Bit1_c {w0 : World} {H : List Asn} (b : Nat) (q : Option Addr) (d m : Nat) (B : List Int) (hr : Rd w0 H (.slice q m d) m (ints .u8 B)) (hm : B.length = m) (hB : OKB B) (hm1 : m ≤ 140737488355328) (n : Nat) (hn : n ≤ 8 * m) (w : World) (hw : St w0 (blk b [.slice q m d, .int .i64 n] :: H) w) :
    Calls Tryz.prog 236 #[.pointer (some ⟨b, 0, none⟩), .int .i64 1] w fun e w' => ∃ x r, e = .returned (.tuple #[.int .u32 x, .int .i64 r]) ∧
      ((n = 8 * m ∧ x = 0 ∧ r = 20 ∧ St w0 (blk b [.slice q m d, .int .i64 n] :: H) w') ∨ (n < 8 * m ∧ r = 0 ∧ x = B.getD (n / 8) 0 / 2 ^ (n % 8) % 2 ∧ St w0 (blk b [.slice q m d, .int .i64 (n + 1 : Nat)] :: H) w')) := by
  have hr' : Rd w0 (blk b [.slice q m d, .int .i64 n] :: H) (.slice q m d) m (ints .u8 B) := Rd_weak hr fun w hw => dS hw
  refine enter (vs := [.pointer (some ⟨b, 0, none⟩), .int .i64 1]) Tryz.func236 rfl rfl rfl hw ?_
  repeat (first | (refine sx ?_; try intro _))
  refine JO_call Tryz.call246 rfl rfl fun w hw => (Left_c b q d m n (List.Mem.head _) hm1 (by omega) w hw).mono ?_
  rintro e w' ⟨rfl, hw'⟩
  refine ⟨_, rfl, _, hw', ?_⟩
  clear hw' hw w w'
  by_cases hend : n = 8 * m
  · repeat (first | (refine sx ?_; try intro _))
    refine JS_ret Tryz.func236 rfl rfl ?_
    intro w hw
    exact ⟨_, _, rfl, .inl ⟨hend, rfl, rfl, hw⟩⟩
  · have hb := hB (n / 8)
    have gi : (ints .u8 B)[n / 8]? = some (.int .u8 (B.getD (n / 8) 0)) := ints_get (by omega)
    have hs : min ((n : Int) % 8).toNat IntKind.u8.bits = n % 8 := by show min _ 8 = _; omega
    obtain ⟨y, hy⟩ : ∃ y, B.getD (n / 8) 0 / 2 ^ (n % 8) = y := ⟨_, rfl⟩
    have hpos : (0 : Int) < 2 ^ (n % 8) := Int.pow_pos (by decide)
    have hy0 : 0 ≤ y := by rw [← hy]; exact Int.ediv_nonneg hb.1 (Int.le_of_lt hpos)
    have hy1 : y < 256 := by
      rw [← hy]
      exact Int.lt_of_le_of_lt (Int.ediv_le_self _ hb.1) hb.2
    have hz : y % 2 = 0 ∨ y % 2 = 1 := by omega
    rw [hy]
    repeat (first | (apply gQO; refine QO_v rfl (V_loadC (tb := tb) rfl hr' rfl rfl gi rfl) ?_) | (apply gQO; refine QO_v rfl (V_shr (m := n % 8) rfl rfl (by omega) hs hy rfl) ?_) | (apply gQO; refine QO_v rfl (V_and rfl rfl (mask1_u8 ⟨hy0, hy1⟩) rfl) ?_) | (apply gQO; refine QO_v rfl (V_shl (m := 0) (c := y % 2) rfl rfl (by omega) rfl (by rw [show y % 2 * 2 ^ 0 = y % 2 from by omega]; exact wu32 (by omega)) rfl) ?_) | (apply gQO; refine QO_v rfl (V_or rfl rfl (or0_u32 hz) rfl) ?_) | refine JS_loop' ?_ | refine JS_inLoop ?_ | (first | (refine sx ?_; try intro _)))
    refine JS_ret Tryz.func236 rfl rfl ?_
    intro w hw
    exact ⟨_, _, rfl, .inr ⟨by omega, rfl, rfl, hw⟩⟩
theorem Bit_c {w0 : World} {H : List Asn} (b : Nat) (q : Option Addr) (d m : Nat) (B : List Int) (hr : Rd w0 H (.slice q m d) m (ints .u8 B)) (hm : B.length = m) (hB : OKB B) (hm1 : m ≤ 140737488355328) (n : Nat) (hn : n ≤ 8 * m) (w : World) (hw : St w0 (blk b [.slice q m d, .int .i64 n] :: H) w) :
    Calls Tryz.prog 255 #[.pointer (some ⟨b, 0, none⟩)] w fun e w' => ∃ x r, e = .returned (.tuple #[.int .u32 x, .int .i64 r]) ∧
      ((n = 8 * m ∧ x = 0 ∧ r = 20 ∧ St w0 (blk b [.slice q m d, .int .i64 n] :: H) w') ∨ (n < 8 * m ∧ r = 0 ∧ x = B.getD (n / 8) 0 / 2 ^ (n % 8) % 2 ∧ St w0 (blk b [.slice q m d, .int .i64 (n + 1 : Nat)] :: H) w')) := by
  refine enter (vs := [.pointer (some ⟨b, 0, none⟩)]) Tryz.func255 rfl rfl rfl hw ?_
  repeat (first | (refine sx ?_; try intro _))
  refine JO_call Tryz.call236 rfl rfl fun w hw => (Bit1_c b q d m B hr hm hB hm1 n hn w hw).mono ?_
  rintro e w' ⟨x, r, rfl, h⟩
  rcases h with ⟨h1, rfl, rfl, hw'⟩ | ⟨h1, rfl, hx, hw'⟩
  · refine ⟨_, rfl, _, hw', ?_⟩
    repeat (first | (refine sx ?_; try intro _))
    refine JS_ret Tryz.func255 rfl rfl ?_
    intro w hw
    exact ⟨_, _, rfl, .inl ⟨h1, rfl, rfl, hw⟩⟩
  · refine ⟨_, rfl, _, hw', ?_⟩
    repeat (first | (refine sx ?_; try intro _))
    refine JS_ret Tryz.func255 rfl rfl ?_
    intro w hw
    exact ⟨_, _, rfl, .inr ⟨h1, rfl, hx, hw⟩⟩
end Go.Proofs.YteelffkghidpfaaGreat

namespace Go.Proofs.YteelffkghidpfaaGreat
open Sx Go
set_option linter.unusedVariables false
set_option linter.unusedSimpArgs false
set_option maxRecDepth 100000
/-- how many symbols have a code -/
def sm (l : List Int) : Nat := l.countP (fun x => decide (0 < x))
theorem sm_step (B : List Int) (i : Nat) (h : i < B.length) : sm (B.take (i + 1)) = sm (B.take i) + (if 0 < B.getD i 0 then 1 else 0) := by
  unfold sm
  rw [btake B i h, List.countP_append]
  by_cases h0 : 0 < B.getD i 0
  · rw [if_pos h0]; simp only [List.countP_singleton, h0, decide_true, if_true]
  · rw [if_neg h0]; simp only [List.countP_singleton, h0, decide_false, Bool.false_eq_true, if_false]
/-- may these lengths be? -/
def FINE (B : List Int) : Prop := tk B = 32768 ∨ sm B = 0 ∨ (sm B = 1 ∧ cn B 1 = 1)
end Go.Proofs.YteelffkghidpfaaGreat

namespace Go.Proofs.YteelffkghidpfaaGreat
open Sx Go
set_option linter.unusedVariables false
set_option linter.unusedSimpArgs false
set_option maxRecDepth 100000
/-- the first code of a length -/
def fc (B : List Int) : Nat → Int
  | 0 => 0
  | n + 1 => 2 * (fc B n + cn B n)
/-- a symbol's code -/
def cd (B : List Int) (i : Nat) : Int := (fc B (B.getD i 0).toNat + cn (B.take i) (B.getD i 0).toNat) % 4294967296
theorem cd_bd (B : List Int) (i : Nat) : 0 ≤ cd B i ∧ cd B i < 4294967296 := by unfold cd; omega
/-- the codes that are told when the length n has come as far as j -/
def told (B : List Int) (n j i : Nat) : Bool := decide (0 < B.getD i 0 ∧ (B.getD i 0 < n ∨ (B.getD i 0 = n ∧ i < j)))
def cds (B : List Int) (n j : Nat) : List Int := (List.range B.length).map fun i => if told B n j i then cd B i else 0
theorem cds_len (B : List Int) (n j : Nat) : (cds B n j).length = B.length := by simp [cds]
theorem cds_set {B : List Int} {n j : Nat} (hn : 0 < n) (hj : B.getD j 0 = (n : Int)) : (cds B n j).set j (cd B j) = cds B n (j + 1) := by
  apply List.ext_getElem?
  intro i
  rw [List.getElem?_set]
  by_cases hij : j = i
  · subst hij
    by_cases hl : j < B.length
    · have : told B n (j + 1) j = true := by unfold told; rw [hj]; simp; omega
      simp [cds, hl, this]
    · simp [cds, hl]
  · rw [if_neg hij]
    have : told B n (j + 1) i = told B n j i := by
      unfold told
      have : (i < j + 1) ↔ (i < j) := by omega
      simp [this]
    simp only [cds, List.getElem?_map]
    cases h : (List.range B.length)[i]? with
    | none => rfl
    | some x =>
      have hx : x = i := by
        have := List.getElem?_eq_some_iff.1 h
        obtain ⟨h1, h2⟩ := this
        simp at h2; exact h2.symm
      subst hx
      simp [this]
theorem cds_no {B : List Int} {n j : Nat} (hj : ¬ B.getD j 0 = (n : Int)) : cds B n j = cds B n (j + 1) := by
  unfold cds
  apply List.map_congr_left
  intro i _
  have : told B n (j + 1) i = told B n j i := by
    unfold told
    refine decide_eq_decide.2 ?_
    by_cases hij : i = j
    · subst hij; omega
    · omega
  rw [this]
theorem cds_next (B : List Int) (n : Nat) : cds B n B.length = cds B (n + 1) 0 := by
  unfold cds
  apply List.map_congr_left
  intro i hi
  have hi' : i < B.length := by simpa using hi
  have : told B (n + 1) 0 i = told B n B.length i := by
    unfold told
    congr 1
    simp only [eq_iff_iff]
    omega
  rw [this]
theorem cds_zero (B : List Int) (hB : OKB B) : cds B 1 0 = List.replicate B.length 0 := by
  unfold cds
  rw [List.eq_replicate_iff]
  refine ⟨by simp, fun b hb => ?_⟩
  simp only [List.mem_map, List.mem_range] at hb
  obtain ⟨i, _, rfl⟩ := hb
  have : told B 1 0 i = false := by
    unfold told
    have := hB i
    simp; omega
  simp [this]
theorem cn_yes (B : List Int) (j n : Nat) (h : j < B.length) (hn : B.getD j 0 = (n : Int)) (h0 : 0 < n) : cn (B.take (j + 1)) n = cn (B.take j) n + 1 := by
  rw [congrFun (cn_step B j h n hn h0) n]; simp
theorem cn_no (B : List Int) (hB : OKB B) (j n : Nat) (h : j < B.length) (hn : ¬ B.getD j 0 = (n : Int)) : cn (B.take (j + 1)) n = cn (B.take j) n := by
  obtain ⟨x, hx⟩ := Int.eq_ofNat_of_zero_le (hB j).1
  by_cases h0 : 0 < x
  · rw [congrFun (cn_step B j h x hx h0) n, if_neg (by omega)]
  · have : x = 0 := by omega
    subst this
    rw [cn_zero B j h hx]
set_option maxHeartbeats 4000000 in
/-- the reference's codes -/
theorem RCodes_c {w0 : World} {H : List Asn} (p : Option Addr) (c m : Nat) (B : List Int) (hr : Rd w0 H (.slice p m c) m (ints .u8 B)) (hm : B.length = m) (hB : OKB B) (hm1 : m ≤ 1000) (w : World) (hw : St w0 H w) :
    Calls Tryz.prog 169 #[.slice p m c] w fun e w' => ∃ q d, e = .returned (.slice q m d) ∧ St w0 (vec 31 1 (.slice q m d) m (ints .u32 (cds B 16 0)) :: H) w' := by
  refine enter (vs := [.slice p m c]) Tryz.func169 rfl rfl rfl hw ?_
  repeat (first | (apply gJR; first | (refine sx ?_; try intro _)) | (apply gJO; first | (refine sx ?_; try intro _)) | apply JS_seq | apply JS_region)
  rename_i po
  rw [show (rep (Int.toNat m) [Value.int IntKind.u32 0]) = ints .u32 (List.replicate m 0) from ints_rep]
  rw [show (m : Int).toNat = m from rfl]
  refine JS_block ?_
  refine JS_loop1 (fun (n : Nat) => [(0, .slice p m c), (3, .slice (some po) m m), (4, .int .u32 ((fc B n + cn B n) % 4294967296)), (5, .int .u8 (n + 1))]) (fun n => vec 31 1 (.slice (some po) m m) m (ints .u32 (cds B (n + 1) 0)) :: H) (fun n => n ≤ 15) (fun n => 15 - n) 0 (by omega) (by repeat (first | exact trivial | refine ⟨rfl, ?_⟩ | refine ⟨lookI rfl (by omega), ?_⟩)) (fun w hw => by rw [cds_zero B hB, hm]; exact hw) ?_
  intro n hn again
  by_cases hn15 : n < 15
  · repeat (first | (apply gJR; first | (refine sx ?_; try intro _)) | (apply gJO; first | (refine sx ?_; try intro _)) | apply JS_seq | apply JS_region | refine JS_condT rfl ?_ | apply JS_skip | (refine JS_block ?_; apply JS_seq))
    have hcode : 2 * ((fc B n + cn B n) % 4294967296) % 4294967296 = (fc B (n + 1) + cn (B.take 0) (n + 1)) % 4294967296 := by
      have : cn (B.take 0) (n + 1) = 0 := by simp [cn]
      rw [this]; simp only [fc]; omega
    rw [hcode]
    refine JS_block ?_
    refine JS_loop1 (fun (j : Nat) => [(0, .slice p m c), (3, .slice (some po) m m), (4, .int .u32 ((fc B (n + 1) + cn (B.take j) (n + 1)) % 4294967296)), (5, .int .u8 (n + 1)), (6, .int .i64 j)]) (fun j => vec 31 1 (.slice (some po) m m) m (ints .u32 (cds B (n + 1) j)) :: H) (fun j => j ≤ m) (fun j => m - j) 0 (by omega) (by repeat (first | exact trivial | refine ⟨rfl, ?_⟩ | refine ⟨lookI rfl (by omega), ?_⟩)) (fun w hw => hw) ?_
    intro j hj again2
    have hr' : Rd w0 (vec 31 1 (.slice (some po) m m) m (ints .u32 (cds B (n + 1) j)) :: H) (.slice p m c) m (ints .u8 B) := Rd_weak hr fun w hw => dS hw
    have hcl := cds_len B (n + 1) j
    by_cases hjm : j < m
    · have gj : (ints .u8 B)[j]? = some (.int .u8 (B.getD j 0)) := ints_get (by omega)
      by_cases heq : B.getD j 0 = ((n + 1 : Nat) : Int)
      · have hset := cds_set (B := B) (n := n + 1) (j := j) (by omega) heq
        have hcy := cn_yes B j (n + 1) (by omega) heq (by omega)
        have hcd : cd B j = (fc B (n + 1) + cn (B.take j) (n + 1)) % 4294967296 := by unfold cd; rw [heq]; rfl
        have heq' : B.getD j 0 = (n : Int) + 1 := by omega
        rw [hcd] at hset
        clear heq hcd
        generalize hC : (fc B (n + 1) + cn (B.take j) (n + 1)) % 4294967296 = C at *
        repeat (first | (apply gJO; refine JO_v (V_loadC (tb := tb) rfl hr' rfl rfl gj rfl) ?_) | (first | (refine sx ?_; try intro _)))
        exact JS_again1 again2 (j + 1) (by omega) (by omega) (by exact ⟨rfl, rfl, lookI rfl (by rw [hcy]; omega), rfl, lookI rfl (by omega), trivial⟩) (fun w hw => by rw [← hset]; exact hw)
      · have hset := cds_no (B := B) (n := n + 1) (j := j) heq
        have hcy := cn_no B hB j (n + 1) (by omega) heq
        have heq' : ¬ B.getD j 0 = (n : Int) + 1 := by omega
        clear heq
        repeat (first | (apply gJO; refine JO_v (V_loadC (tb := tb) rfl hr' rfl rfl gj rfl) ?_) | (first | (refine sx ?_; try intro _)))
        exact JS_again1 again2 (j + 1) (by omega) (by omega) (by exact ⟨rfl, rfl, lookI rfl (by rw [hcy]), rfl, lookI rfl (by omega), trivial⟩) (fun w hw => by rw [← hset]; exact hw)
    · obtain rfl : j = m := by omega
      have e1 : B.take j = B := List.take_of_length_le (by omega)
      have hnx := cds_next B (n + 1)
      rw [hm] at hnx
      rw [e1, hnx]
      clear again2
      repeat (first | (refine sx ?_; try intro _))
      exact JS_again1 again (n + 1) (by omega) (by omega) (by repeat (first | exact trivial | refine ⟨rfl, ?_⟩ | refine ⟨lookI rfl (by omega), ?_⟩)) (fun w hw => hw)
  · obtain rfl : n = 15 := by omega
    clear again
    repeat (first | (refine sx ?_; try intro _))
    refine JS_ret Tryz.func169 rfl rfl ?_
    intro w hw
    exact ⟨_, _, rfl, hw⟩
end Go.Proofs.YteelffkghidpfaaGreat

namespace Go.Proofs.YteelffkghidpfaaGreat
set_option linter.unusedVariables false
set_option linter.unusedSimpArgs false
set_option maxRecDepth 100000
theorem cn_sy1 (B : List Int) (hB : OKB B) (n : Nat) (h0 : 0 < n) : ∀ j, j ≤ B.length → ((sy1 B n j).length : Int) = cn (B.take j) n := by
  intro j
  induction j with
  | zero => intro _; simp [sy1, cn]
  | succ j ih =>
    intro hj
    have ih := ih (by omega)
    by_cases h : B.getD j 0 = (n : Int)
    · rw [sy1_yes h, cn_yes B j n (by omega) h h0]; simp; omega
    · rw [sy1_no h, cn_no B hB j n (by omega) h]; exact ih
def sumc (f : Nat → Int) : Nat → Int
  | 0 => 0
  | n + 1 => sumc f n + f (n + 1)
theorem sumc_upd (f : Nat → Int) (k : Nat) (h0 : 0 < k) : ∀ n, sumc (fun j => if j = k then f k + 1 else f j) n = sumc f n + (if k ≤ n then 1 else 0)
  | 0 => by simp [sumc]; omega
  | n + 1 => by
    simp only [sumc, sumc_upd f k h0 n]
    by_cases h : n + 1 = k
    · subst h
      rw [if_pos rfl, if_neg (by omega), if_pos (by omega)]; omega
    · rw [if_neg h]
      by_cases h1 : k ≤ n
      · rw [if_pos h1, if_pos (by omega)]; omega
      · rw [if_neg h1, if_neg (by omega)]; omega
theorem sumc_zero (n : Nat) : sumc (cn []) n = 0 := by
  induction n with
  | zero => rfl
  | succ n ih => simp [sumc, ih, cn]
theorem sm_sumc (B : List Int) (hB : OKB B) (h15 : ∀ j, B.getD j 0 ≤ 15) : ∀ i, i ≤ B.length → (sm (B.take i) : Int) = sumc (cn (B.take i)) 15 := by
  intro i
  induction i with
  | zero => intro _; rw [List.take_zero, sumc_zero]; rfl
  | succ i ih =>
    intro hi
    have ih := ih (by omega)
    obtain ⟨x, hx⟩ := Int.eq_ofNat_of_zero_le (hB i).1
    have h := h15 i
    rw [sm_step B i (by omega), hx]
    by_cases h0 : 0 < x
    · rw [if_pos (by omega), cn_step B i (by omega) x hx h0, sumc_upd _ x h0, if_pos (by omega)]; omega
    · have : x = 0 := by omega
      subst this
      rw [if_neg (by omega), cn_zero B i (by omega) hx]; omega
theorem syA_sumc (B : List Int) (hB : OKB B) : ∀ n, ((syA B n).length : Int) = sumc (cn B) n
  | 0 => rfl
  | n + 1 => by
    have h1 := syA_sumc B hB n
    have h2 := cn_sy1 B hB (n + 1) (by omega) B.length (by omega)
    rw [List.take_of_length_le (by omega)] at h2
    simp only [syA, List.length_append, sumc]; omega
/-- the symbols are as many as have a code -/
theorem sm_syA (B : List Int) (hB : OKB B) (h15 : ∀ j, B.getD j 0 ≤ 15) : (syA B 15).length = sm B := by
  have h1 := sm_sumc B hB h15 B.length (by omega)
  rw [List.take_of_length_le (by omega)] at h1
  have h2 := syA_sumc B hB 15
  omega
theorem fine_iff (B : List Int) (hB : OKB B) (h15 : ∀ j, B.getD j 0 ≤ 15) : (tk B = 32768 ∨ (syA B 15).length = 0 ∨ ((syA B 15).length = 1 ∧ cn B 1 = 1)) ↔ FINE B := by
  rw [sm_syA B hB h15]; exact Iff.rfl
end Go.Proofs.YteelffkghidpfaaGreat

namespace Go.Proofs.YteelffkghidpfaaGreat
set_option linter.unusedVariables false
set_option linter.unusedSimpArgs false
set_option maxRecDepth 100000
/-- how many symbols have a length below n -/
def psum (B : List Int) : Nat → Int
  | 0 => 0
  | n + 1 => psum B n + cn B n
theorem cn_nonneg (B : List Int) (n : Nat) : 0 ≤ cn B n := by
  unfold cn; split
  · exact Int.le_refl _
  · omega
theorem psum_mono (B : List Int) (n : Nat) : ∀ d, psum B n ≤ psum B (n + d)
  | 0 => Int.le_refl _
  | d + 1 => by
    have := psum_mono B n d
    have := cn_nonneg B (n + d)
    show psum B n ≤ psum B (n + d) + cn B (n + d)
    omega
theorem psum_syA (B : List Int) (hB : OKB B) : ∀ n, psum B (n + 1) = ((syA B n).length : Int)
  | 0 => by simp [psum, syA, cn]
  | n + 1 => by
    have h1 := psum_syA B hB n
    have h2 := syA_sumc B hB (n + 1)
    have h3 := syA_sumc B hB n
    simp only [sumc] at h2
    show psum B (n + 1) + cn B (n + 1) = _
    omega
/-- from one code to the next one, over lengths that have none -/
theorem shift_code (B : List Int) (n : Nat) (c : Int) (hc : c ≤ cn B n) : ∀ d, 0 < d → psum B (n + d) ≤ psum B n + c → psum B n + c = psum B (n + d) ∧ fc B (n + d) = (fc B n + c) * 2 ^ d
  | 0, h, _ => absurd h (by omega)
  | 1, _, h => by
    have h' : psum B n + cn B n ≤ psum B n + c := h
    have : c = cn B n := by omega
    subst this
    exact ⟨rfl, by show 2 * (fc B n + cn B n) = _; omega⟩
  | d + 2, _, h => by
    have h' : psum B (n + (d + 1)) + cn B (n + (d + 1)) ≤ psum B n + c := h
    have h0 := cn_nonneg B (n + (d + 1))
    obtain ⟨h1, h2⟩ := shift_code B n c hc (d + 1) (by omega) (by omega)
    have hz : cn B (n + (d + 1)) = 0 := by omega
    refine ⟨?_, ?_⟩
    · show psum B n + c = psum B (n + (d + 1)) + cn B (n + (d + 1)); omega
    · show 2 * (fc B (n + (d + 1)) + cn B (n + (d + 1))) = _
      rw [hz, h2, Int.pow_succ 2 (d + 1)]
      generalize (2 : Int) ^ (d + 1) = P
      grind
theorem sy1_get (B : List Int) (n : Nat) : ∀ j r, r < (sy1 B n j).length → ∃ i, i < j ∧ (sy1 B n j).getD r 0 = (i : Int) ∧ B.getD i 0 = (n : Int) ∧ (sy1 B n i).length = r
  | 0, r, h => by simp [sy1] at h
  | j + 1, r, h => by
    by_cases he : B.getD j 0 = (n : Int)
    · rw [sy1_yes he] at h ⊢
      rcases Nat.lt_or_ge r (sy1 B n j).length with h1 | h1
      · obtain ⟨i, hi, h2, h3⟩ := sy1_get B n j r h1
        refine ⟨i, by omega, ?_, h3⟩
        rw [List.getD_eq_getElem?_getD, List.getElem?_append_left h1, ← List.getD_eq_getElem?_getD]; exact h2
      · have hr : r = (sy1 B n j).length := by simp at h; omega
        subst hr
        exact ⟨j, by omega, by simp, he, rfl⟩
    · rw [sy1_no he] at h ⊢
      obtain ⟨i, hi, h2⟩ := sy1_get B n j r h
      exact ⟨i, by omega, h2⟩
/-- the symbol at a place: its length, and which one of that length it is -/
theorem syA_get (B : List Int) : ∀ N t, t < (syA B N).length → ∃ n r i, n < N ∧ t = (syA B n).length + r ∧ r < (sy1 B (n + 1) B.length).length ∧ i < B.length ∧ (syA B N).getD t 0 = (i : Int) ∧ B.getD i 0 = ((n + 1 : Nat) : Int) ∧ (sy1 B (n + 1) i).length = r
  | 0, t, h => by simp [syA] at h
  | N + 1, t, h => by
    simp only [syA] at h ⊢
    rcases Nat.lt_or_ge t (syA B N).length with h1 | h1
    · obtain ⟨n, r, i, h2, h3, h4, h5, h6, h7⟩ := syA_get B N t h1
      refine ⟨n, r, i, by omega, h3, h4, h5, ?_, h7⟩
      rw [List.getD_eq_getElem?_getD, List.getElem?_append_left h1, ← List.getD_eq_getElem?_getD]; exact h6
    · have hr : t - (syA B N).length < (sy1 B (N + 1) B.length).length := by rw [List.length_append] at h; omega
      obtain ⟨i, h2, h3, h4, h5⟩ := sy1_get B (N + 1) B.length (t - (syA B N).length) hr
      refine ⟨N, t - (syA B N).length, i, by omega, by omega, hr, h2, ?_, h4, h5⟩
      rw [List.getD_eq_getElem?_getD, List.getElem?_append_right h1, ← List.getD_eq_getElem?_getD]; exact h3
end Go.Proofs.YteelffkghidpfaaGreat

namespace Go.Proofs.YteelffkghidpfaaGreat
open Sx Go
set_option linter.unusedVariables false
set_option linter.unusedSimpArgs false
set_option maxRecDepth 100000
theorem mem_sy1 (B : List Int) (n j i : Nat) : (i : Int) ∈ sy1 B n j ↔ i < j ∧ B.getD i 0 = (n : Int) := by
  unfold sy1
  simp only [List.mem_map, List.mem_filter, List.mem_range, beq_iff_eq]
  constructor
  · rintro ⟨a, ⟨h1, h2⟩, h3⟩
    obtain rfl : a = i := by omega
    exact ⟨h1, h2⟩
  · rintro ⟨h1, h2⟩
    exact ⟨i, ⟨h1, h2⟩, rfl⟩
theorem mem_syA (B : List Int) (i : Nat) : ∀ N, (i : Int) ∈ syA B N ↔ i < B.length ∧ 0 < B.getD i 0 ∧ B.getD i 0 ≤ (N : Int)
  | 0 => by simp only [syA, List.not_mem_nil, false_iff]; omega
  | N + 1 => by
    simp only [syA, List.mem_append, mem_syA B i N, mem_sy1]
    omega
attribute [local irreducible] syA
def outC (B : List Int) (t : Nat) : List Int := (List.range B.length).map fun (i : Nat) => if decide ((i : Int) ∈ (syA B 15).take t) then cd B i else 0
theorem outC_len (B : List Int) (t : Nat) : (outC B t).length = B.length := by simp [outC]
theorem outC_zero (B : List Int) : outC B 0 = List.replicate B.length 0 := by
  unfold outC
  rw [List.eq_replicate_iff]
  refine ⟨by simp, fun b hb => ?_⟩
  simp at hb
  exact hb.2.symm
theorem outC_set {B : List Int} {t i : Nat} (ht : t < (syA B 15).length) (hi : (syA B 15).getD t 0 = (i : Int)) : (outC B t).set i (cd B i) = outC B (t + 1) := by
  have hts : (syA B 15).take (t + 1) = (syA B 15).take t ++ [(i : Int)] := by rw [btake _ _ ht, hi]
  apply List.ext_getElem?
  intro j
  rw [List.getElem?_set]
  by_cases hij : i = j
  · subst hij
    by_cases hl : i < B.length
    · simp [outC, hl, hts]
    · simp [outC, hl]
  · rw [if_neg hij]
    simp only [outC, List.getElem?_map]
    cases h : (List.range B.length)[j]? with
    | none => rfl
    | some x =>
      have hx : x = j := by
        obtain ⟨h1, h2⟩ := List.getElem?_eq_some_iff.1 h
        simp at h2; exact h2.symm
      subst hx
      have : ((x : Int) ∈ (syA B 15).take (t + 1)) ↔ ((x : Int) ∈ (syA B 15).take t) := by
        rw [hts, List.mem_append]
        simp; omega
      simp [this]
theorem outC_end {B : List Int} (h15 : ∀ j, B.getD j 0 ≤ 15) : outC B (syA B 15).length = cds B 16 0 := by
  unfold outC cds
  apply List.map_congr_left
  intro i hi
  have hi' : i < B.length := by simpa using hi
  rw [List.take_of_length_le (by omega)]
  have : decide ((i : Int) ∈ syA B 15) = told B 16 0 i := by
    unfold told
    refine decide_eq_decide.2 ?_
    rw [mem_syA]
    have := h15 i
    omega
  rw [this]
end Go.Proofs.YteelffkghidpfaaGreat

namespace Go.Proofs.YteelffkghidpfaaGreat
open Sx Go
set_option linter.unusedVariables false
set_option linter.unusedSimpArgs false
set_option maxRecDepth 100000
attribute [local irreducible] syA
/-! what is read by a set's codes -/
theorem cn_app (l : List Int) (x : Int) (n : Nat) : cn (l ++ [x]) n = cn l n + (if 0 < n ∧ x = (n : Int) then 1 else 0) := by
  unfold cn
  rw [List.countP_append]
  by_cases h0 : n = 0
  · simp [h0]
  · rw [if_neg h0, if_neg h0]
    by_cases hx : x = (n : Int)
    · rw [if_pos ⟨by omega, hx⟩]; simp [hx]
    · rw [if_neg (fun h => hx h.2)]
      have : ¬ (x == (n : Int)) = true := by simpa using hx
      simp [this]
theorem fc_app (l : List Int) (k : Nat) : ∀ n, fc (l ++ [(k : Int)]) n = fc l n + (if 0 < k ∧ k < n then 2 ^ (n - k) else 0)
  | 0 => by simp [fc]
  | n + 1 => by
    simp only [fc, fc_app l k n, cn_app]
    by_cases h0 : 0 < k
    · rcases Nat.lt_trichotomy k n with h | h | h
      · rw [if_pos ⟨h0, h⟩, if_neg (by omega), if_pos ⟨h0, by omega⟩, show n + 1 - k = (n - k) + 1 by omega, Int.pow_succ]; omega
      · subst h
        rw [if_neg (by omega), if_pos ⟨h0, rfl⟩, if_pos ⟨h0, by omega⟩, show k + 1 - k = 1 by omega]; omega
      · rw [if_neg (by omega), if_neg (by omega), if_neg (by omega)]; omega
    · rw [if_neg (by omega), if_neg (by omega), if_neg (by omega)]; omega
theorem fc_tk (B : List Int) (hB : OKB B) (h15 : ∀ j, B.getD j 0 ≤ 15) : ∀ i, i ≤ B.length → fc (B.take i) 15 + cn (B.take i) 15 = tk (B.take i)
  | 0, _ => by rw [List.take_zero]; decide
  | i + 1, h => by
    obtain ⟨n, hn⟩ := Int.eq_ofNat_of_zero_le (hB i).1
    have h1 := h15 i
    rw [tk_step B i (by omega) n hn, btake B i (by omega), hn, fc_app, cn_app, ← fc_tk B hB h15 i (by omega)]
    by_cases h0 : 0 < n
    · rw [if_pos h0]
      by_cases h2 : n = 15
      · subst h2; simp; omega
      · rw [if_pos ⟨h0, by omega⟩, if_neg (by omega)]; omega
    · rw [if_neg h0, if_neg (by omega), if_neg (by omega)]; omega
theorem fc_nn (B : List Int) : ∀ n, 0 ≤ fc B n
  | 0 => Int.le_refl _
  | n + 1 => by
    have := fc_nn B n
    have := cn_nonneg B n
    show 0 ≤ 2 * (fc B n + cn B n); omega
theorem FINE_tk (B : List Int) (hB : OKB B) (h15 : ∀ j, B.getD j 0 ≤ 15) (hF : FINE B) : tk B ≤ 32768 := by
  rcases hF with h | h | h
  · omega
  · have : ∀ i, i ≤ B.length → sm (B.take i) = 0 → tk (B.take i) = 0 := by
      intro i
      induction i with
      | zero => intro _ _; rfl
      | succ i ih =>
        intro hi hs
        rw [sm_step B i (by omega)] at hs
        obtain ⟨n, hn⟩ := Int.eq_ofNat_of_zero_le (hB i).1
        rw [tk_step B i (by omega) n hn]
        by_cases h0 : 0 < n
        · rw [if_pos (by omega)] at hs; omega
        · rw [if_neg h0, ih (by omega) (by omega)]; rfl
    have := this B.length (Nat.le_refl _) (by rw [List.take_length]; exact h)
    rw [List.take_length] at this; omega
  · have : ∀ i, i ≤ B.length → tk (B.take i) ≤ 32768 * sm (B.take i) := by
      intro i
      induction i with
      | zero => intro _; simp [tk, sm]
      | succ i ih =>
        intro hi
        rw [sm_step B i (by omega)]
        obtain ⟨n, hn⟩ := Int.eq_ofNat_of_zero_le (hB i).1
        rw [tk_step B i (by omega) n hn]
        have := ih (by omega)
        have h2 := h15 i
        have := p2_bd n (by omega)
        by_cases h0 : 0 < n
        · rw [if_pos h0, if_pos (by omega)]; omega
        · rw [if_neg h0, if_neg (by omega)]; omega
    have := this B.length (Nat.le_refl _)
    rw [List.take_length] at this; omega
theorem fc_le (B : List Int) (hB : OKB B) (h15 : ∀ j, B.getD j 0 ≤ 15) (hF : FINE B) : ∀ d, d ≤ 15 → fc B (15 - d) + cn B (15 - d) ≤ 2 ^ (15 - d)
  | 0, _ => by
    have h := fc_tk B hB h15 B.length (Nat.le_refl _)
    rw [List.take_length] at h
    have := FINE_tk B hB h15 hF
    show fc B 15 + cn B 15 ≤ 32768; omega
  | d + 1, hd => by
    have h := fc_le B hB h15 hF d (by omega)
    have e : 15 - d = (15 - (d + 1)) + 1 := by omega
    rw [e, Int.pow_succ] at h
    have h2 : fc B (15 - (d + 1) + 1) = 2 * (fc B (15 - (d + 1)) + cn B (15 - (d + 1))) := rfl
    have := cn_nonneg B (15 - (d + 1) + 1)
    omega
theorem fc_bd (B : List Int) (hB : OKB B) (h15 : ∀ j, B.getD j 0 ≤ 15) (hF : FINE B) (n : Nat) (hn : n ≤ 15) : fc B n + cn B n ≤ 2 ^ n := by
  have := fc_le B hB h15 hF (15 - n) (by omega)
  rwa [show 15 - (15 - n) = n by omega] at this
theorem p15 (n : Nat) (h : n ≤ 15) : (1 : Int) ≤ 2 ^ n ∧ (2 : Int) ^ n ≤ 32768 := by
  have := p2_bd (15 - n) (by omega)
  rwa [show 15 - (15 - n) = n by omega] at this
/-- a number of bits, the first one the highest -/
def bval (b : Nat → Int) : Nat → Int
  | 0 => 0
  | n + 1 => 2 * bval b n + b n
/-- the symbol i is what the bits begin with -/
def DEC (B : List Int) (b : Nat → Int) (left : Nat) (i : Nat) : Prop :=
  ∃ n : Nat, i < B.length ∧ 0 < n ∧ B.getD i 0 = (n : Int) ∧ n ≤ left ∧ bval b n = cd B i
theorem cd_eq (B : List Int) (hB : OKB B) (h15 : ∀ j, B.getD j 0 ≤ 15) (hF : FINE B) (i n : Nat) (hi : i < B.length) (h0 : 0 < n) (hn : B.getD i 0 = (n : Int)) : cd B i = fc B n + cn (B.take i) n ∧ cn (B.take i) n < cn B n := by
  have h1 := cn_yes B i n hi hn h0
  have h2 : ∀ d, i + 1 + d ≤ B.length → cn (B.take (i + 1)) n ≤ cn (B.take (i + 1 + d)) n := by
    intro d
    induction d with
    | zero => intro _; exact Int.le_refl _
    | succ d ih =>
      intro hd
      have := ih (by omega)
      rw [show i + 1 + (d + 1) = (i + 1 + d) + 1 from rfl, btake B (i + 1 + d) (by omega), cn_app]
      split <;> omega
  have h3 := h2 (B.length - (i + 1)) (by omega)
  rw [show i + 1 + (B.length - (i + 1)) = B.length by omega, List.take_length] at h3
  have h4 := fc_nn B n
  have h5 := cn_nonneg (B.take i) n
  have h15i := h15 i
  have h6 := fc_bd B hB h15 hF n (by omega)
  have h7 := p15 n (by omega)
  refine ⟨?_, by omega⟩
  unfold cd
  rw [hn, Int.toNat_natCast]; omega
theorem cn_mono (B : List Int) (n i j : Nat) (hij : i ≤ j) (hj : j ≤ B.length) : cn (B.take i) n ≤ cn (B.take j) n := by
  obtain ⟨d, rfl⟩ : ∃ d, j = i + d := ⟨j - i, by omega⟩
  clear hij
  induction d with
  | zero => exact Int.le_refl _
  | succ d ih =>
    have := ih (by omega)
    rw [show i + (d + 1) = (i + d) + 1 from rfl, btake B (i + d) (by omega), cn_app]
    split <;> omega
/-- once read, always behind -/
theorem val_behind (B : List Int) (b : Nat → Int) (hb : ∀ j, b j = 0 ∨ b j = 1) (n : Nat) (h : bval b n < fc B n + cn B n) : ∀ d, 0 < d → bval b (n + d) < fc B (n + d)
  | 0, h0 => absurd h0 (by omega)
  | 1, _ => by
    have := hb n
    show 2 * bval b n + b n < 2 * (fc B n + cn B n); omega
  | d + 2, _ => by
    have h1 := val_behind B b hb n h (d + 1) (by omega)
    have := hb (n + (d + 1))
    have := cn_nonneg B (n + (d + 1))
    show 2 * bval b (n + (d + 1)) + b (n + (d + 1)) < 2 * (fc B (n + (d + 1)) + cn B (n + (d + 1))); omega
/-- no code begins with another one -/
theorem DEC_one (B : List Int) (hB : OKB B) (h15 : ∀ j, B.getD j 0 ≤ 15) (hF : FINE B) (b : Nat → Int) (hb : ∀ j, b j = 0 ∨ b j = 1) (left i j : Nat) (h1 : DEC B b left i) (h2 : DEC B b left j) : i = j := by
  obtain ⟨n, hi, hn0, hn, hnl, hv⟩ := h1
  obtain ⟨k, hj, hk0, hk, hkl, hu⟩ := h2
  obtain ⟨c1, c2⟩ := cd_eq B hB h15 hF i n hi hn0 hn
  obtain ⟨c3, c4⟩ := cd_eq B hB h15 hF j k hj hk0 hk
  have z1 := cn_nonneg (B.take i) n
  have z2 := cn_nonneg (B.take j) k
  rcases Nat.lt_trichotomy n k with h | h | h
  · have := val_behind B b hb n (by omega) (k - n) (by omega)
    rw [show n + (k - n) = k by omega] at this; omega
  · subst h
    rcases Nat.lt_trichotomy i j with h | h | h
    · have a1 := cn_yes B i n hi hn hn0
      have a2 := cn_mono B n (i + 1) j (by omega) (by omega)
      omega
    · exact h
    · have a1 := cn_yes B j n hj hk hk0
      have a2 := cn_mono B n (j + 1) i (by omega) (by omega)
      omega
  · have := val_behind B b hb k (by omega) (n - k) (by omega)
    rw [show k + (n - k) = n by omega] at this; omega
/-- the symbol at a place of the codes of one length -/
theorem sym_at (B : List Int) (hB : OKB B) (h15 : ∀ j, B.getD j 0 ≤ 15) (hF : FINE B) (n : Nat) (h0 : 0 < n) (hn : n ≤ 15) (k : Nat) (hk : (k : Int) < cn B n) :
    ∃ i : Nat, psum B n + k < ((syA B 15).length : Int) ∧ (syA B 15).getD (psum B n + k).toNat 0 = (i : Int) ∧ i < B.length ∧ B.getD i 0 = (n : Int) ∧ cd B i = fc B n + k := by
  have hp : 0 ≤ psum B n := by
    have := psum_mono B 0 n
    rw [Nat.zero_add] at this
    exact this
  have hl : psum B n + k < ((syA B 15).length : Int) := by
    have h1 := psum_syA B hB 15
    have h2 := psum_mono B (n + 1) (15 - n)
    rw [show n + 1 + (15 - n) = 16 by omega] at h2
    have : psum B (n + 1) = psum B n + cn B n := rfl
    have : psum B (15 + 1) = psum B 16 := rfl
    omega
  obtain ⟨n', r, i, g1, g2, g3, g4, g5, g6, g7⟩ := syA_get B 15 (psum B n + k).toNat (by omega)
  have e1 := psum_syA B hB n'
  have e2 := cn_sy1 B hB (n' + 1) (by omega) i (by omega)
  have e3 := cn_sy1 B hB (n' + 1) (by omega) B.length (Nat.le_refl _)
  rw [List.take_length] at e3
  have e4 : psum B (n' + 1 + 1) = psum B (n' + 1) + cn B (n' + 1) := rfl
  have e5 : psum B (n + 1) = psum B n + cn B n := rfl
  have hnn : n' + 1 = n := by
    rcases Nat.lt_trichotomy (n' + 1) n with h | h | h
    · have := psum_mono B (n' + 1 + 1) (n - (n' + 2))
      rw [show n' + 1 + 1 + (n - (n' + 2)) = n by omega] at this; omega
    · exact h
    · have := psum_mono B (n + 1) (n' + 1 - (n + 1))
      rw [show n + 1 + (n' + 1 - (n + 1)) = n' + 1 by omega] at this; omega
  subst hnn
  refine ⟨i, hl, g5, g4, g6, ?_⟩
  rw [(cd_eq B hB h15 hF i (n' + 1) g4 (by omega) g6).1]; omega
end Go.Proofs.YteelffkghidpfaaGreat

namespace Go.Proofs.YteelffkghidpfaaGreat
open Sx Go
set_option linter.unusedVariables false
set_option linter.unusedSimpArgs false
set_option maxRecDepth 100000
theorem fc_succ (B : List Int) (n : Nat) : fc B (n + 1) = 2 * (fc B n + cn B n) := rfl
theorem fc_zero (B : List Int) : fc B 0 = 0 := rfl
attribute [local irreducible] syA fc tk
/-- the bits of bytes, from the n-th on -/
def bitB (B : List Int) (n j : Nat) : Int := B.getD ((n + j) / 8) 0 / 2 ^ ((n + j) % 8) % 2
theorem bitB_01 (B : List Int) (n j : Nat) : bitB B n j = 0 ∨ bitB B n j = 1 := by
  unfold bitB; omega
/-- what is read, off so many bits -/
def RD (B : List Int) (bits : Nat → Int) (left : Nat) (i : Int) (used : Nat) (r : Int) : Prop :=
  (∃ j : Nat, i = (j : Int) ∧ r = 0 ∧ DEC B bits left j ∧ B.getD j 0 = (used : Int)) ∨
  ((∀ j, ¬ DEC B bits left j) ∧ i = 0 ∧ ((sm B = 0 ∧ used = 0 ∧ r = 62) ∨ (sm B ≠ 0 ∧ tk B = 32768 ∧ used = left ∧ r = 20) ∨ (sm B ≠ 0 ∧ ¬ tk B = 32768 ∧ ((left = 0 ∧ used = 0 ∧ r = 20) ∨ (0 < left ∧ used = 1 ∧ r = 62)))))
theorem or_even {a x : Int} (ha : 0 ≤ a ∧ a < 65536) (he : a % 2 = 0) (hx : x = 0 ∨ x = 1) : IntKind.i64.wrap ((BitVec.ofInt IntKind.i64.bits a ||| BitVec.ofInt IntKind.i64.bits x).toNat) = a + x := by
  rw [or_nat .i64 ⟨ha.1, Int.lt_trans ha.2 (by decide)⟩ ⟨by omega, by rcases hx with rfl | rfl <;> decide⟩]
  have h := Nat.two_pow_add_eq_or_of_lt (i := 1) (b := x.toNat) (by omega) (a.toNat / 2)
  rw [show 2 ^ 1 * (a.toNat / 2) = a.toNat by omega] at h
  rw [← h]
  exact (wi64 (by omega)).trans (by omega)
theorem bval_lt (b : Nat → Int) (hb : ∀ j, b j = 0 ∨ b j = 1) : ∀ n, 0 ≤ bval b n ∧ bval b n < 2 ^ n
  | 0 => ⟨Int.le_refl _, by show (0 : Int) < 1; decide⟩
  | n + 1 => by
    have h := bval_lt b hb n
    have := hb n
    rw [Int.pow_succ]
    show 0 ≤ 2 * bval b n + b n ∧ 2 * bval b n + b n < _
    omega
/-- nothing with as few bits -/
theorem no_dec (B : List Int) (hB : OKB B) (h15 : ∀ j, B.getD j 0 ≤ 15) (hF : FINE B) (bits : Nat → Int) (hb : ∀ j, bits j = 0 ∨ bits j = 1) (k : Nat) (h : fc B k + cn B k ≤ bval bits k) (j : Nat) : ¬ DEC B bits k j := by
  rintro ⟨n, hi, hn0, hn, hnl, hv⟩
  obtain ⟨c1, c2⟩ := cd_eq B hB h15 hF j n hi hn0 hn
  rcases Nat.eq_or_lt_of_le hnl with h1 | h1
  · subst h1; omega
  · have := val_behind B bits hb n (by omega) (k - n) (by omega)
    rw [show n + (k - n) = k by omega] at this
    have := cn_nonneg B k
    omega
theorem sm0_dec (B : List Int) (h : sm B = 0) (bits : Nat → Int) (left j : Nat) : ¬ DEC B bits left j := by
  rintro ⟨n, hi, hn0, hn, hnl, hv⟩
  unfold sm at h
  rw [List.countP_eq_zero] at h
  have := h (B.getD j 0) (by rw [List.getD_eq_getElem?_getD, List.getElem?_eq_getElem hi]; exact List.getElem_mem hi)
  exact this (decide_eq_true (by omega))
theorem FINE_lone (B : List Int) (hB : OKB B) (h15 : ∀ j, B.getD j 0 ≤ 15) (hF : FINE B) (h1 : ¬ tk B = 32768) (h0 : sm B ≠ 0) : ∀ n, 2 ≤ n → n ≤ 15 → cn B n = 0 := by
  have hs : sm B = 1 ∧ cn B 1 = 1 := by rcases hF with h | h | h <;> first | exact absurd h (by omega) | exact h
  have e := sm_sumc B hB h15 B.length (Nat.le_refl _)
  rw [List.take_length, hs.1] at e
  intro n hn hn15
  have hz := cn_nonneg B
  simp only [sumc, hs.2] at e
  have z2 := hz 2; have z3 := hz 3; have z4 := hz 4; have z5 := hz 5; have z6 := hz 6; have z7 := hz 7; have z8 := hz 8; have z9 := hz 9; have z10 := hz 10; have z11 := hz 11; have z12 := hz 12; have z13 := hz 13; have z14 := hz 14; have z15 := hz 15
  simp only [Nat.zero_add, Nat.reduceAdd, hs.2] at e
  match n, hn, hn15 with
  | 2, _, _ | 3, _, _ | 4, _, _ | 5, _, _ | 6, _, _ | 7, _, _ | 8, _, _ | 9, _, _ | 10, _, _ | 11, _, _ | 12, _, _ | 13, _, _ | 14, _, _ | 15, _, _ => omega
theorem val_b (B2 : List Int) (n k : Nat) : bitB B2 n k = B2.getD ((n + k) / 8) 0 / 2 ^ ((n + k) % 8) % 2 := rfl
set_option maxHeartbeats 4000000 in
/-- a set reads a symbol -/
theorem Read_c {w0 : World} {H : List Asn} (b b2 : Nat) (u : Value) (s q : Option Addr) (d e m2 : Nat) (B B2 : List Int) (hs : blk b (setCells u (cn B) (.slice s (syA B 15).length e) (decide (tk B = 32768))) ∈ H) (hrs : Rd w0 H (.slice s (syA B 15).length e) (syA B 15).length (ints .i64 (syA B 15)))
    (hm : B.length ≤ 320) (hB : OKB B) (h15 : ∀ j, B.getD j 0 ≤ 15) (hF : FINE B) (hr : Rd w0 H (.slice q m2 d) m2 (ints .u8 B2)) (hm2 : B2.length = m2) (hB2 : OKB B2) (hmx : m2 ≤ 140737488355328) (n : Nat) (hn : n ≤ 8 * m2)
    (w : World) (hw : St w0 (blk b2 [.slice q m2 d, .int .i64 n] :: H) w) :
    Calls Tryz.prog 253 #[.pointer (some ⟨b, 0, none⟩), .pointer (some ⟨b2, 0, none⟩)] w fun en w' => ∃ (i : Int) (used : Nat) (r : Int), en = .returned (.tuple #[.int .i64 i, .int .i64 r]) ∧ St w0 (blk b2 [.slice q m2 d, .int .i64 (n + used : Nat)] :: H) w' ∧ n + used ≤ 8 * m2 ∧ RD B (bitB B2 n) (8 * m2 - n) i used r := by
  refine enter (vs := [.pointer (some ⟨b, 0, none⟩), .pointer (some ⟨b2, 0, none⟩)]) Tryz.func253 rfl rfl rfl hw ?_
  have hs' : blk b (setCells u (cn B) (.slice s (syA B 15).length e) (decide (tk B = 32768))) ∈ blk b2 [.slice q m2 d, .int .i64 n] :: H := List.Mem.tail _ hs
  have hsl := sm_syA B hB h15
  by_cases h0 : sm B = 0
  · have h0' : (syA B 15).length = 0 := by omega
    repeat (first | (apply gJO; refine JO_v (V_load (tb := tb) rfl hs' rfl rfl rfl rfl) ?_) | (first | (refine sx ?_; try intro _)))
    refine JS_ret Tryz.func253 rfl rfl ?_
    intro w hw
    exact ⟨0, 0, 62, rfl, hw, by omega, .inr ⟨sm0_dec B h0 _ _, rfl, .inl ⟨h0, rfl, rfl⟩⟩⟩
  have h0' : ¬ (syA B 15).length = 0 := by omega
  repeat (first | (apply gJO; refine JO_v (V_load (tb := tb) rfl hs' rfl rfl rfl rfl) ?_) | (apply gJR; first | (refine sx ?_; try intro _)) | (apply gJO; first | (refine sx ?_; try intro _)) | apply JS_seq | apply JS_region | refine JS_condF rfl ?_ | refine JS_cond_F rfl (by omega) ?_ | apply JS_skip)
  refine JS_block ?_
  refine JS_loop1 (fun (k : Nat) => [(0, .pointer (some ⟨b, 0, none⟩)), (1, .pointer (some ⟨b2, 0, none⟩)), (6, .func (.func 255) #[.pointer (some ⟨b2, 0, none⟩)] #[]), (7, .int .i64 (2 * bval (bitB B2 n) k)), (8, .int .i64 (fc B (k + 1))), (9, .int .i64 (psum B (k + 1))), (10, .int .i64 (k + 1))])
    (fun k => blk b2 [.slice q m2 d, .int .i64 (n + k : Nat)] :: H)
    (fun k => k ≤ 15 ∧ n + k ≤ 8 * m2 ∧ fc B k + cn B k ≤ bval (bitB B2 n) k ∧ (k = 0 ∨ tk B = 32768)) (fun k => 15 - k) 0 ⟨by omega, by omega, by rw [fc_zero]; simp [cn, bval], .inl rfl⟩ (by exact ⟨rfl, rfl, rfl, rfl, lookI rfl (by rw [fc_succ, fc_zero]; simp [cn]), lookI rfl (by simp [psum, cn]), rfl, trivial⟩) (fun _ h => h) ?_
  intro k ⟨hk, hnk, hfv, hful⟩ again
  have hbits := bitB_01 B2 n
  have hv := bval_lt (bitB B2 n) hbits k
  have hp2 := p15 k hk
  have hfull15 : tk B = 32768 → k < 15 := by
    intro h
    rcases Nat.lt_or_ge k 15 with h1 | h1
    · exact h1
    · obtain rfl : k = 15 := by omega
      have := fc_tk B hB h15 B.length (Nat.le_refl _)
      rw [List.take_length] at this; omega
  have hk15 : k < 15 := by
    rcases hful with h | h
    · omega
    · exact hfull15 h
  have hr' : Rd w0 H (.slice q m2 d) m2 (ints .u8 B2) := hr
  repeat (first | (refine sx ?_; try intro _))
  refine JO_callv (us := [.pointer (some ⟨b2, 0, none⟩)]) (cs := []) rfl Tryz.call255 rfl rfl fun w hw => (Bit_c b2 q d m2 B2 hr hm2 hB2 hmx (n + k) hnk w hw).mono ?_
  rintro e1 w' ⟨x, r, rfl, hcase⟩
  rcases hcase with ⟨h1, rfl, rfl, hw'⟩ | ⟨h1, rfl, hx, hw'⟩
  · refine ⟨_, rfl, _, hw', ?_⟩
    clear hw' hw w w'
    repeat (first | (refine sx ?_; try intro _))
    refine JS_ret Tryz.func253 rfl rfl ?_
    intro w hw
    refine ⟨0, k, 20, rfl, hw, hnk, .inr ⟨?_, rfl, ?_⟩⟩
    · rw [show 8 * m2 - n = k by omega]
      exact no_dec B hB h15 hF _ hbits k hfv
    · rcases hful with h | h
      · subst h
        by_cases ht : tk B = 32768
        · exact .inr (.inl ⟨h0, ht, by omega, rfl⟩)
        · exact .inr (.inr ⟨h0, ht, .inl ⟨by omega, rfl, rfl⟩⟩)
      · exact .inr (.inl ⟨h0, h, by omega, rfl⟩)
  · refine ⟨_, rfl, _, hw', ?_⟩
    clear hw' hw w w'
    rw [← val_b] at hx
    subst hx
    have hvk : bval (bitB B2 n) (k + 1) = 2 * bval (bitB B2 n) k + bitB B2 n k := rfl
    have hb1 := hbits k
    have hor := or_even (a := 2 * bval (bitB B2 n) k) (x := bitB B2 n k) (by omega) (by omega) hb1
    rw [← hvk] at hor
    have hcn0 := cn_nonneg B (k + 1)
    have hfcb := fc_bd B hB h15 hF (k + 1) (by omega)
    have hfc0 := fc_nn B (k + 1)
    have hp3 := p15 (k + 1) (by omega)
    have hfk := fc_succ B k
    have hge : fc B (k + 1) ≤ bval (bitB B2 n) (k + 1) := by omega
    have hv2 := bval_lt (bitB B2 n) hbits (k + 1)
    have hs2 : blk b (setCells u (cn B) (.slice s (syA B 15).length e) (decide (tk B = 32768))) ∈ blk b2 [.slice q m2 d, .int .i64 (n + k + 1 : Nat)] :: H := List.Mem.tail _ hs
    have hidx : ∀ {v : Value}, nth (setCells u (cn B) (.slice s (syA B 15).length e) (decide (tk B = 32768))) (1 + ((k : Int) + 1).toNat * 1) = some v ↔ v = .int .i64 (cn B (k + 1)) := by
      intro v
      rw [show 1 + ((k : Int) + 1).toNat * 1 = 1 + (k + 1) by omega, set_nth (by omega)]
      exact ⟨fun h => (Option.some.inj h).symm, fun h => by rw [h]⟩
    have hnth := hidx.2 rfl
    have hps0 : 0 ≤ psum B (k + 1) := by
      have := psum_mono B 0 (k + 1)
      rw [Nat.zero_add] at this
      exact this
    have hps1 : psum B (k + 1) + cn B (k + 1) ≤ (syA B 15).length := by
      have h1 := psum_syA B hB 15
      have h2 := psum_mono B (k + 2) (16 - (k + 2))
      rw [show k + 2 + (16 - (k + 2)) = 16 by omega] at h2
      have : psum B (k + 2) = psum B (k + 1) + cn B (k + 1) := rfl
      have : psum B (15 + 1) = psum B 16 := rfl
      omega
    have hsL := syA_len B 15
    by_cases hlt : bval (bitB B2 n) (k + 1) - fc B (k + 1) < cn B (k + 1)
    · obtain ⟨kk, hkk⟩ := Int.eq_ofNat_of_zero_le (show 0 ≤ bval (bitB B2 n) (k + 1) - fc B (k + 1) by omega)
      rw [hkk] at hlt
      obtain ⟨i, g1, g2, g3, g4, g5⟩ := sym_at B hB h15 hF (k + 1) (by omega) (by omega) kk hlt
      have hi64 : IntKind.i64.wrap (bval (bitB B2 n) (k + 1) - fc B (k + 1)) = (kk : Int) := by rw [hkk]; exact wi64 (by omega)
      have gs : (ints .i64 (syA B 15))[(psum B (k + 1) + (kk : Int)).toNat]? = some (.int .i64 (i : Int)) := by rw [← g2]; exact ints_get (by omega)
      have hrs' : Rd w0 (blk b2 [.slice q m2 d, .int .i64 (n + k + 1 : Nat)] :: H) (.slice s (syA B 15).length e) (syA B 15).length (ints .i64 (syA B 15)) := Rd_weak hrs fun w hw => dS hw
      clear hidx
      repeat (first | (apply gJO; first | refine JO_v (V_or rfl rfl hor rfl) ?_ | refine JO_v (V_sub rfl rfl hi64 rfl) ?_ | refine JO_v (V_load (tb := tb) rfl hs2 rfl rfl hnth rfl) ?_ | refine JO_v (V_load (tb := tb) rfl hs2 rfl rfl rfl rfl) ?_ | refine JO_v (V_index (tb := tb) rfl rfl rfl rfl (Rd.sl hrs') (by omega) (Nat.mul_one _) rfl) ?_ | refine JO_v (V_loadC (tb := tb) rfl hrs' rfl rfl gs rfl) ?_) | (first | (refine sx ?_; try intro _)))
      refine JS_ret Tryz.func253 rfl rfl ?_
      intro w hw
      exact ⟨i, k + 1, 0, rfl, hw, by omega, .inl ⟨i, rfl, rfl, ⟨k + 1, g3, by omega, g4, by omega, by omega⟩, g4⟩⟩
    · by_cases hfl : tk B = 32768
      · have hk14 : k < 14 := by
          rcases Nat.lt_or_ge k 14 with h1 | h1
          · exact h1
          · obtain rfl : k = 14 := by omega
            have := fc_tk B hB h15 B.length (Nat.le_refl _)
            rw [List.take_length] at this
            have : (2 : Int) ^ (14 + 1) = 32768 := by decide
            simp only [Nat.reduceAdd] at hfcb hlt hge hv2 this
            omega
        have hfl' : decide (tk B = 32768) = true := decide_eq_true hfl
        have hf2 := fc_succ B (k + 1)
        have hp4 : psum B (k + 1 + 1) = psum B (k + 1) + cn B (k + 1) := rfl
        rw [hfl'] at hs2
        clear hidx
        rw [hfl'] at hnth
        repeat (first | (apply gJO; first | refine JO_v (V_or rfl rfl hor rfl) ?_ | refine JO_v (V_load (tb := tb) rfl hs2 rfl rfl hnth rfl) ?_ | refine JO_v (V_load (tb := tb) rfl hs2 rfl rfl rfl rfl) ?_) | (first | (refine sx ?_; try intro _)))
        refine JS_again1 again (k + 1) ⟨by omega, by omega, by omega, .inr hfl⟩ (by omega) (by repeat (first | exact trivial | refine ⟨rfl, ?_⟩ | refine ⟨lookI rfl (by omega), ?_⟩)) (fun w hw => hw)
      · obtain rfl : k = 0 := by rcases hful with h | h <;> first | exact h | exact absurd h hfl
        have hfl' : decide (tk B = 32768) = false := decide_eq_false hfl
        rw [hfl'] at hs2
        clear hidx
        rw [hfl'] at hnth
        repeat (first | (apply gJO; first | refine JO_v (V_or rfl rfl hor rfl) ?_ | refine JO_v (V_load (tb := tb) rfl hs2 rfl rfl hnth rfl) ?_ | refine JO_v (V_load (tb := tb) rfl hs2 rfl rfl rfl rfl) ?_) | (first | (refine sx ?_; try intro _)))
        refine JS_ret Tryz.func253 rfl rfl ?_
        intro w hw
        refine ⟨0, 1, 62, rfl, hw, by omega, .inr ⟨?_, rfl, .inr (.inr ⟨h0, hfl, .inr ⟨by omega, rfl, rfl⟩⟩)⟩⟩
        intro j
        rintro ⟨n', hi, hn0, hn', hnl, hv'⟩
        have h15j := h15 j
        obtain ⟨c1, c2⟩ := cd_eq B hB h15 hF j n' hi hn0 hn'
        have hz := cn_nonneg (B.take j) n'
        by_cases h2 : 2 ≤ n'
        · have := FINE_lone B hB h15 hF hfl h0 n' h2 (by omega); omega
        · obtain rfl : n' = 1 := by omega
          have : bval (bitB B2 n) (0 + 1) = bval (bitB B2 n) 1 := rfl
          have : fc B (0 + 1) = fc B 1 := rfl
          have : cn B (0 + 1) = cn B 1 := rfl
          omega
end Go.Proofs.YteelffkghidpfaaGreat

namespace Go.Proofs.YteelffkghidpfaaGreat
open Sx Go
set_option linter.unusedVariables false
set_option linter.unusedSimpArgs false
set_option maxRecDepth 100000
/-- a number's bits, the lowest first -/
def grp (n : Int) (c : Nat) : List Int := (List.range c).map fun j => n / 2 ^ j % 2
theorem grp_len (n : Int) (c : Nat) : (grp n c).length = c := by simp [grp]
theorem grp_succ (n : Int) (c : Nat) : grp n (c + 1) = grp n c ++ [n / 2 ^ c % 2] := by simp [grp, List.range_succ]
/-- the bits of the first bytes -/
def bitsL (B : List Int) (i : Nat) : List Int := (List.range (8 * i)).map fun j => B.getD (j / 8) 0 / 2 ^ (j % 8) % 2
/-- a code's bits, the highest first -/
def bms (c : Int) (n : Nat) : List Int := (List.range n).map fun j => c / 2 ^ (n - 1 - j) % 2
theorem bms_len (c : Int) (n : Nat) : (bms c n).length = n := by simp [bms]
theorem bms_succ (c : Int) (n : Nat) : bms c (n + 1) = [c / 2 ^ n % 2] ++ bms c n := by
  unfold bms
  rw [List.range_succ_eq_map, List.map_cons, List.map_map]
  simp only [List.singleton_append]
  congr 1
  apply List.map_congr_left
  intro j hj
  simp only [Function.comp_apply]
  rw [show n + 1 - 1 - j.succ = n - 1 - j by omega]
theorem div_step (a : Int) (k : Nat) : a / 2 ^ (k + 1) = a / 2 ^ k / 2 := by
  rw [Int.pow_succ, ← Int.ediv_ediv_of_nonneg (Int.le_of_lt (Int.pow_pos (by decide)))]
set_option maxHeartbeats 1000000 in
theorem Group4_c {w0 : World} {H : List Asn} (n : Int) (k : Nat) (hn : 0 ≤ n ∧ n < 4294967296) (hk : k ≤ 4611686018427387904) (hk2 : k ≤ 140737488355320) (w : World) (hw : St w0 H w) :
    Calls Tryz.prog 173 #[.int .u32 n, .int .i64 k] w fun e w' => ∃ p c, e = .returned (.slice p k c) ∧ St w0 (vec 5 1 (.slice p k c) k (ints .u8 (grp n k)) :: H) w' := by
  refine enter (vs := [.int .u32 n, .int .i64 k]) Tryz.func173 rfl rfl rfl hw ?_
  repeat (first | (apply gJR; first | (refine sx ?_; try intro _)) | (apply gJO; first | (refine sx ?_; try intro _)) | apply JS_seq | apply JS_region)
  refine JS_block ?_
  refine JS_loop3 (fun (i : Nat) (p : Option Addr) (c : Nat) => [(0, .int .u32 (n / 2 ^ i)), (1, .int .i64 k), (5, .slice p i c), (6, .int .i64 i)]) (fun i p c => vec 5 1 (.slice p i c) i (ints .u8 (grp n i)) :: H) (fun i _ _ => i ≤ k ∧ 0 ≤ n / 2 ^ i ∧ n / 2 ^ i < 4294967296) (fun i _ _ => k - i) 0 none 0 ⟨by omega, by rw [Int.pow_zero, Int.ediv_one]; exact hn⟩
    (by exact ⟨lookI rfl (by rw [Int.pow_zero, Int.ediv_one]), rfl, rfl, rfl, trivial⟩) (fun w hw => St.nilvec hw) ?_
  intro i p c ⟨hi, hq0, hq1⟩ again
  have hds := div_step n i
  by_cases hik : i < k
  · have hgs := grp_succ n i
    generalize n / 2 ^ i = Q at *
    repeat (first | (refine sx ?_; try intro _))
    (refine JO_app (tb := tb) rfl rfl rfl rfl rfl rfl (by repeat (first | exact Sel.here _ _ | apply Sel.there)) (by first | exact vec_rd (by repeat (first | apply List.Mem.head | apply List.Mem.tail)) | assumption | exact ArgRd.rd (by assumption) _ | (apply Rd_weak; assumption; intro _ hx; exact dS hx)) (by simp only [ints_len, List.length_cons, List.length_nil]; first | omega | rfl) (by first | exact ints_one | (repeat (first | exact trivial | refine ⟨rfl, ?_⟩))) (by omega) rfl ?_; intro _ _)
    rename_i p2 c2
    repeat (first | (refine sx ?_; try intro _))
    exact JS_again3 again (i + 1) p2 c2 ⟨by omega, by omega, by omega⟩ (by omega) (by exact ⟨lookI rfl (by omega), rfl, rfl, rfl, trivial⟩) (fun w hw => by rw [hgs, ← ints_app1]; exact dS hw)
  · obtain rfl : i = k := by omega
    clear again
    repeat (first | (refine sx ?_; try intro _))
    refine JS_ret Tryz.func173 rfl rfl ?_
    intro w hw
    exact ⟨_, _, rfl, hw⟩
set_option maxHeartbeats 1000000 in
theorem Bits5_c {w0 : World} {H : List Asn} (n : Int) (k : Nat) (hn : 0 ≤ n ∧ n < 4294967296) (hk : k ≤ 255) (w : World) (hw : St w0 H w) :
    Calls Tryz.prog 171 #[.int .u32 n, .int .u8 k] w fun e w' => ∃ p c, e = .returned (.slice p k c) ∧ St w0 (vec 5 1 (.slice p k c) k (ints .u8 (bms n k)) :: H) w' := by
  refine enter (vs := [.int .u32 n, .int .u8 k]) Tryz.func171 rfl rfl rfl hw ?_
  repeat (first | (apply gJR; first | (refine sx ?_; try intro _)) | (apply gJO; first | (refine sx ?_; try intro _)) | apply JS_seq | apply JS_region)
  refine JS_block ?_
  refine JS_loop3 (fun (i : Nat) (p : Option Addr) (c : Nat) => [(0, .int .u32 (n / 2 ^ i)), (1, .int .u8 k), (5, .slice p i c), (6, .int .u8 i)]) (fun i p c => vec 5 1 (.slice p i c) i (ints .u8 (bms n i)) :: H) (fun i _ _ => i ≤ k ∧ 0 ≤ n / 2 ^ i ∧ n / 2 ^ i < 4294967296) (fun i _ _ => k - i) 0 none 0 ⟨by omega, by rw [Int.pow_zero, Int.ediv_one]; exact hn⟩
    (by exact ⟨lookI rfl (by rw [Int.pow_zero, Int.ediv_one]), rfl, rfl, rfl, trivial⟩) (fun w hw => St.nilvec hw) ?_
  intro i p c ⟨hi, hq0, hq1⟩ again
  have hds := div_step n i
  by_cases hik : i < k
  · have hgs := bms_succ n i
    have hbl := bms_len n i
    generalize n / 2 ^ i = Q at *
    repeat (first | (refine sx ?_; try intro _))
    (refine JO_app (tb := tb) rfl rfl rfl rfl rfl rfl (by repeat (first | exact Sel.here _ _ | apply Sel.there)) (by first | exact vec_rd (by repeat (first | apply List.Mem.head | apply List.Mem.tail)) | assumption | exact ArgRd.rd (by assumption) _ | (apply Rd_weak; assumption; intro _ hx; exact dS hx)) (by simp only [ints_len, List.length_cons, List.length_nil]; first | omega | rfl) (by first | exact ints_one | (repeat (first | exact trivial | refine ⟨rfl, ?_⟩))) (by omega) rfl ?_; intro _ _)
    rename_i p2 c2
    repeat (first | (refine sx ?_; try intro _))
    exact JS_again3 again (i + 1) p2 c2 ⟨by omega, by omega, by omega⟩ (by omega) (by exact ⟨lookI rfl (by omega), rfl, by rw [Nat.add_comm i 1]; rfl, lookI rfl (by omega), trivial⟩) (fun w hw => by rw [hgs, ← ints_app, Nat.add_comm i 1]; exact dS hw)
  · obtain rfl : i = k := by omega
    clear again
    repeat (first | (refine sx ?_; try intro _))
    refine JS_ret Tryz.func171 rfl rfl ?_
    intro w hw
    exact ⟨_, _, rfl, hw⟩
end Go.Proofs.YteelffkghidpfaaGreat
