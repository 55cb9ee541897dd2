import Derived.WalkKit
import Derived.ProofKit
import Derived.OpenShut
import Derived.ChangeSlices
import Derived.Test.YteelffkghidpfaaG2
namespace Go.Proofs.Yteelffkghidpfaa
open Sx Go Hd
set_option linter.unusedVariables false
set_option linter.unusedSimpArgs false
/-! ## ranks among what was recorded (plain) -/
/-- how much is up to x -/
def upS (L : List Int) (W : Nat → Int) (x : Int) : Nat → Int
  | 0 => 0
  | k + 1 => upS L W x k + if 0 ≤ L.getD k 0 ∧ L.getD k 0 ≤ x then W k else 0
/-- the least value whose rank is not less than r; -1: none -/
def rkB (L : List Int) (W : Nat → Int) (m : Nat) (r : Int) : Nat → Int
  | 0 => -1
  | i + 1 => if L.getD i 0 < 0 ∨ (0 ≤ rkB L W m r i ∧ rkB L W m r i ≤ L.getD i 0) then rkB L W m r i else if r ≤ upS L W (L.getD i 0) m then L.getD i 0 else rkB L W m r i
theorem rkB_spec (L : List Int) (W : Nat → Int) (m : Nat) (r : Int) : ∀ i, (rkB L W m r i = -1 ∧ ∀ j, j < i → 0 ≤ L.getD j 0 → upS L W (L.getD j 0) m < r) ∨
    (0 ≤ rkB L W m r i ∧ r ≤ upS L W (rkB L W m r i) m ∧ (∃ j, j < i ∧ L.getD j 0 = rkB L W m r i) ∧ ∀ j, j < i → 0 ≤ L.getD j 0 → r ≤ upS L W (L.getD j 0) m → rkB L W m r i ≤ L.getD j 0)
  | 0 => .inl ⟨rfl, fun j h => absurd h (by omega)⟩
  | i + 1 => by
    have ih := rkB_spec L W m r i
    have hb : rkB L W m r (i + 1) = if L.getD i 0 < 0 ∨ (0 ≤ rkB L W m r i ∧ rkB L W m r i ≤ L.getD i 0) then rkB L W m r i else if r ≤ upS L W (L.getD i 0) m then L.getD i 0 else rkB L W m r i := rfl
    generalize rkB L W m r i = b at *
    generalize hv : L.getD i 0 = v at *
    have hcase : ∀ j, j < i + 1 → j < i ∨ L.getD j 0 = v := fun j hj => by
      rcases Nat.lt_or_ge j i with h | h
      · exact .inl h
      · have : j = i := by omega
        subst this; exact .inr hv
    split at hb
    · rename_i hc
      rw [hb]
      rcases ih with ⟨h1, h2⟩ | ⟨h1, h2, ⟨j0, h3, h4⟩, h5⟩
      · refine .inl ⟨h1, fun j hj h0 => ?_⟩
        rcases hcase j hj with h | h
        · exact h2 j h h0
        · omega
      · refine .inr ⟨h1, h2, ⟨j0, by omega, h4⟩, fun j hj h0 hr => ?_⟩
        rcases hcase j hj with h | h
        · exact h5 j h h0 hr
        · omega
    · rename_i hc
      split at hb
      · rename_i hr
        rw [hb]
        refine .inr ⟨by omega, hr, ⟨i, by omega, hv⟩, fun j hj h0 hr' => ?_⟩
        rcases hcase j hj with h | h
        · rcases ih with ⟨h1, h2⟩ | ⟨h1, h2, h3, h5⟩
          · have := h2 j h h0; omega
          · have := h5 j h h0 hr'; omega
        · omega
      · rename_i hr
        rw [hb]
        rcases ih with ⟨h1, h2⟩ | ⟨h1, h2, ⟨j0, h3, h4⟩, h5⟩
        · refine .inl ⟨h1, fun j hj h0 => ?_⟩
          rcases hcase j hj with h | h
          · exact h2 j h h0
          · rw [h]; omega
        · refine .inr ⟨h1, h2, ⟨j0, by omega, h4⟩, fun j hj h0 hr' => ?_⟩
          rcases hcase j hj with h | h
          · exact h5 j h h0 hr'
          · rw [h] at hr'; omega
/-- how much has a key up to i -/
def cumK (i : Int) : List (Int × Int) → Int
  | [] => 0
  | x :: r => (if x.1 ≤ i then x.2 else 0) + cumK i r
theorem cumK_put {k n i : Int} : ∀ (T : List (Int × Int)), cumK i (putT k n T) = cumK i T + if k ≤ i then n else 0
  | [] => by simp only [putT, cumK]; omega
  | x :: r => by
    rw [putT]
    split
    · rw [cumK, cumK, cumK_put r]; omega
    · split
      · rename_i h1 h2
        simp only [cumK]
        rw [h2]
        split <;> omega
      · simp only [cumK]; omega
theorem cumK_hi {i : Int} : ∀ {T : List (Int × Int)}, (∀ x ∈ T, i < x.1) → cumK i T = 0
  | [], _ => rfl
  | x :: r, h => by
    have := h x (by simp)
    rw [cumK, if_neg (by omega), cumK_hi fun y hy => h y (by simp [hy])]; rfl
theorem cumK_take {T : List (Int × Int)} (hs : Srt T) : ∀ j, j < T.length → cumK (T.getD j (0, 0)).1 T = sw (T.take (j + 1)) := by
  induction T with
  | nil => intro j hj; simp at hj
  | cons x r ih =>
    intro j hj
    obtain ⟨h1, h2⟩ := List.pairwise_cons.1 hs
    cases j with
    | zero =>
      have e : cumK x.1 r = 0 := cumK_hi h1
      show cumK x.1 (x :: r) = _
      rw [cumK, if_pos (Int.le_refl _), e]
      simp [sw]
    | succ j =>
      have hj' : j < r.length := by simpa using hj
      show cumK (r.getD j (0, 0)).1 (x :: r) = _
      rw [cumK, ih h2 j hj', List.take_succ_cons, sw, if_pos]
      have := h1 _ (getD_mem hj')
      omega
/-- below a key: what stands before it -/
theorem cumK_below {T : List (Int × Int)} (hs : Srt T) (hp : ∀ x ∈ T, 0 < x.2) {j : Nat} (hj : j < T.length) {i : Int} (hi : i < (T.getD j (0, 0)).1) : cumK i T ≤ sw (T.take j) := by
  induction T generalizing j with
  | nil => simp at hj
  | cons x r ih =>
    obtain ⟨h1, h2⟩ := List.pairwise_cons.1 hs
    cases j with
    | zero =>
      rw [cumK_hi fun y hy => ?_]
      · simp [sw]
      · rcases List.mem_cons.1 hy with rfl | hy
        · exact hi
        · have := h1 y hy
          have hi' : i < x.1 := hi
          omega
    | succ j =>
      have hj' : j < r.length := by simpa using hj
      have := ih h2 (fun y hy => hp y (by simp [hy])) hj' hi
      have hx := hp x (by simp)
      rw [cumK, List.take_succ_cons, sw]
      split <;> omega
/-- how much of the values that p picks -/
def upP (p : Int → Bool) (L : List Int) (W : Nat → Int) : Nat → Int
  | 0 => 0
  | k + 1 => upP p L W k + if p (L.getD k 0) then W k else 0
theorem upS_eq (L : List Int) (W : Nat → Int) (x : Int) : ∀ m, upS L W x m = upP (fun l => decide (0 ≤ l ∧ l ≤ x)) L W m
  | 0 => rfl
  | m + 1 => by rw [upS, upP, upS_eq L W x m]; simp only [decide_eq_true_eq]
theorem upP_le {p q : Int → Bool} {L : List Int} {W : Nat → Int} (hW : ∀ k, 0 ≤ W k) : ∀ m, (∀ k, k < m → p (L.getD k 0) = true → q (L.getD k 0) = true) → upP p L W m ≤ upP q L W m
  | 0, _ => Int.le_refl _
  | m + 1, h => by
    have h1 := upP_le hW m fun k hk => h k (by omega)
    have h2 := h m (by omega)
    have h3 := hW m
    rw [upP, upP]
    by_cases hp : p (L.getD m 0) = true
    · rw [if_pos hp, if_pos (h2 hp)]; omega
    · rw [if_neg hp]; split <;> omega
def inC (u g : Nat) (z : Int) (l : Int) : Bool := decide (0 ≤ l ∧ ((idx u g l.toNat : Nat) : Int) ≤ z)
/-- the histogram that grows: what its cells tell -/
structure RG (u g : Nat) (L : List Int) (W : Nat → Int) (i : Nat) (T : List (Int × Int)) : Prop where
  tot : sw T ≤ 1000 * i
  key : ∀ x ∈ T, ∃ k, k < i ∧ 0 ≤ L.getD k 0 ∧ x.1 = (idx u g (L.getD k 0).toNat : Nat)
  cum : ∀ z : Int, cumK z T = upP (inC u g z) L W i
theorem chk_grow {u g bu : Nat} {tot v n : Int} (hn : 1 ≤ n) (ht : tot + n ≤ 4611686018427387904) : chk u g true bu tot v n = if v < 0 then 5 else 0 := by
  unfold chk
  rw [if_neg (by omega)]
  by_cases h : v < 0
  · rw [if_pos (.inl h), if_pos h]
  · rw [if_neg (fun h' => h'.elim h (fun h'' => by cases h''.2)), if_neg (by omega), if_neg h]
theorem recS_rg {u g bu : Nat} {L : List Int} {W : Nat → Int} (hW : ∀ j, 1 ≤ W j ∧ W j ≤ 1000) : ∀ i, i ≤ 40 → RG u g L W i (recS u g true bu L W i).2
  | 0, _ => ⟨by simp [recS, sw], fun x hx => absurd hx (by simp [recS]), fun z => rfl⟩
  | i + 1, hi => by
    obtain ⟨h1, h2, h3⟩ := recS_rg (u := u) (g := g) (bu := bu) (L := L) hW i (by omega)
    have hw := hW i
    have e : (recS u g true bu L W (i + 1)) = rec1 u g true (recS u g true bu L W i) (L.getD i 0) (W i) := rfl
    rw [e]
    generalize recS u g true bu L W i = s at *
    unfold rec1
    rw [chk_grow hw.1 (by omega)]
    by_cases h0 : L.getD i 0 < 0
    · rw [if_pos h0, if_neg (by decide)]
      refine ⟨by omega, fun x hx => ?_, fun z => ?_⟩
      · obtain ⟨k, hk, h⟩ := h2 x hx
        exact ⟨k, by omega, h⟩
      · rw [h3 z, upP]
        have : inC u g z (L.getD i 0) = false := decide_eq_false (by omega)
        rw [this]; simp
    · rw [if_neg h0, if_pos rfl]
      refine ⟨?_, fun x hx => ?_, fun z => ?_⟩
      · rw [putT_sw]; omega
      · rcases putT_mem hx with hx | hx
        · obtain ⟨k, hk, h⟩ := h2 x hx
          exact ⟨k, by omega, h⟩
        · exact ⟨i, by omega, by omega, hx⟩
      · rw [cumK_put, h3 z, upP]
        have : inC u g z (L.getD i 0) = decide (((idx u g (L.getD i 0).toNat : Nat) : Int) ≤ z) := by unfold inC; exact decide_eq_decide.2 ⟨fun h => h.2, fun h => ⟨by omega, h⟩⟩
        rw [this]; simp only [decide_eq_true_eq]
theorem RG.ksi {u g : Nat} {L : List Int} {W : Nat → Int} {i : Nat} {T : List (Int × Int)} (h : RG u g L W i T) (hug : u + g ≤ 62) (hg : 1 ≤ g) (hL : ∀ j, L.getD j 0 < 9223372036854775808) : KSI u g T := fun x hx => by
  obtain ⟨k, _, h0, hk⟩ := h.key x hx
  exact ⟨_, hk, idx_is hg hug (by have := hL k; omega)⟩
/-- the greatest of some values -/
theorem exists_max (L : List Int) (p : Int → Bool) : ∀ m, (∃ k, k < m ∧ p (L.getD k 0) = true) → ∃ k, k < m ∧ p (L.getD k 0) = true ∧ ∀ j, j < m → p (L.getD j 0) = true → L.getD j 0 ≤ L.getD k 0
  | 0, h => by obtain ⟨k, hk, _⟩ := h; omega
  | m + 1, h => by
    by_cases hm : ∃ k, k < m ∧ p (L.getD k 0) = true
    · obtain ⟨k, hk, hp, hmax⟩ := exists_max L p m hm
      by_cases hpm : p (L.getD m 0) = true ∧ L.getD k 0 ≤ L.getD m 0
      · refine ⟨m, by omega, hpm.1, fun j hj hpj => ?_⟩
        rcases Nat.lt_or_ge j m with h' | h'
        · have := hmax j h' hpj; omega
        · have : j = m := by omega
          subst this; omega
      · refine ⟨k, by omega, hp, fun j hj hpj => ?_⟩
        rcases Nat.lt_or_ge j m with h' | h'
        · exact hmax j h' hpj
        · have : j = m := by omega
          subst this
          have : ¬ L.getD k 0 ≤ L.getD j 0 := fun h => hpm ⟨hpj, h⟩
          omega
    · obtain ⟨k, hk, hp⟩ := h
      have : k = m := by
        rcases Nat.lt_or_ge k m with h' | h'
        · exact absurd ⟨k, h', hp⟩ hm
        · omega
      subst this
      refine ⟨k, hk, hp, fun j hj hpj => ?_⟩
      rcases Nat.lt_or_ge j k with h' | h'
      · exact absurd ⟨j, h', hpj⟩ hm
      · have : j = k := by omega
        subst this; omega
/-- the value of a rank lies in the cell of that rank -/
theorem rank_cell {u g : Nat} {L : List Int} {W : Nat → Int} {m : Nat} {T : List (Int × Int)} (h : RG u g L W m T) (hG : GT T) (hg : 1 ≤ g) (hW : ∀ k, 0 ≤ W k) {r : Int} {k : Nat} (hr1 : 1 ≤ r) (hr : r ≤ sw T) (hT : T ≠ []) (hk : KY T r k) :
    0 ≤ rkB L W m r m ∧ (∃ j, j < m ∧ L.getD j 0 = rkB L W m r m) ∧ idx u g (rkB L W m r m).toNat = k := by
  obtain ⟨j, hj, h1, h2, h3⟩ : ∃ j, j < T.length ∧ (j = 0 ∨ sw (T.take j) < r) ∧ r ≤ sw (T.take (j + 1)) ∧ (k : Int) = (T.getD j (0, 0)).1 := by
    rcases hk with ⟨i, a, b, c, d⟩ | ⟨a, _⟩
    · exact ⟨i, a, b, c, d⟩
    · have hp := List.length_pos_iff.2 hT
      have := a (T.length - 1) (by omega)
      rw [show T.length - 1 + 1 = T.length by omega, List.take_length] at this
      omega
  rw [← cumK_take hG.srt j hj, ← h3, h.cum] at h2
  obtain ⟨q, hq1, hq2, hq3⟩ := h.key _ (getD_mem hj)
  rw [← h3] at hq3
  obtain ⟨mx, hm1, hm2, hm3⟩ := exists_max L (inC u g k) m ⟨q, hq1, decide_eq_true ⟨hq2, by omega⟩⟩
  have hm2' := of_decide_eq_true hm2
  have hup : r ≤ upS L W (L.getD mx 0) m := by
    refine Int.le_trans h2 ?_
    rw [upS_eq]
    refine upP_le hW m fun i hi hp => ?_
    have := of_decide_eq_true hp
    exact decide_eq_true ⟨this.1, hm3 i hi hp⟩
  rcases rkB_spec L W m r m with ⟨_, hno⟩ | ⟨hv0, hv1, ⟨i, hi, hiv⟩, hv2⟩
  · have := hno mx hm1 hm2'.1; omega
  · refine ⟨hv0, ⟨i, hi, hiv⟩, ?_⟩
    have hle := hv2 mx hm1 hm2'.1 hup
    have a1 : idx u g (rkB L W m r m).toNat ≤ k := by
      have := idx_mono (u := u) hg (show (rkB L W m r m).toNat ≤ (L.getD mx 0).toNat by omega)
      omega
    have a2 : k ≤ idx u g (rkB L W m r m).toNat := by
      refine Nat.le_of_not_lt fun hlt => ?_
      -- all that is up to the value has a lesser key
      have b1 : upS L W (rkB L W m r m) m ≤ cumK (idx u g (rkB L W m r m).toNat : Nat) T := by
        rw [h.cum, upS_eq]
        refine upP_le hW m fun i hi hp => ?_
        have hp := of_decide_eq_true hp
        have := idx_mono (u := u) hg (show (L.getD i 0).toNat ≤ (rkB L W m r m).toNat by omega)
        exact decide_eq_true ⟨hp.1, by omega⟩
      have b2 := cumK_below hG.srt hG.pos hj (i := (idx u g (rkB L W m r m).toNat : Nat)) (by rw [← h3]; omega)
      rcases h1 with rfl | h1
      · have b3 : cumK (idx u g (rkB L W m r m).toNat : Nat) T = 0 := cumK_hi fun y hy => by
          obtain ⟨i, hi, rfl⟩ := List.getElem_of_mem hy
          have e0 : (k : Int) = (T.getD 0 (0, 0)).1 := h3
          rw [List.getD_eq_getElem?_getD, List.getElem?_eq_getElem hj] at e0
          rcases Nat.eq_zero_or_pos i with rfl | hi0
          · have e0 : (k : Int) = T[0].1 := e0
            omega
          · have := List.pairwise_iff_getElem.1 hG.srt 0 i hj hi hi0
            have e0 : (k : Int) = T[0].1 := e0
            omega
        omega
      · omega
    omega
/-- the end of a value's cell is as near beyond it as the digits say -/
theorem cell_near {u g v d : Nat} (hg : 1 ≤ g) (hd : 10 ^ d ≤ 2 ^ (g - 1)) : v ≤ hiI u g (idx u g v) ∧ (hiI u g (idx u g v) - v < 2 ^ u ∨ hiI u g (idx u g v) - v ≤ (v - 1) / 10 ^ d) := by
  have e : hiI u g (idx u g v) = low u g v + (siz u g v - 1) := by
    unfold hiI
    rw [idx_val hg]
    unfold siz
    rw [low_bkt hg]
  have h1 := low_hi u g v
  have h2 := low_le u g v
  have h3 : 0 < siz u g v := p2pos _
  refine ⟨by omega, ?_⟩
  rcases Nat.eq_zero_or_pos (bkt u g v) with h0 | h0
  · left
    have : siz u g v = 2 ^ u := by unfold siz; rw [h0, Nat.zero_add]
    omega
  · right
    have h4 := cel_ge (u := u) hg h0
    have h5 : 2 ^ (g - 1) * siz u g v ≤ v := Nat.le_trans (Nat.mul_le_mul_right _ h4) (Nat.div_mul_le_self _ _)
    have h6 : 10 ^ d * siz u g v ≤ v := Nat.le_trans (Nat.mul_le_mul_right _ hd) h5
    have h7 : siz u g v - 1 ≤ (v - 1) / 10 ^ d := by
      have hp : 0 < 10 ^ d := Nat.pow_pos (by decide)
      rw [Nat.le_div_iff_mul_le hp, Nat.sub_mul, Nat.mul_comm (siz u g v)]
      omega
    omega
end Go.Proofs.Yteelffkghidpfaa

namespace Go.Proofs.Yteelffkghidpfaa
open Sx Go Hd
set_option linter.unusedVariables false
set_option linter.unusedSimpArgs false
/-! ## what can be loaded (plain) -/
/-- a number that is a cell's index -/
def isK (u g : Nat) (k : Int) : Prop := 0 ≤ k ∧ isI u g k.toNat
instance (u g : Nat) (k : Int) : Decidable (isK u g k) := by unfold isK; infer_instance
/-- how many buckets cells need -/
def ndT (u g bu : Nat) : List (Int × Int) → Nat
  | [] => bu
  | x :: r => ndT u g (max bu (1 + bkt u g (ival u g x.1.toNat))) r
theorem ndT_snoc (u g : Nat) (x : Int × Int) : ∀ (P : List (Int × Int)) (bu : Nat), ndT u g bu (P ++ [x]) = max (ndT u g bu P) (1 + bkt u g (ival u g x.1.toNat))
  | [], bu => rfl
  | y :: r, bu => by show ndT u g _ (r ++ [x]) = max (ndT u g _ r) _; rw [ndT_snoc u g x r]
theorem ndT_step (u g bu : Nat) (P : List (Int × Int)) {i : Nat} (hi : i < P.length) : ndT u g bu (P.take (i + 1)) = max (ndT u g bu (P.take i)) (1 + bkt u g (ival u g (P.getD i (0, 0)).1.toNat)) := by
  rw [List.take_add_one, List.getElem?_eq_getElem hi, Option.toList_some, ndT_snoc, List.getD_eq_getElem?_getD, List.getElem?_eq_getElem hi]; rfl
theorem ndT_le {u g : Nat} (hug : 1 ≤ u + g) : ∀ (P : List (Int × Int)) (bu : Nat), bu ≤ 64 → (∀ x ∈ P, isK u g x.1) → ndT u g bu P ≤ 64
  | [], bu, h, _ => h
  | x :: r, bu, h, hP => by
    have hx := hP x (by simp)
    have hb := bkt_63 (u := u) (g := g) (ival_lt hx.2) hug
    exact ndT_le hug r _ (by omega) fun y hy => hP y (by simp [hy])
theorem ndT_ge (u g : Nat) : ∀ (P : List (Int × Int)) (bu : Nat), bu ≤ ndT u g bu P
  | [], bu => Nat.le_refl _
  | x :: r, bu => Nat.le_trans (Nat.le_max_left _ _) (ndT_ge u g r _)
theorem isK_ksi {u g : Nat} {P : List (Int × Int)} (h : ∀ x ∈ P, isK u g x.1) : KSI u g P := fun x hx => ⟨x.1.toNat, by have := (h x hx).1; omega, (h x hx).2⟩
theorem KSI.isK {u g : Nat} {P : List (Int × Int)} (h : KSI u g P) : ∀ x ∈ P, isK u g x.1 := fun x hx => by
  obtain ⟨k, h1, h2⟩ := h x hx
  rw [h1]
  exact ⟨by omega, by rw [Int.toNat_natCast]; exact h2⟩
theorem right_srt {T : List (Int × Int)} (h : RIGHT T) : Srt T := by
  have key : ∀ j, j < T.length → ∀ i, i < j → (T.getD i (0, 0)).1 < (T.getD j (0, 0)).1 := by
    intro j
    induction j with
    | zero => intro _ i hi; omega
    | succ j ih =>
      intro hj i hi
      have h1 := (h (j + 1) hj).2.2 (by omega)
      rw [Nat.add_sub_cancel] at h1
      rcases Nat.lt_or_ge i j with h2 | h2
      · exact Int.lt_trans (ih (by omega) i h2) h1
      · have : i = j := by omega
        subst this; exact h1
  refine List.pairwise_iff_getElem.2 fun i j hi hj hij => ?_
  have := key j hj i hij
  rw [List.getD_eq_getElem?_getD, List.getD_eq_getElem?_getD, List.getElem?_eq_getElem hi, List.getElem?_eq_getElem hj] at this
  exact this
theorem right_gt {u g : Nat} {T : List (Int × Int)} (hug : u + g ≤ 62) (hg : 1 ≤ g ∧ g ≤ 18) (hT : OKT T) (h : RIGHT T) (hK : ∀ x ∈ T, isK u g x.1) : GT T := by
  refine ⟨right_srt h, fun x hx => ?_, fun x hx => ?_, (sw_all hT h).2⟩
  · have := isI_bd hug hg (hK x hx).2
    have := (hK x hx).1
    omega
  · obtain ⟨i, hi, rfl⟩ := List.getElem_of_mem hx
    have h1 := (h i hi).1
    have h2 := (hT _ hx).2.1
    rw [List.getD_eq_getElem?_getD, List.getElem?_eq_getElem hi] at h1
    have h1 : T[i].2 ≠ 0 := h1
    omega
theorem putT_last {k n : Int} : ∀ {T : List (Int × Int)}, (∀ x ∈ T, x.1 < k) → putT k n T = T ++ [(k, n)]
  | [], _ => rfl
  | x :: r, h => by
    rw [putT, if_pos (h x (by simp)), putT_last fun y hy => h y (by simp [hy])]; rfl
theorem srt_take {T : List (Int × Int)} (h : Srt T) {i : Nat} (hi : i < T.length) : ∀ x ∈ T.take i, x.1 < (T.getD i (0, 0)).1 := fun x hx => by
  obtain ⟨j, hj, rfl⟩ := List.getElem_of_mem hx
  rw [List.length_take] at hj
  rw [List.getElem_take, List.getD_eq_getElem?_getD, List.getElem?_eq_getElem hi]
  exact List.pairwise_iff_getElem.1 h j i (by omega) hi (by omega)
/-- may this be loaded? -/
def LOK (lo hi dg : Int) (gr : Bool) (bk : Int) (P : List (Int × Int)) : Prop :=
  shOK lo hi dg ∧ RIGHT P ∧ (∀ x ∈ P, isK (uOf lo) (gOf dg) x.1) ∧ bk = (ndT (uOf lo) (gOf dg) (1 + bkt (uOf lo) (gOf dg) hi.toNat) P : Nat) ∧ (gr = true ∨ ndT (uOf lo) (gOf dg) (1 + bkt (uOf lo) (gOf dg) hi.toNat) P ≤ 1 + bkt (uOf lo) (gOf dg) hi.toNat)
section
variable {w0 : World} {H : List Asn} {lo hi dg : Int} {u g : Nat}
theorem MValueK_c (b : Nat) (hM : blk b (mc lo hi dg u g) ∈ H) (hug : u + g ≤ 62) (hg : 1 ≤ g ∧ g ≤ 18) (k : Int) (hk : -9223372036854775808 ≤ k ∧ k < 9223372036854775808) (w : World) (hw : St w0 H w) :
    Calls Try.prog 48 #[.pointer (some ⟨b, 0, none⟩), .int .i64 k] w fun e w' => e = .returned (if isK u g k then .tuple #[.int .i64 (ival u g k.toNat : Nat), .int .i64 0] else .tuple #[.int .i64 0, .int .i64 5]) ∧ St w0 H w' := by
  by_cases h : k < 0
  · rw [if_neg (fun h' => absurd h'.1 (by omega))]
    exact MValueN_c b k h hk.1 w hw
  · obtain ⟨n, rfl⟩ := Int.eq_ofNat_of_zero_le (show 0 ≤ k by omega)
    have := MValue_c b hM hug hg n (by omega) w hw
    have e : isK u g (n : Int) ↔ isI u g n := ⟨fun h => h.2, fun h => ⟨by omega, h⟩⟩
    rw [Int.toNat_natCast]
    simp only [e]
    exact this
set_option maxRecDepth 10000 in
set_option maxHeartbeats 8000000 in
theorem HLoad_c (gr : Bool) (bk : Int) (q : Option Addr) (c : Nat) (P : List (Int × Int)) (hlo : -9223372036854775808 ≤ lo ∧ lo < 9223372036854775808) (hhi : -9223372036854775808 ≤ hi ∧ hi < 9223372036854775808) (hdg : -9223372036854775808 ≤ dg ∧ dg < 9223372036854775808) (hbk : -9223372036854775808 ≤ bk ∧ bk < 9223372036854775808)
    (hr : Rd w0 H (.slice q P.length c) P.length (flat P)) (hT : OKT P) (hl : P.length ≤ 1000000) (w : World) (hw : St w0 H w) :
    Calls Try.prog 24 #[hagg lo hi dg, .bool gr, .int .i64 bk, .slice q P.length c] w fun e w' =>
      (¬ LOK lo hi dg gr bk P ∧ e = .returned (.tuple #[.pointer none, .int .i64 1]) ∧ St w0 H w') ∨
      (LOK lo hi dg gr bk P ∧ ∃ bh mb bm es clock, e = .returned (.tuple #[.pointer (some ⟨bh, 0, none⟩), .int .i64 0]) ∧ HM es clock P ∧ St w0 (blk bh (hc mb bm gr (ndT (uOf lo) (gOf dg) (1 + bkt (uOf lo) (gOf dg) hi.toNat) P) (sw P)) :: mapL bm es clock :: blk mb (mc lo hi dg (uOf lo) (gOf dg)) :: H) w') := by
  refine enter (vs := [hagg lo hi dg, .bool gr, .int .i64 bk, .slice q P.length c]) Try.func24 rfl rfl rfl hw ?_
  clear hw w
  repeat (first | (refine sx ?_; try intro _))
  rename_i bx
  by_cases hs : shOK lo hi dg
  · refine JO_call Try.call12 rfl rfl fun w hw => (HNewT_c lo hi dg gr hs hhi.2 w hw).mono ?_
    rintro e w' ⟨bh, mb, bm, rfl, hw'⟩
    (refine ⟨_, rfl, _, hw', ?_⟩; clear hw' hw w w')
    have hug := hs.2
    have hgd := gOf_bd (dg := dg) ⟨hs.1.1, hs.1.2.1⟩
    have hg : 1 ≤ gOf dg ∧ gOf dg ≤ 18 := by omega
    have hb0 : 1 + bkt (uOf lo) (gOf dg) hi.toNat ≤ 64 := by
      have := bkt_63 (u := uOf lo) (g := gOf dg) (v := hi.toNat) (by omega) (by omega)
      omega
    have hF := fun {H} bh mb bm gr bu tot hh hM w hw => HFirst_c (w0 := w0) (H := H) (lo := lo) (hi := hi) (dg := dg) (u := uOf lo) (g := gOf dg) bh mb bm gr bu tot hh hM hug hhi w hw
    have hlok : LOK lo hi dg gr bk P ↔ shOK lo hi dg ∧ RIGHT P ∧ (∀ x ∈ P, isK (uOf lo) (gOf dg) x.1) ∧ bk = (ndT (uOf lo) (gOf dg) (1 + bkt (uOf lo) (gOf dg) hi.toNat) P : Nat) ∧ (gr = true ∨ ndT (uOf lo) (gOf dg) (1 + bkt (uOf lo) (gOf dg) hi.toNat) P ≤ 1 + bkt (uOf lo) (gOf dg) hi.toNat) := Iff.rfl
    generalize uOf lo = u at *
    generalize gOf dg = g at *
    generalize 1 + bkt u g hi.toNat = bu0 at *
    generalize LOK lo hi dg gr bk P = LK at *
    repeat (first | (refine sx ?_; try intro _))
    refine JO_call Try.call47 rfl rfl fun w hw => (WNewA_c q c P.length P (Rd_weak hr fun w hw => St.sub (by repeat (first | exact List.Sublist.refl _ | apply List.Sublist.cons_cons | apply List.Sublist.cons)) hw) rfl hT hl w hw).mono ?_
    rintro e w' ⟨x, r, rfl, ⟨hno, rfl, rfl, hw'⟩ | ⟨hR, rfl, b, a1, a2, a3, rfl, hI, hw'⟩⟩
    · (refine ⟨_, rfl, _, hw', ?_⟩; clear hw' hw w w')
      repeat (first | (refine sx ?_; try intro _))
      exact JS_ret Try.func24 rfl rfl fun w hw => .inl ⟨fun h => hno (hlok.1 h).2.1, rfl, St.sub (by repeat (first | exact List.Sublist.refl _ | apply List.Sublist.cons_cons | apply List.Sublist.cons)) hw⟩
    refine ⟨_, rfl, blk bh (hc mb bm gr bu0 (sw [])) :: mapL bm [] 0 :: a1 :: a2 :: a3 :: blk mb (mc lo hi dg u g) :: H, ?_, ?_⟩
    · exact St.sub (by repeat (first | exact List.Sublist.refl _ | apply List.Sublist.cons_cons | apply List.Sublist.cons)) (hw'.perm (H' := blk bh (hc mb bm gr bu0 (sw [])) :: mapL bm [] 0 :: a1 :: a2 :: a3 :: blk mb (mc lo hi dg u g) :: blk bx [.int .i64 lo, .int .i64 hi, .int .i64 dg] :: H) (by (repeat (first | exact List.Perm.refl _ | refine List.Perm.cons _ ?_ | refine (List.perm_middle (l₁ := [_])).trans (List.Perm.cons _ ?_) | refine (List.perm_middle (l₁ := [_, _])).trans (List.Perm.cons _ ?_) | refine (List.perm_middle (l₁ := [_, _, _])).trans (List.Perm.cons _ ?_) | refine (List.perm_middle (l₁ := [_, _, _, _])).trans (List.Perm.cons _ ?_) | refine (List.perm_middle (l₁ := [_, _, _, _, _])).trans (List.Perm.cons _ ?_) | refine (List.perm_middle (l₁ := [_, _, _, _, _, _])).trans (List.Perm.cons _ ?_) | refine (List.perm_middle (l₁ := [_, _, _, _, _, _, _])).trans (List.Perm.cons _ ?_) | refine (List.perm_middle (l₁ := [_, _, _, _, _, _, _, _])).trans (List.Perm.cons _ ?_) | refine (List.perm_middle (l₁ := [_, _, _, _, _, _, _, _, _])).trans (List.Perm.cons _ ?_) | refine (List.perm_middle (l₁ := [_, _, _, _, _, _, _, _, _, _])).trans (List.Perm.cons _ ?_) | refine (List.perm_middle (l₁ := [_, _, _, _, _, _, _, _, _, _, _])).trans (List.Perm.cons _ ?_) | refine (List.perm_middle (l₁ := [_, _, _, _, _, _, _, _, _, _, _, _])).trans (List.Perm.cons _ ?_) | refine (List.perm_middle (l₁ := [_, _, _, _, _, _, _, _, _, _, _, _, _])).trans (List.Perm.cons _ ?_)))))
    clear hw' hw w w'
    repeat (first | (apply gJR; first | (refine sx ?_; try intro _)) | (apply gJO; first | (refine sx ?_; try intro _)) | apply JS_seq | apply JS_region | (apply gJS; refine JS_condF rfl ?_) | apply JS_skip)
    refine JS_block ?_
    refine JS_loop3 (fun (i : Nat) (es : List MapEntry) (clock : Nat) => [(1, .bool gr), (2, .int .i64 bk), (10, .pointer (some ⟨bh, 0, none⟩)), (12, .pointer (some ⟨b, 0, none⟩)), (13, .int .i64 (ndT u g bu0 (P.take i) : Nat)), (38, .slice q P.length c), (39, .int .i64 P.length), (40, .int .i64 i)])
      (fun i es clock => blk bh (hc mb bm gr bu0 (sw [])) :: mapL bm es clock :: a1 :: a2 :: a3 :: blk mb (mc lo hi dg u g) :: H) (fun i es clock => i ≤ P.length ∧ HM es clock (P.take i) ∧ ∀ x ∈ P.take i, isK u g x.1) (fun i _ _ => P.length - i) 0 [] 0 ⟨Nat.zero_le _, HM.nil, by simp⟩ (by repeat (first | exact trivial | refine ⟨rfl, ?_⟩ | refine ⟨lookI rfl (by omega), ?_⟩)) (fun w hw => hw) ?_
    intro i es clock ⟨hi9, hE, hKi⟩ again
    by_cases hlt : i < P.length
    · have hat := flat_seg P i hlt
      have hst := ndT_step u g bu0 P hlt
      have hmem := getD_mem hlt
      have htk := srt_take (right_srt hR) hlt
      have hsn : P.take (i + 1) = P.take i ++ [P.getD i (0, 0)] := by rw [List.take_add_one, List.getElem?_eq_getElem hlt, Option.toList_some, List.getD_eq_getElem?_getD, List.getElem?_eq_getElem hlt]; rfl
      have hkb := (hT _ hmem).1
      have hle := ndT_le (u := u) (g := g) (by omega) (P.take i) bu0 hb0 hKi
      generalize ndT u g bu0 (P.take i) = nd at *
      generalize P.getD i (0, 0) = x at *
      obtain ⟨k, n⟩ := x
      dsimp only at *
      repeat (first | (apply gJO; refine JO_v (oL (V_loadCA (tb := tb) rfl (Rd_weak hr fun w hw => St.sub (by repeat (first | exact List.Sublist.refl _ | apply List.Sublist.cons_cons | apply List.Sublist.cons)) hw) rfl rfl rfl (by decide) hat rfl)) ?_) | first | (refine sx ?_; try intro _))
      rename_i bp
      have hV := fun w hw => MValueK_c (w0 := w0) (H := blk bp [.int .i64 k, .int .u64 n] :: blk bh (hc mb bm gr bu0 (sw [])) :: mapL bm es clock :: a1 :: a2 :: a3 :: blk mb (mc lo hi dg u g) :: H) mb (by repeat (first | apply List.Mem.head | apply List.Mem.tail)) hug hg k hkb w hw
      by_cases hk : isK u g k
      · rw [if_pos hk] at hV
        have hiv := ival_lt hk.2
        refine QO_call Try.call48 rfl rfl fun w hw => (hV w hw).mono ?_
        rintro e w' ⟨rfl, hw'⟩
        (refine ⟨_, rfl, _, hw', .inl fun w hw => hw, ?_⟩; clear hw' hw w w')
        clear hV
        repeat (first | (refine sx ?_; try intro _))
        refine JO_call Try.call23 rfl rfl fun w hw => (MBuckets_c mb (by repeat (first | apply List.Mem.head | apply List.Mem.tail)) hug (ival u g k.toNat : Nat) (by omega) w hw).mono ?_
        rw [Int.toNat_natCast]
        rintro e w' ⟨rfl, hw'⟩
        (refine ⟨_, rfl, _, hw', ?_⟩; clear hw' hw w w')
        have k3 : max (nd : Int) ((1 + bkt u g (ival u g k.toNat) : Nat) : Int) = ((max nd (1 + bkt u g (ival u g k.toNat)) : Nat) : Int) := by omega
        obtain ⟨hno, hE2⟩ := hE.new (n := n) hkb (fun y hy => by have := htk y hy; omega)
        rw [putT_last htk, ← hsn] at hE2
        repeat (first | (apply gJO; refine JO_v (V_max rfl rfl k3 rfl) ?_) | (apply gQO; refine QO_k rfl (K_mapUpdateF (tb := tb) kI rfl rfl rfl rfl (by repeat (first | exact Sel.here _ _ | apply Sel.there)) hE.ok (keyI hkb) hno rfl) rfl ?_) | first | (refine sx ?_; try intro _))
        refine JS_again3 again (i + 1) _ _ ⟨by omega, hE2, fun y hy => ?_⟩ (by omega) (by rw [hst]; exact (by repeat (first | exact trivial | refine ⟨rfl, ?_⟩ | refine ⟨lookI rfl (by omega), ?_⟩))) (fun w hw => hw.drop)
        rw [hsn] at hy
        rcases List.mem_append.1 hy with hy | hy
        · exact hKi y hy
        · rw [List.mem_singleton.1 hy]; exact hk
      · rw [if_neg hk] at hV
        refine QO_call Try.call48 rfl rfl fun w hw => (hV w hw).mono ?_
        rintro e w' ⟨rfl, hw'⟩
        (refine ⟨_, rfl, _, hw', .inl fun w hw => hw, ?_⟩; clear hw' hw w w')
        repeat (first | (refine sx ?_; try intro _))
        exact JS_ret Try.func24 rfl rfl fun w hw => .inl ⟨fun h => hk ((hlok.1 h).2.2.1 _ hmem), rfl, St.sub (by repeat (first | exact List.Sublist.refl _ | apply List.Sublist.cons_cons | apply List.Sublist.cons)) hw⟩
    · obtain rfl : i = P.length := by omega
      clear again
      rw [List.take_length] at *
      have hge := ndT_ge u g P bu0
      have hle := ndT_le (u := u) (g := g) (by omega) P bu0 hb0 hKi
      generalize ndT u g bu0 P = nd at *
      by_cases hbn : bk = (nd : Nat)
      · subst hbn
        repeat (first | (refine sx ?_; try intro _))
        refine JO_call Try.call39 rfl rfl fun w hw => (hF bh mb bm gr bu0 _ (List.Mem.head _) (by repeat (first | apply List.Mem.head | apply List.Mem.tail)) w hw).mono ?_
        rintro e w' ⟨rfl, hw'⟩
        (refine ⟨_, rfl, _, hw', ?_⟩; clear hw' hw w w')
        by_cases hgn : gr = true ∨ nd ≤ bu0
        · have hL := hlok.2 ⟨hs, hR, hKi, rfl, hgn⟩
          have fin : JS Try.prog 24 Try.f24.ntmps (fun e w' => (¬ LK ∧ e = .returned (.tuple #[.pointer none, .int .i64 1]) ∧ St w0 H w') ∨
      (LK ∧ ∃ bh mb bm es clock, e = .returned (.tuple #[.pointer (some ⟨bh, 0, none⟩), .int .i64 0]) ∧ HM es clock P ∧ St w0 (blk bh (hc mb bm gr nd (sw P)) :: mapL bm es clock :: blk mb (mc lo hi dg u g) :: H) w')) [] w0 (todo Try.f24 [.b, .b, .b, .b, .b, .b, .b, .b]) [(10, .pointer (some ⟨bh, 0, none⟩)), (12, .pointer (some ⟨b, 0, none⟩)), (13, .int .i64 nd)] (blk bh (hc mb bm gr bu0 (sw [])) :: mapL bm es clock :: a1 :: a2 :: a3 :: blk mb (mc lo hi dg u g) :: H) := by
            refine JS_at rfl ?_
            repeat (first | (refine sx ?_; try intro _))
            refine JO_call Try.call49 rfl rfl fun w hw => (TTotal_c b P ((hI (blk mb (mc lo hi dg u g) :: H)).sub (by repeat (first | exact List.Sublist.refl _ | apply List.Sublist.cons_cons | apply List.Sublist.cons))) hl w hw).mono ?_
            rintro e w' ⟨rfl, hw'⟩
            (refine ⟨_, rfl, _, hw', ?_⟩; clear hw' hw w w')
            repeat (first | (refine sx ?_; try intro _))
            exact JS_ret Try.func24 rfl rfl fun w hw => .inr ⟨hL, bh, mb, bm, es, clock, rfl, hE, St.sub (by repeat (first | exact List.Sublist.refl _ | apply List.Sublist.cons_cons | apply List.Sublist.cons)) hw⟩
          by_cases hgt : bu0 < nd
          · obtain rfl : gr = true := hgn.resolve_right (by omega)
            repeat (first | exact JS_of_at (fn := Try.f24) (p := [.b, .b, .b, .b, .b, .b, .b, .b]) (JS_ov (by repeat (first | exact trivial | refine ⟨rfl, ?_⟩ | refine ⟨lookI rfl (by omega), ?_⟩)) fin) rfl | first | (refine sx ?_; try intro _))
          · repeat (first | exact JS_of_at (fn := Try.f24) (p := [.b, .b, .b, .b, .b, .b, .b, .b]) (JS_ov (by repeat (first | exact trivial | refine ⟨rfl, ?_⟩ | refine ⟨lookI rfl (by omega), ?_⟩)) fin) rfl | first | (refine sx ?_; try intro _))
        · obtain ⟨hc1, hc2⟩ : gr = false ∧ bu0 < nd := by
            cases gr with
            | true => exact absurd (.inl rfl) hgn
            | false => exact ⟨rfl, Nat.lt_of_not_le fun h => hgn (.inr h)⟩
          subst hc1
          repeat (first | (refine sx ?_; try intro _))
          exact JS_ret Try.func24 rfl rfl fun w hw => .inl ⟨fun h => hgn (hlok.1 h).2.2.2.2, rfl, St.sub (by repeat (first | exact List.Sublist.refl _ | apply List.Sublist.cons_cons | apply List.Sublist.cons)) hw⟩
      · repeat (first | (refine sx ?_; try intro _))
        exact JS_ret Try.func24 rfl rfl fun w hw => .inl ⟨fun h => hbn (hlok.1 h).2.2.2.1, rfl, St.sub (by repeat (first | exact List.Sublist.refl _ | apply List.Sublist.cons_cons | apply List.Sublist.cons)) hw⟩
  · refine JO_call Try.call12 rfl rfl fun w hw => (HNewF_c lo hi dg gr hlo hhi hdg hs w hw).mono ?_
    rintro e w' ⟨rfl, hw'⟩
    (refine ⟨_, rfl, _, hw', ?_⟩; clear hw' hw w w')
    repeat (first | (refine sx ?_; try intro _))
    exact JS_ret Try.func24 rfl rfl fun w hw => .inl ⟨fun h => hs h.1, rfl, hw.drop⟩
end
end Go.Proofs.Yteelffkghidpfaa

namespace Go.Proofs.Yteelffkghidpfaa
open Sx Go Hd
set_option linter.unusedVariables false
set_option linter.unusedSimpArgs false
/-! ## giving up, and being caught -/
section
variable {w0 : World} {H : List Asn}
theorem inv_f2 {q : Nat} {cap args : Array Value} {w : World} (hc : ∀ args w, (callFunc q args).run Try.prog w = .ok (.enter q args) w) : (invoke (.fn (.func q) cap) args).run Try.prog w = .ok (.enter q (args ++ cap)) w := by
  simp only [invoke]
  simpa using hc (args ++ cap) w
set_option maxRecDepth 10000 in
theorem CaughtI_c (xb eb : Nat) (w : World) (hw : St w0 H w) :
    CallsD Try.prog 19 #[.pointer (some ⟨xb, 0, none⟩), .pointer (some ⟨eb, 0, none⟩)] .returning w fun e u' w' => u' = .returning ∧ e = .returned (.tuple #[]) ∧ St w0 H w' := by
  refine enterR (vs := [.pointer (some ⟨xb, 0, none⟩), .pointer (some ⟨eb, 0, none⟩)]) Try.func19 rfl rfl rfl rfl hw (.inl ⟨rfl, rfl, rfl⟩) ?_
  repeat (first | (apply gJO; refine JO_v (V_eqIN (tb := tb) rfl rfl rfl) ?_) | first | (refine sx ?_; try intro _))
  exact JS_fin Try.func19 rfl rfl fun w hw => ⟨rfl, hw⟩
set_option maxRecDepth 10000 in
theorem CaughtG_c (xb eb : Nat) (p : Option Addr) (r : Int) (w : World) (hw : St w0 (blk eb [.int .i64 r] :: blk xb [.pointer p] :: H) w) :
    CallsD Try.prog 19 #[.pointer (some ⟨xb, 0, none⟩), .pointer (some ⟨eb, 0, none⟩)] (.panicking FB) w fun e u' w' => u' = .panicking [{ v := .iface 89 (.agg #[]), recovered := true }] ∧ e = .returned (.tuple #[]) ∧ St w0 (blk eb [.int .i64 9] :: blk xb [.pointer none] :: H) w' := by
  refine enterR (vs := [.pointer (some ⟨xb, 0, none⟩), .pointer (some ⟨eb, 0, none⟩)]) Try.func19 rfl rfl rfl rfl hw (.inr ⟨[], rfl, rfl⟩) ?_
  repeat (first | (apply gJO; first | refine JO_v (V_eqIV (tb := tb) rfl rfl rfl) ?_ | refine JO_v (V_assertT (tb := tb) rfl rfl (by simp) rfl) ?_) | first | (refine sx ?_; try intro _))
  exact JS_fin Try.func19 rfl rfl fun w hw => ⟨rfl, St.sub (by repeat (first | exact List.Sublist.refl _ | apply List.Sublist.cons_cons | apply List.Sublist.cons)) hw⟩
/-- the way out when a reading was given up, and when all went well -/
abbrev defR (xb eb : Nat) : List Deferred := [⟨.fn (.func 19) #[], #[.pointer (some ⟨xb, 0, none⟩), .pointer (some ⟨eb, 0, none⟩)]⟩]
theorem LvR_err {R : Ending → World → Prop} {n : Nat} {xb eb : Nat} {p : Option Addr} {r : Int} {a : Act} {D : List Deferred} (ha : Rep n D [(2, .pointer (some ⟨xb, 0, none⟩)), (3, .pointer (some ⟨eb, 0, none⟩))] a) {w : World} (hw : St w0 (blk eb [.int .i64 r] :: blk xb [.pointer p] :: H) w)
    (hR : ∀ w, St w0 H w → R (.returned (.tuple #[.pointer none, .int .i64 9])) w) : Leaves Try.prog Try.f8 a.tmps R (defR xb eb) (.panicking FB) w := by
  refine leaves_cons (f := 19) (args := #[.pointer (some ⟨xb, 0, none⟩), .pointer (some ⟨eb, 0, none⟩)]) (by simp) (inv_f2 Try.call19) ?_
  refine (CaughtG_c xb eb p r w hw).mono ?_
  rintro e u' w' ⟨rfl, rfl, hw'⟩
  show Leaves _ _ _ _ _ (settle _) _
  rw [show settle (.panicking [{ v := .iface 89 (.agg #[]), recovered := true }]) = .returning from rfl]
  exact ⟨_, results_cells (tb := tb) (vs := [.pointer none, .int .i64 9]) (ResV.one (tb := tb) rfl (by repeat (first | apply List.Mem.head | apply List.Mem.tail)) rfl rfl rfl (ResV.one (tb := tb) rfl (by repeat (first | apply List.Mem.head | apply List.Mem.tail)) rfl rfl rfl ResV.nil)) ha hw', hR w' hw'.drop.drop⟩
theorem LvR_ok {R : Ending → World → Prop} {n : Nat} {xb eb : Nat} {p : Option Addr} {a : Act} {D : List Deferred} (ha : Rep n D [(2, .pointer (some ⟨xb, 0, none⟩)), (3, .pointer (some ⟨eb, 0, none⟩))] a) {w : World} (hw : St w0 (blk eb [.int .i64 0] :: blk xb [.pointer p] :: H) w)
    (hR : ∀ w, St w0 H w → R (.returned (.tuple #[.pointer p, .int .i64 0])) w) : Leaves Try.prog Try.f8 a.tmps R (defR xb eb) .returning w := by
  refine leaves_cons (f := 19) (args := #[.pointer (some ⟨xb, 0, none⟩), .pointer (some ⟨eb, 0, none⟩)]) (by simp) (inv_f2 Try.call19) ?_
  refine (CaughtI_c xb eb w hw).mono ?_
  rintro e u' w' ⟨rfl, rfl, hw'⟩
  show Leaves _ _ _ _ _ (settle _) _
  rw [show settle .returning = .returning from rfl]
  exact ⟨_, results_cells (tb := tb) (vs := [.pointer p, .int .i64 0]) (ResV.one (tb := tb) rfl (by repeat (first | apply List.Mem.head | apply List.Mem.tail)) rfl rfl rfl (ResV.one (tb := tb) rfl (by repeat (first | apply List.Mem.head | apply List.Mem.tail)) rfl rfl rfl ResV.nil)) ha hw', hR w' hw'.drop.drop⟩
end
end Go.Proofs.Yteelffkghidpfaa

set_option linter.unusedVariables false
namespace Sx
open Go
/-! a region that draws its order, in a function with deferred calls: a call in it may panic -/
section
variable {P : Program} {E : List PanicEntry → List Deferred → World → Prop} {ops : Array Oper} {C : World → Prop} {S : List Nat} {Q : Act → World → Prop} {I : Act → Prop}
theorem Oper.wp_of_NI {o : Oper} {a : Act} {w : World} {K : Act → World → Prop} {Q' : Exit → Act → World → Prop} (hE : ∀ ch w, E ch a.defers w → Q' (.panic ch) a w) (hh : Oper.wpN P E o a w K) : o.wp P a w K Q' := by
  unfold Oper.wpN at hh
  unfold Oper.wp
  generalize (execOp a.eval o).run P w = r at *
  cases r with
  | ok n w' =>
    cases n <;> simp only [Oper.upN] at hh <;> simp only [Oper.upon] <;>
      first
        | exact hh
        | exact Calls.mono hh (fun e w'' h' => by rcases h' with ⟨v, he, hk⟩ | ⟨ch, he, hk⟩; (subst he; exact hk); (subst he; exact hE _ _ hk))
  | halt x w' => simp only [Oper.upN] at hh
theorem wpOp_of_stepNI {i : Nat} {a : Act} {w : World} {K : Act → World → Prop} {Q' : Exit → Act → World → Prop} (hE : ∀ ch w, E ch a.defers w → Q' (.panic ch) a w) (hh : stepN P E ops i K a w) : wpOp P ops Q' i K a w := by
  unfold stepN at hh
  unfold wpOp
  split
  · rename_i ho; simp only [ho] at hh
  · rename_i o ho
    simp only [ho] at hh
    split
    · rename_i hw; simp only [hw, if_true] at hh; exact .inl (Oper.wp_of_NI hE hh)
    · rename_i hw; simp only [hw] at hh; exact hh
theorem stepN_I {i : Nat} {a : Act} {w : World} {K : Act → World → Prop} (hI : ∀ o v, ops[i]? = some o → I (a.put o.dst v)) (hh : stepN P E ops i K a w) : stepN P E ops i (fun a' w' => I a' ∧ K a' w') a w := by
  unfold stepN at *
  split
  · rename_i ho; simp only [ho] at hh
  · rename_i o ho
    have h1 := fun v => hI o v ho
    simp only [ho] at hh
    split
    · rename_i hw
      simp only [hw, if_true] at hh
      unfold Oper.wpN at *
      generalize (execOp a.eval o).run P w = r at *
      cases r with
      | ok n w' =>
        cases n <;> simp only [Oper.upN] at hh ⊢ <;>
          first
            | exact ⟨h1 _, hh⟩
            | exact Calls.mono hh (fun e w'' h' => by
                rcases h' with ⟨v, he, hk⟩ | ⟨ch, he, hk⟩
                · exact .inl ⟨v, he, h1 v, hk⟩
                · exact .inr ⟨ch, he, hk⟩)
      | halt x w' => simp only [Oper.upN] at hh
    · rename_i hw; simp only [hw] at hh; exact ⟨h1 _, hh⟩
theorem wpAny_of_SI {Q' : Exit → Act → World → Prop} (hI : ∀ (i : Nat) (a : Act) o v, I a → ops[i]? = some o → I (a.put o.dst v)) (hE : ∀ ch (a : Act) w, I a → E ch a.defers w → Q' (.panic ch) a w) (hQ : ∀ a w, Q a w → Q' .normal a w) : ∀ (fuel : Nat) (listed : Array Bool) (a : Act) (w : World), I a → wpS P E ops C S Q fuel listed a w → wpAny P .any ops Q' fuel listed a w
  | 0, _, _, _, _, h => ⟨h.1, hQ _ _ h.2⟩
  | fuel + 1, _, a, _, ha, h => ⟨fun h0 => hQ _ _ (h.1 h0), fun i hi => wpOp_of_stepNI (fun ch w => hE ch a w ha) (stepN_mono (fun a' w' h' => wpAny_of_SI hI hE hQ fuel _ a' w' h'.1 h'.2.2) (stepN_I (I := I) (fun o v ho => hI i a o v ha ho) (h.2 i hi)))⟩
end
/-- at the end of a region, and where it panics, with deferred calls -/
def QQD (P : Program) (f : Nat) (fn : Func) (R : Ending → World → Prop) (k : List Item) : Exit → Act → World → Prop
  | .normal, a, w => J P f k a w R
  | .panic ch, a, w => Leaves P fn a.tmps R a.defers (.panicking ch) w
  | _, _, _ => False
theorem J_of_wpD {P : Program} {f : Nat} {fn : Func} (hf : P.funcs[f]? = some fn) {c : Code} {k : List Item} {a : Act} {w : World} {R : Ending → World → Prop} (h : c.wp P (QQD P f fn R k) a w) : J P f (.code c :: k) a w R := by
  unfold J
  intro b cs hb hk
  obtain ⟨e, a', w', hq, harr⟩ := h b k cs
  cases e with
  | normal =>
    have hq : J P f k a' w' R := hq
    unfold J at hq
    obtain ⟨e, w'', fr, hR, hc, hrest⟩ := hq b cs hb hk
    exact ⟨e, w'', fr, hR, Comes.of_steps harr hc, hrest⟩
  | panic ch =>
    obtain ⟨todo, hs⟩ := harr
    obtain ⟨e', w'', fr', hR', hs', hfn', hk', hl'⟩ := leaves_stepsK a'.defers (.panicking ch) w' { b.at a' todo with mode := .panicking ch } cs rfl rfl rfl (by rw [← hf]; exact congrArg (P.funcs[·]?) hb) hq
    exact ⟨e', w'', fr', hR', Comes.of_steps hs hs', hfn'.trans hb, hk', hl'⟩
  | _ => exact hq.elim
section
variable {P : Program} {f n : Nat} {R : Ending → World → Prop} {D : List Deferred} {w0 : World} {k : List Item} {ov : Ov} {H H' : List Asn} {K : KC}
  {Z : Array Oper × List Nat} {l : List Oper}
def QD (P : Program) (f n : Nat) (fn : Func) (R : Ending → World → Prop) (D : List Deferred) (base : Ov) (k : List Item) : KC :=
  ⟨fun C a => ∀ w, C w → J P f k a w R, fun ch ds w => ∀ a, Rep n D base a → Leaves P fn a.tmps R D (.panicking ch) w⟩
theorem QRD_nil {fn : Func} {base : Ov} (h : JS P f n R D w0 k ov H) : QR P n D w0 Z [] ov H (QD P f n fn R D base k) := by
  unfold QR; unfold JS at h
  exact fun a ha w hw => h a w ha hw
theorem QD_e {fn : Func} {base : Ov} {ch : List PanicEntry} {ds : List Deferred} {w : World} (h : ∀ a, Rep n D base a → Leaves P fn a.tmps R D (.panicking ch) w) : (QD P f n fn R D base k).e ch ds w := h
def baseB (base : Ov) (n : Nat) (l : List Oper) : Bool := l.all fun o => match o.dst with
  | none => true
  | some t => Nat.blt t n && (look base t).isNone
theorem Rep.stays {base : Ov} {a : Act} (h : Rep n D base a) {d : Option Nat} (hd : match d with | none => True | some t => Nat.blt t n = true ∧ look base t = none) (v : Value) : Rep n D base (a.put d v) := by
  cases d with
  | none => exact h
  | some t =>
    have h1 := h.put (d := some t) (by simpa [dOk] using hd.1) v
    refine ⟨h1.size, h1.defers, fun s x hs => h1.val s x ?_⟩
    show look ((t, v) :: base) s = some x
    rw [look_cons]
    have hne : t ≠ s := fun h' => by rw [← h', hd.2] at hs; cases hs
    rw [if_neg hne]; exact hs
theorem JS_orderD {fn : Func} (base : Ov) (hf : P.funcs[f]? = some fn) (hb : sub base ov) {id : Nat} {l : List Oper} (st sy : List Nat) {l' : List Oper} (hp : Picks l st l') (hbb : baseB base n l = true) (hm : P.follows .mixedOrders = true) (hs : Region.noSelect l.toArray = true) (hlen : st.length = l.length)
    (hB : ordB l.toArray sy [] st (Array.replicate l.length false) = true) (h : QR P n D w0 (l.toArray, sy) l' ov H (QD P f n fn R D base k)) :
    JS P f n R D w0 (.code (.region id l.toArray true) :: k) ov H := by
  unfold JS; unfold QR at h
  intro a w ha hw
  refine J_of_wpD hf (wp_region_any hm ?_)
  have h0 : ∀ j, (Array.replicate l.length false).getD j false = false := fun j => by
    rcases Nat.lt_or_ge j l.length with h | h
    · simp [h]
    · simp [h]
  have hws := wpS_walk (P := P) (E := (QD P f n fn R D base k).e) (K := (QD P f n fn R D base k).k) (sy := sy) hs st [] l' (Array.replicate l.length false) (St w0 H) a hp.map hB (by simp) (fun j => by rw [h0 j]; simp)
    (fun S _ => ⟨fun j oj _ hj => (by rw [h0 j] at hj; cases hj), fun k _ _ hk => (by rw [h0 k] at hk; cases hk)⟩) (h a ha) w.drew hw.drew
  have hI : ∀ (i : Nat) (a : Act) o v, Rep n D base a → l.toArray[i]? = some o → Rep n D base (a.put o.dst v) := fun i a o v ha ho => by
    refine ha.stays ?_ v
    unfold baseB at hbb
    rw [List.all_eq_true] at hbb
    have hmem : o ∈ l := by
      have : l[i]? = some o := by simpa using ho
      exact List.mem_of_getElem? this
    have := hbb o hmem
    cases hd : o.dst with
    | none => trivial
    | some t =>
      rw [hd] at this
      simp only [Bool.and_eq_true, Option.isNone_iff_eq_none] at this
      exact this
  have := wpAny_of_SI (I := Rep n D base) (Q' := QQD P f fn R k) hI (fun ch a w hI h => by
    show Leaves P fn a.tmps R a.defers (.panicking ch) w
    rw [hI.defers]; exact h a hI) (fun a w ⟨C, hC, hk⟩ => hk w hC) _ _ _ _ (ha.sub hb) hws
  rw [hlen] at this
  simpa using this
end
section
variable {P : Program} {n : Nat} {D : List Deferred} {w0 : World} {ov : Ov} {H : List Asn} {d : Option Nat} {T : Nat} {pos : String} {af : Array Edge} {g : Option (Nat × Bool)} {tb : Tb P}
theorem E_allocD {e : Nat} {ty : Ty} {sz by' : Nat} {cs : List Value} (hT : tlook tb.l e = some ⟨ty, sz, by', some cs⟩) (hd : dOk d n = true) : OpE (ι := Nat) P n D w0 ov H ⟨d, .alloc e, T, pos, af, g⟩ (fun b => .pointer (some ⟨b, 0, none⟩)) (fun b => blk b cs :: H) :=
  ⟨hd, fun a w ha hw => ⟨w.heap.size, w.alloc (.cells cs.toArray e), by
    obtain ⟨zv, hc, hz⟩ := Tb.run_zero w hT
    simp [execOp, Instr.alloc, newVar, newRow, cellsL_eq, hc, hz], hw.new cs e _ fun w' h' => blk_holds.2 ⟨rfl, e, h'⟩⟩⟩
end
end Sx

namespace Go.Proofs.Yteelffkghidpfaa
open Sx Go Hd
set_option linter.unusedVariables false
set_option linter.unusedSimpArgs false
def hd7 : List Nat := [4, 4, 4, 4, 6, 6, 6]
/-- bytes that are a histogram's plain form (plain) -/
structure RDP (B : List Int) (lo hi dg : Int) (T : List (Int × Int)) : Prop where
  err : (decs hd7 B).2.2 = 0
  mag : (decs hd7 B).1.getD 0 0 = 478450451
  len : (decs hd7 B).1.getD 1 0 = ((B.length : Int) - 40) % 18446744073709551616
  used : (decs hd7 B).2.1 = 40
  dgE : (decs hd7 B).1.getD 3 0 = dg
  loE : (decs hd7 B).1.getD 4 0 = lo
  hiE : (decs hd7 B).1.getD 5 0 = hi
  dg5 : dg ≤ 5
  lo63 : lo < 9223372036854775808
  hi63 : hi < 9223372036854775808
  sh : shOK lo hi dg
  cel : celA ((1 + bkt (uOf lo) (gOf dg) hi.toNat + 1) * 2 ^ (gOf dg - 1) : Nat) (B.drop 40) = some T
  lok : LOK lo hi dg false (1 + bkt (uOf lo) (gOf dg) hi.toNat : Nat) T
  wr : wrB lo hi dg T = B
theorem RDP.fun {B : List Int} {lo hi dg lo' hi' dg' : Int} {T T' : List (Int × Int)} (h : RDP B lo hi dg T) (h' : RDP B lo' hi' dg' T') : lo = lo' ∧ hi = hi' ∧ dg = dg' ∧ T = T' := by
  obtain rfl : lo = lo' := h.loE.symm.trans h'.loE
  obtain rfl : hi = hi' := h.hiE.symm.trans h'.hiE
  obtain rfl : dg = dg' := h.dgE.symm.trans h'.dgE
  exact ⟨rfl, rfl, rfl, Option.some.inj (h.cel.symm.trans h'.cel)⟩
theorem decs_use : ∀ (ks : List Nat) (B : List Int), OKB B → (decs ks B).2.1 ≤ B.length ∧ (∀ x ∈ (decs ks B).1, 0 ≤ x ∧ x < 18446744073709551616)
  | [], B, _ => ⟨Nat.zero_le _, fun x hx => absurd hx (by simp [decs])⟩
  | k :: ks, B, h => by
    have h1 := dec_ok k B h
    have h2 := decs_use ks (B.drop (dec k B).2.1) (h.drop _)
    rw [List.length_drop] at h2
    have h3 := h1.used
    unfold decs
    split
    · exact ⟨Nat.zero_le _, fun x hx => absurd hx (by simp)⟩
    · split
      · exact ⟨Nat.zero_le _, fun x hx => absurd hx (by simp)⟩
      · refine ⟨by dsimp only; omega, fun x hx => ?_⟩
        rcases List.mem_cons.1 hx with rfl | hx
        · exact h1.num
        · exact h2.2 x hx
theorem LOK_bu {lo hi dg : Int} {T : List (Int × Int)} {b : Nat} (h : LOK lo hi dg false b T) : ndT (uOf lo) (gOf dg) (1 + bkt (uOf lo) (gOf dg) hi.toNat) T = b := by
  have := h.2.2.2.1; omega
theorem Rd_dropC {w0 : World} {H : List Asn} {p : Option Addr} {m c n : Nat} {X : List Int} (h : Rd w0 H (.slice p m c) m (ints .u8 X)) (hm : X.length = m) (hn : n ≤ m) : Rd w0 H (.slice (subB p n c 1) (m - n) (c - n)) (m - n) (ints .u8 (X.drop n)) := by
  have := Rd_sub (lo := n) (hi := m) (sz := 1) h hn (Nat.le_refl _)
  rw [Nat.mul_one, Nat.mul_one, List.take_of_length_le (by simp [ints, hm])] at this
  unfold ints at this ⊢
  rw [List.map_drop]
  exact this
section
variable {w0 : World} {H : List Asn}
/-- a histogram that was read -/
abbrev rdH (bh mb bm : Nat) (lo hi dg : Int) (es : List MapEntry) (clock : Nat) (T : List (Int × Int)) (H : List Asn) : List Asn :=
  blk bh (hc mb bm false (1 + bkt (uOf lo) (gOf dg) hi.toNat) (sw T)) :: mapL bm es clock :: blk mb (mc lo hi dg (uOf lo) (gOf dg)) :: H
def ReadR (w0 : World) (H : List Asn) (B : List Int) : Ending → World → Prop := fun e w' =>
  ((∀ lo hi dg T, ¬ RDP B lo hi dg T) ∧ e = .returned (.tuple #[.pointer none, .int .i64 9]) ∧ St w0 H w') ∨
  (∃ lo hi dg T, RDP B lo hi dg T ∧ T.length ≤ B.length ∧ GT T ∧ ∃ bh mb bm es clock, HM es clock T ∧ e = .returned (.tuple #[.pointer (some ⟨bh, 0, none⟩), .int .i64 0]) ∧ St w0 (rdH bh mb bm lo hi dg es clock T H) w')
set_option maxRecDepth 10000 in
set_option maxHeartbeats 8000000 in
theorem Read_c (p : Option Addr) (c m : Nat) (B : List Int) (hr : Rd w0 H (.slice p m c) m (ints .u8 B)) (hm : B.length = m) (hB : OKB B) (hm1 : m ≤ 1000000) (hpm : p = none → m = 0) (w : World) (hw : St w0 H w) :
    Calls Try.prog 8 #[.slice p m c] w (ReadR w0 H B) := by
  have hmc : m ≤ c := (hr.lcap hw).1
  have hus := decs_use hd7 B hB
  have hGet := fun {H'} (hr' : Rd w0 H' (.slice p m c) m (ints .u8 B)) w hw => Get_c (w0 := w0) (H := H') hd7 (by decide) (by decide) p c m B hr' hm hB (by omega) hpm w hw
  refine enter (vs := [.slice p m c]) Try.func8 rfl rfl rfl hw ?_
  clear hw w
  unfold ReadR
  repeat (first | (apply gJO; refine JO_defer rfl rfl ?_) | first | (refine sx ?_; try intro _))
  rename_i xb eb
  refine JO_call (vs := [.string (bstr [87, 87, 87, 87, 81, 81, 81]), .slice p m c]) Try.call20 rfl rfl fun w hw => (hGet (Rd_weak hr fun w hw => St.sub (by repeat (first | exact List.Sublist.refl _ | apply List.Sublist.cons_cons | apply List.Sublist.cons)) hw) w hw).mono ?_
  rintro e w' (⟨he, rfl, hw'⟩ | ⟨he, hl7, q, d, rfl, hw'⟩)
  · -- the head cannot be read
    have hno : ∀ lo hi dg T, ¬ RDP B lo hi dg T := fun lo hi dg T h => he h.err
    (refine ⟨_, rfl, _, hw', ?_⟩; clear hw' hw w w')
    generalize (decs hd7 B).2.2 = er at *
    repeat (first | (refine sx ?_; try intro _))
    refine JO_callE Try.func8 Try.call21 rfl rfl fun A hA w hw => (Need19_c _ w hw).mono ?_
    rintro e w' (⟨h, rfl, hw'⟩ | ⟨h, rfl, hw'⟩)
    · (exact absurd h (by first | (simp; done) | (simp; omega)))
    · (exact .inr ⟨_, rfl, LvR_err (hA.sub (by repeat (first | exact trivial | refine ⟨rfl, ?_⟩ | refine ⟨lookI rfl (by omega), ?_⟩))) (St.sub (by repeat (first | exact List.Sublist.refl _ | apply List.Sublist.cons_cons | apply List.Sublist.cons)) hw') fun w hw => .inl ⟨hno, rfl, hw⟩⟩)
  have hlen7 : hd7.length = 7 := rfl
  rw [hlen7] at hl7 hw'
  rw [hlen7]
  have hmg := fun lo hi dg T (h : RDP B lo hi dg T) => h.mag
  have hlg := fun lo hi dg T (h : RDP B lo hi dg T) => h.len
  have hud := fun lo hi dg T (h : RDP B lo hi dg T) => h.used
  have hdg := fun lo hi dg T (h : RDP B lo hi dg T) => h.dgE
  have hlo := fun lo hi dg T (h : RDP B lo hi dg T) => h.loE
  have hhi := fun lo hi dg T (h : RDP B lo hi dg T) => h.hiE
  have hmk := fun (lo hi dg : Int) T h1 h2 h3 h4 h5 h6 => RDP.mk (B := B) (lo := lo) (hi := hi) (dg := dg) (T := T) he h1 h2 h3 h4 h5 h6
  clear hGet
  generalize (decs hd7 B).1 = F at *
  generalize (decs hd7 B).2.1 = us at *
  match F, hl7 with
  | [f0, f1, f2, f3, f4, f5, f6], _ =>
  have b0 := hus.2 f0 (by simp)
  have b1 := hus.2 f1 (by simp)
  have b3 := hus.2 f3 (by simp)
  have b4 := hus.2 f4 (by simp)
  have b5 := hus.2 f5 (by simp)
  simp only [List.getD_cons_zero, List.getD_cons_succ] at hmg hlg hdg hlo hhi hmk
  (refine ⟨_, rfl, _, hw', ?_⟩; clear hw' hw w w')
  have g0 : (ints .u64 [f0, f1, f2, f3, f4, f5, f6])[0]? = some (.int .u64 f0) := rfl
  have g1 : (ints .u64 [f0, f1, f2, f3, f4, f5, f6])[1]? = some (.int .u64 f1) := rfl
  have g3 : (ints .u64 [f0, f1, f2, f3, f4, f5, f6])[3]? = some (.int .u64 f3) := rfl
  have g4 : (ints .u64 [f0, f1, f2, f3, f4, f5, f6])[4]? = some (.int .u64 f4) := rfl
  have g5 : (ints .u64 [f0, f1, f2, f3, f4, f5, f6])[5]? = some (.int .u64 f5) := rfl
  have cL : IntKind.i64.wrap ((m : Int) - 40) = (m : Int) - 40 := wi64 (by omega)
  have cU : IntKind.u64.wrap ((m : Int) - 40) = ((m : Int) - 40) % 18446744073709551616 := mu64 _
  rw [hm] at hlg hmk
  generalize hwl : ((m : Int) - 40) % 18446744073709551616 = wl at *
  have hcase : (¬ f0 = 478450451) ∨ (f0 = 478450451 ∧ ¬ f1 = wl) ∨ (f0 = 478450451 ∧ f1 = wl ∧ ¬ us = 40) ∨ (f0 = 478450451 ∧ f1 = wl ∧ us = 40) := by omega
  rcases hcase with h0 | ⟨h0, h1⟩ | ⟨h0, h1, h2⟩ | ⟨h0, h1, h2⟩
  · have hno : ∀ lo hi dg T, ¬ RDP B lo hi dg T := fun lo hi dg T h => h0 (hmg _ _ _ _ h)
    repeat (first | (apply gJO; first | refine JO_v (V_sub rfl rfl cL rfl) ?_ | refine JO_v (V_conv (tb := tb) rfl rfl rfl cU rfl) ?_ | refine JO_v (oL (V_loadC (tb := tb) rfl (vec_rd (by repeat (first | apply List.Mem.head | apply List.Mem.tail))) rfl rfl g0 rfl)) ?_ | refine JO_v (oL (V_loadC (tb := tb) rfl (vec_rd (by repeat (first | apply List.Mem.head | apply List.Mem.tail))) rfl rfl g1 rfl)) ?_ | refine JO_v (oL (V_loadC (tb := tb) rfl (vec_rd (by repeat (first | apply List.Mem.head | apply List.Mem.tail))) rfl rfl g3 rfl)) ?_ | refine JO_v (oL (V_loadC (tb := tb) rfl (vec_rd (by repeat (first | apply List.Mem.head | apply List.Mem.tail))) rfl rfl g4 rfl)) ?_ | refine JO_v (oL (V_loadC (tb := tb) rfl (vec_rd (by repeat (first | apply List.Mem.head | apply List.Mem.tail))) rfl rfl g5 rfl)) ?_) | first | (refine sx ?_; try intro _))
    refine JO_callE Try.func8 Try.call21 rfl rfl fun A hA w hw => (Need19_c _ w hw).mono ?_
    rintro e w' (⟨h, rfl, hw'⟩ | ⟨h, rfl, hw'⟩)
    · (exact absurd h (by first | (simp; done) | (simp; omega)))
    · (exact .inr ⟨_, rfl, LvR_err (hA.sub (by repeat (first | exact trivial | refine ⟨rfl, ?_⟩ | refine ⟨lookI rfl (by omega), ?_⟩))) (St.sub (by repeat (first | exact List.Sublist.refl _ | apply List.Sublist.cons_cons | apply List.Sublist.cons)) hw') fun w hw => .inl ⟨hno, rfl, hw⟩⟩)
  · have hno : ∀ lo hi dg T, ¬ RDP B lo hi dg T := fun lo hi dg T h => h1 (hlg _ _ _ _ h)
    repeat (first | (apply gJO; first | refine JO_v (V_sub rfl rfl cL rfl) ?_ | refine JO_v (V_conv (tb := tb) rfl rfl rfl cU rfl) ?_ | refine JO_v (oL (V_loadC (tb := tb) rfl (vec_rd (by repeat (first | apply List.Mem.head | apply List.Mem.tail))) rfl rfl g0 rfl)) ?_ | refine JO_v (oL (V_loadC (tb := tb) rfl (vec_rd (by repeat (first | apply List.Mem.head | apply List.Mem.tail))) rfl rfl g1 rfl)) ?_ | refine JO_v (oL (V_loadC (tb := tb) rfl (vec_rd (by repeat (first | apply List.Mem.head | apply List.Mem.tail))) rfl rfl g3 rfl)) ?_ | refine JO_v (oL (V_loadC (tb := tb) rfl (vec_rd (by repeat (first | apply List.Mem.head | apply List.Mem.tail))) rfl rfl g4 rfl)) ?_ | refine JO_v (oL (V_loadC (tb := tb) rfl (vec_rd (by repeat (first | apply List.Mem.head | apply List.Mem.tail))) rfl rfl g5 rfl)) ?_) | first | (refine sx ?_; try intro _))
    refine JO_callE Try.func8 Try.call21 rfl rfl fun A hA w hw => (Need19_c _ w hw).mono ?_
    rintro e w' (⟨h, rfl, hw'⟩ | ⟨h, rfl, hw'⟩)
    · (exact absurd h (by first | (simp; done) | (simp; omega)))
    · (exact .inr ⟨_, rfl, LvR_err (hA.sub (by repeat (first | exact trivial | refine ⟨rfl, ?_⟩ | refine ⟨lookI rfl (by omega), ?_⟩))) (St.sub (by repeat (first | exact List.Sublist.refl _ | apply List.Sublist.cons_cons | apply List.Sublist.cons)) hw') fun w hw => .inl ⟨hno, rfl, hw⟩⟩)
  · have hno : ∀ lo hi dg T, ¬ RDP B lo hi dg T := fun lo hi dg T h => h2 (hud _ _ _ _ h)
    repeat (first | (apply gJO; first | refine JO_v (V_sub rfl rfl cL rfl) ?_ | refine JO_v (V_conv (tb := tb) rfl rfl rfl cU rfl) ?_ | refine JO_v (oL (V_loadC (tb := tb) rfl (vec_rd (by repeat (first | apply List.Mem.head | apply List.Mem.tail))) rfl rfl g0 rfl)) ?_ | refine JO_v (oL (V_loadC (tb := tb) rfl (vec_rd (by repeat (first | apply List.Mem.head | apply List.Mem.tail))) rfl rfl g1 rfl)) ?_ | refine JO_v (oL (V_loadC (tb := tb) rfl (vec_rd (by repeat (first | apply List.Mem.head | apply List.Mem.tail))) rfl rfl g3 rfl)) ?_ | refine JO_v (oL (V_loadC (tb := tb) rfl (vec_rd (by repeat (first | apply List.Mem.head | apply List.Mem.tail))) rfl rfl g4 rfl)) ?_ | refine JO_v (oL (V_loadC (tb := tb) rfl (vec_rd (by repeat (first | apply List.Mem.head | apply List.Mem.tail))) rfl rfl g5 rfl)) ?_) | first | (refine sx ?_; try intro _))
    refine JO_callE Try.func8 Try.call21 rfl rfl fun A hA w hw => (Need19_c _ w hw).mono ?_
    rintro e w' (⟨h, rfl, hw'⟩ | ⟨h, rfl, hw'⟩)
    · (exact absurd h (by first | (simp; done) | (simp; omega)))
    · (exact .inr ⟨_, rfl, LvR_err (hA.sub (by repeat (first | exact trivial | refine ⟨rfl, ?_⟩ | refine ⟨lookI rfl (by omega), ?_⟩))) (St.sub (by repeat (first | exact List.Sublist.refl _ | apply List.Sublist.cons_cons | apply List.Sublist.cons)) hw') fun w hw => .inl ⟨hno, rfl, hw⟩⟩)
  repeat (first | (apply gJO; first | refine JO_v (V_sub rfl rfl cL rfl) ?_ | refine JO_v (V_conv (tb := tb) rfl rfl rfl cU rfl) ?_ | refine JO_v (oL (V_loadC (tb := tb) rfl (vec_rd (by repeat (first | apply List.Mem.head | apply List.Mem.tail))) rfl rfl g0 rfl)) ?_ | refine JO_v (oL (V_loadC (tb := tb) rfl (vec_rd (by repeat (first | apply List.Mem.head | apply List.Mem.tail))) rfl rfl g1 rfl)) ?_ | refine JO_v (oL (V_loadC (tb := tb) rfl (vec_rd (by repeat (first | apply List.Mem.head | apply List.Mem.tail))) rfl rfl g3 rfl)) ?_ | refine JO_v (oL (V_loadC (tb := tb) rfl (vec_rd (by repeat (first | apply List.Mem.head | apply List.Mem.tail))) rfl rfl g4 rfl)) ?_ | refine JO_v (oL (V_loadC (tb := tb) rfl (vec_rd (by repeat (first | apply List.Mem.head | apply List.Mem.tail))) rfl rfl g5 rfl)) ?_) | first | (refine sx ?_; try intro _))
  refine JO_callE Try.func8 Try.call21 rfl rfl fun A hA w hw => (Need19_c _ w hw).mono ?_
  rintro e w' (⟨h, rfl, hw'⟩ | ⟨h, rfl, hw'⟩)
  rotate_left
  · (exact absurd h (by first | (simp; done) | (simp; omega)))
  (refine .inl ⟨_, rfl, _, hw', ?_⟩; clear hw' hw w w' hA A h)
  have hcase : (¬ f3 ≤ 5) ∨ (f3 ≤ 5 ∧ ¬ f4 < 9223372036854775808) ∨ (f3 ≤ 5 ∧ f4 < 9223372036854775808 ∧ ¬ f5 < 9223372036854775808) ∨ (f3 ≤ 5 ∧ f4 < 9223372036854775808 ∧ f5 < 9223372036854775808) := by omega
  rcases hcase with h3 | ⟨h3, h4⟩ | ⟨h3, h4, h5⟩ | ⟨h3, h4, h5⟩
  · have hno : ∀ lo hi dg T, ¬ RDP B lo hi dg T := fun lo hi dg T h => h3 (by rw [hdg _ _ _ _ h]; exact h.dg5)
    repeat (first | (apply gJO; first | refine JO_v (V_sub rfl rfl cL rfl) ?_ | refine JO_v (V_conv (tb := tb) rfl rfl rfl cU rfl) ?_ | refine JO_v (oL (V_loadC (tb := tb) rfl (vec_rd (by repeat (first | apply List.Mem.head | apply List.Mem.tail))) rfl rfl g0 rfl)) ?_ | refine JO_v (oL (V_loadC (tb := tb) rfl (vec_rd (by repeat (first | apply List.Mem.head | apply List.Mem.tail))) rfl rfl g1 rfl)) ?_ | refine JO_v (oL (V_loadC (tb := tb) rfl (vec_rd (by repeat (first | apply List.Mem.head | apply List.Mem.tail))) rfl rfl g3 rfl)) ?_ | refine JO_v (oL (V_loadC (tb := tb) rfl (vec_rd (by repeat (first | apply List.Mem.head | apply List.Mem.tail))) rfl rfl g4 rfl)) ?_ | refine JO_v (oL (V_loadC (tb := tb) rfl (vec_rd (by repeat (first | apply List.Mem.head | apply List.Mem.tail))) rfl rfl g5 rfl)) ?_) | first | (refine sx ?_; try intro _))
    refine JO_callE Try.func8 Try.call21 rfl rfl fun A hA w hw => (Need19_c _ w hw).mono ?_
    rintro e w' (⟨h, rfl, hw'⟩ | ⟨h, rfl, hw'⟩)
    · (exact absurd h (by first | (simp; done) | (simp; omega)))
    · (exact .inr ⟨_, rfl, LvR_err (hA.sub (by repeat (first | exact trivial | refine ⟨rfl, ?_⟩ | refine ⟨lookI rfl (by omega), ?_⟩))) (St.sub (by repeat (first | exact List.Sublist.refl _ | apply List.Sublist.cons_cons | apply List.Sublist.cons)) hw') fun w hw => .inl ⟨hno, rfl, hw⟩⟩)
  · have hno : ∀ lo hi dg T, ¬ RDP B lo hi dg T := fun lo hi dg T h => h4 (by rw [hlo _ _ _ _ h]; exact h.lo63)
    repeat (first | (apply gJO; first | refine JO_v (V_sub rfl rfl cL rfl) ?_ | refine JO_v (V_conv (tb := tb) rfl rfl rfl cU rfl) ?_ | refine JO_v (oL (V_loadC (tb := tb) rfl (vec_rd (by repeat (first | apply List.Mem.head | apply List.Mem.tail))) rfl rfl g0 rfl)) ?_ | refine JO_v (oL (V_loadC (tb := tb) rfl (vec_rd (by repeat (first | apply List.Mem.head | apply List.Mem.tail))) rfl rfl g1 rfl)) ?_ | refine JO_v (oL (V_loadC (tb := tb) rfl (vec_rd (by repeat (first | apply List.Mem.head | apply List.Mem.tail))) rfl rfl g3 rfl)) ?_ | refine JO_v (oL (V_loadC (tb := tb) rfl (vec_rd (by repeat (first | apply List.Mem.head | apply List.Mem.tail))) rfl rfl g4 rfl)) ?_ | refine JO_v (oL (V_loadC (tb := tb) rfl (vec_rd (by repeat (first | apply List.Mem.head | apply List.Mem.tail))) rfl rfl g5 rfl)) ?_) | first | (refine sx ?_; try intro _))
    refine JO_callE Try.func8 Try.call21 rfl rfl fun A hA w hw => (Need19_c _ w hw).mono ?_
    rintro e w' (⟨h, rfl, hw'⟩ | ⟨h, rfl, hw'⟩)
    · (exact absurd h (by first | (simp; done) | (simp; omega)))
    · (exact .inr ⟨_, rfl, LvR_err (hA.sub (by repeat (first | exact trivial | refine ⟨rfl, ?_⟩ | refine ⟨lookI rfl (by omega), ?_⟩))) (St.sub (by repeat (first | exact List.Sublist.refl _ | apply List.Sublist.cons_cons | apply List.Sublist.cons)) hw') fun w hw => .inl ⟨hno, rfl, hw⟩⟩)
  · have hno : ∀ lo hi dg T, ¬ RDP B lo hi dg T := fun lo hi dg T h => h5 (by rw [hhi _ _ _ _ h]; exact h.hi63)
    repeat (first | (apply gJO; first | refine JO_v (V_sub rfl rfl cL rfl) ?_ | refine JO_v (V_conv (tb := tb) rfl rfl rfl cU rfl) ?_ | refine JO_v (oL (V_loadC (tb := tb) rfl (vec_rd (by repeat (first | apply List.Mem.head | apply List.Mem.tail))) rfl rfl g0 rfl)) ?_ | refine JO_v (oL (V_loadC (tb := tb) rfl (vec_rd (by repeat (first | apply List.Mem.head | apply List.Mem.tail))) rfl rfl g1 rfl)) ?_ | refine JO_v (oL (V_loadC (tb := tb) rfl (vec_rd (by repeat (first | apply List.Mem.head | apply List.Mem.tail))) rfl rfl g3 rfl)) ?_ | refine JO_v (oL (V_loadC (tb := tb) rfl (vec_rd (by repeat (first | apply List.Mem.head | apply List.Mem.tail))) rfl rfl g4 rfl)) ?_ | refine JO_v (oL (V_loadC (tb := tb) rfl (vec_rd (by repeat (first | apply List.Mem.head | apply List.Mem.tail))) rfl rfl g5 rfl)) ?_) | first | (refine sx ?_; try intro _))
    refine JO_callE Try.func8 Try.call21 rfl rfl fun A hA w hw => (Need19_c _ w hw).mono ?_
    rintro e w' (⟨h, rfl, hw'⟩ | ⟨h, rfl, hw'⟩)
    · (exact absurd h (by first | (simp; done) | (simp; omega)))
    · (exact .inr ⟨_, rfl, LvR_err (hA.sub (by repeat (first | exact trivial | refine ⟨rfl, ?_⟩ | refine ⟨lookI rfl (by omega), ?_⟩))) (St.sub (by repeat (first | exact List.Sublist.refl _ | apply List.Sublist.cons_cons | apply List.Sublist.cons)) hw') fun w hw => .inl ⟨hno, rfl, hw⟩⟩)
  repeat (first | (apply gJO; first | refine JO_v (V_sub rfl rfl cL rfl) ?_ | refine JO_v (V_conv (tb := tb) rfl rfl rfl cU rfl) ?_ | refine JO_v (oL (V_loadC (tb := tb) rfl (vec_rd (by repeat (first | apply List.Mem.head | apply List.Mem.tail))) rfl rfl g0 rfl)) ?_ | refine JO_v (oL (V_loadC (tb := tb) rfl (vec_rd (by repeat (first | apply List.Mem.head | apply List.Mem.tail))) rfl rfl g1 rfl)) ?_ | refine JO_v (oL (V_loadC (tb := tb) rfl (vec_rd (by repeat (first | apply List.Mem.head | apply List.Mem.tail))) rfl rfl g3 rfl)) ?_ | refine JO_v (oL (V_loadC (tb := tb) rfl (vec_rd (by repeat (first | apply List.Mem.head | apply List.Mem.tail))) rfl rfl g4 rfl)) ?_ | refine JO_v (oL (V_loadC (tb := tb) rfl (vec_rd (by repeat (first | apply List.Mem.head | apply List.Mem.tail))) rfl rfl g5 rfl)) ?_) | first | (refine sx ?_; try intro _))
  refine JO_callE Try.func8 Try.call21 rfl rfl fun A hA w hw => (Need19_c _ w hw).mono ?_
  rintro e w' (⟨h, rfl, hw'⟩ | ⟨h, rfl, hw'⟩)
  rotate_left
  · (exact absurd h (by first | (simp; done) | (simp; omega)))
  (refine .inl ⟨_, rfl, _, hw', ?_⟩; clear hw' hw w w' hA A h)
  have c3 : IntKind.i64.wrap f3 = f3 := wi64 (by omega)
  have c4 : IntKind.i64.wrap f4 = f4 := wi64 (by omega)
  have c5 : IntKind.i64.wrap f5 = f5 := wi64 (by omega)
  repeat (first | (apply gQO; first | (refine QO_e (E_allocD (tb := tb) rfl rfl) rfl (.inr fun _ w hw => hw.drop) ?_; intro _) | refine QO_v rfl (oL (V_loadC (tb := tb) rfl (vec_rd (by repeat (first | apply List.Mem.head | apply List.Mem.tail))) rfl rfl g3 rfl)) ?_ | refine QO_v rfl (oL (V_loadC (tb := tb) rfl (vec_rd (by repeat (first | apply List.Mem.head | apply List.Mem.tail))) rfl rfl g4 rfl)) ?_ | refine QO_v rfl (oL (V_loadC (tb := tb) rfl (vec_rd (by repeat (first | apply List.Mem.head | apply List.Mem.tail))) rfl rfl g5 rfl)) ?_ | refine QO_v rfl (V_conv (tb := tb) rfl rfl rfl c3 rfl) ?_ | refine QO_v rfl (V_conv (tb := tb) rfl rfl rfl c4 rfl) ?_ | refine QO_v rfl (V_conv (tb := tb) rfl rfl rfl c5 rfl) ?_) | first | (refine sx ?_; try intro _))
  rename_i hb
  refine JO_call Try.call22 rfl rfl fun w hw => (MNew_c f4 f5 f3 (by omega) (by omega) (by omega) w hw).mono ?_
  rintro e w' (⟨hsh, rfl, hw'⟩ | ⟨hsh, mb0, rfl, hw'⟩)
  · have hno : ∀ lo hi dg T, ¬ RDP B lo hi dg T := fun lo hi dg T h => hsh (by rw [hlo _ _ _ _ h, hhi _ _ _ _ h, hdg _ _ _ _ h]; exact h.sh)
    (refine ⟨_, rfl, _, hw', ?_⟩; clear hw' hw w w')
    repeat (first | (refine sx ?_; try intro _))
    refine JO_callE Try.func8 Try.call21 rfl rfl fun A hA w hw => (Need19_c _ w hw).mono ?_
    rintro e w' (⟨h, rfl, hw'⟩ | ⟨h, rfl, hw'⟩)
    · (exact absurd h (by first | (simp; done) | (simp; omega)))
    · (exact .inr ⟨_, rfl, LvR_err (hA.sub (by repeat (first | exact trivial | refine ⟨rfl, ?_⟩ | refine ⟨lookI rfl (by omega), ?_⟩))) (St.sub (by repeat (first | exact List.Sublist.refl _ | apply List.Sublist.cons_cons | apply List.Sublist.cons)) hw') fun w hw => .inl ⟨hno, rfl, hw⟩⟩)
  (refine ⟨_, rfl, _, hw', ?_⟩; clear hw' hw w w')
  repeat (first | (refine sx ?_; try intro _))
  refine JO_callE Try.func8 Try.call21 rfl rfl fun A hA w hw => (Need19_c _ w hw).mono ?_
  rintro e w' (⟨h, rfl, hw'⟩ | ⟨h, rfl, hw'⟩)
  rotate_left
  · (exact absurd h (by first | (simp; done) | (simp; omega)))
  (refine .inl ⟨_, rfl, _, hw', ?_⟩; clear hw' hw w w' hA A h)
  have hgd := gOf_bd (dg := f3) ⟨hsh.1.1, h3⟩
  have hug := hsh.2
  have hbk : bkt (uOf f4) (gOf f3) f5.toNat ≤ 63 := by
    have := bl_v (v := f5.toNat) (by omega)
    unfold bkt; omega
  have hbk2 : bkt (uOf f4) (gOf f3) f5.toNat + 1 ≤ 64 := by omega
  repeat (first | (refine sx ?_; try intro _))
  refine JO_call Try.call23 rfl rfl fun w hw => (MBuckets_c mb0 (List.Mem.head _) hug f5 (by omega) w hw).mono ?_
  rintro e w' ⟨rfl, hw'⟩
  (refine ⟨_, rfl, _, hw', ?_⟩; clear hw' hw w w')
  have hp17 := Nat.pow_le_pow_right (n := 2) (by decide) (show gOf f3 - 1 ≤ 17 by omega)
  have hmost : (1 + bkt (uOf f4) (gOf f3) f5.toNat + 1) * 2 ^ (gOf f3 - 1) ≤ 1000000000 := by
    have : (1 + bkt (uOf f4) (gOf f3) f5.toNat + 1) * 2 ^ (gOf f3 - 1) ≤ 66 * 2 ^ 17 := Nat.mul_le_mul (by omega) hp17
    omega
  have hm40 : 40 ≤ m := by omega
  have hrD : Rd w0 H (.slice (subB p 40 c 1) (m - 40) (c - 40)) (m - 40) (ints .u8 (B.drop 40)) := Rd_dropC hr hm hm40
  have hCe := fun {H'} (hr' : Rd w0 H' (.slice (subB p 40 c 1) (m - 40) (c - 40)) (m - 40) (ints .u8 (B.drop 40))) w hw => Cells_c (w0 := w0) (H := H') (subB p 40 c 1) (c - 40) (m - 40) (B.drop 40) hr' (by rw [List.length_drop, hm]) (hB.drop 40) (by omega) (fun h => by
    cases p with
    | none => have := hpm rfl; omega
    | some a => unfold subB at h; split at h <;> simp at h) _ hmost w hw
  have hLd := fun {H'} (q : Option Addr) (d : Nat) (T : List (Int × Int)) (hT : OKT T) (hl : T.length ≤ 1000000) (hr' : Rd w0 H' (.slice q T.length d) T.length (flat T)) w hw => HLoad_c (w0 := w0) (H := H') (lo := f4) (hi := f5) (dg := f3) false (1 + bkt (uOf f4) (gOf f3) f5.toNat : Nat) q d T (by omega) (by omega) (by omega) (by omega) hr' hT hl w hw
  have hMC := fun {H'} (hM : blk mb0 (mc f4 f5 f3 (uOf f4) (gOf f3)) ∈ H') w hw => MCells_c (w0 := w0) (H := H') mb0 hM (by omega) (1 + bkt (uOf f4) (gOf f3) f5.toNat) (by omega) w hw
  have hWr := fun {H'} (bh mb bm : Nat) (es : List MapEntry) (clock : Nat) (T : List (Int × Int)) (hlk : LOK f4 f5 f3 false (1 + bkt (uOf f4) (gOf f3) f5.toNat : Nat) T) (x1 : blk bh (hc mb bm false (1 + bkt (uOf f4) (gOf f3) f5.toNat) (sw T)) ∈ H') (x2 : mapL bm es clock ∈ H') (x3 : blk mb (mc f4 f5 f3 (uOf f4) (gOf f3)) ∈ H') (hE : HM es clock T) (hG : GT T) (hl : T.length ≤ 1000000) w hw => HWrite_c (w0 := w0) (H := H') bh mb bm false (1 + bkt (uOf f4) (gOf f3) f5.toNat) es clock T x1 x2 x3 hE hG hug (by omega) (by omega) hl (by omega) (by omega) (by omega) w hw
  have hrc : rchv (uOf f4) (gOf f3) f5 (1 + bkt (uOf f4) (gOf f3) f5.toNat) = f5 := if_pos rfl
  rw [hrc] at hWr
  have hbuE := fun T (h : LOK f4 f5 f3 false (1 + bkt (uOf f4) (gOf f3) f5.toNat : Nat) T) => LOK_bu h
  have hGT := fun T (hT : OKT T) (h : LOK f4 f5 f3 false (1 + bkt (uOf f4) (gOf f3) f5.toNat : Nat) T) => right_gt hug (by omega) hT h.2.1 h.2.2.1
  have hmk2 := fun T => hmk f4 f5 f3 T h0 h1 h2 rfl rfl rfl h3 h4 h5 hsh
  have hcel := fun lo hi dg T (h : RDP B lo hi dg T) => show celA ((1 + bkt (uOf f4) (gOf f3) f5.toNat + 1) * 2 ^ (gOf f3 - 1) : Nat) (B.drop 40) = some T by
    have e1 := hlo _ _ _ _ h
    have e2 := hhi _ _ _ _ h
    have e3 := hdg _ _ _ _ h
    subst e1 e2 e3
    exact h.cel
  have hlk0 := fun lo hi dg T (h : RDP B lo hi dg T) => show LOK f4 f5 f3 false (1 + bkt (uOf f4) (gOf f3) f5.toNat : Nat) T by
    have e1 := hlo _ _ _ _ h
    have e2 := hhi _ _ _ _ h
    have e3 := hdg _ _ _ _ h
    subst e1 e2 e3
    exact h.lok
  have hwr0 := fun lo hi dg T (h : RDP B lo hi dg T) => show wrB f4 f5 f3 T = B by
    have e1 := hlo _ _ _ _ h
    have e2 := hhi _ _ _ _ h
    have e3 := hdg _ _ _ _ h
    subst e1 e2 e3
    exact h.wr
  clear hmk hmg hlg hud hrc
  generalize hbq : 1 + bkt (uOf f4) (gOf f3) f5.toNat = bq at *
  generalize hmq : (bq + 1) * 2 ^ (gOf f3 - 1) = most at *
  repeat (first | apply hIx 9 | first | (refine sx ?_; try intro _))
  refine Hold.go ?_
  refine JS_seq ?_
  refine JS_orderD [(2, .pointer (some ⟨xb, 0, none⟩)), (3, .pointer (some ⟨eb, 0, none⟩))] Try.func8 (by repeat (first | exact trivial | refine ⟨rfl, ?_⟩ | refine ⟨lookI rfl (by omega), ?_⟩)) [0, 1, 2, 3, 4, 5, 6, 7, 8, 9, 10, 11, 12, 13] [1, 0] (Picks.cons rfl (Picks.cons rfl (Picks.cons rfl (Picks.cons rfl (Picks.cons rfl (Picks.cons rfl (Picks.cons rfl (Picks.cons rfl (Picks.cons rfl (Picks.cons rfl (Picks.cons rfl (Picks.cons rfl (Picks.cons rfl (Picks.cons rfl (Picks.nil))))))))))))))) (by kernel_rfl) (by kernel_rfl) (by kernel_rfl) rfl (by decide +kernel) ?_
  repeat (first | (apply gQO; first | refine QO_v rfl (oL (V_loadA (tb := tb) rfl (by repeat (first | apply List.Mem.head | apply List.Mem.tail)) rfl rfl rfl rfl)) ?_ | refine QO_v rfl (V_slice (tb := tb) (lo := 40) (hi := m) rfl rfl rfl rfl rfl rfl (by omega) (fun w hw => ⟨by omega, by omega⟩) rfl) ?_) | first | (refine sx ?_; try intro _))
  refine QO_call Try.call26 rfl rfl fun w hw => (hMC (List.Mem.head _) w hw).mono ?_
  rintro e w' ⟨rfl, hw'⟩
  refine ⟨_, rfl, _, hw', .inl fun w hw => hw, ?_⟩
  clear hw' hw w w'
  repeat (first | (refine sx ?_; try intro _))
  refine QO_callE Try.call25 rfl rfl fun w hw => (hCe (Rd_weak hrD fun w hw => St.sub (by repeat (first | exact List.Sublist.refl _ | apply List.Sublist.cons_cons | apply List.Sublist.cons)) hw) w hw).mono ?_
  rintro e w' (⟨hn, rfl, hw'⟩ | ⟨T, q2, d2, hT, hTl, hTO, rfl, hw'⟩)
  · have hno : ∀ lo hi dg T, ¬ RDP B lo hi dg T := fun lo hi dg T h => by
      have := hcel _ _ _ _ h
      rw [hn] at this; cases this
    exact .inr ⟨_, rfl, QD_e fun a ha => LvR_err ha (St.sub (by repeat (first | exact List.Sublist.refl _ | apply List.Sublist.cons_cons | apply List.Sublist.cons)) hw') fun w hw => .inl ⟨hno, rfl, hw⟩⟩
  have hTu := fun lo hi dg T' (h : RDP B lo hi dg T') => show T' = T from Option.some.inj ((hcel _ _ _ _ h).symm.trans hT)
  refine .inl ⟨_, rfl, _, hw', .inl fun w hw => hw.drop, ?_⟩
  clear hw' hw w w' hCe hcel
  repeat (first | (refine sx ?_; try intro _))
  refine QO_call Try.call24 rfl rfl fun w hw => (hLd q2 d2 T hTO (by omega) (vec_rd (List.Mem.head _)) w hw).mono ?_
  rintro e w' (⟨hlk, rfl, hw'⟩ | ⟨hlk, bh, mb, bm, es, clock, rfl, hE, hw'⟩)
  · have hno : ∀ lo hi dg T, ¬ RDP B lo hi dg T := fun lo hi dg T' h => by
      obtain rfl := hTu _ _ _ _ h
      exact hlk (hlk0 _ _ _ _ h)
    refine ⟨_, rfl, _, hw', .inl fun w hw => hw, ?_⟩
    clear hw' hw w w'
    repeat (first | (apply gQO; refine QO_k rfl (K_store (tb := tb) rfl rfl (by repeat (first | apply Upd.here | apply Upd.there)) rfl rfl rfl (by repeat (first | exact trivial | refine ⟨rfl, ?_⟩)) rfl rfl) rfl ?_) | apply QRD_nil | first | (refine sx ?_; try intro _))
    refine JO_callE Try.func8 Try.call21 rfl rfl fun A hA w hw => (Need19_c _ w hw).mono ?_
    rintro e w' (⟨h, rfl, hw'⟩ | ⟨h, rfl, hw'⟩)
    · (exact absurd h (by first | (simp; done) | (simp; omega)))
    · (exact .inr ⟨_, rfl, LvR_err (hA.sub (by repeat (first | exact trivial | refine ⟨rfl, ?_⟩ | refine ⟨lookI rfl (by omega), ?_⟩))) (St.sub (by repeat (first | exact List.Sublist.refl _ | apply List.Sublist.cons_cons | apply List.Sublist.cons)) hw') fun w hw => .inl ⟨hno, rfl, hw⟩⟩)
  have hG := hGT T hTO hlk
  rw [hbuE T hlk] at hw'
  refine ⟨_, rfl, _, hw', .inl fun w hw => hw.drop.drop.drop, ?_⟩
  clear hw' hw w w' hLd
  repeat (first | (apply gQO; refine QO_k rfl (K_store (tb := tb) rfl rfl (by repeat (first | apply Upd.here | apply Upd.there)) rfl rfl rfl (by repeat (first | exact trivial | refine ⟨rfl, ?_⟩)) rfl rfl) rfl ?_) | apply QRD_nil | first | (refine sx ?_; try intro _))
  refine JO_callE Try.func8 Try.call21 rfl rfl fun A hA w hw => (Need19_c _ w hw).mono ?_
  rintro e w' (⟨h, rfl, hw'⟩ | ⟨h, rfl, hw'⟩)
  rotate_left
  · (exact absurd h (by first | (simp; done) | (simp; omega)))
  (refine .inl ⟨_, rfl, _, hw', ?_⟩; clear hw' hw w w' hA A h)
  repeat (first | (refine sx ?_; try intro _))
  refine JO_call Try.call7 rfl rfl fun w hw => (hWr bh mb bm es clock T hlk (List.Mem.head _) (List.Mem.tail _ (List.Mem.head _)) (List.Mem.tail _ (List.Mem.tail _ (List.Mem.head _))) hE hG (by omega) w hw).mono ?_
  rintro e w' ⟨p3, c3', rfl, hw'⟩
  (refine ⟨_, rfl, _, hw', ?_⟩; clear hw' hw w w')
  repeat (first | (refine sx ?_; try intro _))
  refine JO_call Try.call27 rfl rfl fun w hw => (Equal_c p3 p c3' c _ m (wrB f4 f5 f3 T) B (vec_rd (List.Mem.head _)) (Rd_weak hr fun w hw => St.sub (by repeat (first | exact List.Sublist.refl _ | apply List.Sublist.cons_cons | apply List.Sublist.cons)) hw) rfl hm (by rw [wrB_len]; have := cntA_len T; omega) (by omega) w hw).mono ?_
  rintro e w' ⟨rfl, hw'⟩
  by_cases heq : wrB f4 f5 f3 T = B
  rotate_left
  · have hno : ∀ lo hi dg T, ¬ RDP B lo hi dg T := fun lo hi dg T' h => by
      obtain rfl := hTu _ _ _ _ h
      exact heq (hwr0 _ _ _ _ h)
    rw [decide_eq_false heq]
    (refine ⟨_, rfl, _, hw', ?_⟩; clear hw' hw w w')
    repeat (first | (refine sx ?_; try intro _))
    refine JO_callE Try.func8 Try.call21 rfl rfl fun A hA w hw => (Need19_c _ w hw).mono ?_
    rintro e w' (⟨h, rfl, hw'⟩ | ⟨h, rfl, hw'⟩)
    · (exact absurd h (by first | (simp; done) | (simp; omega)))
    · (exact .inr ⟨_, rfl, LvR_err (hA.sub (by repeat (first | exact trivial | refine ⟨rfl, ?_⟩ | refine ⟨lookI rfl (by omega), ?_⟩))) (St.sub (by repeat (first | exact List.Sublist.refl _ | apply List.Sublist.cons_cons | apply List.Sublist.cons)) hw') fun w hw => .inl ⟨hno, rfl, hw⟩⟩)
  rw [decide_eq_true heq]
  (refine ⟨_, rfl, _, hw', ?_⟩; clear hw' hw w w')
  have hR := hmk2 T hT hlk heq
  repeat (first | (refine sx ?_; try intro _))
  refine JO_callE Try.func8 Try.call21 rfl rfl fun A hA w hw => (Need19_c _ w hw).mono ?_
  rintro e w' (⟨h, rfl, hw'⟩ | ⟨h, rfl, hw'⟩)
  rotate_left
  · (exact absurd h (by first | (simp; done) | (simp; omega)))
  (refine .inl ⟨_, rfl, _, hw', ?_⟩; clear hw' hw w w' hA A h)
  repeat (first | (refine sx ?_; try intro _))
  refine JS_retD Try.func8 fun A w hA hw => ?_
  refine LvR_ok (p := some ⟨bh, 0, none⟩) (H := rdH bh mb bm f4 f5 f3 es clock T H) (hA.sub (by repeat (first | exact trivial | refine ⟨rfl, ?_⟩ | refine ⟨lookI rfl (by omega), ?_⟩))) ?_ fun w hw => .inr ⟨f4, f5, f3, T, hR, by omega, hG, bh, mb, bm, es, clock, hE, rfl, hw⟩
  have hw2 : St w0 (blk bh (hc mb bm false bq (sw T)) :: mapL bm es clock :: blk mb (mc f4 f5 f3 (uOf f4) (gOf f3)) :: blk eb [.int .i64 0] :: blk xb [.pointer (some ⟨bh, 0, none⟩)] :: H) w := St.sub (by repeat (first | exact List.Sublist.refl _ | apply List.Sublist.cons_cons | apply List.Sublist.cons)) hw
  unfold rdH
  rw [hbq]
  exact hw2.perm (by (repeat (first | exact List.Perm.refl _ | refine List.Perm.cons _ ?_ | refine (List.perm_middle (l₁ := [_])).trans (List.Perm.cons _ ?_) | refine (List.perm_middle (l₁ := [_, _])).trans (List.Perm.cons _ ?_) | refine (List.perm_middle (l₁ := [_, _, _])).trans (List.Perm.cons _ ?_) | refine (List.perm_middle (l₁ := [_, _, _, _])).trans (List.Perm.cons _ ?_) | refine (List.perm_middle (l₁ := [_, _, _, _, _])).trans (List.Perm.cons _ ?_) | refine (List.perm_middle (l₁ := [_, _, _, _, _, _])).trans (List.Perm.cons _ ?_) | refine (List.perm_middle (l₁ := [_, _, _, _, _, _, _])).trans (List.Perm.cons _ ?_) | refine (List.perm_middle (l₁ := [_, _, _, _, _, _, _, _])).trans (List.Perm.cons _ ?_) | refine (List.perm_middle (l₁ := [_, _, _, _, _, _, _, _, _])).trans (List.Perm.cons _ ?_) | refine (List.perm_middle (l₁ := [_, _, _, _, _, _, _, _, _, _])).trans (List.Perm.cons _ ?_) | refine (List.perm_middle (l₁ := [_, _, _, _, _, _, _, _, _, _, _])).trans (List.Perm.cons _ ?_) | refine (List.perm_middle (l₁ := [_, _, _, _, _, _, _, _, _, _, _, _])).trans (List.Perm.cons _ ?_) | refine (List.perm_middle (l₁ := [_, _, _, _, _, _, _, _, _, _, _, _, _])).trans (List.Perm.cons _ ?_))))
end
end Go.Proofs.Yteelffkghidpfaa

namespace Go.Proofs.Yteelffkghidpfaa
open Sx Go Hd
set_option linter.unusedVariables false
set_option linter.unusedSimpArgs false
/-! ## what was written is read (plain) -/
theorem mod_step {n : Int} (h : 0 ≤ n) (s : Nat) : n % 256 ^ (s + 1) = n % 256 ^ s + lowF n s * 256 ^ s := by
  obtain ⟨k, rfl⟩ := Int.eq_ofNat_of_zero_le h
  unfold lowF
  have e : ((256 : Int) ^ s) = ((256 ^ s : Nat) : Int) := by simp
  rw [Int.pow_succ, e]
  generalize 256 ^ s = p
  have h1 := Nat.mod_mul (x := k) (a := p) (b := 256)
  have e1 : ((p : Int) * 256) = ((p * 256 : Nat) : Int) := by simp
  rw [e1, ← Int.natCast_emod, h1, Int.natCast_add, Int.natCast_emod, Int.natCast_mul, Int.natCast_emod, Int.natCast_ediv, Int.mul_comm]
  rfl
theorem lowN_lowB {n : Int} (h : 0 ≤ n) : ∀ s, lowN (lowB s n) = n % 256 ^ s
  | 0 => by simp [lowB, tab, lowN]
  | s + 1 => by
    rw [lowB_snoc, lowN_app, lowN_lowB h s, mod_step h]
    congr 2
    exact congrArg _ (tab_len _ _)
theorem hiN_cons (x : Int) (L : List Int) : hiN (x :: L) = x * 256 ^ L.length + hiN L := by
  refine snoc_in2 (p := fun L => hiN (x :: L) = x * 256 ^ L.length + hiN L) (by simp [hiN]) (fun A y ih => ?_) L
  rw [← List.cons_append, hiN_app, hiN_app, ih, List.length_append, List.length_singleton, Int.pow_succ, Int.add_mul, Int.mul_assoc]
  omega
theorem hiN_hiB {n : Int} (h : 0 ≤ n) : ∀ s, hiN (hiB s n) = n % 256 ^ s
  | 0 => by simp [hiB, tab, hiN]
  | s + 1 => by
    rw [hiB_cons, hiN_cons, hiN_hiB h s, mod_step h, show (hiB s n).length = s from tab_len _ _]
    omega
theorem take_app {A R : List Int} {s : Nat} (h : A.length = s) : (A ++ R).take s = A := by rw [← h, List.take_left']; rfl
theorem dFix_low {s : Nat} {n : Int} (h : 0 ≤ n ∧ n < 256 ^ s) (R : List Int) : dFix false s (lowB s n ++ R) = (n, s, 0) := by
  have hl : (lowB s n).length = s := tab_len _ _
  unfold dFix
  rw [if_neg (by rw [List.length_append]; omega), take_app hl, if_neg (by decide), lowN_lowB h.1, Int.emod_eq_of_lt h.1 h.2]
theorem dFix_hi {s : Nat} {n : Int} (h : 0 ≤ n ∧ n < 256 ^ s) (R : List Int) : dFix true s (hiB s n ++ R) = (n, s, 0) := by
  have hl : (hiB s n).length = s := tab_len _ _
  unfold dFix
  rw [if_neg (by rw [List.length_append]; omega), take_app hl, if_pos rfl, hiN_hiB h.1, Int.emod_eq_of_lt h.1 h.2]
theorem mul_parts (m z : Int) : m % 128 * z + m / 128 * (z * 128) = m * z := by
  have h := Int.mul_ediv_add_emod m 128
  have : m / 128 * (z * 128) = 128 * (m / 128) * z := by rw [Int.mul_comm z 128, ← Int.mul_assoc, Int.mul_comm (m / 128) 128]
  rw [this, ← Int.add_mul, Int.add_comm, h]
theorem dNine_var : ∀ (f i : Nat) (a m : Int) (R : List Int), i + f = 8 → 0 ≤ m → m < 256 * 128 ^ f → (m = 0 → i = 0) → dNine i a (varB f m ++ R) = (uns (a + m * 128 ^ i), i + (varB f m).length, 0)
  | 0, i, a, m, R, hi, h0, h1, hz => by
    obtain rfl : i = 8 := by omega
    have hm : m ≠ 0 := fun h => by have := hz h; omega
    rw [varB, List.singleton_append, dNine, if_neg (by omega), if_neg (by omega), if_pos rfl]; rfl
  | f + 1, i, a, m, R, hi, h0, h1, hz => by
    by_cases h7 : m ≤ 127
    · rw [varB_last h7, List.singleton_append, dNine, if_neg (by omega), if_neg (fun h => by have := hz h.1; omega), if_neg (by omega), show m % 128 = m by omega]; rfl
    · rw [varB_step h7, List.cons_append, dNine, if_pos ⟨by omega, by omega⟩]
      rw [dNine_var f (i + 1) _ (m / 128) R (by omega) (by omega) (by
        rw [Int.pow_succ] at h1
        generalize (128 : Int) ^ f = z at *
        omega) (by omega)]
      have e1 : (m % 128 + 128) % 128 = m % 128 := by omega
      rw [e1, Int.pow_succ, Int.add_assoc, mul_parts, List.length_cons]
      congr 2
      omega
theorem dLeb_var : ∀ (f i : Nat) (a m : Int) (R : List Int), i + f = 9 → 0 ≤ m → m < 2 * 128 ^ f → (m = 0 → i = 0) → dLeb i a (varB f m ++ R) = (a + m * 128 ^ i, i + (varB f m).length, 0)
  | 0, i, a, m, R, hi, h0, h1, hz => by
    obtain rfl : i = 9 := by omega
    have hm : m ≠ 0 := fun h => by have := hz h; omega
    simp at h1
    rw [varB, List.singleton_append, dLeb, if_neg (by omega), if_neg (by omega), if_neg (by omega), show m % 128 = m by omega]; rfl
  | f + 1, i, a, m, R, hi, h0, h1, hz => by
    by_cases h7 : m ≤ 127
    · rw [varB_last h7, List.singleton_append, dLeb, if_neg (by omega), if_neg (by omega), if_neg (fun h => by have := hz h.1; omega), show m % 128 = m by omega]; rfl
    · rw [varB_step h7, List.cons_append, dLeb, if_neg (by omega), if_pos (by omega)]
      rw [dLeb_var f (i + 1) _ (m / 128) R (by omega) (by omega) (by
        rw [Int.pow_succ] at h1
        generalize (128 : Int) ^ f = z at *
        omega) (by omega)]
      have e1 : (m % 128 + 128) % 128 = m % 128 := by omega
      rw [e1, Int.pow_succ, Int.add_assoc, mul_parts, List.length_cons]
      congr 2
      omega
theorem dec_enc {k : Nat} (hk : k < 10) {n : Int} (hn : 0 ≤ n ∧ n < 18446744073709551616) (hf : fitA k n) (R : List Int) : dec k (encN k n ++ R) = (n, (encN k n).length, 0) := by
  have h8 : (256 : Int) ^ 8 = 18446744073709551616 := by decide
  have hs := sgn_bd hn
  have hus := uns_sgn hn
  have p9 : (18446744073709551616 : Int) = 2 * 128 ^ 9 := by decide
  have p8 : (18446744073709551616 : Int) = 256 * 128 ^ 8 := by decide
  have hfit : ∀ s : Nat, szA k = s → 0 < s → n < 256 ^ s := fun s h h0 => by
    rcases hf with h1 | h1 | ⟨_, _, h1⟩
    · omega
    · have : s = 8 := by omega
      subst this; rw [h8]; exact hn.2
    · rw [h, Int.toNat_natCast] at h1; exact h1
  match k, hk with
  | 0, _ => exact (dFix_low (s := 1) ⟨hn.1, hfit 1 rfl (by decide)⟩ R).trans (by rw [show (encN 0 n).length = 1 from tab_len _ _])
  | 1, _ => exact (dFix_low (s := 2) ⟨hn.1, hfit 2 rfl (by decide)⟩ R).trans (by rw [show (encN 1 n).length = 2 from tab_len _ _])
  | 2, _ => exact (dFix_hi (s := 2) ⟨hn.1, hfit 2 rfl (by decide)⟩ R).trans (by rw [show (encN 2 n).length = 2 from tab_len _ _])
  | 3, _ => exact (dFix_low (s := 4) ⟨hn.1, hfit 4 rfl (by decide)⟩ R).trans (by rw [show (encN 3 n).length = 4 from tab_len _ _])
  | 4, _ => exact (dFix_hi (s := 4) ⟨hn.1, hfit 4 rfl (by decide)⟩ R).trans (by rw [show (encN 4 n).length = 4 from tab_len _ _])
  | 5, _ => exact (dFix_low (s := 8) ⟨hn.1, hfit 8 rfl (by decide)⟩ R).trans (by rw [show (encN 5 n).length = 8 from tab_len _ _])
  | 6, _ => exact (dFix_hi (s := 8) ⟨hn.1, hfit 8 rfl (by decide)⟩ R).trans (by rw [show (encN 6 n).length = 8 from tab_len _ _])
  | 7, _ =>
    have := dLeb_var 9 0 0 n R rfl hn.1 (p9 ▸ hn.2) (fun _ => rfl)
    show dLeb 0 0 (varB 9 n ++ R) = _
    rw [this]; simp; rfl
  | 8, _ =>
    have := dLeb_var 9 0 0 (sgn n) R rfl hs.1 (p9 ▸ hs.2) (fun _ => rfl)
    show (uns (dLeb 0 0 (varB 9 (sgn n) ++ R)).1, (dLeb 0 0 (varB 9 (sgn n) ++ R)).2.1, (dLeb 0 0 (varB 9 (sgn n) ++ R)).2.2) = _
    rw [this]; simp [hus]; rfl
  | 9, _ =>
    have := dNine_var 8 0 0 (sgn n) R rfl hs.1 (p8 ▸ hs.2) (fun _ => rfl)
    show dNine 0 0 (varB 8 (sgn n) ++ R) = _
    rw [this]; simp [hus]; rfl
  | k + 10, h => exact absurd h (by omega)
theorem decs_encs : ∀ (ks : List Nat) (L : List Int) (R : List Int), L.length = ks.length → (∀ k ∈ ks, k < 10) → (∀ j, 0 ≤ L.getD j 0 ∧ L.getD j 0 < 18446744073709551616) → (∀ j, j < L.length → fitA (ks.getD j 0) (L.getD j 0)) → decs ks (encs ks L ++ R) = (L, (encs ks L).length, 0)
  | [], [], R, _, _, _, _ => by simp [decs, encs]
  | k :: ks, n :: L, R, hl, hk, hn, hf => by
    have h1 := dec_enc (hk k List.mem_cons_self) (hn 0) (hf 0 (by simp)) (encs ks L ++ R)
    simp only [List.getD_cons_zero] at h1
    have h2 := decs_encs ks L R (by simpa using hl) (fun x hx => hk x (List.mem_cons_of_mem _ hx)) (fun j => by simpa using hn (j + 1)) (fun j hj => by simpa using hf (j + 1) (by simpa using hj))
    have hd : (encN k n ++ (encs ks L ++ R)).drop (encN k n).length = encs ks L ++ R := List.drop_left' rfl
    rw [encs, decs, List.append_assoc, h1, if_neg (by simp), hd, h2, if_neg (by simp)]
    simp
/-- cells that were written -/
theorem celF_one {most : Int} {f : Nat} {a n : Int} {R : List Int} (hn : 0 ≤ n ∧ n < 18446744073709551616) : celF most (f + 1) a (encN 9 n ++ R) =
    if i64v n < 0 then (if i64v n ≠ -9223372036854775808 ∧ 0 - i64v n ≤ most - a then celF most f (a + (0 - i64v n)) R else none)
    else if a < most then (if 0 < i64v n then (celF most f (a + 1) R).map (fun T => (a, n) :: T) else celF most f (a + 1) R) else none := by
  have hl := encN_len 9 n
  have h1 := dec_enc (k := 9) (by decide) hn (.inl rfl) R
  have hd : (encN 9 n ++ R).drop (encN 9 n).length = R := List.drop_left' rfl
  rw [celF, if_neg (fun h => by have := congrArg List.length h; rw [List.length_append, List.length_nil] at this; omega), h1]
  simp only [hd]
  rw [if_neg (by simp)]
theorem celF_cnt {most : Int} (hmo : most < 4611686018427387904) : ∀ (T : List (Int × Int)) (a : Int) (f : Nat), 0 ≤ a → (∀ x ∈ T, a ≤ x.1 ∧ x.1 < most ∧ 0 < x.2 ∧ x.2 < 9223372036854775808) → T.Pairwise (fun x y => x.1 < y.1) → (cntB a T).length ≤ f → celF most f a (cntB a T) = some T
  | [], a, f, _, _, _, _ => celF_nil most f a
  | x :: r, a, f, ha, hT, hP, hf => by
    obtain ⟨x1, x2⟩ := x
    have hx := hT (x1, x2) List.mem_cons_self
    simp only [] at hx
    have hr := List.pairwise_cons.1 hP
    have ih := fun f => celF_cnt hmo r (x1 + 1) f (by omega) (fun y hy => by
      have h1 := hT y (List.mem_cons_of_mem _ hy)
      have h2 := hr.1 y hy
      dsimp only at h2
      omega) hr.2
    rw [cntB] at hf ⊢
    dsimp only at hf ⊢
    have hl1 := encN_len 9 x2
    have hi : i64v x2 = x2 := by unfold i64v; rw [if_pos hx.2.2.2]
    have hone : ∀ f, (encN 9 x2 ++ cntB (x1 + 1) r).length ≤ f → celF most f x1 (encN 9 x2 ++ cntB (x1 + 1) r) = some ((x1, x2) :: r) := fun f hf => by
      rw [List.length_append] at hf
      obtain ⟨k, rfl⟩ : ∃ k, f = k + 1 := ⟨f - 1, by omega⟩
      rw [celF_one (by omega), hi, if_neg (by omega), if_pos hx.2.1, if_pos hx.2.2.1, ih k (by omega)]; rfl
    rw [List.append_assoc] at hf ⊢
    unfold gapB at hf ⊢
    by_cases h1 : x1 - a = 1
    · rw [if_pos h1] at hf ⊢
      have hl0 := encN_len 9 0
      rw [List.length_append] at hf
      obtain ⟨k, rfl⟩ : ∃ k, f = k + 1 := ⟨f - 1, by omega⟩
      rw [celF_one (by decide), show i64v 0 = 0 from rfl, if_neg (by decide), if_pos (by omega), if_neg (by decide), show a + 1 = x1 by omega]
      exact hone k (by omega)
    · rw [if_neg h1] at hf ⊢
      by_cases h2 : 1 < x1 - a
      · rw [if_pos h2] at hf ⊢
        have hl0 := encN_len 9 (18446744073709551616 - (x1 - a))
        rw [List.length_append] at hf
        obtain ⟨k, rfl⟩ : ∃ k, f = k + 1 := ⟨f - 1, by omega⟩
        have hv : i64v (18446744073709551616 - (x1 - a)) = a - x1 := by unfold i64v; rw [if_neg (by omega)]; omega
        rw [celF_one (by omega), hv, if_pos (by omega), if_pos (by omega), show a + (0 - (a - x1)) = x1 by omega]
        exact hone k (by omega)
      · rw [if_neg h2] at hf ⊢
        rw [List.nil_append] at hf ⊢
        obtain rfl : x1 = a := by omega
        exact hone f hf
theorem celA_cnt {most : Int} (hmo : 0 < most ∧ most < 4611686018427387904) {T : List (Int × Int)} (hT : ∀ x ∈ T, 0 ≤ x.1 ∧ x.1 < most ∧ 0 < x.2 ∧ x.2 < 9223372036854775808) (hP : T.Pairwise (fun x y => x.1 < y.1)) : celA most (cntA T) = some T := by
  unfold celA cntA
  by_cases h : T = []
  · subst h
    rw [if_pos rfl]
    have hl0 := encN_len 9 0
    have h1 := celF_one (most := most) (f := (encN 9 0).length - 1) (a := 0) (n := 0) (R := []) (by decide)
    rw [List.append_nil, show (encN 9 0).length - 1 + 1 = (encN 9 0).length by omega] at h1
    rw [h1, show i64v 0 = 0 from rfl, if_neg (by decide), if_pos hmo.1, if_neg (by decide), celF_nil]
  · rw [if_neg h]
    exact celF_cnt hmo.2 T 0 _ (Int.le_refl _) hT hP (Nat.le_refl _)
end Go.Proofs.Yteelffkghidpfaa

namespace Go.Proofs.Yteelffkghidpfaa
open Sx Go Hd
set_option linter.unusedVariables false
set_option linter.unusedSimpArgs false
/-! ## the order makes no difference (plain) -/
theorem cumK_takeT {z : Int} (T P : List (Int × Int)) : cumK z (takeT T P) = cumK z T + cumK z P := by
  induction P generalizing T with
  | nil => simp [takeT, cumK]
  | cons p r ih =>
    have : takeT T (p :: r) = takeT (putT p.1 p.2 T) r := rfl
    rw [this, ih, cumK_put, cumK]
    omega
theorem cumK_ext : ∀ {T T' : List (Int × Int)}, Srt T → Srt T' → (∀ x ∈ T, 0 < x.2) → (∀ x ∈ T', 0 < x.2) → (∀ z, cumK z T = cumK z T') → T = T'
  | [], [], _, _, _, _, _ => rfl
  | [], y :: r, _, h', _, p', h => by
    have h1 := h y.1
    have h2 := p' y (by simp)
    rw [cumK, cumK, if_pos (Int.le_refl _), cumK_hi (List.pairwise_cons.1 h').1] at h1
    omega
  | x :: r, [], h0, _, p0, _, h => by
    have h1 := h x.1
    have h2 := p0 x (by simp)
    rw [cumK, cumK, if_pos (Int.le_refl _), cumK_hi (List.pairwise_cons.1 h0).1] at h1
    omega
  | x :: r, y :: r', h0, h', p0, p', h => by
    obtain ⟨a1, a2⟩ := List.pairwise_cons.1 h0
    obtain ⟨b1, b2⟩ := List.pairwise_cons.1 h'
    have px := p0 x (by simp)
    have py := p' y (by simp)
    have hx := h x.1
    have hy := h y.1
    have e1 : cumK x.1 r = 0 := cumK_hi a1
    have e2 : cumK y.1 r' = 0 := cumK_hi b1
    have hk : x.1 = y.1 := by
      rcases Int.lt_trichotomy x.1 y.1 with hlt | heq | hlt
      · rw [cumK, if_pos (Int.le_refl _), e1, cumK_hi (T := y :: r') (fun z hz => by
          rcases List.mem_cons.1 hz with rfl | hz
          · exact hlt
          · have := b1 z hz; omega)] at hx
        omega
      · exact heq
      · rw [cumK_hi (T := x :: r) (fun z hz => by
          rcases List.mem_cons.1 hz with rfl | hz
          · exact hlt
          · have := a1 z hz; omega), cumK, if_pos (Int.le_refl _), e2] at hy
        omega
    have hv : x.2 = y.2 := by
      rw [cumK, cumK, if_pos (Int.le_refl _), if_pos (by omega), e1, hk, e2] at hx
      omega
    have hxy : x = y := Prod.ext hk hv
    subst hxy
    congr 1
    refine cumK_ext a2 b2 (fun z hz => p0 z (by simp [hz])) (fun z hz => p' z (by simp [hz])) fun z => ?_
    have := h z
    rw [cumK, cumK] at this
    omega
theorem upP_count (p : Int → Bool) (L : List Int) : ∀ m, m ≤ L.length → upP p L (wtN []) m = ((L.take m).countP p : Nat)
  | 0, _ => by simp [upP]
  | m + 1, h => by
    rw [upP, upP_count p L m (by omega), List.take_add_one, List.getElem?_eq_getElem (by omega), Option.toList_some, List.countP_append, List.countP_singleton, List.getD_eq_getElem?_getD, List.getElem?_eq_getElem (by omega)]
    simp only [Option.getD_some, wtN, List.length_nil, Nat.not_lt_zero, if_false]
    split <;> simp
theorem recS_bu {u g bu : Nat} {L : List Int} : ∀ i, i ≤ 40 → ∀ B, (recS u g true bu L (wtN []) i).1 ≤ B ↔ bu ≤ B ∧ ∀ k, k < i → 0 ≤ L.getD k 0 → 1 + bkt u g (L.getD k 0).toNat ≤ B
  | 0, _, B => by simp [recS]
  | i + 1, hi, B => by
    have ih := recS_bu (u := u) (g := g) (bu := bu) (L := L) i (by omega) B
    have hrg := recS_rg (u := u) (g := g) (bu := bu) (L := L) (wtN_bd []) i (by omega)
    have hw := wtN_bd [] i
    have e : (recS u g true bu L (wtN []) (i + 1)) = rec1 u g true (recS u g true bu L (wtN []) i) (L.getD i 0) (wtN [] i) := rfl
    rw [e]
    have ht := hrg.tot
    generalize recS u g true bu L (wtN []) i = s at *
    unfold rec1
    rw [chk_grow hw.1 (by omega)]
    have hall : (∀ k, k < i + 1 → 0 ≤ L.getD k 0 → 1 + bkt u g (L.getD k 0).toNat ≤ B) ↔ (∀ k, k < i → 0 ≤ L.getD k 0 → 1 + bkt u g (L.getD k 0).toNat ≤ B) ∧ (0 ≤ L.getD i 0 → 1 + bkt u g (L.getD i 0).toNat ≤ B) := by
      constructor
      · exact fun h => ⟨fun k hk => h k (by omega), h i (by omega)⟩
      · rintro ⟨h1, h2⟩ k hk
        rcases Nat.lt_or_ge k i with h | h
        · exact h1 k h
        · have : k = i := by omega
          subst this; exact h2
    rw [hall]
    by_cases h0 : L.getD i 0 < 0
    · rw [if_pos h0, if_neg (by decide), ih]
      constructor
      · rintro ⟨a, b⟩; exact ⟨a, b, fun h => absurd h (by omega)⟩
      · rintro ⟨a, b, _⟩; exact ⟨a, b⟩
    · rw [if_neg h0, if_pos rfl]
      show max s.1 _ ≤ B ↔ _
      rw [Nat.max_le, ih]
      constructor
      · rintro ⟨⟨a, b⟩, c⟩; exact ⟨a, b, fun _ => c⟩
      · rintro ⟨a, b, c⟩; exact ⟨⟨a, b⟩, c (by omega)⟩
theorem all_getD {p : Int → Prop} (L : List Int) : (∀ k, k < L.length → p (L.getD k 0)) ↔ ∀ x ∈ L, p x := by
  constructor
  · intro h x hx
    obtain ⟨k, hk, rfl⟩ := List.getElem_of_mem hx
    have := h k hk
    rwa [List.getD_eq_getElem?_getD, List.getElem?_eq_getElem hk] at this
  · intro h k hk
    rw [List.getD_eq_getElem?_getD, List.getElem?_eq_getElem hk]
    exact h _ (List.getElem_mem hk)
/-- all values of a list are recorded, each once -/
def recA (u g bu : Nat) (L : List Int) : Nat × List (Int × Int) := recS u g true bu L (wtN []) L.length
theorem recA_cum {u g bu : Nat} {L : List Int} (hl : L.length ≤ 40) (z : Int) : cumK z (recA u g bu L).2 = (L.countP (inC u g z) : Nat) := by
  have h := (recS_rg (u := u) (g := g) (bu := bu) (L := L) (wtN_bd []) L.length hl).cum z
  rw [upP_count _ _ _ (Nat.le_refl _), List.take_length] at h
  exact h
theorem recA_bu {u g bu : Nat} {L : List Int} (hl : L.length ≤ 40) (B : Nat) : (recA u g bu L).1 ≤ B ↔ bu ≤ B ∧ ∀ x ∈ L, 0 ≤ x → 1 + bkt u g x.toNat ≤ B := by
  have h := recS_bu (u := u) (g := g) (bu := bu) (L := L) L.length hl B
  rw [all_getD (p := fun x => 0 ≤ x → 1 + bkt u g x.toNat ≤ B)] at h
  exact h
theorem le_ext {a b : Nat} (h : ∀ B, a ≤ B ↔ b ≤ B) : a = b := Nat.le_antisymm ((h b).2 (Nat.le_refl _)) ((h a).1 (Nat.le_refl _))
theorem OKS.of_recA {u g bu : Nat} {L : List Int} (hug : u + g ≤ 62) (hg : 1 ≤ g ∧ g ≤ 18) (hbu : bu ≤ 64) (hL : ∀ j, L.getD j 0 < 9223372036854775808) : OKS (recA u g bu L) ∧ (recA u g bu L).2.length ≤ L.length := recS_ok hug hg hbu hL (fun j => by have := wtN_bd [] j; omega) L.length
theorem recA_perm {u g bu : Nat} {L L' : List Int} (hug : u + g ≤ 62) (hg : 1 ≤ g ∧ g ≤ 18) (hbu : bu ≤ 64) (hL : ∀ j, L.getD j 0 < 9223372036854775808) (hL' : ∀ j, L'.getD j 0 < 9223372036854775808) (hl : L.length ≤ 40) (hp : L.Perm L') : recA u g bu L = recA u g bu L' := by
  have hl' : L'.length ≤ 40 := by rw [← hp.length_eq]; exact hl
  have h1 := (OKS.of_recA hug hg hbu hL).1
  have h2 := (OKS.of_recA hug hg hbu hL').1
  refine Prod.ext (le_ext fun B => ?_) (cumK_ext h1.gt.srt h2.gt.srt h1.gt.pos h2.gt.pos fun z => ?_)
  · rw [recA_bu hl, recA_bu hl']
    exact and_congr_right fun _ => ⟨fun h x hx => h x (hp.symm.subset hx), fun h x hx => h x (hp.subset hx)⟩
  · rw [recA_cum hl, recA_cum hl', hp.countP_eq]
theorem recA_app {u g bu : Nat} {A B : List Int} (hug : u + g ≤ 62) (hg : 1 ≤ g ∧ g ≤ 18) (hbu : bu ≤ 64) (hA : ∀ j, A.getD j 0 < 9223372036854775808) (hB : ∀ j, B.getD j 0 < 9223372036854775808) (hAB : ∀ j, (A ++ B).getD j 0 < 9223372036854775808) (la : A.length ≤ 20) (lb : B.length ≤ 20)
    (hsum : sw (recA u g bu A).2 + sw (recA u g bu B).2 ≤ 4611686018427387904) : recA u g bu (A ++ B) = (max (recA u g bu A).1 (recA u g bu B).1, takeT (recA u g bu A).2 (recA u g bu B).2) := by
  have h1 := (OKS.of_recA hug hg hbu hA).1
  have h2 := (OKS.of_recA hug hg hbu hB).1
  have h3 := (OKS.of_recA hug hg hbu hAB).1
  have hl : (A ++ B).length ≤ 40 := by rw [List.length_append]; omega
  have h4 := takeT_ok h1.gt h2.gt hsum _ (Nat.le_refl _)
  rw [List.take_length] at h4
  refine Prod.ext (le_ext fun K => ?_) (cumK_ext h3.gt.srt h4.1.srt h3.gt.pos h4.1.pos fun z => ?_)
  · show _ ↔ max _ _ ≤ K
    rw [Nat.max_le, recA_bu hl, recA_bu (by omega), recA_bu (by omega)]
    constructor
    · rintro ⟨a, b⟩; exact ⟨⟨a, fun x hx => b x (List.mem_append_left _ hx)⟩, a, fun x hx => b x (List.mem_append_right _ hx)⟩
    · rintro ⟨⟨a, b⟩, _, c⟩
      exact ⟨a, fun x hx => (List.mem_append.1 hx).elim (b x) (c x)⟩
  · show _ = cumK z (takeT _ _)
    rw [cumK_takeT, recA_cum hl, recA_cum (by omega), recA_cum (by omega), List.countP_append]
    omega
end Go.Proofs.Yteelffkghidpfaa

namespace Go.Proofs.Yteelffkghidpfaa
open Sx Go Hd
set_option linter.unusedVariables false
set_option linter.unusedSimpArgs false
/-! ## buckets and tops (plain) -/
theorem top_bkt {u g n v : Nat} (hn : 1 ≤ n ∧ n ≤ 64) (hv : v < 9223372036854775808) : v ≤ topv u g n ↔ 1 + bkt u g v ≤ n := by
  have hb : bitLen v ≤ 63 := bl_v hv
  unfold topv bkt
  rw [show min (max n 1) 64 = n by omega]
  split
  · constructor
    · intro _; omega
    · intro _; omega
  · have h1 := bl_le (n := v) (k := n - 1 + u + g)
    have h2 := p2pos (n - 1 + u + g)
    constructor
    · intro h
      have := h1.2 (by omega)
      omega
    · intro h
      have := h1.1 (by omega)
      omega
theorem ndT_iff {u g : Nat} (B : Nat) : ∀ (P : List (Int × Int)) (bu : Nat), ndT u g bu P ≤ B ↔ bu ≤ B ∧ ∀ x ∈ P, 1 + bkt u g (ival u g x.1.toNat) ≤ B
  | [], bu => by simp [ndT]
  | x :: r, bu => by
    rw [ndT, ndT_iff B r, Nat.max_le]
    simp only [List.mem_cons, forall_eq_or_imp, and_assoc]
theorem putT_keys {k n : Int} : ∀ {T : List (Int × Int)} {j : Int}, (∃ x ∈ putT k n T, x.1 = j) ↔ j = k ∨ ∃ x ∈ T, x.1 = j
  | [], j => by simp [putT]; exact eq_comm
  | y :: r, j => by
    rw [putT]
    split
    · have ih := putT_keys (k := k) (n := n) (T := r) (j := j)
      simp only [List.mem_cons, exists_eq_or_imp]
      rw [ih]
      constructor
      · rintro (h | h | h)
        · exact .inr (.inl h)
        · exact .inl h
        · exact .inr (.inr h)
      · rintro (h | h | h)
        · exact .inr (.inl h)
        · exact .inl h
        · exact .inr (.inr h)
    · split
      · rename_i h1 h2
        simp only [List.mem_cons, exists_eq_or_imp]
        rw [h2]
        constructor
        · rintro (h | h)
          · exact .inl h.symm
          · exact .inr (.inr h)
        · rintro (h | h | h)
          · exact .inl h.symm
          · exact .inl h
          · exact .inr h
      · simp only [List.mem_cons, exists_eq_or_imp]
        constructor
        · rintro (h | h)
          · exact .inl h.symm
          · exact .inr h
        · rintro (h | h)
          · exact .inl h.symm
          · exact .inr h
theorem ndT_put {u g bu : Nat} (hg : 1 ≤ g) {T : List (Int × Int)} {v : Nat} {n : Int} : ndT u g bu (putT (idx u g v : Nat) n T) = max (ndT u g bu T) (1 + bkt u g v) := by
  have hb : bkt u g (ival u g (idx u g v)) = bkt u g v := by rw [idx_val hg, low_bkt hg]
  refine le_ext fun B => ?_
  rw [Nat.max_le, ndT_iff, ndT_iff]
  have key : ∀ T' : List (Int × Int), (∀ x ∈ T', 1 + bkt u g (ival u g x.1.toNat) ≤ B) ↔ ∀ j : Int, (∃ x ∈ T', x.1 = j) → 1 + bkt u g (ival u g j.toNat) ≤ B := fun T' => by
    constructor
    · rintro h j ⟨x, hx, rfl⟩; exact h x hx
    · intro h x hx; exact h x.1 ⟨x, hx, rfl⟩
  rw [key, key]
  constructor
  · rintro ⟨h1, h2⟩
    refine ⟨⟨h1, fun j hj => h2 j (putT_keys.2 (.inr hj))⟩, ?_⟩
    have := h2 (idx u g v : Nat) (putT_keys.2 (.inl rfl))
    rw [Int.toNat_natCast, hb] at this
    exact this
  · rintro ⟨⟨h1, h2⟩, h3⟩
    refine ⟨h1, fun j hj => ?_⟩
    rcases putT_keys.1 hj with rfl | hj
    · rw [Int.toNat_natCast, hb]; exact h3
    · exact h2 j hj
/-- what a histogram's buckets are: those that its cells need -/
structure NB (u g : Nat) (gr : Bool) (bu0 : Nat) (s : Nat × List (Int × Int)) : Prop where
  bu : s.1 = ndT u g bu0 s.2
  le : gr = true ∨ s.1 = bu0
theorem NB.rec1 {u g : Nat} {gr : Bool} {bu0 : Nat} {s : Nat × List (Int × Int)} {v n : Int} (hg : 1 ≤ g) (h0 : 1 ≤ bu0 ∧ bu0 ≤ 64) (h : NB u g gr bu0 s) (hn : 0 ≤ n) (hv : v < 9223372036854775808) : NB u g gr bu0 (rec1 u g gr s v n) := by
  obtain ⟨h1, h2⟩ := h
  unfold Go.Proofs.Yteelffkghidpfaa.rec1
  by_cases hc : chk u g gr s.1 (sw s.2) v n = 0
  · rw [if_pos hc]
    obtain ⟨p1, p2, p3⟩ := chk_0 hn hc
    obtain ⟨x, rfl⟩ := Int.eq_ofNat_of_zero_le p2
    rw [Int.toNat_natCast]
    refine ⟨?_, ?_⟩
    · show max s.1 _ = ndT u g bu0 (putT _ _ _)
      rw [ndT_put hg, h1]
    · rcases h2 with h2 | h2
      · exact .inl h2
      · cases gr with
        | true => exact .inl rfl
        | false =>
          right
          show max s.1 _ = bu0
          have ht : x ≤ topv u g s.1 := by
            unfold chk at hc
            split at hc
            · omega
            · split at hc
              · omega
              · rename_i _ hh
                refine Nat.le_of_not_lt fun hlt => hh (.inr ⟨by omega, rfl⟩)
          have := (top_bkt (u := u) (g := g) (n := s.1) (by omega) (by omega)).1 ht
          omega
  · rw [if_neg hc]; exact ⟨h1, h2⟩
theorem NB.recS {u g : Nat} {gr : Bool} {bu0 : Nat} {L : List Int} {W : Nat → Int} (hg : 1 ≤ g) (h0 : 1 ≤ bu0 ∧ bu0 ≤ 64) (hW : ∀ j, 0 ≤ W j) (hL : ∀ j, L.getD j 0 < 9223372036854775808) : ∀ i, NB u g gr bu0 (recS u g gr bu0 L W i)
  | 0 => ⟨rfl, .inr rfl⟩
  | i + 1 => NB.rec1 hg h0 (NB.recS hg h0 hW hL i) (hW i) (hL i)
theorem recS_ksi {u g : Nat} {gr : Bool} {bu0 : Nat} {L : List Int} {W : Nat → Int} (hug : u + g ≤ 62) (hg : 1 ≤ g) (hW : ∀ j, 0 ≤ W j) (hL : ∀ j, L.getD j 0 < 9223372036854775808) : ∀ i, KSI u g (recS u g gr bu0 L W i).2
  | 0 => KSI.nil
  | i + 1 => by
    have ih := recS_ksi (gr := gr) (bu0 := bu0) hug hg hW hL i
    have e : recS u g gr bu0 L W (i + 1) = rec1 u g gr (recS u g gr bu0 L W i) (L.getD i 0) (W i) := rfl
    rw [e]
    unfold rec1
    split
    · rename_i hc
      have := chk_0 (hW i) hc
      have := hL i
      exact ih.put (idx_is hg hug (by omega)) _
    · exact ih
/-- what was told can be loaded -/
theorem NB.lok {lo hi dg : Int} {gr : Bool} {s : Nat × List (Int × Int)} (hs : shOK lo hi dg) (h : NB (uOf lo) (gOf dg) gr (1 + bkt (uOf lo) (gOf dg) hi.toNat) s) (hG : GT s.2) (hK : KSI (uOf lo) (gOf dg) s.2) : LOK lo hi dg gr s.1 s.2 :=
  ⟨hs, hG.right, hK.isK, by rw [h.bu], h.le.imp (fun h => h) fun h' => by rw [← h.bu, h']; exact Nat.le_refl _⟩
end Go.Proofs.Yteelffkghidpfaa

namespace Go.Proofs.Yteelffkghidpfaa
open Sx Go Hd
set_option linter.unusedVariables false
set_option linter.unusedSimpArgs false
/-! ## the plain form of a histogram is read as it (plain) -/
theorem hd_fit {lo reach dg : Int} {n : Nat} (hlo : 0 ≤ lo ∧ lo < 9223372036854775808) (hre : 0 ≤ reach ∧ reach < 9223372036854775808) (hdg : 0 ≤ dg ∧ dg < 4294967296) (hn : n < 4294967296) :
    (∀ j, 0 ≤ [478450451, (n : Int), 0, dg, lo, reach, 4607182418800017408].getD j 0 ∧ [478450451, (n : Int), 0, dg, lo, reach, 4607182418800017408].getD j 0 < 18446744073709551616) ∧
    (∀ j, j < [478450451, (n : Int), 0, dg, lo, reach, 4607182418800017408].length → fitA (hd7.getD j 0) ([478450451, (n : Int), 0, dg, lo, reach, 4607182418800017408].getD j 0)) := by
  constructor
  · intro j
    match j with
    | 0 => exact (by decide : (0 : Int) ≤ 478450451 ∧ (478450451 : Int) < 18446744073709551616)
    | 1 => show 0 ≤ (n : Int) ∧ (n : Int) < 18446744073709551616; omega
    | 2 => exact (by decide : (0 : Int) ≤ 0 ∧ (0 : Int) < 18446744073709551616)
    | 3 => show 0 ≤ dg ∧ dg < 18446744073709551616; omega
    | 4 => show 0 ≤ lo ∧ lo < 18446744073709551616; omega
    | 5 => show 0 ≤ reach ∧ reach < 18446744073709551616; omega
    | 6 => exact (by decide : (0 : Int) ≤ 4607182418800017408 ∧ (4607182418800017408 : Int) < 18446744073709551616)
    | j + 7 => exact (by decide : (0 : Int) ≤ 0 ∧ (0 : Int) < 18446744073709551616)
  · intro j hj
    match j, hj with
    | 0, _ => exact .inr (.inr ⟨by decide, by decide, (by decide : (478450451 : Int) < 256 ^ 4)⟩)
    | 1, _ => exact .inr (.inr ⟨by decide, by decide, (by rw [show (256 : Int) ^ 4 = 4294967296 by decide]; omega : (n : Int) < 256 ^ 4)⟩)
    | 2, _ => exact .inr (.inr ⟨by decide, by decide, (by decide : (0 : Int) < 256 ^ 4)⟩)
    | 3, _ => exact .inr (.inr ⟨by decide, by decide, (by rw [show (256 : Int) ^ 4 = 4294967296 by decide]; omega : dg < 256 ^ 4)⟩)
    | 4, _ => exact .inr (.inl rfl)
    | 5, _ => exact .inr (.inl rfl)
    | 6, _ => exact .inr (.inl rfl)
    | j + 7, h => simp at h; omega
theorem hd_decs {lo reach dg : Int} {n : Nat} (hlo : 0 ≤ lo ∧ lo < 9223372036854775808) (hre : 0 ≤ reach ∧ reach < 9223372036854775808) (hdg : 0 ≤ dg ∧ dg < 4294967296) (hn : n < 4294967296) (R : List Int) :
    decs hd7 (hdB lo reach dg n ++ R) = ([478450451, (n : Int), 0, dg, lo, reach, 4607182418800017408], 40, 0) := by
  obtain ⟨h1, h2⟩ := hd_fit hlo hre hdg hn
  have := decs_encs hd7 [478450451, (n : Int), 0, dg, lo, reach, 4607182418800017408] R rfl (by decide) h1 h2
  have hl := hdB_len lo reach dg n
  have he : encs hd7 [478450451, (n : Int), 0, dg, lo, reach, 4607182418800017408] = hdB lo reach dg n := rfl
  rw [he, hl] at this
  exact this
theorem idx_top {u g v : Nat} (hg : 1 ≤ g) : idx u g v < (bkt u g v + 2) * 2 ^ (g - 1) := by
  have h1 := cel_lt (u := u) (g := g) (v := v)
  have h2 := half_two hg
  unfold idx
  rw [Nat.add_mul]; omega
theorem RDP_wr {lo hi dg : Int} {T : List (Int × Int)} (hs : shOK lo hi dg) (hhi : hi < 9223372036854775808) (hG : GT T) (hl : T.length ≤ 1000000) (hlok : LOK lo hi dg false (1 + bkt (uOf lo) (gOf dg) hi.toNat : Nat) T) : RDP (wrB lo hi dg T) lo hi dg T := by
  obtain ⟨s1, s2, s3, s4⟩ := hs.1
  have hg := gOf_bd (dg := dg) ⟨s1, s2⟩
  have hcl := cntA_len T
  have hd := hd_decs (lo := lo) (reach := hi) (dg := dg) (n := (cntA T).length) (by omega) (by omega) (by omega) (by omega) (cntA T)
  have hwl := wrB_len lo hi dg T
  have hw : wrB lo hi dg T = hdB lo hi dg (cntA T).length ++ cntA T := rfl
  have hbu := LOK_bu hlok
  have hK := hlok.2.2.1
  refine ⟨?_, ?_, ?_, ?_, ?_, ?_, ?_, s2, by omega, hhi, hs, ?_, hlok, rfl⟩
  · rw [hw, hd]
  · rw [hw, hd]; rfl
  · rw [hwl, hw, hd]
    show ((cntA T).length : Int) = _
    omega
  · rw [hw, hd]
  · rw [hw, hd]; rfl
  · rw [hw, hd]; rfl
  · rw [hw, hd]; rfl
  · rw [hw, List.drop_left' (hdB_len _ _ _ _)]
    have hp17 := Nat.pow_le_pow_right (n := 2) (by decide) (show gOf dg - 1 ≤ 17 by omega)
    have hpp := p2pos (gOf dg - 1)
    have hb63 : bkt (uOf lo) (gOf dg) hi.toNat ≤ 63 := by
      have := bl_v (v := hi.toNat) (by omega)
      unfold bkt; omega
    have hmo : (1 + bkt (uOf lo) (gOf dg) hi.toNat + 1) * 2 ^ (gOf dg - 1) ≤ 65 * 2 ^ 17 := Nat.mul_le_mul (by omega) hp17
    have hmp : 0 < (1 + bkt (uOf lo) (gOf dg) hi.toNat + 1) * 2 ^ (gOf dg - 1) := Nat.mul_pos (by omega) hpp
    refine celA_cnt ⟨by omega, by omega⟩ (fun x hx => ?_) hG.srt
    have hk := hK x hx
    have hb := ((ndT_iff (u := uOf lo) (g := gOf dg) _ T _).1 (Nat.le_of_eq hbu)).2 x hx
    have hi2 := (ival_idx (u := uOf lo) (g := gOf dg) (by omega) hk.2).1
    have hit := idx_top (u := uOf lo) (g := gOf dg) (v := ival (uOf lo) (gOf dg) x.1.toNat) (by omega)
    rw [hi2] at hit
    have hle : (bkt (uOf lo) (gOf dg) (ival (uOf lo) (gOf dg) x.1.toNat) + 2) * 2 ^ (gOf dg - 1) ≤ (1 + bkt (uOf lo) (gOf dg) hi.toNat + 1) * 2 ^ (gOf dg - 1) := Nat.mul_le_mul_right _ (by omega)
    have hp := hG.pos x hx
    have hsm := sw_mem hG.pos x hx
    have htot := hG.tot
    have h0 := hk.1
    omega
end Go.Proofs.Yteelffkghidpfaa

namespace Go.Proofs.Yteelffkghidpfaa
open Sx Go Hd
set_option linter.unusedVariables false
set_option linter.unusedSimpArgs false
/-- which form it is (plain) -/
def kndB (B : List Int) : Int := if (decs [4] B).2.2 ≠ 0 then 0 else if (decs [4] B).1.getD 0 0 = 478450451 then 1 else if (decs [4] B).1.getD 0 0 = 478450452 then 2 else 0
abbrev bA0 : List Int := [28, 132, 147, 19, 0, 0, 0, 1, 0, 0, 0, 0, 0, 0, 0, 3, 0, 0, 0, 0, 0, 0, 0, 1, 0, 0, 0, 0, 0, 0, 7, 208, 63, 240, 0, 0, 0, 0, 0, 0, 0]
abbrev bA1 : List Int := [28, 132, 147, 19, 0, 0, 0, 2, 0, 0, 0, 0, 0, 0, 0, 3, 0, 0, 0, 0, 0, 0, 0, 1, 0, 0, 0, 0, 0, 0, 7, 208, 63, 240, 0, 0, 0, 0, 0, 0, 3, 6]
theorem bA0_eq : wrB 1 2000 3 [] = bA0 := by decide +kernel
theorem bA1_eq : wrB 1 2000 3 [(2, 3)] = bA1 := by decide +kernel
theorem gt23 : GT [(2, 3)] := ⟨by decide, by decide, by decide, by decide⟩
theorem lok23 : LOK 1 2000 3 false (1 + bkt (uOf 1) (gOf 3) (Int.toNat 2000) : Nat) [(2, 3)] := by
  refine ⟨shOK_alive, gt23.right, ?_, ?_, ?_⟩
  · intro x hx
    rw [List.mem_singleton] at hx
    subst hx
    rw [u1, g3]
    exact ⟨by decide, by unfold isI; decide⟩
  · rw [u1, g3]; decide
  · rw [u1, g3]; decide
theorem rdp23 : RDP bA1 1 2000 3 [(2, 3)] := by
  have := RDP_wr (lo := 1) (hi := 2000) (dg := 3) shOK_alive (by decide) gt23 (by decide) lok23
  rw [bA1_eq] at this
  exact this
theorem bA1_knd : kndB bA1 = 1 := by decide +kernel
theorem V_eqStrC {n : Nat} {D : List Deferred} {w0 : World} {ov : Ov} {H : List Asn} {d : Option Nat} {T T1 T2 : Nat} {pos : String} {af : Array Edge} {g : Option (Nat × Bool)} {x y : Operand} {s : ByteArray}
    (hx : ev ov x = some (.string s)) (hy : ev ov y = some (.string s)) (hd : dOk d n = true) : OpV Try.prog n D w0 ov H ⟨d, .binOp .eql T1 x y T2, T, pos, af, g⟩ (.bool true) := by
  unfold OpV
  exact ⟨hd, fun a w ha _ => by simp [execOp, ha.ev hx, ha.ev hy, eqGuard, binOp, Op.stringOp]⟩
section
variable {w0 : World} {H : List Asn}
set_option maxRecDepth 10000 in
set_option maxHeartbeats 2000000 in
theorem Kind_c (p : Option Addr) (c m : Nat) (B : List Int) (hr : Rd w0 H (.slice p m c) m (ints .u8 B)) (hm : B.length = m) (hB : OKB B) (hm1 : m ≤ 140737488355328) (hpm : p = none → m = 0) (w : World) (hw : St w0 H w) :
    Calls Try.prog 15 #[.slice p m c] w fun e w' => e = .returned (.int .i64 (kndB B)) ∧ St w0 H w' := by
  have hG := fun w hw => Get_c (w0 := w0) (H := H) [4] (by decide) (by decide) p c m B hr hm hB hm1 hpm w hw
  unfold kndB
  generalize decs [4] B = D at *
  obtain ⟨F, us, er⟩ := D
  simp only [] at hG ⊢
  refine enter (vs := [.slice p m c]) Try.func15 rfl rfl rfl hw ?_
  clear hw w
  repeat (first | (refine sx ?_; try intro _))
  refine JO_call (vs := [.string (bstr [87]), .slice p m c]) Try.call20 rfl rfl fun w hw => (hG w hw).mono ?_
  rintro e w' (⟨he, rfl, hw'⟩ | ⟨he, hl1, q, d, rfl, hw'⟩)
  · (refine ⟨_, rfl, _, hw', ?_⟩; clear hw' hw w w')
    rw [if_pos he]
    repeat (first | (refine sx ?_; try intro _))
    exact JS_ret Try.func15 rfl rfl fun w hw => ⟨rfl, hw⟩
  · subst he
    rw [if_neg (by simp)]
    have hl7 : ([4] : List Nat).length = 1 := rfl
    rw [hl7] at hl1 hw' ⊢
    match F, hl1 with
    | [f0], _ =>
    have g0 : (ints .u64 [f0])[0]? = some (.int .u64 f0) := rfl
    simp only [List.getD_cons_zero]
    (refine ⟨_, rfl, _, hw', ?_⟩; clear hw' hw w w')
    by_cases h1 : f0 = 478450451
    · rw [if_pos h1]
      repeat (first | (apply gJO; first | refine JO_v (oL (V_loadC (tb := tb) rfl (vec_rd (List.Mem.head _)) rfl rfl g0 rfl)) ?_) | first | (refine sx ?_; try intro _))
      exact JS_ret Try.func15 rfl rfl fun w hw => ⟨rfl, hw.drop⟩
    · rw [if_neg h1]
      by_cases h2 : f0 = 478450452
      · rw [if_pos h2]
        repeat (first | (apply gJO; first | refine JO_v (oL (V_loadC (tb := tb) rfl (vec_rd (List.Mem.head _)) rfl rfl g0 rfl)) ?_) | first | (refine sx ?_; try intro _))
        exact JS_ret Try.func15 rfl rfl fun w hw => ⟨rfl, hw.drop⟩
      · rw [if_neg h2]
        repeat (first | (apply gJO; first | refine JO_v (oL (V_loadC (tb := tb) rfl (vec_rd (List.Mem.head _)) rfl rfl g0 rfl)) ?_) | first | (refine sx ?_; try intro _))
        exact JS_ret Try.func15 rfl rfl fun w hw => ⟨rfl, hw.drop⟩
set_option maxRecDepth 10000 in
set_option maxHeartbeats 8000000 in
theorem alive19_c (w : World) (hw : St w0 H w) : Calls Try.prog 4 #[] w fun e w' => e = .returned (.bool true) ∧ St w0 H w' := by
  have hNew := fun {H} w hw => HNew_c (w0 := w0) (H := H) 1 2000 3 false (by decide) (by decide) (by decide) w hw
  rw [u1, g3, b2000] at hNew
  have hrc : rchv 0 11 2000 1 = 2000 := by decide
  have hW := fun {H} (bh mb bm : Nat) (es : List MapEntry) (clock : Nat) (T : List (Int × Int)) (x1 : blk bh (hc mb bm false 1 (sw T)) ∈ H) (x2 : mapL bm es clock ∈ H) (x3 : blk mb (mc 1 2000 3 0 11) ∈ H) (hE : HM es clock T) (hG : GT T) (hl : T.length ≤ 1000000) w hw => HWrite_c (w0 := w0) (H := H) bh mb bm false 1 es clock T x1 x2 x3 hE hG (by decide) (by decide) (by decide) hl (by decide) (by decide) (by decide) w hw
  rw [hrc] at hW
  refine enter (vs := []) Try.func4 rfl rfl rfl hw ?_
  clear hw w
  repeat (first | (refine sx ?_; try intro _))
  refine JO_call Try.call12 rfl rfl fun w hw => (hNew w hw).mono ?_
  rintro e w' (⟨hno, _⟩ | ⟨_, bh, mb, bm, rfl, hw'⟩)
  · exact absurd shOK_alive hno
  (refine ⟨_, rfl, _, hw', ?_⟩; clear hw' hw w w')
  repeat (first | (refine sx ?_; try intro _))
  refine JO_call Try.call7 rfl rfl fun w hw => (hW bh mb bm [] 0 [] (List.Mem.head _) (List.Mem.tail _ (List.Mem.head _)) (List.Mem.tail _ (List.Mem.tail _ (List.Mem.head _))) HM.nil GT.nil (by decide) w hw).mono ?_
  rw [bA0_eq]
  rintro e w' ⟨p0, c0, rfl, hw'⟩
  (refine ⟨_, rfl, _, hw', ?_⟩; clear hw' hw w w')
  have l0 : bA0.length = 41 := rfl
  rw [l0]
  have hchk : chk 0 11 false 1 (sw []) 2 3 = 0 := by decide
  have hput : putT (idx 0 11 (Int.toNat 2) : Nat) 3 [] = [(2, 3)] := by decide
  have hmx : max 1 (1 + bkt 0 11 (Int.toNat 2)) = 1 := by decide
  have hsw : sw [] + 3 = sw [(2, 3)] := by decide
  repeat (first | (refine sx ?_; try intro _))
  refine JO_call Try.call13 rfl rfl fun w hw => (HRecord_c (H := vec 5 1 (.slice p0 41 c0) 41 (ints .u8 bA0) :: blk mb (mc 1 2000 3 0 11) :: H) bh mb bm false 1 [] 0 [] (List.Mem.tail _ (List.Mem.head _)) (by decide) (by decide) (by decide) HM.nil GT.nil 2 3 (by decide) (by decide) w (hw.perm (by (repeat (first | exact List.Perm.refl _ | refine List.Perm.cons _ ?_ | refine (List.perm_middle (l₁ := [_])).trans (List.Perm.cons _ ?_) | refine (List.perm_middle (l₁ := [_, _])).trans (List.Perm.cons _ ?_) | refine (List.perm_middle (l₁ := [_, _, _])).trans (List.Perm.cons _ ?_) | refine (List.perm_middle (l₁ := [_, _, _, _])).trans (List.Perm.cons _ ?_) | refine (List.perm_middle (l₁ := [_, _, _, _, _])).trans (List.Perm.cons _ ?_) | refine (List.perm_middle (l₁ := [_, _, _, _, _, _])).trans (List.Perm.cons _ ?_) | refine (List.perm_middle (l₁ := [_, _, _, _, _, _, _])).trans (List.Perm.cons _ ?_) | refine (List.perm_middle (l₁ := [_, _, _, _, _, _, _, _])).trans (List.Perm.cons _ ?_) | refine (List.perm_middle (l₁ := [_, _, _, _, _, _, _, _, _])).trans (List.Perm.cons _ ?_) | refine (List.perm_middle (l₁ := [_, _, _, _, _, _, _, _, _, _])).trans (List.Perm.cons _ ?_) | refine (List.perm_middle (l₁ := [_, _, _, _, _, _, _, _, _, _, _])).trans (List.Perm.cons _ ?_) | refine (List.perm_middle (l₁ := [_, _, _, _, _, _, _, _, _, _, _, _])).trans (List.Perm.cons _ ?_) | refine (List.perm_middle (l₁ := [_, _, _, _, _, _, _, _, _, _, _, _, _])).trans (List.Perm.cons _ ?_)))))).mono ?_
  rw [hchk, hput, hmx, hsw]
  rintro e w' ⟨rfl, ⟨hno, _⟩ | ⟨_, es', clock', hE', hw'⟩⟩
  · exact absurd rfl hno
  (refine ⟨_, rfl, _, hw', ?_⟩; clear hw' hw w w')
  repeat (first | (refine sx ?_; try intro _))
  refine JO_call Try.call7 rfl rfl fun w hw => (hW bh mb bm es' clock' [(2, 3)] (List.Mem.head _) (List.Mem.tail _ (List.Mem.head _)) (List.Mem.tail _ (List.Mem.tail _ (List.Mem.tail _ (List.Mem.head _)))) hE' gt23 (by decide) w hw).mono ?_
  rw [bA1_eq]
  rintro e w' ⟨p1, c1, rfl, hw'⟩
  (refine ⟨_, rfl, _, hw', ?_⟩; clear hw' hw w w')
  have l1 : bA1.length = 42 := rfl
  rw [l1]
  have okB1 : OKB bA1 := fun j => by
    have : ∀ j, j < 42 → 0 ≤ bA1.getD j 0 ∧ bA1.getD j 0 < 256 := by decide
    rcases Nat.lt_or_ge j 42 with h | h
    · exact this j h
    · rw [List.getD_eq_getElem?_getD, List.getElem?_eq_none h]; decide
  repeat (first | (refine sx ?_; try intro _))
  refine JO_call Try.call8 rfl rfl fun w hw => (Read_c p1 c1 42 bA1 (vec_rd (List.Mem.head _)) rfl okB1 (by decide) (Rd.nil (vec_rd (List.Mem.head _)) hw) w hw).mono ?_
  unfold ReadR
  rintro e w' (⟨hno, _⟩ | ⟨lo, hi, dg, T, hR, _, hG, b2, mb2, bm2, es2, clock2, hE2, rfl, hw'⟩)
  · exact absurd rdp23 (hno _ _ _ _)
  obtain ⟨rfl, rfl, rfl, rfl⟩ := rdp23.fun hR
  unfold rdH at hw'
  rw [u1, g3, b2000] at hw'
  (refine ⟨_, rfl, _, hw', ?_⟩; clear hw' hw w w')
  have hV0 : Rd w0 (blk b2 (hc mb2 bm2 false 1 (sw [(2, 3)])) :: mapL bm2 es2 clock2 :: blk mb2 (mc 1 2000 3 0 11) :: vec 5 1 (.slice p1 42 c1) 42 (ints .u8 bA1) :: blk bh (hc mb bm false 1 (sw [(2, 3)])) :: mapL bm es' clock' :: vec 5 1 (.slice p0 41 c0) 41 (ints .u8 bA0) :: blk mb (mc 1 2000 3 0 11) :: H) (.slice p0 41 c0) 41 (ints .u8 bA0) := vec_rd (by repeat (first | apply List.Mem.head | apply List.Mem.tail))
  have hV1 : Rd w0 (blk b2 (hc mb2 bm2 false 1 (sw [(2, 3)])) :: mapL bm2 es2 clock2 :: blk mb2 (mc 1 2000 3 0 11) :: vec 5 1 (.slice p1 42 c1) 42 (ints .u8 bA1) :: blk bh (hc mb bm false 1 (sw [(2, 3)])) :: mapL bm es' clock' :: vec 5 1 (.slice p0 41 c0) 41 (ints .u8 bA0) :: blk mb (mc 1 2000 3 0 11) :: H) (.slice p1 42 c1) 42 (ints .u8 bA1) := vec_rd (by repeat (first | apply List.Mem.head | apply List.Mem.tail))
  have hb2 : blk b2 (hc mb2 bm2 false 1 (sw [(2, 3)])) ∈ (blk b2 (hc mb2 bm2 false 1 (sw [(2, 3)])) :: mapL bm2 es2 clock2 :: blk mb2 (mc 1 2000 3 0 11) :: vec 5 1 (.slice p1 42 c1) 42 (ints .u8 bA1) :: blk bh (hc mb bm false 1 (sw [(2, 3)])) :: mapL bm es' clock' :: vec 5 1 (.slice p0 41 c0) 41 (ints .u8 bA0) :: blk mb (mc 1 2000 3 0 11) :: H) := List.Mem.head _
  have hend : ∀ w, St w0 (blk b2 (hc mb2 bm2 false 1 (sw [(2, 3)])) :: mapL bm2 es2 clock2 :: blk mb2 (mc 1 2000 3 0 11) :: vec 5 1 (.slice p1 42 c1) 42 (ints .u8 bA1) :: blk bh (hc mb bm false 1 (sw [(2, 3)])) :: mapL bm es' clock' :: vec 5 1 (.slice p0 41 c0) 41 (ints .u8 bA0) :: blk mb (mc 1 2000 3 0 11) :: H) w → St w0 H w := fun w hw => St.sub (by repeat (first | exact List.Sublist.refl _ | apply List.Sublist.cons_cons | apply List.Sublist.cons)) hw
  generalize (blk b2 (hc mb2 bm2 false 1 (sw [(2, 3)])) :: mapL bm2 es2 clock2 :: blk mb2 (mc 1 2000 3 0 11) :: vec 5 1 (.slice p1 42 c1) 42 (ints .u8 bA1) :: blk bh (hc mb bm false 1 (sw [(2, 3)])) :: mapL bm es' clock' :: vec 5 1 (.slice p0 41 c0) 41 (ints .u8 bA0) :: blk mb (mc 1 2000 3 0 11) :: H) = Q at *
  have g40 : (ints .u8 bA0)[40]? = some (.int .u8 0) := rfl
  have hS0 : Rd w0 Q (.slice (subB p0 0 c0 1) (4 - 0) (c0 - 0)) (4 - 0) (ints .u8 [28, 132, 147, 19]) := Rd_sub (lo := 0) (hi := 4) (sz := 1) hV0 (by decide) (by decide)
  have hS1 : Rd w0 Q (.slice (subB p1 40 c1 1) (42 - 40) (c1 - 40)) (42 - 40) (ints .u8 [3, 6]) := Rd_sub (lo := 40) (hi := 42) (sz := 1) hV1 (by decide) (by decide)
  have hsw3 : sw [(2, 3)] = 3 := by decide
  rw [hsw3] at hb2
  repeat (first | (apply gJO; first | refine JO_v (V_eqStrC (s := bstr [28, 132, 147, 19]) rfl rfl rfl) ?_ | refine JO_v (V_eqStrC (s := bstr [3, 6]) rfl rfl rfl) ?_ | refine JO_v (oIA (V_index (tb := tb) rfl rfl rfl rfl (Rd.sl hV0) (by decide) rfl rfl)) ?_ | refine JO_v (oL (V_loadC (tb := tb) rfl hV0 rfl rfl g40 rfl)) ?_ | refine JO_v (V_slice (tb := tb) (lo := 0) (hi := 4) rfl rfl rfl rfl rfl rfl rfl (fun w hw => ⟨by omega, by have := (hV0.lcap hw).1; omega⟩) rfl) ?_ | refine JO_v (V_slice (tb := tb) (lo := 40) (hi := 42) rfl rfl rfl rfl rfl rfl rfl (fun w hw => ⟨by omega, by have := (hV1.lcap hw).1; omega⟩) rfl) ?_ | refine JO_v (V_str (tb := tb) rfl hS0 rfl rfl rfl rfl rfl) ?_ | refine JO_v (V_str (tb := tb) rfl hS1 rfl rfl rfl rfl rfl) ?_) | first | (refine sx ?_; try intro _))
  refine JO_call Try.call14 rfl rfl fun w hw => (HTotal_c b2 mb2 bm2 false 1 3 hb2 w hw).mono ?_
  rintro e w' ⟨rfl, hw'⟩
  (refine ⟨_, rfl, _, hw', ?_⟩; clear hw' hw w w')
  repeat (first | (refine sx ?_; try intro _))
  refine JO_call Try.call15 rfl rfl fun w hw => (Kind_c p1 c1 42 bA1 hV1 rfl okB1 (by decide) (Rd.nil hV1 hw) w hw).mono ?_
  rw [bA1_knd]
  rintro e w' ⟨rfl, hw'⟩
  (refine ⟨_, rfl, _, hw', ?_⟩; clear hw' hw w w')
  repeat (first | (refine sx ?_; try intro _))
  exact JS_ret Try.func4 rfl rfl fun w hw => ⟨rfl, hend w hw⟩
end
end Go.Proofs.Yteelffkghidpfaa

namespace Go.Proofs.Yteelffkghidpfaa
open Sx Go Hd
set_option linter.unusedVariables false
set_option linter.unusedSimpArgs false
/-- the weights of the wire's law -/
def wtW (N : List Int) (i : Nat) : Int := if i < N.length then (1 + N.getD i 0 % 1000) * ((2 ^ (N.getD i 0 % 40).toNat : Nat) : Int) else 1
theorem wtW_bd (N : List Int) (i : Nat) : 1 ≤ wtW N i ∧ wtW N i ≤ 549755813888000 := by
  unfold wtW
  split
  · have h1 := p2pos (N.getD i 0 % 40).toNat
    have h2 := Nat.pow_le_pow_right (n := 2) (by decide) (show (N.getD i 0 % 40).toNat ≤ 39 by omega)
    have h3 : (1 + N.getD i 0 % 1000) * ((2 ^ (N.getD i 0 % 40).toNat : Nat) : Int) ≤ 1000 * ((2 ^ (N.getD i 0 % 40).toNat : Nat) : Int) := Int.mul_le_mul_of_nonneg_right (by omega) (by omega)
    have h4 : 1 * ((2 ^ (N.getD i 0 % 40).toNat : Nat) : Int) ≤ (1 + N.getD i 0 % 1000) * ((2 ^ (N.getD i 0 % 40).toNat : Nat) : Int) := Int.mul_le_mul_of_nonneg_right (by omega) (by omega)
    generalize 2 ^ (N.getD i 0 % 40).toNat = z at *
    omega
  · omega
section
variable {w0 : World} {H : List Asn}
/-- a histogram of what was recorded -/
abbrev hW (h m b : Nat) (lo hi dg : Int) (u g : Nat) (gr : Bool) (es : List MapEntry) (clock : Nat) (s : Nat × List (Int × Int)) (H : List Asn) : List Asn :=
  blk h (hc m b gr s.1 (sw s.2)) :: mapL b es clock :: blk m (mc lo hi dg u g) :: H
set_option maxRecDepth 10000 in
set_option maxHeartbeats 8000000 in
theorem Recorded19_c (lo hi dg : Int) (gr : Bool) (hs : shOK lo hi dg) (hhi : hi < 9223372036854775808) (lp np : Option Addr) (lc nc : Nat) (L N : List Int) (hL : Rd w0 H (.slice lp L.length lc) L.length (ints .i64 L)) (hN : Rd w0 H (.slice np N.length nc) N.length (ints .u32 N))
    (okL : ∀ j, -9223372036854775808 ≤ L.getD j 0 ∧ L.getD j 0 < 9223372036854775808) (okN : ∀ j, 0 ≤ N.getD j 0 ∧ N.getD j 0 < 4294967296) (hLl : L.length < 4611686018427387904) (hNl : N.length < 4611686018427387904) (w : World) (hw : St w0 H w) :
    Calls Try.prog 5 #[hagg lo hi dg, .bool gr, .slice lp L.length lc, .slice np N.length nc] w fun e w' => ∃ (h m b : Nat) (es : List MapEntry) (clock : Nat), e = .returned (.pointer (some ⟨h, 0, none⟩)) ∧
      HM es clock (recS (uOf lo) (gOf dg) gr (1 + bkt (uOf lo) (gOf dg) hi.toNat) L (wtW N) (min L.length 40)).2 ∧
      St w0 (hW h m b lo hi dg (uOf lo) (gOf dg) gr es clock (recS (uOf lo) (gOf dg) gr (1 + bkt (uOf lo) (gOf dg) hi.toNat) L (wtW N) (min L.length 40)) H) w' := by
  obtain ⟨s1, s2, s3, s4⟩ := hs.1
  have hug := hs.2
  have hg := gOf_bd (dg := dg) (by omega)
  have hg' : 1 ≤ gOf dg ∧ gOf dg ≤ 18 := by omega
  have hb0 : 1 + bkt (uOf lo) (gOf dg) hi.toNat ≤ 64 := by
    have := bkt_63 (u := uOf lo) (g := gOf dg) (v := hi.toNat) (by omega) (by omega)
    omega
  have hok := recS_ok (u := uOf lo) (g := gOf dg) (gr := gr) (bu := 1 + bkt (uOf lo) (gOf dg) hi.toNat) (L := L) (W := wtW N) hug hg' hb0 (fun j => (okL j).2) (fun j => by have := wtW_bd N j; omega)
  have hNew := fun {H} w hw => HNew_c (w0 := w0) (H := H) lo hi dg gr (by omega) (by omega) (by omega) w hw
  refine enter (vs := [hagg lo hi dg, .bool gr, .slice lp L.length lc, .slice np N.length nc]) Try.func5 rfl rfl rfl hw ?_
  clear hw w
  repeat (first | (refine sx ?_; try intro _))
  refine JO_call Try.call12 rfl rfl fun w hw => (hNew w hw).mono ?_
  rintro e w' (⟨hno, _⟩ | ⟨_, h1, m1, b1, rfl, hw'⟩)
  · exact absurd hs hno
  refine ⟨_, rfl, hW h1 m1 b1 lo hi dg (uOf lo) (gOf dg) gr [] 0 (1 + bkt (uOf lo) (gOf dg) hi.toNat, []) H, St.sub (by repeat (first | exact List.Sublist.refl _ | apply List.Sublist.cons_cons | apply List.Sublist.cons)) hw', ?_⟩
  clear hw' hw w w' hNew
  generalize uOf lo = u at *
  generalize gOf dg = g at *
  generalize hbu : 1 + bkt u g hi.toNat = bu at *
  repeat (first | (apply gJR; first | (refine sx ?_; try intro _)) | (apply gJO; first | (refine sx ?_; try intro _)) | (apply gJS; refine JS_condF rfl ?_) | apply JS_skip | apply JS_seq | apply JS_region)
  refine JS_block ?_
  refine JS_loop3 (fun (i : Nat) (es : List MapEntry) (clock : Nat) => [(2, .slice lp L.length lc), (3, .slice np N.length nc), (9, .pointer (some ⟨h1, 0, none⟩)), (11, .int .i64 i)])
    (fun i es clock => hW h1 m1 b1 lo hi dg u g gr es clock (recS u g gr bu L (wtW N) i) H) (fun i es clock => i ≤ min L.length 40 ∧ HM es clock (recS u g gr bu L (wtW N) i).2) (fun i _ _ => 40 - i) 0 [] 0 ⟨Nat.zero_le _, HM.nil⟩ (by repeat (first | exact trivial | refine ⟨rfl, ?_⟩ | refine ⟨lookI rfl (by omega), ?_⟩)) (fun w hw => hw) ?_
  intro i es clock ⟨hi1, hE⟩ again
  obtain ⟨⟨ob, ogt⟩, ol⟩ := hok i
  have hstep : recS u g gr bu L (wtW N) (i + 1) = rec1 u g gr (recS u g gr bu L (wtW N) i) (L.getD i 0) (wtW N i) := rfl
  by_cases hlt : i < L.length ∧ i < 40
  · obtain ⟨hlt1, hlt2⟩ := hlt
    have again' := again (i + 1)
    clear again
    rw [hstep] at again'
    generalize hsi : recS u g gr bu L (wtW N) i = s at *
    obtain ⟨bs, T⟩ := s
    dsimp only at *
    have gL := ints_get (K := .i64) hlt1
    have oLi := okL i
    have hwn := wtW_bd N i
    repeat (first | apply hIx 8 | first | (refine sx ?_; try intro _))
    refine Hold.go ?_
    refine JS_join1 (fun (_ : Unit) => [(2, .slice lp L.length lc), (3, .slice np N.length nc), (9, .pointer (some ⟨h1, 0, none⟩)), (11, .int .i64 i), (12, .int .u64 (wtW N i))]) (fun _ => hW h1 m1 b1 lo hi dg u g gr es clock (bs, T) H) (fun _ => True) ?_ ?_
    · intro _ _
      generalize wtW N i = wi at *
      have hrec : rec1 u g gr (bs, T) (L.getD i 0) wi = if chk u g gr bs (sw T) (L.getD i 0) wi = 0 then (max bs (1 + bkt u g (L.getD i 0).toNat), putT (idx u g (L.getD i 0).toNat) wi T) else (bs, T) := rfl
      rw [hrec] at again'
      generalize L.getD i 0 = v at *
      repeat (first | (apply gJO; first | refine JO_v (oIA (V_index (tb := tb) rfl rfl rfl rfl (Rd.sl (Rd_weak hL fun w hw => St.sub (by repeat (first | exact List.Sublist.refl _ | apply List.Sublist.cons_cons | apply List.Sublist.cons)) hw)) (by omega) (by (try simp only [tn, tna, tn1, tn2, tn3, tn4, tnd16, tnd8, Int.reduceToNat]); first | exact Nat.mul_one _ | exact rfl) rfl)) ?_ | refine JO_v (oL (V_loadC (tb := tb) rfl (Rd_weak hL fun w hw => St.sub (by repeat (first | exact List.Sublist.refl _ | apply List.Sublist.cons_cons | apply List.Sublist.cons)) hw) rfl rfl gL rfl)) ?_) | first | (refine sx ?_; try intro _))
      refine JO_call Try.call13 rfl rfl fun w hw => (HRecord_c h1 m1 b1 gr bs es clock T (List.Mem.head _) hug hg' ob hE ogt v wi oLi (by omega) w hw).mono ?_
      rintro e w' ⟨rfl, ⟨hne, hw'⟩ | ⟨he0, es', clock', hE', hw'⟩⟩
      · rw [if_neg hne] at again'
        generalize chk u g gr bs (sw T) v wi = cc at *
        (refine ⟨_, rfl, _, hw', ?_⟩; clear hw' hw w w')
        repeat (first | (refine sx ?_; try intro _))
        exact JS_weak (again' es clock ⟨by omega, hE⟩ (by omega)) (by repeat (first | exact trivial | refine ⟨rfl, ?_⟩ | refine ⟨lookI rfl (by omega), ?_⟩)) (fun w hw => hw)
      · rw [if_pos he0] at again'
        rw [he0]
        have hsw : sw (putT (idx u g v.toNat) wi T) = sw T + wi := putT_sw ..
        have hw2 : St w0 (hW h1 m1 b1 lo hi dg u g gr es' clock' (max bs (1 + bkt u g v.toNat), putT (idx u g v.toNat) wi T) H) w' := by
          unfold hW; dsimp only; rw [hsw]; exact hw'
        refine ⟨_, rfl, _, hw2, ?_⟩
        clear hw2 hw' hw w w'
        repeat (first | (refine sx ?_; try intro _))
        exact JS_weak (again' es' clock' ⟨by omega, hE'⟩ (by omega)) (by repeat (first | exact trivial | refine ⟨rfl, ?_⟩ | refine ⟨lookI rfl (by omega), ?_⟩)) (fun w hw => hw)
    · intro K
      by_cases hiN : i < N.length
      · have hwe : wtW N i = (1 + N.getD i 0 % 1000) * ((2 ^ (N.getD i 0 % 40).toNat : Nat) : Int) := if_pos hiN
        have gN := ints_get (K := .u32) hiN
        have oNi := okN i
        rw [hwe] at K hwn
        generalize N.getD i 0 = z at *
        have hr1 : Int.tmod z 1000 = z % 1000 := Int.tmod_eq_emod_of_nonneg (by omega)
        have hr2 : Int.tmod z 40 = z % 40 := Int.tmod_eq_emod_of_nonneg (by omega)
        have hc1 : IntKind.u64.wrap (z % 1000) = z % 1000 := wu64 (by omega)
        have ha1 : IntKind.u64.wrap (1 + z % 1000) = 1 + z % 1000 := wu64 (by omega)
        have ej : min (z % 40).toNat IntKind.u64.bits = (z % 40).toNat := by
          rw [show IntKind.u64.bits = 64 from rfl]; omega
        have hs1 : IntKind.u64.wrap ((1 + z % 1000) * 2 ^ (z % 40).toNat) = (1 + z % 1000) * ((2 ^ (z % 40).toNat : Nat) : Int) := by
          rw [show ((2 ^ (z % 40).toNat : Nat) : Int) = (2 : Int) ^ (z % 40).toNat by simp] at hwn ⊢
          exact wu64 (by omega)
        generalize (1 + z % 1000) * ((2 ^ (z % 40).toNat : Nat) : Int) = wz at *
        repeat (first | apply hIx' 10 | (apply gQO; first | refine QO_v rfl (oIA (V_index (tb := tb) rfl rfl rfl rfl (Rd.sl (Rd_weak hN fun w hw => St.sub (by repeat (first | exact List.Sublist.refl _ | apply List.Sublist.cons_cons | apply List.Sublist.cons)) hw)) (by omega) (by (try simp only [tn, tna, tn1, tn2, tn3, tn4, tnd16, tnd8, Int.reduceToNat]); first | exact Nat.mul_one _ | exact rfl) rfl)) ?_ | refine QO_v rfl (oL (V_loadC (tb := tb) rfl (Rd_weak hN fun w hw => St.sub (by repeat (first | exact List.Sublist.refl _ | apply List.Sublist.cons_cons | apply List.Sublist.cons)) hw) rfl rfl gN rfl)) ?_ | refine QO_v rfl (V_rem rfl rfl (by omega) hr1 rfl) ?_ | refine QO_v rfl (V_rem rfl rfl (by omega) hr2 rfl) ?_ | refine QO_v rfl (V_conv (tb := tb) rfl rfl rfl hc1 rfl) ?_ | refine QO_v rfl (V_add rfl rfl ha1 rfl) ?_ | refine QO_v rfl (V_shl rfl rfl (by omega) ej hs1 rfl) ?_) | first | (refine sx ?_; try intro _))
        refine Hold.go ?_
        exact JS_weak (K () trivial) (by repeat (first | exact trivial | refine ⟨rfl, ?_⟩ | refine ⟨lookI rfl (by omega), ?_⟩)) (fun w hw => hw)
      · have hwe : wtW N i = 1 := if_neg hiN
        rw [hwe] at K
        repeat (first | apply hIx' 10 | first | (refine sx ?_; try intro _))
        refine Hold.go ?_
        exact JS_weak (K () trivial) (by repeat (first | exact trivial | refine ⟨rfl, ?_⟩ | refine ⟨lookI rfl (by omega), ?_⟩)) (fun w hw => hw)
  · have him : i = min L.length 40 := by omega
    rw [him] at hE ⊢
    have hcase : (¬ i < L.length) ∨ (i < L.length ∧ ¬ i < 40) := by omega
    rw [← him] at hE ⊢
    rcases hcase with h0 | ⟨h0, h9⟩
    all_goals (
      clear hlt
      repeat (first | (refine sx ?_; try intro _))
      exact JS_ret Try.func5 rfl rfl fun w hw => ⟨h1, m1, b1, es, clock, rfl, hE, hw⟩)
end
end Go.Proofs.Yteelffkghidpfaa

namespace Go.Proofs.Yteelffkghidpfaa
open Sx Go Go.ChangeShapes Go.WideShapes
set_option linter.unusedVariables false
set_option linter.unusedSimpArgs false
theorem cell_lt {w : World} {a : Addr} {v : Value} (h : w.cell? a = some v) : a.block < w.heap.size := by
  rcases Nat.lt_or_ge a.block w.heap.size with h1 | h1
  · exact h1
  · simp [World.cell?, Array.getElem?_eq_none h1] at h
theorem wf64 {a : Int} (h : (Lit.int .i64 a).wf = true) : -9223372036854775808 ≤ a ∧ a < 9223372036854775808 := by
  simp only [Lit.wf, Bool.and_eq_true, decide_eq_true_eq] at h
  have h1 : IntKind.i64.min = -9223372036854775808 := by decide
  have h2 : IntKind.i64.max = 9223372036854775808 - 1 := by decide
  omega
theorem wfu64 {a : Int} (h : (Lit.int .u64 a).wf = true) : 0 ≤ a ∧ a < 18446744073709551616 := by
  simp only [Lit.wf, Bool.and_eq_true, decide_eq_true_eq] at h
  have h1 : IntKind.u64.min = 0 := by decide
  have h2 : IntKind.u64.max = 18446744073709551616 - 1 := by decide
  omega
theorem argRd_mk {w0 : World} {u : Value} {m : Nat} {cs : List Value} (h1 : isSl u m) (h2 : ∀ j v, cs[j]? = some v → ∃ a, cellPtr u j = .pointer (some a) ∧ a.block < w0.heap.size ∧ w0.cell? a = some v) : ArgRd w0 u m cs := by
  unfold ArgRd; exact ⟨h1, h2⟩
def iv : Value → Int
  | .int _ n => n
  | _ => 0
theorem wfu8 {a : Int} (h : (Lit.int .u8 a).wf = true) : 0 ≤ a ∧ a < 256 := by
  simp only [Lit.wf, Bool.and_eq_true, decide_eq_true_eq] at h
  have h1 : IntKind.u8.min = 0 := by decide
  have h2 : IntKind.u8.max = 256 - 1 := by decide
  omega
end Go.Proofs.Yteelffkghidpfaa

namespace Go.Proofs.Yteelffkghidpfaa
open Sx Go Go.ChangeShapes Go.WideShapes
set_option linter.unusedVariables false
set_option linter.unusedSimpArgs false
theorem cells3 : Try.prog.cellsOf 3 = 1 := by kernel_rfl
def OKI (B : List Int) : Prop := ∀ j, -9223372036854775808 ≤ B.getD j 0 ∧ B.getD j 0 < 9223372036854775808
set_option maxRecDepth 100000 in
/-- a slice of numbers that came in -/
theorem open_ints {H : Type} {enc : TypeId × Value → H} {W : World} {base : Nat} {v : Value} {d : DataW H} {p : List MemPlace} (hval : Value.okWide Try.prog W .any base 118 v) (h : DataW.Trod enc Try.prog W 0 (fun _ => true) true 118 v d p) :
    ∃ (b : Option Addr) (c m : Nat) (B : List Int), v = .slice b m c ∧ ArgRd W (.slice b m c) m (ints .i64 B) ∧ B.length = m ∧ (OKI B ∧ (b = none → m = 0)) ∧ (m = 0 ∨ ∃ E S, d = .slice E S ∧ E.length = m) := by
  obtain ⟨b, m, c, rfl⟩ := okWide_slice Try.underlying118 hval
  obtain ⟨fuel, hf⟩ := h
  rcases Go.ChangeShapes.open_ints Try.underlying118 Try.underlying3 cells3 hf with ⟨hcs, _⟩ | ⟨a, len', cap', zs, hcs, _, hl, hm, hz, hx, hcell, hwz⟩
  · simp [Value.cells] at hcs
    obtain ⟨rfl, rfl, rfl⟩ := hcs
    exact ⟨none, 0, 0, [], rfl, argRd_mk ⟨none, 0, rfl, fun _ => rfl, Nat.le_refl _⟩ (fun j v h => by simp [ints] at h), rfl, ⟨fun j => by simp, fun _ => rfl⟩, .inl rfl⟩
  · simp [Value.cells] at hcs
    obtain ⟨rfl, rfl, rfl⟩ := hcs
    simp only [if_true] at hz
    refine ⟨some a, c, m, zs.take m, rfl, argRd_mk ⟨some a, c, rfl, (fun h => by cases h), hl⟩ (fun j v hv => ?_), by simp; omega, ⟨fun j => ?_, fun h => (by cases h)⟩, .inr ⟨_, _, congrArg Prod.fst hx, by simp [lits]; omega⟩⟩
    · have hj : j < m := by
        have := (List.getElem?_eq_some_iff.1 hv).1
        simp [ints] at this; omega
      have e : (ints .i64 (zs.take m))[j]? = some (.int .i64 (zs.getD j 0)) := by
        have := ints_get (K := .i64) (l := zs.take m) (j := j) (by simp; omega)
        rw [this]
        congr 2
        simp [List.getD_eq_getElem?_getD, List.getElem?_take, hj]
      rw [e] at hv
      obtain rfl := Option.some.inj hv
      exact ⟨a.add j, cellPtr_eq a m c j, by simpa using cell_lt (hcell j (by omega)), hcell j (by omega)⟩
    · rcases Nat.lt_or_ge j m with hj | hj
      · have : (zs.take m).getD j 0 = zs[j]'(by omega) := by simp [List.getD_eq_getElem?_getD, List.getElem?_take, hj, show j < zs.length by omega]
        rw [this]
        exact wf64 (hwz _ (List.getElem_mem _))
      · have : (zs.take m).getD j 0 = 0 := by
          rw [List.getD_eq_getElem?_getD, List.getElem?_eq_none (by simp; omega)]; rfl
        rw [this]; decide
end Go.Proofs.Yteelffkghidpfaa

namespace Go.Proofs.Yteelffkghidpfaa
open Sx Go Go.ChangeShapes Go.WideShapes
set_option linter.unusedVariables false
set_option linter.unusedSimpArgs false
theorem cellsI2 : Try.prog.cellsOf 2 = 1 := by kernel_rfl
theorem cellsU46 : Try.prog.cellsOf 46 = 1 := by kernel_rfl
def OKW (B : List Int) : Prop := ∀ j, 0 ≤ B.getD j 0 ∧ B.getD j 0 < 4294967296
theorem wfu32' {a : Int} (h : (Lit.int .u32 a).wf = true) : 0 ≤ a ∧ a < 4294967296 := by
  simp only [Lit.wf, Bool.and_eq_true, decide_eq_true_eq] at h
  have h1 : IntKind.u32.min = 0 := by decide
  have h2 : IntKind.u32.max = 4294967295 := by decide
  omega
set_option maxRecDepth 100000 in
/-- a slice of numbers with a sign that came in -/
theorem open_i64s {H : Type} {enc : TypeId × Value → H} {W : World} {base : Nat} {v : Value} {d : DataW H} {p : List MemPlace} (hval : Value.okWide Try.prog W .any base 23 v) (h : DataW.Trod enc Try.prog W 0 (fun _ => true) true 23 v d p) :
    ∃ (b : Option Addr) (c m : Nat) (B : List Int), v = .slice b m c ∧ ArgRd W (.slice b m c) m (ints .i64 B) ∧ B.length = m ∧ (OKI B ∧ (b = none → m = 0)) ∧ (m = 0 ∨ ∃ E S, d = .slice E S ∧ E.length = m) := by
  obtain ⟨b, m, c, rfl⟩ := okWide_slice Try.underlying23 hval
  obtain ⟨fuel, hf⟩ := h
  rcases Go.ChangeShapes.open_ints Try.underlying23 Try.underlying2 cellsI2 hf with ⟨hcs, _⟩ | ⟨a, len', cap', zs, hcs, _, hl, hm, hz, hx, hcell, hwz⟩
  · simp [Value.cells] at hcs
    obtain ⟨rfl, rfl, rfl⟩ := hcs
    exact ⟨none, 0, 0, [], rfl, argRd_mk ⟨none, 0, rfl, fun _ => rfl, Nat.le_refl _⟩ (fun j v h => by simp [ints] at h), rfl, ⟨fun j => by simp, fun _ => rfl⟩, .inl rfl⟩
  · simp [Value.cells] at hcs
    obtain ⟨rfl, rfl, rfl⟩ := hcs
    simp only [if_true] at hz
    refine ⟨some a, c, m, zs.take m, rfl, argRd_mk ⟨some a, c, rfl, (fun h => by cases h), hl⟩ (fun j v hv => ?_), by simp; omega, ⟨fun j => ?_, fun h => (by cases h)⟩, .inr ⟨_, _, congrArg Prod.fst hx, by simp [lits]; omega⟩⟩
    · have hj : j < m := by
        have := (List.getElem?_eq_some_iff.1 hv).1
        simp [ints] at this; omega
      have e : (ints .i64 (zs.take m))[j]? = some (.int .i64 (zs.getD j 0)) := by
        have := ints_get (K := .i64) (l := zs.take m) (j := j) (by simp; omega)
        rw [this]
        congr 2
        simp [List.getD_eq_getElem?_getD, List.getElem?_take, hj]
      rw [e] at hv
      obtain rfl := Option.some.inj hv
      exact ⟨a.add j, cellPtr_eq a m c j, by simpa using cell_lt (hcell j (by omega)), hcell j (by omega)⟩
    · rcases Nat.lt_or_ge j m with hj | hj
      · have : (zs.take m).getD j 0 = zs[j]'(by omega) := by simp [List.getD_eq_getElem?_getD, List.getElem?_take, hj, show j < zs.length by omega]
        rw [this]
        exact wf64 (hwz _ (List.getElem_mem _))
      · have : (zs.take m).getD j 0 = 0 := by
          rw [List.getD_eq_getElem?_getD, List.getElem?_eq_none (by simp; omega)]; rfl
        rw [this]; decide
set_option maxRecDepth 100000 in
/-- a slice of short numbers that came in -/
theorem open_u32s {H : Type} {enc : TypeId × Value → H} {W : World} {base : Nat} {v : Value} {d : DataW H} {p : List MemPlace} (hval : Value.okWide Try.prog W .any base 24 v) (h : DataW.Trod enc Try.prog W 0 (fun _ => true) true 24 v d p) :
    ∃ (b : Option Addr) (c m : Nat) (B : List Int), v = .slice b m c ∧ ArgRd W (.slice b m c) m (ints .u32 B) ∧ B.length = m ∧ (OKW B ∧ (b = none → m = 0)) ∧ (m = 0 ∨ ∃ E S, d = .slice E S ∧ E.length = m) := by
  obtain ⟨b, m, c, rfl⟩ := okWide_slice Try.underlying24 hval
  obtain ⟨fuel, hf⟩ := h
  rcases Go.ChangeShapes.open_ints Try.underlying24 Try.underlying46 cellsU46 hf with ⟨hcs, _⟩ | ⟨a, len', cap', zs, hcs, _, hl, hm, hz, hx, hcell, hwz⟩
  · simp [Value.cells] at hcs
    obtain ⟨rfl, rfl, rfl⟩ := hcs
    exact ⟨none, 0, 0, [], rfl, argRd_mk ⟨none, 0, rfl, fun _ => rfl, Nat.le_refl _⟩ (fun j v h => by simp [ints] at h), rfl, ⟨fun j => by simp, fun _ => rfl⟩, .inl rfl⟩
  · simp [Value.cells] at hcs
    obtain ⟨rfl, rfl, rfl⟩ := hcs
    simp only [if_true] at hz
    refine ⟨some a, c, m, zs.take m, rfl, argRd_mk ⟨some a, c, rfl, (fun h => by cases h), hl⟩ (fun j v hv => ?_), by simp; omega, ⟨fun j => ?_, fun h => (by cases h)⟩, .inr ⟨_, _, congrArg Prod.fst hx, by simp [lits]; omega⟩⟩
    · have hj : j < m := by
        have := (List.getElem?_eq_some_iff.1 hv).1
        simp [ints] at this; omega
      have e : (ints .u32 (zs.take m))[j]? = some (.int .u32 (zs.getD j 0)) := by
        have := ints_get (K := .u32) (l := zs.take m) (j := j) (by simp; omega)
        rw [this]
        congr 2
        simp [List.getD_eq_getElem?_getD, List.getElem?_take, hj]
      rw [e] at hv
      obtain rfl := Option.some.inj hv
      exact ⟨a.add j, cellPtr_eq a m c j, by simpa using cell_lt (hcell j (by omega)), hcell j (by omega)⟩
    · rcases Nat.lt_or_ge j m with hj | hj
      · have : (zs.take m).getD j 0 = zs[j]'(by omega) := by simp [List.getD_eq_getElem?_getD, List.getElem?_take, hj, show j < zs.length by omega]
        rw [this]
        exact wfu32' (hwz _ (List.getElem_mem _))
      · have : (zs.take m).getD j 0 = 0 := by
          rw [List.getD_eq_getElem?_getD, List.getElem?_eq_none (by simp; omega)]; rfl
        rw [this]; decide
end Go.Proofs.Yteelffkghidpfaa

namespace Go.Proofs.Yteelffkghidpfaa
open Sx Go Hd
set_option linter.unusedVariables false
set_option linter.unusedSimpArgs false
/-- a walk stops in front of a condition's region -/
theorem hIc {P : Program} {f n : Nat} {R : Ending → World → Prop} {D : List Deferred} {w0 : World} {k : List Item} {ov : Ov} {H : List Asn} (i : Nat) {l : Array Oper} {b : Bool} {y z : Code} (h : Hold (JS P f n R D w0 (.code (.seq (.seq (.region i l b) y) z) :: k) ov H)) : JS P f n R D w0 (.code (.seq (.seq (.region i l b) y) z) :: k) ov H := by
  unfold Hold at h; exact h
theorem cntB_byt : ∀ (T : List (Int × Int)) (a : Int), 0 ≤ a → (∀ x ∈ T, (0 ≤ x.1 ∧ x.1 < 4611686018427387904) ∧ 0 < x.2 ∧ x.2 < 18446744073709551616) → ∀ y ∈ cntB a T, 0 ≤ y ∧ y < 256
  | [], a, _, _, y, hy => absurd hy (by simp [cntB])
  | x :: r, a, ha, h, y, hy => by
    have hx := h x List.mem_cons_self
    have ih := cntB_byt r (x.1 + 1) (by omega) (fun z hz => h z (List.mem_cons_of_mem _ hz))
    rw [cntB] at hy
    rcases List.mem_append.1 hy with hy | hy
    · rcases List.mem_append.1 hy with hy | hy
      · unfold gapB at hy
        split at hy
        · exact encN_byt 9 (by decide) y hy
        · split at hy
          · exact encN_byt 9 (by omega) y hy
          · simp at hy
      · exact encN_byt 9 (by omega) y hy
    · exact ih y hy
theorem mem_okb {B : List Int} (h : ∀ x ∈ B, 0 ≤ x ∧ x < 256) : OKB B := fun j => by
  rcases Nat.lt_or_ge j B.length with hj | hj
  · rw [List.getD_eq_getElem?_getD, List.getElem?_eq_getElem hj]; exact h _ (List.getElem_mem _)
  · rw [List.getD_eq_getElem?_getD, List.getElem?_eq_none hj]; decide
theorem wrB_okb {lo reach dg : Int} {T : List (Int × Int)} (hlo : 0 ≤ lo ∧ lo < 9223372036854775808) (hre : 0 ≤ reach ∧ reach < 9223372036854775808) (hdg : 0 ≤ dg ∧ dg < 4294967296) (hG : GT T) (hl : T.length ≤ 1000000) : OKB (wrB lo reach dg T) := by
  have hcl := cntA_len T
  refine mem_okb fun x hx => ?_
  unfold wrB at hx
  rcases List.mem_append.1 hx with hx | hx
  · have h1 := (hd_fit (n := (cntA T).length) hlo hre hdg (by omega)).1
    refine encs_byt _ _ (fun y hy => ?_) x hx
    obtain ⟨i, hi, rfl⟩ := List.getElem_of_mem hy
    have := h1 i
    rw [List.getD_eq_getElem?_getD, List.getElem?_eq_getElem hi] at this
    exact this
  · unfold cntA at hx
    split at hx
    · exact encN_byt 9 (by decide) x hx
    · refine cntB_byt T 0 (Int.le_refl _) (fun y hy => ⟨hG.key y hy, hG.pos y hy, ?_⟩) x hx
      have := sw_mem hG.pos y hy
      have := hG.tot
      omega
theorem okb_set {B : List Int} (h : OKB B) (i : Nat) {x : Int} (hx : 0 ≤ x ∧ x < 256) : OKB (B.set i x) := fun j => by
  rw [List.getD_eq_getElem?_getD, List.getElem?_set]
  split
  · split
    · exact hx
    · decide
  · rw [← List.getD_eq_getElem?_getD]; exact h j
theorem okb_take {B : List Int} (h : OKB B) (n : Nat) : OKB (B.take n) := mem_okb fun x hx => h.mem x (List.mem_of_mem_take hx)
set_option maxRecDepth 10000 in
set_option maxHeartbeats 8000000 in
theorem HdrwireSpoilt_l (a0 a1 : Int) (lp : Option Addr) (lc lm : Nat) (L : List Int) (np : Option Addr) (nc nm : Nat) (N : List Int) (a4 a5 a6 : Int) (w0 : World) (h0 : 0 ≤ a0 ∧ a0 < 18446744073709551616) (h1 : 0 ≤ a1 ∧ a1 < 256)
    (hL : ArgRd w0 (.slice lp lm lc) lm (ints .i64 L)) (lL : L.length = lm) (kL : OKI L ∧ (lp = none → lm = 0) ∧ lm ≤ 17592186043904) (hN : ArgRd w0 (.slice np nm nc) nm (ints .u32 N)) (lN : N.length = nm) (kN : OKW N ∧ (np = none → nm = 0) ∧ nm ≤ 35184372087808)
    (h4 : -9223372036854775808 ≤ a4 ∧ a4 < 9223372036854775808) (h5 : 0 ≤ a5 ∧ a5 < 256) (h6 : -9223372036854775808 ≤ a6 ∧ a6 < 9223372036854775808) :
    Calls Try.prog 3 #[.int .u64 a0, .int .u8 a1, .slice lp lm lc, .slice np nm nc, .int .i64 a4, .int .u8 a5, .int .i64 a6] w0 fun e w' => e = .returned (.bool true) ∧ RowKit.Below w0.heap.size w0 w' := by
  subst lL lN
  have hs := law_sh a0 a1 5000 h0 h1 (by decide)
  have hl1 : 1 ≤ lawLo a0 ∧ lawLo a0 ≤ 100000 := by unfold lawLo; omega
  have hhi : lawHi a0 5000 < 9223372036854775808 := by unfold lawHi; omega
  have hhi0 : 0 ≤ lawHi a0 5000 := by unfold lawHi; omega
  have hd1 : 1 ≤ lawDg a1 ∧ lawDg a1 ≤ 5 := by unfold lawDg; omega
  have hSh := fun {H} w hw => Shape17_c (w0 := w0) (H := H) a0 a1 5000 h0 h1 (by decide) w hw
  refine enter (vs := [.int .u64 a0, .int .u8 a1, .slice lp L.length lc, .slice np N.length nc, .int .i64 a4, .int .u8 a5, .int .i64 a6]) Try.func3 rfl rfl rfl (St.start w0) ?_
  generalize lawLo a0 = lo at *
  generalize lawHi a0 5000 = hi at *
  generalize lawDg a1 = dg at *
  have hug := hs.2
  have hgd := gOf_bd hd1
  have hg' : 1 ≤ gOf dg ∧ gOf dg ≤ 18 := by omega
  repeat (first | (refine sx ?_; try intro _))
  refine JO_call Try.call4 rfl rfl fun w hw => (alive19_c w hw).mono ?_
  rintro e w' ⟨rfl, hw'⟩
  (refine ⟨_, rfl, _, hw', ?_⟩; clear hw' hw w w')
  repeat (first | (refine sx ?_; try intro _))
  refine JO_call Try.call6 rfl rfl fun w hw => (hSh w hw).mono ?_
  rintro e w' ⟨rfl, hw'⟩
  (refine ⟨_, rfl, _, hw', ?_⟩; clear hw' hw w w')
  repeat (first | (refine sx ?_; try intro _))
  refine JO_call Try.call5 rfl rfl fun w hw => (Recorded19_c lo hi dg true hs hhi lp np lc nc L N (hL.rd _) (hN.rd _) kL.1 kN.1 (by omega) (by omega) w hw).mono ?_
  rintro e w' ⟨h, m, b, es, clock, rfl, hE, hw'⟩
  have hb0 : 1 + bkt (uOf lo) (gOf dg) hi.toNat ≤ 64 := by
    have := bkt_63 (u := uOf lo) (g := gOf dg) (v := hi.toNat) (by omega) (by omega)
    omega
  obtain ⟨⟨ob, ogt⟩, ol⟩ := recS_ok (u := uOf lo) (g := gOf dg) (gr := true) (bu := 1 + bkt (uOf lo) (gOf dg) hi.toNat) (L := L) (W := wtW N) hug hg' hb0 (fun j => (kL.1 j).2) (fun j => by have := wtW_bd N j; omega) (min L.length 40)
  generalize recS (uOf lo) (gOf dg) true (1 + bkt (uOf lo) (gOf dg) hi.toNat) L (wtW N) (min L.length 40) = s at *
  obtain ⟨bu, T⟩ := s
  unfold hW at hw'
  dsimp only at ob ogt ol hE hw'
  generalize uOf lo = u at *
  generalize gOf dg = g at *
  have hl : T.length ≤ 40 := by omega
  clear hSh hgd hL hN kL kN
  (refine ⟨_, rfl, _, hw', ?_⟩; clear hw' hw w w')
  repeat (first | (refine sx ?_; try intro _))
  refine JO_call Try.call7 rfl rfl fun w hw => (HWrite_c h m b true bu es clock T (List.Mem.head _) (List.Mem.tail _ (List.Mem.head _)) (List.Mem.tail _ (List.Mem.tail _ (List.Mem.head _))) hE ogt hug hg' ob (by omega) (by omega) (by omega) (by omega) w hw).mono ?_
  rintro e w' ⟨p, c, rfl, hw'⟩
  have hre : 0 ≤ rchv u g hi bu ∧ rchv u g hi bu < 9223372036854775808 := by
    unfold rchv
    split
    · omega
    · have := topv_lt' u g bu; omega
  have hok0 := wrB_okb (lo := lo) (reach := rchv u g hi bu) (dg := dg) (T := T) (by omega) hre (by omega) ogt (by omega)
  have hlen0 := wrB_len lo (rchv u g hi bu) dg T
  have hcl := cntA_len T
  generalize wrB lo (rchv u g hi bu) dg T = B0 at *
  obtain ⟨n, hn⟩ : ∃ n, B0.length = n := ⟨_, rfl⟩
  rw [hn] at hlen0 hw' ⊢
  have hn1 : n ≤ 1000 := by omega
  have hpn : p ≠ none := fun h => by
    have := Rd.nil (vec_rd (List.Mem.head _)) hw' h
    omega
  (refine ⟨_, rfl, _, hw', ?_⟩; clear hw' hw w w')
  generalize (blk h (hc m b true bu (sw T)) :: mapL b es clock :: blk m (mc lo hi dg u g) :: ([] : List Asn)) = Q at *
  repeat (first | apply hIc 7 | first | (refine sx ?_; try intro _))
  refine Hold.go ?_
  refine JS_seq ?_
  refine JS_join1 (fun (_ : List Int) => [(6, .int .i64 a6), (16, .slice p n c)]) (fun B => vec 5 1 (.slice p n c) n (ints .u8 B) :: Q) (fun B => B.length = n ∧ OKB B) ?_ ?_
  · intro B1 ⟨hl1', hok1⟩
    have hV : Rd w0 (vec 5 1 (.slice p n c) n (ints .u8 B1) :: Q) (.slice p n c) n (ints .u8 B1) := vec_rd (List.Mem.head _)
    generalize vec 5 1 (.slice p n c) n (ints .u8 B1) :: Q = Q1 at *
    repeat (first | apply hIc 9 | first | (refine sx ?_; try intro _))
    refine Hold.go ?_
    refine JS_seq ?_
    refine JS_join3 (fun (k : Nat) (p2 : Option Addr) (c2 : Nat) => [(16, .slice p2 k c2)]) (fun _ _ _ => Q1) (fun k p2 c2 => k ≤ n ∧ Rd w0 Q1 (.slice p2 k c2) k (ints .u8 (B1.take k)) ∧ (p2 = none → k = 0)) ?_ ?_
    · intro k p2 c2 ⟨hkn, hR2, hnil⟩
      have hk : (B1.take k).length = k := by rw [List.length_take]; omega
      have hokk := okb_take hok1 k
      generalize B1.take k = B2 at *
      repeat (first | (refine sx ?_; try intro _))
      refine JO_call Try.call8 rfl rfl fun w hw => (Read_c p2 c2 k B2 hR2 hk hokk (by omega) hnil w hw).mono ?_
      unfold ReadR
      rintro e w' (⟨hno, rfl, hw'⟩ | ⟨lo2, hi2, dg2, T2, hR, hTl, hG, b2, mb2, bm2, es2, clock2, hE2, rfl, hw'⟩)
      · (refine ⟨_, rfl, _, hw', ?_⟩; clear hw' hw w w')
        repeat (first | (refine sx ?_; try intro _))
        exact JS_ret Try.func3 rfl rfl fun w hw => ⟨rfl, hw.grown⟩
      · have hsh2 := hR.sh
        obtain ⟨q1, q2, q3, q4⟩ := hsh2.1
        have hlo63 := hR.lo63
        have hhi63 := hR.hi63
        have hgd2 := gOf_bd (dg := dg2) ⟨q1, q2⟩
        have hwr := hR.wr
        unfold rdH at hw'
        (refine ⟨_, rfl, _, hw', ?_⟩; clear hw' hw w w')
        repeat (first | (refine sx ?_; try intro _))
        refine JO_call Try.call9 rfl rfl fun w hw => (HShape_c b2 mb2 bm2 false _ _ (List.Mem.head _) (List.Mem.tail _ (List.Mem.tail _ (List.Mem.head _))) w hw).mono ?_
        rintro e w' ⟨rfl, hw'⟩
        (refine ⟨_, rfl, _, hw', ?_⟩; clear hw' hw w w')
        repeat (first | apply hIx 15 | first | (refine sx ?_; try intro _))
        refine Hold.go ?_
        rename_i sb
        refine JS_seq ?_
        refine JS_order [0, 1, 2, 3, 4, 5, 6, 10, 11, 7, 8, 9, 12, 13] [] (Picks.cons rfl (Picks.cons rfl (Picks.cons rfl (Picks.cons rfl (Picks.cons rfl (Picks.cons rfl (Picks.cons rfl (Picks.cons rfl (Picks.cons rfl (Picks.cons rfl (Picks.cons rfl (Picks.cons rfl (Picks.cons rfl (Picks.cons rfl (Picks.nil))))))))))))))) (by kernel_rfl) (by kernel_rfl) rfl (by decide +kernel) ?_
        repeat (first | (apply gQO; first | refine QO_v rfl (V_str (tb := tb) rfl (Rd_weak hR2 fun w hw => St.sub (by repeat (first | exact List.Sublist.refl _ | apply List.Sublist.cons_cons | apply List.Sublist.cons)) hw) hk rfl rfl rfl rfl) ?_) | first | (refine sx ?_; try intro _))
        refine QO_call Try.call11 rfl rfl fun w hw => (HPairs_c b2 mb2 bm2 false _ _ es2 clock2 T2 (List.Mem.tail _ (List.Mem.head _)) (List.Mem.tail _ (List.Mem.tail _ (List.Mem.head _))) hE2 hG.srt hG.key (by omega) w hw).mono ?_
        rintro e w' ⟨qp, qd, rfl, hw'⟩
        (refine ⟨_, rfl, _, hw', .inl fun w hw => St.sub (by repeat (first | exact List.Sublist.refl _ | apply List.Sublist.cons_cons | apply List.Sublist.cons)) hw, ?_⟩; clear hw' hw w w')
        repeat (first | (refine sx ?_; try intro _))
        refine QO_call Try.call10 rfl rfl fun w hw => (RWrite_c lo2 hi2 dg2 (by omega) (by omega) (by omega) qp qd T2 (vec_rd (List.Mem.head _)) hG (by omega) w hw).mono ?_
        rw [hwr]
        rintro e w' ⟨pw, cw, rfl, hw'⟩
        (refine ⟨_, rfl, _, hw', .inl fun w hw => St.sub (by repeat (first | exact List.Sublist.refl _ | apply List.Sublist.cons_cons | apply List.Sublist.cons)) hw, ?_⟩; clear hw' hw w w')
        repeat (first | (apply gQO; first | refine QO_v rfl (V_eqStrC (s := bstr B2) rfl rfl rfl) ?_ | refine QO_v rfl (V_str (tb := tb) rfl (vec_rd (cs := ints .u8 B2) (List.Mem.head _)) rfl rfl rfl rfl rfl) ?_) | first | (refine sx ?_; try intro _))
        exact JS_ret Try.func3 rfl rfl fun w hw => ⟨rfl, hw.grown⟩
    · intro K
      by_cases hcut : 0 ≤ a6 ∧ a6 < n
      · obtain ⟨k, rfl⟩ := Int.eq_ofNat_of_zero_le hcut.1
        obtain ⟨hc1, hc2⟩ := hcut
        have hS := Rd_sub (lo := 0) (hi := k) (sz := 1) hV (Nat.zero_le _) (by omega)
        have e1 : ((ints .u8 B1).drop (0 * 1)).take ((k - 0) * 1) = ints .u8 (B1.take k) := by
          rw [Nat.zero_mul, List.drop_zero, Nat.mul_one, Nat.sub_zero]; unfold ints; rw [List.map_take]
        rw [e1] at hS
        have hnl : subB p 0 c 1 = none → k - 0 = 0 := fun h => by
          obtain ⟨a, rfl⟩ := Option.ne_none_iff_exists'.1 hpn
          unfold subB at h
          split at h <;> simp at h
        have hgo := K (k - 0) (subB p 0 c 1) (c - 0) ⟨by omega, by rw [Nat.sub_zero] at hS ⊢; exact hS, hnl⟩
        repeat (first | (apply gJS; exact JS_weak hgo (by repeat (first | exact trivial | refine ⟨rfl, ?_⟩ | refine ⟨lookI rfl (by omega), ?_⟩)) (fun w hw => hw)) | (apply gJO; first | refine JO_v (V_slice (tb := tb) (lo := 0) (hi := k) rfl rfl rfl rfl rfl rfl rfl (fun w hw => ⟨by omega, by have := (hV.lcap hw).1; omega⟩) rfl) ?_) | first | (refine sx ?_; try intro _))
      · have hgo := K n p c ⟨Nat.le_refl _, by rw [List.take_of_length_le (by omega)]; exact hV, fun h => absurd h hpn⟩
        have hcase : (¬ 0 ≤ a6) ∨ (0 ≤ a6 ∧ ¬ a6 < n) := by omega
        clear hcut
        rcases hcase with h7 | ⟨h7, h8⟩
        all_goals (
          repeat (first | (apply gJS; exact JS_weak hgo (by repeat (first | exact trivial | refine ⟨rfl, ?_⟩ | refine ⟨lookI rfl (by omega), ?_⟩)) (fun w hw => hw)) | first | (refine sx ?_; try intro _)))
  · intro K
    by_cases hat : 0 ≤ a4 ∧ a4 < n
    · obtain ⟨k, rfl⟩ := Int.eq_ofNat_of_zero_le hat.1
      obtain ⟨hc1, hc2⟩ := hat
      have gB := ints_get (K := .u8) (l := B0) (j := k) (by omega)
      have hob := hok0 k
      generalize B0.getD k 0 = z at *
      obtain ⟨x, hx⟩ : ∃ x, IntKind.u8.wrap ((BitVec.ofInt IntKind.u8.bits z ^^^ BitVec.ofInt IntKind.u8.bits a5).toNat) = x := ⟨_, rfl⟩
      have hxb : 0 ≤ x ∧ x < 256 := by rw [mu8] at hx; omega
      have hgo := K (B0.set k x) ⟨by rw [List.length_set]; exact hn, okb_set hok0 k hxb⟩
      repeat (first | (apply gJS; exact JS_weak hgo (by repeat (first | exact trivial | refine ⟨rfl, ?_⟩ | refine ⟨lookI rfl (by omega), ?_⟩)) (fun w hw => hw)) | (apply gJO; first | refine JO_v (oL (V_loadC (tb := tb) rfl (vec_rd (List.Mem.head _)) rfl rfl gB rfl)) ?_ | refine JO_v (V_xor rfl rfl hx rfl) ?_) | first | (refine sx ?_; try intro _))
    · have hgo := K B0 ⟨hn, hok0⟩
      have hcase : (¬ 0 ≤ a4) ∨ (0 ≤ a4 ∧ ¬ a4 < n) := by omega
      clear hat
      rcases hcase with h7 | ⟨h7, h8⟩
      all_goals (
        repeat (first | (apply gJS; exact JS_weak hgo (by repeat (first | exact trivial | refine ⟨rfl, ?_⟩ | refine ⟨lookI rfl (by omega), ?_⟩)) (fun w hw => hw)) | first | (refine sx ?_; try intro _)))
end Go.Proofs.Yteelffkghidpfaa
