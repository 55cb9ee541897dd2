import Derived.Maps.RangeRun
import Derived.Shelf.SlSortCmp.NoneTotal
import Derived.Test.YteelffkghidpfaaGreatN1
namespace Go.Proofs.YteelffkghidpfaaGreat
open Sx Go
set_option linter.unusedVariables false
set_option linter.unusedSimpArgs false
theorem p10 (k : Nat) (h : k ≤ 19) : (1 : Int) ≤ 10 ^ k ∧ (10 : Int) ^ k ≤ 10000000000000000000 := by
  have : ∀ k : Fin 20, (1 : Int) ≤ 10 ^ k.val ∧ (10 : Int) ^ k.val ≤ 10000000000000000000 := by decide +kernel
  exact this ⟨k, by omega⟩
def PW (d v r : Int) : Prop := ((d < 0 ∨ 19 < d) ∧ v = 0 ∧ r = 1) ∨ (0 ≤ d ∧ d ≤ 19 ∧ v = 10 ^ d.toNat ∧ r = 0)
set_option maxHeartbeats 1000000 in
theorem Power_c {w0 : World} {H : List Asn} (d : Int) (hd : -9223372036854775808 ≤ d ∧ d < 9223372036854775808) (w : World) (hw : St w0 H w) :
    Calls Tryz.prog 110 #[.int .i64 d] w fun e w' => ∃ v r, e = .returned (.tuple #[.int .u64 v, .int .i64 r]) ∧ St w0 H w' ∧ PW d v r := by
  refine enter (vs := [.int .i64 d]) Tryz.func110 rfl rfl rfl hw ?_
  by_cases h0 : d < 0
  · repeat (first | (refine sx ?_; try intro _))
    refine JS_ret Tryz.func110 rfl rfl ?_
    intro w hw
    exact ⟨_, _, rfl, hw, .inl ⟨.inl h0, rfl, rfl⟩⟩
  by_cases h1 : 19 < d
  · repeat (first | (refine sx ?_; try intro _))
    refine JS_ret Tryz.func110 rfl rfl ?_
    intro w hw
    exact ⟨_, _, rfl, hw, .inl ⟨.inr h1, rfl, rfl⟩⟩
  repeat (first | (apply gJR; first | (refine sy ?_; try intro _)) | (apply gJO; first | (refine sy ?_; try intro _)) | apply JS_seq | apply JS_region | refine JS_condF rfl ?_ | apply JS_skip)
  refine JS_block ?_
  refine JS_loop1 (fun (k : Nat) => [(11, .int .i64 d), (4, .int .u64 (10 ^ k)), (12, .int .i64 k)]) (fun _ => H) (fun k => (k : Int) ≤ d) (fun k => (d - k).toNat) 0 (by omega) (by repeat (first | exact trivial | refine ⟨rfl, ?_⟩ | refine ⟨lookI rfl (by omega), ?_⟩)) (fun _ h => h) ?_
  intro k hk again
  by_cases hkd : (k : Int) = d
  · repeat (first | (refine sx ?_; try intro _))
    refine JS_ret Tryz.func110 rfl rfl ?_
    intro w hw
    exact ⟨_, _, rfl, hw, .inr ⟨by omega, by omega, by rw [show d.toNat = k by omega], rfl⟩⟩
  · have hp := p10 (k + 1) (by omega)
    rw [Int.pow_succ] at hp
    have hq := p10 k (by omega)
    obtain ⟨p, hpe⟩ : ∃ p, (10 : Int) ^ k = p := ⟨_, rfl⟩
    rw [hpe] at hp hq
    rw [hpe]
    repeat (first | (refine sx ?_; try intro _))
    exact JS_again1 again (k + 1) (by omega) (by omega) (by exact ⟨rfl, lookI rfl (by simp only [Int.pow_succ, hpe] <;> omega), lookI rfl (by omega), trivial⟩) (fun _ h => h)
end Go.Proofs.YteelffkghidpfaaGreat

namespace Sx
open Go
section
variable {P : Program} {n : Nat} {D : List Deferred} {w0 : World} {ov : Ov} {H : List Asn} {d : Option Nat} {T : Nat} {pos : String} {af : Array Edge} {g : Option (Nat × Bool)} {x y : Operand} {v : Value}
theorem E_box {e : Nat} {cs : List Value} (hx : ev ov x = some v) (hc : cellsL v = cs) (hd : dOk d n = true) : OpE (ι := Nat) P n D w0 ov H ⟨d, .box e x, T, pos, af, g⟩ (fun b => .pointer (some ⟨b, 0, none⟩)) (fun b => blk b cs :: H) :=
  ⟨hd, fun a w ha hw => ⟨w.heap.size, w.alloc (.cells cs.toArray e), by
    simp [execOp, ha.ev hx, Instr.box, newVar, newRow, cellsL_eq, hc], hw.new cs e _ fun w' h' => blk_holds.2 ⟨rfl, e, h'⟩⟩⟩
end
end Sx
namespace Hd
open Go
/-- a shape's unit's bits and its magnitude -/
def uOf (lo : Int) : Nat := bitLen lo.toNat - 1
def gOf (dg : Int) : Nat := bitLen (2 * 10 ^ dg.toNat - 1)
/-- shapes that may be, but for the sum -/
def sh0 (lo hi dg : Int) : Prop := 1 ≤ dg ∧ dg ≤ 5 ∧ 1 ≤ lo ∧ 2 * lo ≤ hi
def shOK (lo hi dg : Int) : Prop := sh0 lo hi dg ∧ uOf lo + gOf dg ≤ 62
instance (lo hi dg : Int) : Decidable (sh0 lo hi dg) := by unfold sh0; infer_instance
instance (lo hi dg : Int) : Decidable (shOK lo hi dg) := by unfold shOK; infer_instance
theorem gOf_at : ∀ d : Fin 6, 1 ≤ d.val → 5 ≤ gOf (d.val : Int) ∧ gOf (d.val : Int) ≤ 18 ∧ 10 ^ d.val ≤ 2 ^ (gOf (d.val : Int) - 1) ∧ 10 ^ d.val ≤ 100000 := by decide +kernel
theorem gOf_bd {dg : Int} (h : 1 ≤ dg ∧ dg ≤ 5) : 5 ≤ gOf dg ∧ gOf dg ≤ 18 ∧ 10 ^ dg.toNat ≤ 2 ^ (gOf dg - 1) ∧ 10 ^ dg.toNat ≤ 100000 := by
  have h2 := gOf_at ⟨dg.toNat, by omega⟩ (by show 1 ≤ dg.toNat; omega)
  simp only [] at h2
  rw [show ((dg.toNat : Nat) : Int) = dg by omega] at h2
  exact h2
end Hd
namespace Go.Proofs.YteelffkghidpfaaGreat
open Sx Go Hd
set_option linter.unusedVariables false
set_option linter.unusedSimpArgs false
section
variable {w0 : World} {H : List Asn}
abbrev hagg (lo hi dg : Int) : Value := .agg #[.int .i64 lo, .int .i64 hi, .int .i64 dg]
set_option maxRecDepth 10000 in
set_option maxHeartbeats 2000000 in
theorem MNew_c (lo hi dg : Int) (hlo : -9223372036854775808 ≤ lo ∧ lo < 9223372036854775808) (hhi : -9223372036854775808 ≤ hi ∧ hi < 9223372036854775808) (hdg : -9223372036854775808 ≤ dg ∧ dg < 9223372036854775808) (w : World) (hw : St w0 H w) :
    Calls Tryz.prog 71 #[hagg lo hi dg] w fun e w' => (¬ shOK lo hi dg ∧ e = .returned (.tuple #[.pointer none, .int .i64 1]) ∧ St w0 H w') ∨
      (shOK lo hi dg ∧ ∃ b, e = .returned (.tuple #[.pointer (some ⟨b, 0, none⟩), .int .i64 0]) ∧ St w0 (blk b (mc lo hi dg (uOf lo) (gOf dg)) :: H) w') := by
  refine enter (vs := [hagg lo hi dg]) Tryz.func71 rfl rfl rfl hw ?_
  clear hw w
  have hno : ¬ sh0 lo hi dg → ∀ w, St w0 H w → (¬ shOK lo hi dg ∧ (Ending.returned (.tuple #[.pointer none, .int .i64 1]) : Ending) = .returned (.tuple #[.pointer none, .int .i64 1]) ∧ St w0 H w) ∨
      (shOK lo hi dg ∧ ∃ b, (Ending.returned (.tuple #[.pointer none, .int .i64 1]) : Ending) = .returned (.tuple #[.pointer (some ⟨b, 0, none⟩), .int .i64 0]) ∧ St w0 (blk b (mc lo hi dg (uOf lo) (gOf dg)) :: H) w) :=
    fun h w hw => .inl ⟨fun h2 => h h2.1, rfl, hw⟩
  obtain ⟨t2, ht2, k0⟩ : ∃ t2, Int.tdiv hi 2 = t2 ∧ ((0 ≤ hi ∧ t2 = hi / 2) ∨ (hi < 0 ∧ t2 = -((-hi) / 2))) := by
    refine ⟨_, rfl, ?_⟩
    rcases Int.lt_or_le hi 0 with h | h
    · right
      obtain ⟨m, rfl⟩ : ∃ m, hi = -m := ⟨-hi, by omega⟩
      rw [Int.neg_tdiv, Int.tdiv_eq_ediv_of_nonneg (by omega), Int.neg_neg]
      exact ⟨h, rfl⟩
    · left
      exact ⟨h, Int.tdiv_eq_ediv_of_nonneg h⟩
  have k1 : IntKind.i64.wrap (Int.tdiv hi 2) = t2 := by rw [ht2]; exact wi64 (by omega)
  by_cases h1 : dg < 1
  · repeat (first | (refine sx ?_; try intro _))
    exact JS_ret Tryz.func71 rfl rfl fun w hw => hno (by unfold sh0; omega) w hw.drop
  by_cases h2 : 5 < dg
  · repeat (first | (refine sx ?_; try intro _))
    exact JS_ret Tryz.func71 rfl rfl fun w hw => hno (by unfold sh0; omega) w hw.drop
  by_cases h3 : lo < 1
  · repeat (first | (refine sx ?_; try intro _))
    exact JS_ret Tryz.func71 rfl rfl fun w hw => hno (by unfold sh0; omega) w hw.drop
  by_cases h4 : hi < 2 * lo
  · repeat (first | (apply gJO; refine JO_v (V_quo rfl rfl (by omega) k1 rfl) ?_) | first | (refine sx ?_; try intro _))
    exact JS_ret Tryz.func71 rfl rfl fun w hw => hno (by unfold sh0; omega) w hw.drop
  have hs0 : sh0 lo hi dg := by unfold sh0; omega
  have hg := gOf_bd (dg := dg) (by omega)
  repeat (first | (apply gJO; refine JO_v (V_quo rfl rfl (by omega) k1 rfl) ?_) | first | (refine sx ?_; try intro _))
  refine JO_call Tryz.call110 rfl rfl fun w hw => (Power_c dg (by omega) w hw).mono ?_
  rintro e w' ⟨v, r, rfl, hw', hp⟩
  rcases hp with ⟨h, _⟩ | ⟨_, _, rfl, rfl⟩
  · omega
  refine ⟨_, rfl, _, hw', ?_⟩
  clear hw' hw w w'
  obtain ⟨t, ht⟩ : ∃ t, 10 ^ dg.toNat = t := ⟨_, rfl⟩
  have hti : (10 : Int) ^ dg.toNat = (t : Int) := by rw [← ht]; simp
  have hgd : gOf dg = bitLen (2 * t - 1) := by unfold gOf; rw [ht]
  have htp : 0 < t := by rw [← ht]; exact Nat.pow_pos (by decide)
  rw [ht] at hg
  rw [hti]
  obtain ⟨l, rfl⟩ := Int.eq_ofNat_of_zero_le (show 0 ≤ lo by omega)
  have hul : bitLen l ≤ 63 := bl_le.2 (show l < 2 ^ 63 by omega)
  have hul0 : 0 < bitLen l := bl_gt.2 (by omega)
  have hud : uOf ((l : Nat) : Int) = bitLen l - 1 := by unfold uOf; rw [Int.toNat_natCast]
  have k2 : IntKind.u64.wrap (2 * (t : Int)) = ((2 * t : Nat) : Int) := (wu64 (by omega)).trans (by omega)
  have k3 : IntKind.u64.wrap (((2 * t : Nat) : Int) - 1) = ((2 * t - 1 : Nat) : Int) := (wu64 (by omega)).trans (by omega)
  have k4 : IntKind.i64.wrap (((bitLen l : Nat) : Int) - 1) = ((uOf ((l : Nat) : Int) : Nat) : Int) := by
    rw [hud]
    exact (wi64 (by omega)).trans (by omega)
  have k5 : IntKind.i64.wrap (((uOf ((l : Nat) : Int) : Nat) : Int) + ((gOf dg : Nat) : Int)) = ((uOf ((l : Nat) : Int) + gOf dg : Nat) : Int) := (wi64 (by omega)).trans (by omega)
  repeat (first | apply hIx 4 | first | (refine sx ?_; try intro _))
  refine Hold.go ?_
  refine JS_seq ?_
  refine JS_order [0, 1, 2, 3, 6, 7, 8, 4, 5, 9, 10, 11, 12] [] (Picks.cons rfl (Picks.cons rfl (Picks.cons rfl (Picks.cons rfl (Picks.cons rfl (Picks.cons rfl (Picks.cons rfl (Picks.cons rfl (Picks.cons rfl (Picks.cons rfl (Picks.cons rfl (Picks.cons rfl (Picks.cons rfl (Picks.nil)))))))))))))) (by kernel_rfl) (by kernel_rfl) rfl (by decide +kernel) ?_
  repeat (first | (apply gQO; first | refine QO_v rfl (V_mul rfl rfl k2 rfl) ?_ | refine QO_v rfl (V_sub rfl rfl k3 rfl) ?_) | first | (refine sx ?_; try intro _))
  refine QO_call Tryz.call111 rfl rfl fun w hw => (Len_c l (by omega) w hw).mono ?_
  rintro e w' ⟨rfl, hw'⟩
  refine ⟨_, rfl, _, hw', .inl fun w hw => hw, ?_⟩
  clear hw' hw w w'
  repeat (first | (apply gQO; first | refine QO_v rfl (V_sub rfl rfl k4 rfl) ?_) | first | (refine sx ?_; try intro _))
  refine QO_call Tryz.call111 rfl rfl fun w hw => (Len_c (2 * t - 1) (by omega) w hw).mono ?_
  rw [← hgd]
  rintro e w' ⟨rfl, hw'⟩
  refine ⟨_, rfl, _, hw', .inl fun w hw => hw, ?_⟩
  clear hw' hw w w'
  repeat (first | (refine sx ?_; try intro _))
  refine QO_e (E_box rfl rfl rfl) rfl (.inr fun b w hw => hw.drop) ?_
  intro b
  by_cases hbig : 62 < uOf ((l : Nat) : Int) + gOf dg
  · repeat (first | (apply gQO; first | refine QO_v rfl (V_add rfl rfl k5 rfl) ?_) | first | (refine sx ?_; try intro _))
    exact JS_ret Tryz.func71 rfl rfl fun w hw => .inl ⟨fun h => by have := h.2; omega, rfl, hw.drop.drop⟩
  · repeat (first | (apply gQO; first | refine QO_v rfl (V_add rfl rfl k5 rfl) ?_) | first | (refine sx ?_; try intro _))
    exact JS_ret Tryz.func71 rfl rfl fun w hw => .inr ⟨⟨hs0, by omega⟩, b, rfl, dS hw⟩
end
end Go.Proofs.YteelffkghidpfaaGreat

namespace Go.Proofs.YteelffkghidpfaaGreat
open Sx Go Hd
set_option linter.unusedVariables false
set_option linter.unusedSimpArgs false
section
variable {w0 : World} {H : List Asn}
end
end Go.Proofs.YteelffkghidpfaaGreat

namespace Go.Proofs.YteelffkghidpfaaGreat
open Sx Go Hd
set_option linter.unusedVariables false
set_option linter.unusedSimpArgs false
section
variable {w0 : World} {H : List Asn}
/-- the law's shapes -/
def lawLo (lo : Int) : Int := 1 + lo % 100000
def lawHi (lo wide : Int) : Int := 2 * lawLo lo + wide % 4611686018427387904
def lawDg (dg : Int) : Int := 1 + dg % 5
/-- the shape of a map -/
theorem MShape_c {lo hi dg : Int} {u g : Nat} (b : Nat) (hM : blk b (mc lo hi dg u g) ∈ H) (w : World) (hw : St w0 H w) :
    Calls Tryz.prog 60 #[.pointer (some ⟨b, 0, none⟩)] w fun e w' => e = .returned (hagg lo hi dg) ∧ St w0 H w' := by
  refine enter (vs := [.pointer (some ⟨b, 0, none⟩)]) Tryz.func60 rfl rfl rfl hw ?_
  clear hw w
  repeat (first | (apply gJO; refine JO_v (oL (V_loadA (tb := tb) rfl (List.Mem.tail _ hM) rfl rfl rfl rfl)) ?_) | first | (refine sx ?_; try intro _))
  refine JS_retC Tryz.func60 rfl (by first | exact ResV.agg (tb := tb) rfl (by repeat (first | apply List.Mem.head | apply List.Mem.tail)) rfl rfl rfl ResV.nil | exact ResV.agg (tb := tb) rfl (by repeat (first | apply List.Mem.head | apply List.Mem.tail)) rfl rfl rfl (ResV.tmp rfl ResV.nil) | exact ResV.agg (tb := tb) rfl (by repeat (first | apply List.Mem.head | apply List.Mem.tail)) rfl rfl rfl (ResV.tmp rfl (ResV.tmp rfl ResV.nil)) | exact ResV.one (tb := tb) rfl (by repeat (first | apply List.Mem.head | apply List.Mem.tail)) rfl rfl rfl ResV.nil | exact ResV.one (tb := tb) rfl (by repeat (first | apply List.Mem.head | apply List.Mem.tail)) rfl rfl rfl (ResV.tmp rfl ResV.nil) | exact ResV.one (tb := tb) rfl (by repeat (first | apply List.Mem.head | apply List.Mem.tail)) rfl rfl rfl (ResV.one (tb := tb) rfl (by repeat (first | apply List.Mem.head | apply List.Mem.tail)) rfl rfl rfl ResV.nil) | exact ResV.tmp rfl (ResV.agg (tb := tb) rfl (by repeat (first | apply List.Mem.head | apply List.Mem.tail)) rfl rfl rfl ResV.nil) | exact ResV.tmp rfl (ResV.one (tb := tb) rfl (by repeat (first | apply List.Mem.head | apply List.Mem.tail)) rfl rfl rfl ResV.nil)) ?_
  intro w hw
  exact ⟨rfl, dS hw⟩
end
end Go.Proofs.YteelffkghidpfaaGreat

set_option linter.unusedVariables false
namespace Sx
open Go
/-! a region that draws its order, where two loud operations may come up at once: a tree of orders -/
inductive FT where
  | leaf (st : List Nat)
  | node (st : List Nat) (i : Nat) (t : FT) (j : Nat) (u : FT)
inductive FTL where
  | leaf (l : List Oper)
  | node (l : List Oper) (o : Oper) (t : FTL) (o' : Oper) (u : FTL)
def FT.len : FT → Nat
  | .leaf st => st.length
  | .node st _ t _ _ => st.length + (t.len + 1)
def KN (P : Program) (E : List PanicEntry → List Deferred → World → Prop) (ops : Array Oper) (kt ku : (World → Prop) → Act → Prop) (o o' : Oper) : (World → Prop) → Act → Prop :=
  fun C a => walkN P E ops [] kt [o] C a ∧ walkN P E ops [] ku [o'] C a
def KT (P : Program) (E : List PanicEntry → List Deferred → World → Prop) (ops : Array Oper) (sy : List Nat) (K : (World → Prop) → Act → Prop) : FTL → (World → Prop) → Act → Prop
  | .leaf l => walkN P E ops sy K l
  | .node l o t o' u => walkN P E ops [] (KN P E ops (KT P E ops sy K t) (KT P E ops sy K u) o o') l
def preB (ops : Array Oper) (k : List Nat → Array Bool → Bool) : List Nat → List Nat → Array Bool → Bool
  | [], done, listed => k done listed
  | x :: st, done, listed =>
    match ops[x]? with
    | none => false
    | some o => !loud o.op && (Region.ready .any ops listed).contains x && Region.free .any ops listed x && preB ops k st (x :: done) (listed.setIfInBounds x true)
def isLoud (ops : Array Oper) (i : Nat) : Bool :=
  match ops[i]? with
  | none => false
  | some o => loud o.op
def tillT (ops : Array Oper) (sy : List Nat) : FT → List Nat → List Nat
  | .leaf st, done => till ops sy done st
  | .node st i t _ _, done => tillT ops sy t (i :: List.reverseAux st done)
def ordT (ops : Array Oper) (sy : List Nat) : FT → List Nat → Array Bool → Bool
  | .leaf st, done, listed => ordB ops sy done st listed
  | .node st i t j u, done, listed => preB ops (fun done listed =>
      isLoud ops i && isLoud ops j && Region.ready .any ops listed == [i, j] && t.len == u.len &&
      ordT ops sy t (i :: done) (listed.setIfInBounds i true) && ordT ops sy u (j :: done) (listed.setIfInBounds j true) &&
      (tillT ops sy t (i :: done)).all (tillT ops sy u (j :: done)).contains) st done listed
section
variable {P : Program} {E : List PanicEntry → List Deferred → World → Prop} {ops : Array Oper}
theorem tillT_sub {sy : List Nat} : ∀ (t : FT) (done : List Nat) (k : Nat), k ∈ done → calmAt ops k = false → k ∈ tillT ops sy t done
  | .leaf st, done, k, h, hc => till_sub _ _ _ h hc
  | .node st i t j u, done, k, h, hc => tillT_sub t _ k (List.mem_cons_of_mem _ (by rw [List.reverseAux_eq]; simp [h])) hc
theorem tillT_calm {sy : List Nat} : ∀ (t : FT) (done : List Nat) (k : Nat), k ∈ tillT ops sy t done → calmAt ops k = false
  | .leaf st, done, k, h => till_calm _ _ _ h
  | .node st i t j u, done, k, h => tillT_calm t _ k h
/-- what a step does to the book -/
theorem book {done : List Nat} {listed : Array Bool} {i : Nat} {o : Oper} (ho : ops[i]? = some o) (hrdy : i ∈ Region.ready .any ops listed) (hs : ∀ s ∈ done, s < ops.size) (hd : ∀ j, listed.getD j false = true ↔ j ∈ done) (hG : ∀ S, (∀ s ∈ done, calmAt ops s = false → s ∈ S) → Sofar ops S listed) :
    (∀ s ∈ i :: done, s < ops.size) ∧ (∀ j, (listed.setIfInBounds i true).getD j false = true ↔ j ∈ i :: done) ∧ (∀ S, (∀ s ∈ i :: done, calmAt ops s = false → s ∈ S) → Sofar ops S (listed.setIfInBounds i true)) := by
  have hi : i < ops.size := (Array.getElem?_eq_some_iff.1 ho).1
  have hiun : listed.getD i true = false := (mem_ready.1 hrdy).1
  have hlt : i < listed.size := by
    rcases Nat.lt_or_ge i listed.size with h' | h'
    · exact h'
    · simp [Array.getElem?_eq_none h'] at hiun
  have hd' : ∀ j, (listed.setIfInBounds i true).getD j false = true ↔ j ∈ i :: done := fun j => by
    by_cases hij : i = j
    · subst hij
      simp [hlt]
    · rw [getD_set_ne false hij, hd j]
      simp [Ne.symm hij]
  refine ⟨fun s hs' => (List.mem_cons.1 hs').elim (fun e => e ▸ hi) (hs s), hd', fun S hS => ⟨fun j oj hj hl e he hb => ?_, fun k hk hkc hl => absurd (hS k ((hd' k).1 hl) hkc) hk⟩⟩
  by_cases hij : i = j
  · subst hij
    rw [ho] at hj; cases hj
    obtain ⟨_, o', ho', hall⟩ := mem_ready.1 hrdy
    rw [ho] at ho'; cases ho'
    exact getD_set_true (hall e he hb)
  · rw [getD_set_ne false hij] at hl
    exact getD_set_true ((hG S fun s hs => hS s (List.mem_cons_of_mem _ hs)).down j oj hj hl e he hb)
inductive PickT (l : List Oper) : FT → FTL → Prop where
  | leaf {st : List Nat} {l' : List Oper} (h : Picks l st l') : PickT l (.leaf st) (.leaf l')
  | node {st : List Nat} {l' : List Oper} {i j : Nat} {o o' : Oper} {t u : FT} {t' u' : FTL} (h : Picks l st l') (hi : nthO l i = some o) (ht : PickT l t t') (hj : nthO l j = some o') (hu : PickT l u u') : PickT l (.node st i t j u) (.node l' o t' o' u')
/-- one of the two -/
theorem wpS_side {K : (World → Prop) → Act → Prop} {kt : (World → Prop) → Act → Prop} {i : Nat} {listed : Array Bool} {C : World → Prop} {a : Act} {S S' : List Nat} {o : Oper} {m : Nat}
    (ho : ops[i]? = some o) (hlo : loud o.op = true) (hS : ∀ s ∈ S, s ∈ S')
    (hrest : ∀ C a, kt C a → ∀ w, C w → wpS P E ops C S' (fun a w => ∃ C' : World → Prop, C' w ∧ K C' a) m (listed.setIfInBounds i true) a w)
    (h : walkN P E ops [] kt [o] C a) (w : World) (hw : C w) :
    stepN P E ops i (fun a' w' => (i ∈ S → C w') ∧ wpS P E ops C S (fun a w => ∃ C' : World → Prop, C' w ∧ K C' a) m (listed.setIfInBounds i true) a' w') a w := by
  have fin : ∀ (a' : Act) (w' : World) (C' : World → Prop), C' w' → (∀ w, C' w → C w) → kt C' a' →
      ((i ∈ S → C w') ∧ wpS P E ops C S (fun a w => ∃ C' : World → Prop, C' w ∧ K C' a) m (listed.setIfInBounds i true) a' w') := by
    intro a' w' C' hw' hsub hn
    exact ⟨fun _ => hsub _ hw', wpS_weak _ _ _ _ (fun j hj _ => ⟨hS j hj, hsub⟩) (hrest C' a' hn w' hw')⟩
  simp only [walkN] at h
  unfold stepN
  simp only [ho]
  by_cases hwt : Region.wanted o (yielded ops a.tmps) = true
  · rw [if_pos hwt] at h ⊢
    rcases h with ⟨hq, _⟩ | ⟨_, hn⟩
    · rw [hlo] at hq; cases hq
    · exact Oper.wpN_mono (fun a' w' ⟨C', hw', hor, hn'⟩ => fin a' w' C' hw' (hor.resolve_right (by simp)) hn') (hn w hw)
  · rw [if_neg hwt] at h ⊢
    exact fin _ _ C hw (fun _ h => h) h
/-- the book: what has come up, what it was waiting for -/
structure Book (ops : Array Oper) (done : List Nat) (listed : Array Bool) : Prop where
  hs : ∀ s ∈ done, s < ops.size
  hd : ∀ j, listed.getD j false = true ↔ j ∈ done
  hG : ∀ S, (∀ s ∈ done, calmAt ops s = false → s ∈ S) → Sofar ops S listed
theorem Book.step {done : List Nat} {listed : Array Bool} {i : Nat} {o : Oper} (b : Book ops done listed) (ho : ops[i]? = some o) (hrdy : i ∈ Region.ready .any ops listed) : Book ops (i :: done) (listed.setIfInBounds i true) :=
  let ⟨h1, h2, h3⟩ := book ho hrdy b.hs b.hd b.hG
  ⟨h1, h2, h3⟩
theorem mem_reverseAux {k : Nat} : ∀ (st done : List Nat), k ∈ done → k ∈ List.reverseAux st done
  | [], _, h => h
  | _ :: st, _, h => mem_reverseAux st _ (List.mem_cons_of_mem _ h)
theorem preB_end {kb : List Nat → Array Bool → Bool} : ∀ (st done : List Nat) (listed : Array Bool), preB ops kb st done listed = true → Book ops done listed → ∃ listed', kb (List.reverseAux st done) listed' = true ∧ Book ops (List.reverseAux st done) listed'
  | [], _, listed, hB, hb => ⟨listed, hB, hb⟩
  | x :: st, done, listed, hB, hb => by
    cases ho : ops[x]? with
    | none => simp [preB, ho] at hB
    | some o =>
      simp only [preB, ho, Bool.and_eq_true, Bool.not_eq_true'] at hB
      obtain ⟨⟨⟨_, hrd⟩, _⟩, hB3⟩ := hB
      exact preB_end st (x :: done) _ hB3 (hb.step ho (by simpa using hrd))
theorem ordT_gate {sy : List Nat} : ∀ (t : FT) (done : List Nat) (listed : Array Bool), ordT ops sy t done listed = true → Book ops done listed → Gate ops (tillT ops sy t done) ∧ ∀ s ∈ tillT ops sy t done, s < ops.size
  | .leaf st, done, listed, hB, hb => ordB_gate st done listed hB hb.hs
  | .node st i t j u, done, listed, hB, hb => by
    simp only [ordT] at hB
    obtain ⟨listed', hB', hb'⟩ := preB_end st done listed hB hb
    simp only [Bool.and_eq_true, beq_iff_eq] at hB'
    obtain ⟨⟨⟨⟨⟨⟨hli, _⟩, hr⟩, _⟩, hB1⟩, _⟩, _⟩ := hB'
    cases hoi : ops[i]? with
    | none => simp [isLoud, hoi] at hli
    | some oi => exact ordT_gate t _ _ hB1 (hb'.step hoi (by rw [hr]; simp))
/-- quiet operations ahead -/
theorem wpS_pre {kt : (World → Prop) → Act → Prop} {Q : Act → World → Prop} {S : List Nat} {m : Nat} (hsel : Region.noSelect ops = true) {kb : List Nat → Array Bool → Bool} (hSc : ∀ s ∈ S, calmAt ops s = false) (hg : Gate ops S) (hz : ∀ s ∈ S, s < ops.size) :
    ∀ (st done : List Nat) (l : List Oper) (listed : Array Bool) (C : World → Prop) (a : Act),
    l.map some = st.map (fun i => ops[i]?) → preB ops kb st done listed = true → Book ops done listed → (∀ s ∈ List.reverseAux st done, calmAt ops s = false → s ∈ S) →
    (∀ listed, kb (List.reverseAux st done) listed = true → Book ops (List.reverseAux st done) listed → ∀ C a, kt C a → ∀ w, C w → wpS P E ops C S Q m listed a w) →
    walkN P E ops [] kt l C a → ∀ w, C w → wpS P E ops C S Q (st.length + m) listed a w
  | [], done, l, listed, C, a, hl, hB, hb, hS, hk, h => by
    have : l = [] := by simpa using hl
    subst this
    have h2 := hk listed hB hb
    intro w hw
    rw [List.length_nil, Nat.zero_add]
    exact h2 C a h w hw
  | x :: st, done, [], listed, C, a, hl, hB, hb, hS, hk, h => by simp at hl
  | x :: st, done, o :: l, listed, C, a, hl, hB, hb, hS, hk, h => by
    simp only [List.map_cons, List.cons.injEq] at hl
    have ho : ops[x]? = some o := hl.1.symm
    simp only [preB, ho, Bool.and_eq_true, Bool.not_eq_true'] at hB
    obtain ⟨⟨⟨hlo, hrd⟩, hfr⟩, hB3⟩ := hB
    have hrdy : x ∈ Region.ready .any ops listed := by simpa using hrd
    simp only [walkN] at h
    have key : ∀ v, Stays P ops C o v a → walkN P E ops [] kt l C (a.put o.dst v) → ∀ w, C w → wpS P E ops C S Q ((x :: st).length + m) listed a w := by
      intro v hst hn
      have h1 := wpS_pre hsel hSc hg hz st (x :: done) l (listed.setIfInBounds x true) C (a.put o.dst v) hl.2 hB3 (hb.step ho hrdy) hS hk hn
      intro w hw
      have e : (x :: st).length + m = (st.length + m) + 1 := by simp; omega
      rw [e]
      cases hcal : calm o.op with
      | false =>
        exact wpS_first ho (Region.noSelect_spec hsel) hg hz (hS x (mem_reverseAux st _ (List.mem_cons_self ..)) (by unfold calmAt; simp only [ho]; exact hcal)) _ listed a w (hb.hG _ fun s hs hc => hS s (mem_reverseAux st _ (List.mem_cons_of_mem _ hs)) hc) (Region.free_spec ho hfr) hrdy hst hw (h1 w hw)
      | true =>
        exact wpS_calm ho (Region.noSelect_spec hsel) (fun h => by have h' := hSc _ h; unfold calmAt at h'; simp only [ho, hcal] at h'; cases h') _ listed a w (Region.free_spec ho hfr) hrdy (hst.calm hcal hw) (h1 w hw)
    by_cases hwt : Region.wanted o (yielded ops a.tmps) = true
    · rw [if_pos hwt] at h
      rcases h with ⟨_, v, hv, hn⟩ | ⟨hlo', _⟩
      · exact key v (.inl ⟨hwt, hv⟩) hn
      · rw [hlo] at hlo'; cases hlo'
    · rw [if_neg hwt] at h
      exact key undef (.inr ⟨by simpa using hwt, rfl⟩) h
theorem isLoud_spec {i : Nat} {o : Oper} (ho : ops[i]? = some o) (h : isLoud ops i = true) : loud o.op = true := by
  unfold isLoud at h
  rw [ho] at h; exact h
theorem wpS_tree {sy : List Nat} {K : (World → Prop) → Act → Prop} {l : List Oper} (hops : ops = l.toArray) (hsel : Region.noSelect ops = true) :
    ∀ (t : FT) (t' : FTL), PickT l t t' → ∀ (done : List Nat) (listed : Array Bool), ordT ops sy t done listed = true → Book ops done listed →
    ∀ C a, KT P E ops sy K t' C a → ∀ w, C w → wpS P E ops C (tillT ops sy t done) (fun a w => ∃ C' : World → Prop, C' w ∧ K C' a) t.len listed a w := by
  subst hops
  intro t
  induction t with
  | leaf st =>
    intro t' hp done listed hB hb
    cases hp with
    | leaf h => exact fun C a hk w hw => wpS_walk hsel st done _ listed C a h.map hB hb.hs hb.hd hb.hG hk w hw
  | node st i t j u iht ihu =>
    intro t' hp done listed hB hb C a hk w hw
    cases hp with
    | node h hi ht hj hu =>
      rename_i l' o o' tt uu
      have hoi : l.toArray[i]? = some o := by rw [← nthO_eq]; exact hi
      have hoj : l.toArray[j]? = some o' := by rw [← nthO_eq]; exact hj
      obtain ⟨hg, hz⟩ := ordT_gate _ _ _ hB hb
      simp only [ordT] at hB
      refine wpS_pre hsel (tillT_calm (.node st i t j u) done) hg hz st done l' listed C a h.map hB hb (fun s hs hc => tillT_sub t _ s (List.mem_cons_of_mem _ hs) hc) ?_ hk w hw
      intro listed' hB' hb' C a ⟨hk1, hk2⟩ w hw
      simp only [Bool.and_eq_true, beq_iff_eq, List.all_eq_true] at hB'
      obtain ⟨⟨⟨⟨⟨⟨hli, hlj⟩, hr⟩, hlen⟩, hB1⟩, hB2⟩, hall⟩ := hB'
      have hri : i ∈ Region.ready .any l.toArray listed' := by rw [hr]; simp
      have hrj : j ∈ Region.ready .any l.toArray listed' := by rw [hr]; simp
      have hA := iht tt ht _ _ hB1 (hb'.step hoi hri)
      have hBr := ihu uu hu _ _ hB2 (hb'.step hoj hrj)
      refine ⟨fun h0 => (by rw [h0] at hri; cases hri), fun k hk => ?_⟩
      rw [hr] at hk
      simp only [List.mem_cons, List.not_mem_nil, or_false] at hk
      rcases hk with rfl | rfl
      · exact wpS_side (K := K) hoi (isLoud_spec hoi hli) (fun s h => h) hA hk1 w hw
      · have := wpS_side (K := K) (S := tillT l.toArray sy t (i :: List.reverseAux st done)) hoj (isLoud_spec hoj hlj) (fun s h => by simpa using hall s h) hBr hk2 w hw
        rw [← hlen] at this
        exact this
end
section
variable {P : Program} {f n : Nat} {R : Ending → World → Prop} {D : List Deferred} {w0 : World} {k : List Item} {ov : Ov} {H : List Asn} {K : KC}
theorem QR_leaf {ops : Array Oper} {sy : List Nat} {l : List Oper} (h : QR P n D w0 (ops, sy) l ov H K) : QR P n D w0 (ops, []) [] ov H ⟨KT P K.e ops sy K.k (.leaf l), K.e⟩ := by
  unfold QR at *
  intro a ha
  simp only [walkN, KT]
  exact h a ha
theorem QR_node {ops : Array Oper} {sy : List Nat} {l : List Oper} {o o' : Oper} {t u : FTL} (h : QR P n D w0 (ops, []) l ov H ⟨KN P K.e ops (KT P K.e ops sy K.k t) (KT P K.e ops sy K.k u) o o', K.e⟩) : QR P n D w0 (ops, []) [] ov H ⟨KT P K.e ops sy K.k (.node l o t o' u), K.e⟩ := by
  unfold QR at *
  intro a ha
  simp only [walkN, KT]
  exact h a ha
theorem QR_both {ops : Array Oper} {o o' : Oper} {kt ku : (World → Prop) → Act → Prop} {e : List PanicEntry → List Deferred → World → Prop} (h1 : QR P n D w0 (ops, []) [o] ov H ⟨kt, e⟩) (h2 : QR P n D w0 (ops, []) [o'] ov H ⟨ku, e⟩) : QR P n D w0 (ops, []) [] ov H ⟨KN P e ops kt ku o o', e⟩ := by
  unfold QR at *
  intro a ha
  exact ⟨h1 a ha, h2 a ha⟩
theorem JS_tree {id : Nat} {l : List Oper} (t : FT) (sy : List Nat) {t' : FTL} (hp : PickT l t t') (hm : P.follows .mixedOrders = true) (hs : Region.noSelect l.toArray = true)
    (hlen : t.len = l.length) (hB : ordT l.toArray sy t [] (Array.replicate l.length false) = true) (h : QR P n D w0 (l.toArray, []) [] ov H ⟨KT P (QK P f R k).e l.toArray sy (QK P f R k).k t', (QK P f R k).e⟩) :
    JS P f n R D w0 (.code (.region id l.toArray true) :: k) ov H := by
  unfold JS
  intro a w ha hw
  refine J_of_wpE (Q := QQ P f R k) (wp_region_any hm ?_) fun e a' w' h => h
  have h0 : ∀ j, (Array.replicate l.length false).getD j false = false := fun j => by
    rcases Nat.lt_or_ge j l.length with h | h
    · simp [h]
    · simp [h]
  unfold QR at h
  have hk := h a ha
  simp only [walkN] at hk
  have hws := wpS_tree (P := P) (E := (QK P f R k).e) (K := (QK P f R k).k) (sy := sy) rfl hs t t' hp [] (Array.replicate l.length false) hB ⟨by simp, fun j => by rw [h0 j]; simp, fun S _ => ⟨fun j oj _ hj => (by rw [h0 j] at hj; cases hj), fun k _ _ hk => (by rw [h0 k] at hk; cases hk)⟩⟩ (St w0 H) a hk w.drew hw.drew
  have := wpAny_of_S (Q' := QQ P f R k) (fun ch a w h => by unfold QK at h; exact h) (fun a w ⟨C, hC, hk⟩ => by unfold QK at hk; exact hk w hC) _ _ _ _ hws
  rw [hlen] at this
  simpa using this
end
end Sx

namespace Go.Proofs.YteelffkghidpfaaGreat
open Sx Go
set_option linter.unusedVariables false
set_option linter.unusedSimpArgs false
/-- is the pair at a place right? -/
def OKat (T : List (Int × Int)) (i : Nat) : Prop := (T.getD i (0, 0)).2 ≠ 0 ∧ (T.getD i (0, 0)).2 ≤ 4611686018427387904 - sw (T.take i) ∧ (0 < i → (T.getD (i - 1) (0, 0)).1 < (T.getD i (0, 0)).1)
def RIGHT (T : List (Int × Int)) : Prop := ∀ i, i < T.length → OKat T i
theorem swT_nn {T : List (Int × Int)} (h : OKT T) : ∀ i, i ≤ T.length → 0 ≤ sw (T.take i)
  | 0, _ => by simp [sw]
  | i + 1, hi => by
    rw [sw_take T i (by omega)]
    have := swT_nn h i (by omega)
    have := (h.get i (by omega)).2
    omega
theorem swT_le {i : Nat} {T : List (Int × Int)} (hT : OKT T) (h : ∀ j, j < i → OKat T j) (hi : i ≤ T.length) : sw (T.take i) ≤ 4611686018427387904 := by
  cases i with
  | zero => simp [sw]
  | succ i =>
    rw [sw_take T i (by omega)]
    have := (h i (by omega)).2.1
    omega
def keysT (T : List (Int × Int)) (i : Nat) : List Int := tab i fun j => (T.getD j (0, 0)).1
def uptoT (T : List (Int × Int)) (i : Nat) : List Int := tab i fun j => sw (T.take (j + 1))
/-- a table that stands in memory -/
structure IsTab (w0 : World) (H : List Asn) (b : Nat) (T : List (Int × Int)) : Prop where
  ok : ∃ pk ck pu cu, blk b [.slice pk T.length ck, .slice pu T.length cu] ∈ H ∧ Rd w0 H (.slice pk T.length ck) T.length (ints .i64 (keysT T T.length)) ∧ Rd w0 H (.slice pu T.length cu) T.length (ints .u64 (uptoT T T.length))
  hT : OKT T
  hR : RIGHT T
theorem IsTab.sub {w0 H H' b T} (h : IsTab w0 H b T) (hs : H.Sublist H') : IsTab w0 H' b T := by
  obtain ⟨⟨pk, ck, pu, cu, h1, h2, h3⟩, hT, hR⟩ := h
  exact ⟨⟨pk, ck, pu, cu, hs.subset h1, Rd_weak h2 fun w hw => St.sub hs hw, Rd_weak h3 fun w hw => St.sub hs hw⟩, hT, hR⟩
set_option maxRecDepth 10000 in
set_option maxHeartbeats 4000000 in
theorem WNewA_c {w0 : World} {H : List Asn} (p : Option Addr) (c m : Nat) (T : List (Int × Int)) (hr : Rd w0 H (.slice p m c) m (flat T)) (hm : T.length = m) (hT : OKT T) (hm1 : m ≤ 1000000) (w : World) (hw : St w0 H w) :
    Calls Tryz.prog 113 #[.slice p m c] w fun e w' => ∃ u r, e = .returned (.tuple #[u, .int .i64 r]) ∧
      ((¬ RIGHT T ∧ u = .pointer none ∧ r = 1 ∧ St w0 H w') ∨ (RIGHT T ∧ r = 0 ∧ ∃ b a1 a2 a3, u = .pointer (some ⟨b, 0, none⟩) ∧ (∀ H', IsTab w0 (a1 :: a2 :: a3 :: H') b T) ∧ St w0 (a1 :: a2 :: a3 :: H) w')) := by
  refine enter (vs := [.slice p m c]) Tryz.func113 rfl rfl rfl hw ?_
  repeat (first | (apply gJR; first | (refine sx ?_; try intro _)) | (apply gJO; first | (refine sx ?_; try intro _)) | apply JS_seq | apply JS_region)
  rename_i b
  refine JS_block ?_
  refine JS_loop5 (fun (i : Nat) (pk : Option Addr) (ck : Nat) (pu : Option Addr) (cu : Nat) => [(0, .slice p m c), (4, .pointer (some ⟨b, 0, none⟩)), (5, .int .u64 (sw (T.take i))), (10, .slice p m c), (11, .int .i64 m), (12, .int .i64 i)])
    (fun i pk ck pu cu => blk b [.slice pk i ck, .slice pu i cu] :: vec 3 1 (.slice pk i ck) i (ints .i64 (keysT T i)) :: vec 48 1 (.slice pu i cu) i (ints .u64 (uptoT T i)) :: H)
    (fun i _ _ _ _ => i ≤ m ∧ ∀ j, j < i → OKat T j) (fun i _ _ _ _ => m - i) 0 none 0 none 0 ⟨by omega, fun j h => absurd h (by omega)⟩ (by repeat (first | exact trivial | refine ⟨rfl, ?_⟩ | refine ⟨lookI rfl (by omega), ?_⟩)) (fun w hw => by
      have h1 : St w0 (vec 48 1 (.slice none 0 0) 0 [] :: blk b [.slice none 0 0, .slice none 0 0] :: H) w := St.nilvec hw
      have h2 : St w0 (vec 3 1 (.slice none 0 0) 0 [] :: vec 48 1 (.slice none 0 0) 0 [] :: blk b [.slice none 0 0, .slice none 0 0] :: H) w := St.nilvec h1
      exact h2.perm (((List.Perm.cons _ (List.Perm.swap _ _ _)).trans (List.Perm.swap _ _ _)))) ?_
  intro i pk ck pu cu ⟨hi, hok⟩ again
  have hs0 := swT_nn hT i (by omega)
  have hs1 := swT_le hT hok (by omega)
  by_cases him : i < m
  · have ht := hT.get i (by omega)
    have hsw := sw_take T i (by omega)
    have gA := flat_seg T i (by omega)
    have hku : keysT T (i + 1) = keysT T i ++ [(T.getD i (0, 0)).1] := tab_succ _ _
    have huu : uptoT T (i + 1) = uptoT T i ++ [sw (T.take (i + 1))] := tab_succ _ _
    have hlk : (keysT T i).length = i := tab_len _ _
    have hlu : (uptoT T i).length = i := tab_len _ _
    have hprev : 0 < i → (flat T)[(i - 1) * 2]? = some (.int .i64 (T.getD (i - 1) (0, 0)).1) := fun h => flat_get0 T (i - 1) (by omega)
    have hat : OKat T i ↔ (T.getD i (0, 0)).2 ≠ 0 ∧ (T.getD i (0, 0)).2 ≤ 4611686018427387904 - sw (T.take i) ∧ (0 < i → (T.getD (i - 1) (0, 0)).1 < (T.getD i (0, 0)).1) := Iff.rfl
    have hnr : ¬ OKat T i → ¬ RIGHT T := fun h h2 => h (h2 i (by omega))
    have hnext : OKat T i → ∀ j, j < i + 1 → OKat T j := fun h j hj => by
      rcases Nat.lt_or_ge j i with h2 | h2
      · exact hok j h2
      · obtain rfl : j = i := by omega
        exact h
    rw [hsw] at huu
    have hbd : ∀ j, j < T.length → -9223372036854775808 ≤ (T.getD j (0, 0)).1 ∧ (T.getD j (0, 0)).1 < 9223372036854775808 := fun j hj => (hT.get j hj).1
    generalize T.getD i (0, 0) = t at *
    obtain ⟨tk, tn⟩ := t
    simp only [] at *
    generalize sw (T.take i) = S at *
    have gP := hprev
    by_cases h1 : tn = 0
    · have hno : ¬ OKat T i := fun h => (hat.1 h).1 h1
      repeat (first | (apply gJO; refine JO_v (V_loadCA (tb := tb) (vs := [.int .i64 tk, .int .u64 tn]) rfl (by first | exact vec_rd (by repeat (first | apply List.Mem.head | apply List.Mem.tail)) | assumption | exact ArgRd.rd (by assumption) _ | (apply Rd_weak; assumption; intro _ hx; exact dS hx)) rfl rfl rfl (by omega) gA rfl) ?_) | (first | (refine sx ?_; try intro _)))
      refine JS_ret Tryz.func113 rfl rfl ?_
      intro w hw
      exact ⟨_, _, rfl, .inl ⟨hnr hno, rfl, rfl, dS hw⟩⟩
    by_cases h2 : 4611686018427387904 - S < tn
    · have hno : ¬ OKat T i := fun h => absurd (hat.1 h).2.1 (by omega)
      repeat (first | (apply gJO; refine JO_v (V_loadCA (tb := tb) (vs := [.int .i64 tk, .int .u64 tn]) rfl (by first | exact vec_rd (by repeat (first | apply List.Mem.head | apply List.Mem.tail)) | assumption | exact ArgRd.rd (by assumption) _ | (apply Rd_weak; assumption; intro _ hx; exact dS hx)) rfl rfl rfl (by omega) gA rfl) ?_) | (first | (refine sx ?_; try intro _)))
      refine JS_ret Tryz.func113 rfl rfl ?_
      intro w hw
      exact ⟨_, _, rfl, .inl ⟨hnr hno, rfl, rfl, dS hw⟩⟩
    by_cases h3 : 0 < i
    · have hm1' : ((i : Int) - 1).toNat * 2 + 0 = (i - 1) * 2 := by omega
      have gp := hprev h3
      have hidx : ((i : Int) - 1).toNat * 2 = (i - 1) * 2 := by omega
      have hb1 := hbd (i - 1) (by omega)
      generalize (T.getD (i - 1) (0, 0)).1 = pv at *
      by_cases h4 : tk ≤ pv
      · have hno : ¬ OKat T i := fun h => absurd ((hat.1 h).2.2 h3) (by omega)
        repeat (first | (apply gJO; refine JO_v (V_loadCA (tb := tb) (vs := [.int .i64 tk, .int .u64 tn]) rfl (by first | exact vec_rd (by repeat (first | apply List.Mem.head | apply List.Mem.tail)) | assumption | exact ArgRd.rd (by assumption) _ | (apply Rd_weak; assumption; intro _ hx; exact dS hx)) rfl rfl rfl (by omega) gA rfl) ?_) | (apply gQO; first | refine QO_v rfl (V_index (tb := tb) rfl rfl rfl rfl (by first | exact Rd.sl (vec_rd (by repeat (first | apply List.Mem.head | apply List.Mem.tail))) | exact Rd.sl (by assumption) | exact Rd.sl (ArgRd.rd (by assumption) _) | (apply Rd.sl; (apply Rd_weak; assumption; intro _ hx; exact dS hx))) (by omega) hidx rfl) ?_ | refine QO_v rfl (V_loadC (tb := tb) rfl (by first | exact vec_rd (by repeat (first | apply List.Mem.head | apply List.Mem.tail)) | assumption | exact ArgRd.rd (by assumption) _ | (apply Rd_weak; assumption; intro _ hx; exact dS hx)) rfl rfl gp rfl) ?_) | (first | (refine sx ?_; try intro _)))
        refine JS_ret Tryz.func113 rfl rfl ?_
        intro w hw
        exact ⟨_, _, rfl, .inl ⟨hnr hno, rfl, rfl, dS hw⟩⟩
      · have hyes := hnext (hat.2 ⟨h1, by omega, fun _ => by omega⟩)
        repeat (first | (apply gJO; refine JO_v (V_loadCA (tb := tb) (vs := [.int .i64 tk, .int .u64 tn]) rfl (by first | exact vec_rd (by repeat (first | apply List.Mem.head | apply List.Mem.tail)) | assumption | exact ArgRd.rd (by assumption) _ | (apply Rd_weak; assumption; intro _ hx; exact dS hx)) rfl rfl rfl (by omega) gA rfl) ?_) | (apply gQO; first | refine QO_v rfl (V_index (tb := tb) rfl rfl rfl rfl (by first | exact Rd.sl (vec_rd (by repeat (first | apply List.Mem.head | apply List.Mem.tail))) | exact Rd.sl (by assumption) | exact Rd.sl (ArgRd.rd (by assumption) _) | (apply Rd.sl; (apply Rd_weak; assumption; intro _ hx; exact dS hx))) (by omega) hidx rfl) ?_ | refine QO_v rfl (V_loadC (tb := tb) rfl (by first | exact vec_rd (by repeat (first | apply List.Mem.head | apply List.Mem.tail)) | assumption | exact ArgRd.rd (by assumption) _ | (apply Rd_weak; assumption; intro _ hx; exact dS hx)) rfl rfl gp rfl) ?_) | (first | (refine sx ?_; try intro _)))
        refine JS_tree (.node [0, 1, 2, 3, 4, 5, 6, 7, 10, 11, 12, 13, 14] 8 (.node [] 9 (.leaf [15, 16, 17, 18, 19, 20, 21, 22]) 15 (.leaf [9, 16, 17, 18, 19, 20, 21, 22])) 15 (.leaf [8, 9, 16, 17, 18, 19, 20, 21, 22])) [0, 3] (.node (Picks.cons rfl (Picks.cons rfl (Picks.cons rfl (Picks.cons rfl (Picks.cons rfl (Picks.cons rfl (Picks.cons rfl (Picks.cons rfl (Picks.cons rfl (Picks.cons rfl (Picks.cons rfl (Picks.cons rfl (Picks.cons rfl (Picks.nil)))))))))))))) rfl (.node Picks.nil rfl (.leaf (Picks.cons rfl (Picks.cons rfl (Picks.cons rfl (Picks.cons rfl (Picks.cons rfl (Picks.cons rfl (Picks.cons rfl (Picks.cons rfl (Picks.nil)))))))))) rfl (.leaf (Picks.cons rfl (Picks.cons rfl (Picks.cons rfl (Picks.cons rfl (Picks.cons rfl (Picks.cons rfl (Picks.cons rfl (Picks.cons rfl (Picks.nil))))))))))) rfl (.leaf (Picks.cons rfl (Picks.cons rfl (Picks.cons rfl (Picks.cons rfl (Picks.cons rfl (Picks.cons rfl (Picks.cons rfl (Picks.cons rfl (Picks.cons rfl (Picks.nil)))))))))))) (by kernel_rfl) (by kernel_rfl) rfl (by decide +kernel) ?_
        refine QR_node ?_
        repeat (first | (refine sx ?_; try intro _))
        refine QR_both ?_ ?_
        · apply QR_un
          (refine QO_e (E_buildSlice (tb := tb) rfl rfl rfl rfl rfl rfl rfl rfl rfl) rfl (.inr fun _ _ hw => dS hw) ?_; intro _)
          refine QR_node ?_
          refine QR_both ?_ ?_
          · apply QR_un
            (refine QO_e (E_appendB (tb := tb) rfl rfl rfl rfl rfl rfl (by repeat (first | exact Sel.here _ _ | apply Sel.there)) (by first | exact vec_rd (by repeat (first | apply List.Mem.head | apply List.Mem.tail)) | assumption | exact ArgRd.rd (by assumption) _ | (apply Rd_weak; assumption; intro _ hx; exact dS hx)) (by simp only [ints_len, List.length_cons, List.length_nil]; first | omega | rfl) (by first | exact ints_one | (repeat (first | exact trivial | refine ⟨rfl, ?_⟩))) (by omega) (by omega) rfl) rfl (.inr fun _ _ hw => vecB_back (by repeat (first | exact Sel.here _ _ | apply Sel.there)) hw) ?_; intro _)
            refine QR_leaf ?_
            repeat (first | (apply gQO; first | (refine QO_e (E_appendB (tb := tb) rfl rfl rfl rfl rfl rfl (by repeat (first | exact Sel.here _ _ | apply Sel.there)) (by first | exact vec_rd (by repeat (first | apply List.Mem.head | apply List.Mem.tail)) | assumption | exact ArgRd.rd (by assumption) _ | (apply Rd_weak; assumption; intro _ hx; exact dS hx)) (by simp only [ints_len, List.length_cons, List.length_nil]; first | omega | rfl) (by first | exact ints_one | (repeat (first | exact trivial | refine ⟨rfl, ?_⟩))) (by omega) (by omega) rfl) rfl (.inr fun _ _ hw => vecB_back (by repeat (first | exact Sel.here _ _ | apply Sel.there)) hw) ?_; intro _) | (refine QO_e (E_buildSlice (tb := tb) rfl rfl rfl rfl rfl rfl rfl rfl rfl) rfl (.inr fun _ _ hw => dS hw) ?_; intro _)) | (first | (refine sx ?_; try intro _)))
            rename_i a8 c9 a15 c16
            exact JS_again5 again (i + 1) c9.1 c9.2 c16.1 c16.2 ⟨by omega, hyes⟩ (by omega) (by exact ⟨rfl, rfl, lookI rfl (by omega), rfl, rfl, rfl, trivial⟩) (fun w hw => by rw [hku, huu, ← ints_app1, ← ints_app1]; have g1 := vecB_fwd (by repeat (first | exact Sel.here _ _ | apply Sel.there)) hw; have g2 := vecB_fwd (by repeat (first | exact Sel.here _ _ | apply Sel.there)) g1; exact dS g2)
          · apply QR_un
            (refine QO_e (E_buildSlice (tb := tb) rfl rfl rfl rfl rfl rfl rfl rfl rfl) rfl (.inr fun _ _ hw => dS hw) ?_; intro _)
            refine QR_leaf ?_
            repeat (first | (apply gQO; first | (refine QO_e (E_appendB (tb := tb) rfl rfl rfl rfl rfl rfl (by repeat (first | exact Sel.here _ _ | apply Sel.there)) (by first | exact vec_rd (by repeat (first | apply List.Mem.head | apply List.Mem.tail)) | assumption | exact ArgRd.rd (by assumption) _ | (apply Rd_weak; assumption; intro _ hx; exact dS hx)) (by simp only [ints_len, List.length_cons, List.length_nil]; first | omega | rfl) (by first | exact ints_one | (repeat (first | exact trivial | refine ⟨rfl, ?_⟩))) (by omega) (by omega) rfl) rfl (.inr fun _ _ hw => vecB_back (by repeat (first | exact Sel.here _ _ | apply Sel.there)) hw) ?_; intro _) | (refine QO_e (E_buildSlice (tb := tb) rfl rfl rfl rfl rfl rfl rfl rfl rfl) rfl (.inr fun _ _ hw => dS hw) ?_; intro _)) | (first | (refine sx ?_; try intro _)))
            rename_i a8 a15 c9 c16
            exact JS_again5 again (i + 1) c9.1 c9.2 c16.1 c16.2 ⟨by omega, hyes⟩ (by omega) (by exact ⟨rfl, rfl, lookI rfl (by omega), rfl, rfl, rfl, trivial⟩) (fun w hw => by rw [hku, huu, ← ints_app1, ← ints_app1]; have g1 := vecB_fwd (by repeat (first | exact Sel.here _ _ | apply Sel.there)) hw; have g2 := vecB_fwd (by repeat (first | exact Sel.here _ _ | apply Sel.there)) g1; exact dS g2)
        · apply QR_un
          (refine QO_e (E_buildSlice (tb := tb) rfl rfl rfl rfl rfl rfl rfl rfl rfl) rfl (.inr fun _ _ hw => dS hw) ?_; intro _)
          refine QR_leaf ?_
          repeat (first | (apply gQO; first | (refine QO_e (E_appendB (tb := tb) rfl rfl rfl rfl rfl rfl (by repeat (first | exact Sel.here _ _ | apply Sel.there)) (by first | exact vec_rd (by repeat (first | apply List.Mem.head | apply List.Mem.tail)) | assumption | exact ArgRd.rd (by assumption) _ | (apply Rd_weak; assumption; intro _ hx; exact dS hx)) (by simp only [ints_len, List.length_cons, List.length_nil]; first | omega | rfl) (by first | exact ints_one | (repeat (first | exact trivial | refine ⟨rfl, ?_⟩))) (by omega) (by omega) rfl) rfl (.inr fun _ _ hw => vecB_back (by repeat (first | exact Sel.here _ _ | apply Sel.there)) hw) ?_; intro _) | (refine QO_e (E_buildSlice (tb := tb) rfl rfl rfl rfl rfl rfl rfl rfl rfl) rfl (.inr fun _ _ hw => dS hw) ?_; intro _)) | (first | (refine sx ?_; try intro _)))
          rename_i a15 a8 c9 c16
          exact JS_again5 again (i + 1) c9.1 c9.2 c16.1 c16.2 ⟨by omega, hyes⟩ (by omega) (by exact ⟨rfl, rfl, lookI rfl (by omega), rfl, rfl, rfl, trivial⟩) (fun w hw => by rw [hku, huu, ← ints_app1, ← ints_app1]; have g1 := vecB_fwd (by repeat (first | exact Sel.here _ _ | apply Sel.there)) hw; have g2 := vecB_fwd (by repeat (first | exact Sel.here _ _ | apply Sel.there)) g1; exact dS g2)
    · have hyes := hnext (hat.2 ⟨h1, by omega, fun h => absurd h h3⟩)
      repeat (first | (apply gJO; refine JO_v (V_loadCA (tb := tb) (vs := [.int .i64 tk, .int .u64 tn]) rfl (by first | exact vec_rd (by repeat (first | apply List.Mem.head | apply List.Mem.tail)) | assumption | exact ArgRd.rd (by assumption) _ | (apply Rd_weak; assumption; intro _ hx; exact dS hx)) rfl rfl rfl (by omega) gA rfl) ?_) | (first | (refine sx ?_; try intro _)))
      refine JS_tree (.node [0, 1, 2, 3, 4, 5, 6, 7, 10, 11, 12, 13, 14] 8 (.node [] 9 (.leaf [15, 16, 17, 18, 19, 20, 21, 22]) 15 (.leaf [9, 16, 17, 18, 19, 20, 21, 22])) 15 (.leaf [8, 9, 16, 17, 18, 19, 20, 21, 22])) [0, 3] (.node (Picks.cons rfl (Picks.cons rfl (Picks.cons rfl (Picks.cons rfl (Picks.cons rfl (Picks.cons rfl (Picks.cons rfl (Picks.cons rfl (Picks.cons rfl (Picks.cons rfl (Picks.cons rfl (Picks.cons rfl (Picks.cons rfl (Picks.nil)))))))))))))) rfl (.node Picks.nil rfl (.leaf (Picks.cons rfl (Picks.cons rfl (Picks.cons rfl (Picks.cons rfl (Picks.cons rfl (Picks.cons rfl (Picks.cons rfl (Picks.cons rfl (Picks.nil)))))))))) rfl (.leaf (Picks.cons rfl (Picks.cons rfl (Picks.cons rfl (Picks.cons rfl (Picks.cons rfl (Picks.cons rfl (Picks.cons rfl (Picks.cons rfl (Picks.nil))))))))))) rfl (.leaf (Picks.cons rfl (Picks.cons rfl (Picks.cons rfl (Picks.cons rfl (Picks.cons rfl (Picks.cons rfl (Picks.cons rfl (Picks.cons rfl (Picks.cons rfl (Picks.nil)))))))))))) (by kernel_rfl) (by kernel_rfl) rfl (by decide +kernel) ?_
      refine QR_node ?_
      repeat (first | (refine sx ?_; try intro _))
      refine QR_both ?_ ?_
      · apply QR_un
        (refine QO_e (E_buildSlice (tb := tb) rfl rfl rfl rfl rfl rfl rfl rfl rfl) rfl (.inr fun _ _ hw => dS hw) ?_; intro _)
        refine QR_node ?_
        refine QR_both ?_ ?_
        · apply QR_un
          (refine QO_e (E_appendB (tb := tb) rfl rfl rfl rfl rfl rfl (by repeat (first | exact Sel.here _ _ | apply Sel.there)) (by first | exact vec_rd (by repeat (first | apply List.Mem.head | apply List.Mem.tail)) | assumption | exact ArgRd.rd (by assumption) _ | (apply Rd_weak; assumption; intro _ hx; exact dS hx)) (by simp only [ints_len, List.length_cons, List.length_nil]; first | omega | rfl) (by first | exact ints_one | (repeat (first | exact trivial | refine ⟨rfl, ?_⟩))) (by omega) (by omega) rfl) rfl (.inr fun _ _ hw => vecB_back (by repeat (first | exact Sel.here _ _ | apply Sel.there)) hw) ?_; intro _)
          refine QR_leaf ?_
          repeat (first | (apply gQO; first | (refine QO_e (E_appendB (tb := tb) rfl rfl rfl rfl rfl rfl (by repeat (first | exact Sel.here _ _ | apply Sel.there)) (by first | exact vec_rd (by repeat (first | apply List.Mem.head | apply List.Mem.tail)) | assumption | exact ArgRd.rd (by assumption) _ | (apply Rd_weak; assumption; intro _ hx; exact dS hx)) (by simp only [ints_len, List.length_cons, List.length_nil]; first | omega | rfl) (by first | exact ints_one | (repeat (first | exact trivial | refine ⟨rfl, ?_⟩))) (by omega) (by omega) rfl) rfl (.inr fun _ _ hw => vecB_back (by repeat (first | exact Sel.here _ _ | apply Sel.there)) hw) ?_; intro _) | (refine QO_e (E_buildSlice (tb := tb) rfl rfl rfl rfl rfl rfl rfl rfl rfl) rfl (.inr fun _ _ hw => dS hw) ?_; intro _)) | (first | (refine sx ?_; try intro _)))
          rename_i a8 c9 a15 c16
          exact JS_again5 again (i + 1) c9.1 c9.2 c16.1 c16.2 ⟨by omega, hyes⟩ (by omega) (by exact ⟨rfl, rfl, lookI rfl (by omega), rfl, rfl, rfl, trivial⟩) (fun w hw => by rw [hku, huu, ← ints_app1, ← ints_app1]; have g1 := vecB_fwd (by repeat (first | exact Sel.here _ _ | apply Sel.there)) hw; have g2 := vecB_fwd (by repeat (first | exact Sel.here _ _ | apply Sel.there)) g1; exact dS g2)
        · apply QR_un
          (refine QO_e (E_buildSlice (tb := tb) rfl rfl rfl rfl rfl rfl rfl rfl rfl) rfl (.inr fun _ _ hw => dS hw) ?_; intro _)
          refine QR_leaf ?_
          repeat (first | (apply gQO; first | (refine QO_e (E_appendB (tb := tb) rfl rfl rfl rfl rfl rfl (by repeat (first | exact Sel.here _ _ | apply Sel.there)) (by first | exact vec_rd (by repeat (first | apply List.Mem.head | apply List.Mem.tail)) | assumption | exact ArgRd.rd (by assumption) _ | (apply Rd_weak; assumption; intro _ hx; exact dS hx)) (by simp only [ints_len, List.length_cons, List.length_nil]; first | omega | rfl) (by first | exact ints_one | (repeat (first | exact trivial | refine ⟨rfl, ?_⟩))) (by omega) (by omega) rfl) rfl (.inr fun _ _ hw => vecB_back (by repeat (first | exact Sel.here _ _ | apply Sel.there)) hw) ?_; intro _) | (refine QO_e (E_buildSlice (tb := tb) rfl rfl rfl rfl rfl rfl rfl rfl rfl) rfl (.inr fun _ _ hw => dS hw) ?_; intro _)) | (first | (refine sx ?_; try intro _)))
          rename_i a8 a15 c9 c16
          exact JS_again5 again (i + 1) c9.1 c9.2 c16.1 c16.2 ⟨by omega, hyes⟩ (by omega) (by exact ⟨rfl, rfl, lookI rfl (by omega), rfl, rfl, rfl, trivial⟩) (fun w hw => by rw [hku, huu, ← ints_app1, ← ints_app1]; have g1 := vecB_fwd (by repeat (first | exact Sel.here _ _ | apply Sel.there)) hw; have g2 := vecB_fwd (by repeat (first | exact Sel.here _ _ | apply Sel.there)) g1; exact dS g2)
      · apply QR_un
        (refine QO_e (E_buildSlice (tb := tb) rfl rfl rfl rfl rfl rfl rfl rfl rfl) rfl (.inr fun _ _ hw => dS hw) ?_; intro _)
        refine QR_leaf ?_
        repeat (first | (apply gQO; first | (refine QO_e (E_appendB (tb := tb) rfl rfl rfl rfl rfl rfl (by repeat (first | exact Sel.here _ _ | apply Sel.there)) (by first | exact vec_rd (by repeat (first | apply List.Mem.head | apply List.Mem.tail)) | assumption | exact ArgRd.rd (by assumption) _ | (apply Rd_weak; assumption; intro _ hx; exact dS hx)) (by simp only [ints_len, List.length_cons, List.length_nil]; first | omega | rfl) (by first | exact ints_one | (repeat (first | exact trivial | refine ⟨rfl, ?_⟩))) (by omega) (by omega) rfl) rfl (.inr fun _ _ hw => vecB_back (by repeat (first | exact Sel.here _ _ | apply Sel.there)) hw) ?_; intro _) | (refine QO_e (E_buildSlice (tb := tb) rfl rfl rfl rfl rfl rfl rfl rfl rfl) rfl (.inr fun _ _ hw => dS hw) ?_; intro _)) | (first | (refine sx ?_; try intro _)))
        rename_i a15 a8 c9 c16
        exact JS_again5 again (i + 1) c9.1 c9.2 c16.1 c16.2 ⟨by omega, hyes⟩ (by omega) (by exact ⟨rfl, rfl, lookI rfl (by omega), rfl, rfl, rfl, trivial⟩) (fun w hw => by rw [hku, huu, ← ints_app1, ← ints_app1]; have g1 := vecB_fwd (by repeat (first | exact Sel.here _ _ | apply Sel.there)) hw; have g2 := vecB_fwd (by repeat (first | exact Sel.here _ _ | apply Sel.there)) g1; exact dS g2)
  · obtain rfl : i = m := by omega
    clear again
    repeat (first | (refine sx ?_; try intro _))
    refine JS_ret Tryz.func113 rfl rfl ?_
    intro w hw
    subst hm
    exact ⟨_, _, rfl, .inr ⟨hok, rfl, b, _, _, _, rfl, fun _ => ⟨⟨pk, ck, pu, cu, (by repeat (first | apply List.Mem.head | apply List.Mem.tail)), vec_rd (by repeat (first | apply List.Mem.head | apply List.Mem.tail)), vec_rd (by repeat (first | apply List.Mem.head | apply List.Mem.tail))⟩, hT, hok⟩, hw⟩⟩
end Go.Proofs.YteelffkghidpfaaGreat

namespace Go.Proofs.YteelffkghidpfaaGreat
open Sx Go
set_option linter.unusedVariables false
set_option linter.unusedSimpArgs false
/-- how many things have a lesser key, or that one too -/
def bl (k : Int) (too : Bool) : List (Int × Int) → Int
  | [] => 0
  | t :: r => (if t.1 < k ∨ (too = true ∧ t.1 = k) then t.2 else 0) + bl k too r
/-- rising keys -/
theorem rise {T : List (Int × Int)} (hR : RIGHT T) (i : Nat) : ∀ d, i + d + 1 < T.length + 0 → (T.getD i (0, 0)).1 < (T.getD (i + d + 1) (0, 0)).1
  | 0, h => by
    have := (hR (i + 1) (by omega)).2.2 (by omega)
    rwa [Nat.add_sub_cancel] at this
  | d + 1, h => by
    have h1 := rise hR i d (by omega)
    have h2 := (hR (i + (d + 1) + 1) (by omega)).2.2 (by omega)
    rw [show i + (d + 1) + 1 - 1 = i + d + 1 by omega] at h2
    omega
theorem rise_lt {T : List (Int × Int)} (hR : RIGHT T) {i j : Nat} (hij : i < j) (hj : j < T.length) : (T.getD i (0, 0)).1 < (T.getD j (0, 0)).1 := by
  have := rise hR i (j - i - 1) (by omega)
  rwa [show i + (j - i - 1) + 1 = j by omega] at this
/-- the key of a rank -/
def KY (T : List (Int × Int)) (r v : Int) : Prop := (∃ i : Nat, i < T.length ∧ (i = 0 ∨ sw (T.take i) < r) ∧ r ≤ sw (T.take (i + 1)) ∧ v = (T.getD i (0, 0)).1) ∨ ((∀ i : Nat, i < T.length → sw (T.take (i + 1)) < r) ∧ v = 0)
end Go.Proofs.YteelffkghidpfaaGreat

namespace Go.Proofs.YteelffkghidpfaaGreat
open Sx Go Hd
set_option linter.unusedVariables false
set_option linter.unusedSimpArgs false
/-- n more of a key -/
def putT (k n : Int) : List (Int × Int) → List (Int × Int)
  | [] => [(k, n)]
  | x :: r => if x.1 < k then x :: putT k n r else if x.1 = k then (k, x.2 + n) :: r else (k, n) :: x :: r
theorem flat_app1 (O : List (Int × Int)) (a b : Int) : flat O ++ [.int .i64 a, .int .u64 b] = flat (O ++ [(a, b)]) := by rw [flat_app]; rfl
theorem putT_lt {k n : Int} {x : Int × Int} {r : List (Int × Int)} (h : x.1 < k) : putT k n (x :: r) = x :: putT k n r := by rw [putT, if_pos h]
theorem putT_eq {k n : Int} {x : Int × Int} {r : List (Int × Int)} (h : x.1 = k) : putT k n (x :: r) = (k, x.2 + n) :: r := by rw [putT, if_neg (by omega), if_pos h]
section
variable {w0 : World} {H : List Asn}
end
end Go.Proofs.YteelffkghidpfaaGreat

namespace Go.Proofs.YteelffkghidpfaaGreat
open Sx Go Hd
set_option linter.unusedVariables false
set_option linter.unusedSimpArgs false
theorem dNine_pos : ∀ (R : List Int) (i : Nat) (a : Int), (dNine i a R).2.2 = 0 → i < (dNine i a R).2.1
  | [], i, a => by simp [dNine]
  | x :: r, i, a => by
    have ih := dNine_pos r (i + 1) (a + x % 128 * 128 ^ i)
    unfold dNine
    split
    · intro h; have := ih h; omega
    · split
      · simp
      · intro _; exact Nat.lt_succ_self _
/-- cells that were read before -/
def celJ (X : List (Int × Int)) (o : Option (List (Int × Int))) : Option (List (Int × Int)) := o.map (X ++ ·)
theorem celJ_none (X : List (Int × Int)) : celJ X none = none := rfl
theorem celJ_nil (X : List (Int × Int)) : celJ X (some []) = some X := by simp [celJ]
theorem celJ_0 (o : Option (List (Int × Int))) : celJ [] o = o := by cases o <;> simp [celJ]
theorem celJ_one (X : List (Int × Int)) (t : Int × Int) (o : Option (List (Int × Int))) : celJ X (o.map fun T => t :: T) = celJ (X ++ [t]) o := by
  cases o <;> simp [celJ]
section
variable {w0 : World} {H : List Asn} {lo hi dg : Int} {u g : Nat}
set_option maxRecDepth 10000 in
set_option maxHeartbeats 8000000 in
theorem Cells_c (p : Option Addr) (c m : Nat) (B : List Int) (hr : Rd w0 H (.slice p m c) m (ints .u8 B)) (hm : B.length = m) (hB : OKB B) (hm1 : m ≤ 1000000000) (hpm : p = none → m = 0) (most : Nat) (hmost : most ≤ 1000000000) (w : World) (hw : St w0 H w) :
    Calls Tryz.prog 74 #[.slice p m c, .int .i64 most] w fun e w' => (celA most B = none ∧ e = .panicked FB ∧ St w0 H w') ∨
      (∃ T q d, celA most B = some T ∧ T.length ≤ m ∧ OKT T ∧ e = .returned (.slice q T.length d) ∧ St w0 (vec 97 2 (.slice q T.length d) T.length (flat T) :: H) w') := by
  refine enter (vs := [.slice p m c, .int .i64 most]) Tryz.func74 rfl rfl rfl hw ?_
  clear hw w
  unfold celA
  rw [hm]
  repeat (first | (refine sx ?_; try intro _))
  refine JO_call Tryz.call88 rfl rfl fun w hw => (NewR_c p c m B hr hm hB (by omega) hpm w hw).mono ?_
  rintro e w' ⟨rb, q1, d1, rfl, hw'⟩
  (refine ⟨_, rfl, _, hw', ?_⟩; clear hw' hw w w')
  repeat (first | (apply gJR; first | (refine sx ?_; try intro _)) | (apply gJO; first | (refine sx ?_; try intro _)) | apply JS_seq | apply JS_region)
  refine JS_block ?_
  refine JS_loop6 (fun (f pos a : Nat) (X : List (Int × Int)) (q : Option Addr) (d : Nat) => [(1, .int .i64 most), (5, .pointer (some ⟨rb, 0, none⟩)), (6, .slice q X.length d), (7, .int .i64 a)])
    (fun f pos a X q d => blk rb (rdC (.slice q1 m d1) pos) :: vec 97 2 (.slice q X.length d) X.length (flat X) :: vec 5 1 (.slice q1 m d1) m (ints .u8 B) :: H)
    (fun f pos a X _ _ => pos + f = m ∧ a ≤ most ∧ X.length ≤ pos ∧ OKT X ∧ ∃ f', f ≤ f' ∧ celJ X (celF most f' a (B.drop pos)) = celF most m 0 B) (fun f _ _ _ _ _ => f) m 0 0 [] none 0 ⟨by omega, Nat.zero_le _, Nat.zero_le _, fun t ht => absurd ht (by simp), m, Nat.le_refl _, celJ_0 _⟩ (by repeat (first | exact trivial | refine ⟨rfl, ?_⟩ | refine ⟨lookI rfl (by omega), ?_⟩)) (fun w hw => (St.nilvec (e := 97) (sz := 2) (base := none) hw).perm (List.Perm.swap _ _ _)) ?_
  intro f pos a X q d ⟨hf, ha, hX, hO, f', hff, he⟩ again
  repeat (first | (apply gJR; first | (refine sx ?_; try intro _)) | (apply gJO; first | (refine sx ?_; try intro _)) | apply JS_seq | apply JS_region)
  refine JO_call Tryz.call116 rfl rfl fun w hw => (RLeft_c rb q1 d1 m pos (List.Mem.head _) (by omega) (by omega) w hw).mono ?_
  rintro e w' ⟨rfl, hw'⟩
  (refine ⟨_, rfl, _, hw', ?_⟩; clear hw' hw w w')
  have hdl : (B.drop pos).length = m - pos := by rw [List.length_drop, hm]
  by_cases hend : f = 0
  · have hnil : B.drop pos = [] := List.eq_nil_of_length_eq_zero (by omega)
    rw [hnil, celF_nil, celJ_nil] at he
    have hp0 : m - pos = 0 := by omega
    rw [hp0, ← he]
    repeat (first | (refine sx ?_; try intro _))
    exact JS_ret Tryz.func74 rfl rfl fun w hw => .inr ⟨X, q, d, rfl, by omega, hO, rfl, dS hw⟩
  · obtain ⟨k, rfl⟩ : ∃ k, f' = k + 1 := ⟨f' - 1, by omega⟩
    have hne : B.drop pos ≠ [] := fun h => by rw [h] at hdl; simp at hdl; omega
    rw [celF, if_neg hne] at he
    have hdo := dec_ok 9 (B.drop pos) (hB.drop pos)
    have hps := dNine_pos (B.drop pos) 0 0
    have hdp : (dec 9 (B.drop pos)).2.2 = 0 → 0 < (dec 9 (B.drop pos)).2.1 := hps
    clear hps
    have hN := fun w hw => Next_c (w0 := w0) (H := vec 97 2 (.slice q X.length d) X.length (flat X) :: vec 5 1 (.slice q1 m d1) m (ints .u8 B) :: H) 9 (by decide) rb q1 d1 m pos B (vec_rd (List.Mem.tail _ (List.Mem.head _))) hm hB (by omega) (by omega) w hw
    unfold RdR at hN
    rw [List.drop_drop] at he
    generalize dec 9 (B.drop pos) = D at *
    obtain ⟨n, us, er⟩ := D
    obtain ⟨h1, h2, h3⟩ := hdo
    simp only [] at he hN h1 h2 h3 hdp
    repeat (first | (refine sx ?_; try intro _))
    refine JO_call Tryz.call106 rfl rfl fun w hw => (hN w hw).mono ?_
    rintro e w' ⟨rfl, hw'⟩
    (refine ⟨_, rfl, _, hw', ?_⟩; clear hw' hw w w')
    clear hN
    by_cases h0 : er = 0
    rotate_left
    · rw [if_pos h0, celJ_none] at he
      rw [← he]
      repeat (first | (refine sx ?_; try intro _))
      refine JO_callE Tryz.func74 Tryz.call68 rfl rfl fun A hA w hw => (Need19_c _ w hw).mono ?_
      rintro e w' (⟨h, rfl, hw'⟩ | ⟨h, rfl, hw'⟩)
      · exact absurd h (by first | (simp; done) | (simp; omega))
      · exact .inr ⟨_, rfl, .inl ⟨rfl, rfl, dS hw'⟩⟩
    subst h0
    rw [if_neg (by simp)] at he
    have hup := hdp rfl
    repeat (first | (refine sx ?_; try intro _))
    refine JO_callE Tryz.func74 Tryz.call68 rfl rfl fun A hA w hw => (Need19_c _ w hw).mono ?_
    rintro e w' (⟨h, rfl, hw'⟩ | ⟨h, rfl, hw'⟩)
    rotate_left
    · exact absurd h (by first | (simp; done) | (simp; omega))
    (refine .inl ⟨_, rfl, _, hw', ?_⟩; clear hw' hw w w' hA A h)
    have hci := i64v_wrap h2
    have hvb : -9223372036854775808 ≤ i64v n ∧ i64v n < 9223372036854775808 := by unfold i64v; split <;> omega
    have hvn : 0 ≤ i64v n → i64v n = n := by unfold i64v; split <;> omega
    generalize i64v n = v at *
    by_cases hneg : v < 0
    · rw [if_pos hneg] at he
      have hcase : (v = -9223372036854775808) ∨ (v ≠ -9223372036854775808 ∧ ¬ 0 - v ≤ (most : Int) - a) ∨ (v ≠ -9223372036854775808 ∧ 0 - v ≤ (most : Int) - a) := by omega
      rcases hcase with hv | ⟨hv, hle⟩ | ⟨hv, hle⟩
      · rw [if_neg (fun h => h.1 hv), celJ_none] at he
        rw [← he]
        subst hv
        have c1 : IntKind.i64.wrap (0 - -9223372036854775808) = -9223372036854775808 := by decide
        repeat (first | (apply gJO; first | refine JO_v (V_conv (tb := tb) rfl rfl rfl hci rfl) ?_ | refine JO_v (V_neg rfl c1 rfl) ?_) | first | (refine sx ?_; try intro _))
        refine JO_callE Tryz.func74 Tryz.call68 rfl rfl fun A hA w hw => (Need19_c _ w hw).mono ?_
        rintro e w' (⟨h, rfl, hw'⟩ | ⟨h, rfl, hw'⟩)
        · exact absurd h (by first | (simp; done) | (simp; omega))
        · exact .inr ⟨_, rfl, .inl ⟨rfl, rfl, dS hw'⟩⟩
      · rw [if_neg (fun h => hle h.2), celJ_none] at he
        rw [← he]
        have c1 : IntKind.i64.wrap (0 - v) = 0 - v := wi64 (by omega)
        repeat (first | (apply gJO; first | refine JO_v (V_conv (tb := tb) rfl rfl rfl hci rfl) ?_ | refine JO_v (V_neg rfl c1 rfl) ?_) | first | (refine sx ?_; try intro _))
        refine JO_callE Tryz.func74 Tryz.call68 rfl rfl fun A hA w hw => (Need19_c _ w hw).mono ?_
        rintro e w' (⟨h, rfl, hw'⟩ | ⟨h, rfl, hw'⟩)
        · exact absurd h (by first | (simp; done) | (simp; omega))
        · exact .inr ⟨_, rfl, .inl ⟨rfl, rfl, dS hw'⟩⟩
      · rw [if_pos ⟨hv, hle⟩] at he
        have c1 : IntKind.i64.wrap (0 - v) = 0 - v := wi64 (by omega)
        obtain ⟨b, hb⟩ := Int.eq_ofNat_of_zero_le (show 0 ≤ 0 - v by omega)
        have c2 : IntKind.i64.wrap ((a : Int) + (0 - v)) = ((a + b : Nat) : Int) := by rw [hb]; exact (wi64 (by omega)).trans (by omega)
        rw [show (a : Int) + (0 - v) = ((a + b : Nat) : Int) by omega] at he
        repeat (first | (apply gJO; first | refine JO_v (V_conv (tb := tb) rfl rfl rfl hci rfl) ?_ | refine JO_v (V_neg rfl c1 rfl) ?_) | first | (refine sx ?_; try intro _))
        refine JO_callE Tryz.func74 Tryz.call68 rfl rfl fun A hA w hw => (Need19_c _ w hw).mono ?_
        rintro e w' (⟨h, rfl, hw'⟩ | ⟨h, rfl, hw'⟩)
        rotate_left
        · exact absurd h (by first | (simp; done) | (simp; omega))
        (refine .inl ⟨_, rfl, _, hw', ?_⟩; clear hw' hw w w' hA A h)
        repeat (first | (apply gJO; first | refine JO_v (V_neg rfl c1 rfl) ?_ | refine JO_v (V_add rfl rfl c2 rfl) ?_) | first | (refine sx ?_; try intro _))
        exact JS_again6 again (f - us) (pos + us) (a + b) X q d ⟨by omega, by omega, by omega, hO, k, by omega, he⟩ (by omega) (by repeat (first | exact trivial | refine ⟨rfl, ?_⟩ | refine ⟨lookI rfl (by omega), ?_⟩)) (fun w hw => hw)
    · rw [if_neg hneg] at he
      have hvn' := hvn (by omega)
      subst hvn'
      by_cases hat : (a : Int) < most
      rotate_left
      · rw [if_neg hat, celJ_none] at he
        rw [← he]
        repeat (first | (apply gJO; first | refine JO_v (V_conv (tb := tb) rfl rfl rfl hci rfl) ?_) | first | (refine sx ?_; try intro _))
        refine JO_callE Tryz.func74 Tryz.call68 rfl rfl fun A hA w hw => (Need19_c _ w hw).mono ?_
        rintro e w' (⟨h, rfl, hw'⟩ | ⟨h, rfl, hw'⟩)
        · exact absurd h (by first | (simp; done) | (simp; omega))
        · exact .inr ⟨_, rfl, .inl ⟨rfl, rfl, dS hw'⟩⟩
      rw [if_pos hat] at he
      have c2 : IntKind.i64.wrap ((a : Int) + 1) = ((a + 1 : Nat) : Int) := (wi64 (by omega)).trans (by omega)
      repeat (first | (apply gJO; first | refine JO_v (V_conv (tb := tb) rfl rfl rfl hci rfl) ?_) | first | (refine sx ?_; try intro _))
      refine JO_callE Tryz.func74 Tryz.call68 rfl rfl fun A hA w hw => (Need19_c _ w hw).mono ?_
      rintro e w' (⟨h, rfl, hw'⟩ | ⟨h, rfl, hw'⟩)
      rotate_left
      · exact absurd h (by first | (simp; done) | (simp; omega))
      (refine .inl ⟨_, rfl, _, hw', ?_⟩; clear hw' hw w w' hA A h)
      by_cases hpos : 0 < v
      · rw [if_pos hpos, celJ_one] at he
        repeat (first | (refine sx ?_; try intro _))
        (refine JO_app (tb := tb) rfl rfl rfl rfl rfl rfl (by repeat (first | exact Sel.here _ _ | apply Sel.there)) (by first | exact vec_rd (by repeat (first | apply List.Mem.head | apply List.Mem.tail)) | assumption | exact ArgRd.rd (by assumption) _ | (apply Rd_weak; assumption; intro _ hx; exact dS hx)) (by simp only [ints_len, List.length_cons, List.length_nil]; first | omega | rfl) (by first | exact ints_one | (repeat (first | exact trivial | refine ⟨rfl, ?_⟩))) (by omega) rfl ?_; intro _ _)
        have e1 : flat X ++ [Value.int .i64 (a : Int), Value.int .u64 v] = flat (X ++ [((a : Int), v)]) := flat_app1 X a v
        repeat (first | (apply gJO; first | refine JO_v (V_add rfl rfl c2 rfl) ?_) | first | (refine sx ?_; try intro _))
        refine JS_again6 again (f - us) (pos + us) (a + 1) (X ++ [((a : Int), v)]) _ _ ⟨by omega, by omega, by rw [List.length_append, List.length_singleton]; omega, ?_, k, by omega, he⟩ (by omega) (by rw [List.length_append]; exact ⟨rfl, rfl, rfl, rfl, trivial⟩) (fun w hw => by rw [List.length_append, ← e1]; exact dS hw)
        intro t ht
        rcases List.mem_append.1 ht with ht | ht
        · exact hO t ht
        · rw [List.mem_singleton] at ht
          subst ht
          exact ⟨by dsimp only; omega, by dsimp only; omega⟩
      · rw [if_neg hpos] at he
        repeat (first | (apply gJO; first | refine JO_v (V_add rfl rfl c2 rfl) ?_) | first | (refine sx ?_; try intro _))
        exact JS_again6 again (f - us) (pos + us) (a + 1) X q d ⟨by omega, by omega, by omega, hO, k, by omega, he⟩ (by omega) (by repeat (first | exact trivial | refine ⟨rfl, ?_⟩ | refine ⟨lookI rfl (by omega), ?_⟩)) (fun w hw => hw)
end
end Go.Proofs.YteelffkghidpfaaGreat

namespace Go.Proofs.YteelffkghidpfaaGreat
open Sx Go Hd
set_option linter.unusedVariables false
set_option linter.unusedSimpArgs false
section
variable {w0 : World} {H : List Asn}
/-- the cells of a histogram, of the document's -/
abbrev hc (mb bm : Nat) (gr : Bool) (bu : Nat) (tot : Int) : List Value := [.pointer (some ⟨mb, 0, none⟩), .bool gr, .int .i64 bu, .map (some bm), .int .u64 tot]
abbrev rc (lo hi dg : Int) (u g : Nat) (gr : Bool) (bu : Nat) (v : Value) : List Value := [.int .i64 lo, .int .i64 hi, .int .i64 dg, .int .i64 u, .int .i64 g, .bool gr, .int .i64 bu, v]
set_option maxRecDepth 10000 in
set_option maxHeartbeats 2000000 in
theorem HNew_c (lo hi dg : Int) (gr : Bool) (hlo : -9223372036854775808 ≤ lo ∧ lo < 9223372036854775808) (hhi : -9223372036854775808 ≤ hi ∧ hi < 9223372036854775808) (hdg : -9223372036854775808 ≤ dg ∧ dg < 9223372036854775808) (w : World) (hw : St w0 H w) :
    Calls Tryz.prog 55 #[hagg lo hi dg, .bool gr] w fun e w' => (¬ shOK lo hi dg ∧ e = .returned (.tuple #[.pointer none, .int .i64 1]) ∧ St w0 H w') ∨
      (shOK lo hi dg ∧ ∃ bh mb bm, e = .returned (.tuple #[.pointer (some ⟨bh, 0, none⟩), .int .i64 0]) ∧ St w0 (blk bh (hc mb bm gr (1 + bkt (uOf lo) (gOf dg) hi.toNat) 0) :: mapL bm [] 0 :: blk mb (mc lo hi dg (uOf lo) (gOf dg)) :: H) w') := by
  refine enter (vs := [hagg lo hi dg, .bool gr]) Tryz.func55 rfl rfl rfl hw ?_
  clear hw w
  repeat (first | (refine sx ?_; try intro _))
  refine JO_call Tryz.call71 rfl rfl fun w hw => (MNew_c lo hi dg hlo hhi hdg w hw).mono ?_
  rintro e w' (⟨hno, rfl, hw'⟩ | ⟨hs, b, rfl, hw'⟩)
  · refine ⟨_, rfl, _, hw', ?_⟩
    clear hw' hw w w'
    repeat (first | (refine sx ?_; try intro _))
    exact JS_ret Tryz.func55 rfl rfl fun w hw => .inl ⟨hno, rfl, hw.drop⟩
  · refine ⟨_, rfl, _, hw', ?_⟩
    clear hw' hw w w'
    repeat (first | (refine sx ?_; try intro _))
    refine JO_call Tryz.call72 rfl rfl fun w hw => (MBuckets_c b (List.Mem.head _) hs.2 hi hhi w hw).mono ?_
    rintro e w' ⟨rfl, hw'⟩
    refine ⟨_, rfl, _, hw', ?_⟩
    clear hw' hw w w'
    repeat (first | (apply kMm; refine JO_makeMap rfl ?_; intro _) | first | (refine sx ?_; try intro _))
    rename_i bm bh
    exact JS_ret Tryz.func55 rfl rfl fun w hw => .inr ⟨hs, bh, b, bm, rfl, dS hw⟩
end
end Go.Proofs.YteelffkghidpfaaGreat

namespace Go.Proofs.YteelffkghidpfaaGreat
open Sx Go Hd
set_option linter.unusedVariables false
set_option linter.unusedSimpArgs false
/-- may a value be recorded? an error's number -/
def chk (u g : Nat) (gr : Bool) (bu : Nat) (tot v n : Int) : Int := if n = 0 then 4 else if v < 0 ∨ ((topv u g bu : Nat) : Int) < v ∧ gr = false then 5 else if 4611686018427387904 - tot < n then 6 else 0
section
variable {w0 : World} {H : List Asn} {lo hi dg : Int} {u g : Nat}
set_option maxRecDepth 10000 in
set_option maxHeartbeats 2000000 in
theorem HCheck_c (bh mb bm : Nat) (gr : Bool) (bu : Nat) (tot : Int) (hh : blk bh (hc mb bm gr bu tot) ∈ H) (hM : blk mb (mc lo hi dg u g) ∈ H) (hug : u + g ≤ 62) (hg : 1 ≤ g) (hbu : bu ≤ 64) (htot : 0 ≤ tot ∧ tot ≤ 4611686018427387904) (v n : Int) (hv : -9223372036854775808 ≤ v ∧ v < 9223372036854775808) (hn : 0 ≤ n ∧ n < 18446744073709551616) (w : World) (hw : St w0 H w) :
    Calls Tryz.prog 98 #[.pointer (some ⟨bh, 0, none⟩), .int .i64 v, .int .u64 n] w fun e w' => e = .returned (.int .i64 (chk u g gr bu tot v n)) ∧ St w0 H w' := by
  have hck : chk u g gr bu tot v n = if n = 0 then 4 else if v < 0 ∨ ((topv u g bu : Nat) : Int) < v ∧ gr = false then 5 else if 4611686018427387904 - tot < n then 6 else 0 := rfl
  have k1 : IntKind.u64.wrap (4611686018427387904 - tot) = 4611686018427387904 - tot := wu64 (by omega)
  refine enter (vs := [.pointer (some ⟨bh, 0, none⟩), .int .i64 v, .int .u64 n]) Tryz.func98 rfl rfl rfl hw ?_
  clear hw w
  by_cases h0 : n = 0
  · rw [if_pos h0] at hck
    repeat (first | (refine sx ?_; try intro _))
    exact JS_ret Tryz.func98 rfl rfl fun w hw => ⟨by rw [hck]; rfl, hw⟩
  rw [if_neg h0] at hck
  by_cases hv0 : v < 0
  · rw [if_pos (.inl hv0)] at hck
    repeat (first | (apply gJO; first | refine JO_v (oL (V_load (tb := tb) rfl hh rfl rfl rfl rfl)) ?_ | refine JO_v (oL (V_load (tb := tb) rfl hM rfl rfl rfl rfl)) ?_) | (apply gQO; first | refine QO_v rfl (oL (V_load (tb := tb) rfl hh rfl rfl rfl rfl)) ?_ | refine QO_v rfl (oL (V_load (tb := tb) rfl hM rfl rfl rfl rfl)) ?_) | first | (refine sx ?_; try intro _))
    exact JS_ret Tryz.func98 rfl rfl fun w hw => ⟨by rw [hck]; rfl, hw⟩
  repeat (first | (apply gJO; first | refine JO_v (oL (V_load (tb := tb) rfl hh rfl rfl rfl rfl)) ?_ | refine JO_v (oL (V_load (tb := tb) rfl hM rfl rfl rfl rfl)) ?_) | (apply gQO; first | refine QO_v rfl (oL (V_load (tb := tb) rfl hh rfl rfl rfl rfl)) ?_ | refine QO_v rfl (oL (V_load (tb := tb) rfl hM rfl rfl rfl rfl)) ?_) | first | (refine sx ?_; try intro _))
  refine QO_call Tryz.call61 rfl rfl fun w hw => (MTop_c mb hM hug hg bu (by omega) w hw).mono ?_
  rintro e w' ⟨rfl, hw'⟩
  refine ⟨_, rfl, _, hw', .inl fun w hw => hw, ?_⟩
  clear hw' hw w w'
  generalize ((topv u g bu : Nat) : Int) = t at *
  by_cases hc5 : t < v ∧ gr = false
  · rw [if_pos (.inr hc5)] at hck
    obtain ⟨h5, rfl⟩ := hc5
    repeat (first | (apply gJO; first | refine JO_v (oL (V_load (tb := tb) rfl hh rfl rfl rfl rfl)) ?_ | refine JO_v (oL (V_load (tb := tb) rfl hM rfl rfl rfl rfl)) ?_) | (apply gQO; first | refine QO_v rfl (oL (V_load (tb := tb) rfl hh rfl rfl rfl rfl)) ?_ | refine QO_v rfl (oL (V_load (tb := tb) rfl hM rfl rfl rfl rfl)) ?_) | first | (refine sx ?_; try intro _))
    exact JS_ret Tryz.func98 rfl rfl fun w hw => ⟨by rw [hck]; rfl, hw⟩
  rw [if_neg (fun h => h.elim hv0 hc5)] at hck
  by_cases h6 : 4611686018427387904 - tot < n
  · rw [if_pos h6] at hck
    by_cases htv : t < v
    · obtain rfl : gr = true := by
        cases gr
        · exact absurd ⟨htv, rfl⟩ hc5
        · rfl
      repeat (first | (apply gJO; first | refine JO_v (oL (V_load (tb := tb) rfl hh rfl rfl rfl rfl)) ?_ | refine JO_v (oL (V_load (tb := tb) rfl hM rfl rfl rfl rfl)) ?_) | (apply gQO; first | refine QO_v rfl (oL (V_load (tb := tb) rfl hh rfl rfl rfl rfl)) ?_ | refine QO_v rfl (oL (V_load (tb := tb) rfl hM rfl rfl rfl rfl)) ?_) | (apply gJO; refine JO_v (V_sub rfl rfl k1 rfl) ?_) | first | (refine sx ?_; try intro _))
      exact JS_ret Tryz.func98 rfl rfl fun w hw => ⟨by rw [hck]; rfl, hw⟩
    · repeat (first | (apply gJO; first | refine JO_v (oL (V_load (tb := tb) rfl hh rfl rfl rfl rfl)) ?_ | refine JO_v (oL (V_load (tb := tb) rfl hM rfl rfl rfl rfl)) ?_) | (apply gQO; first | refine QO_v rfl (oL (V_load (tb := tb) rfl hh rfl rfl rfl rfl)) ?_ | refine QO_v rfl (oL (V_load (tb := tb) rfl hM rfl rfl rfl rfl)) ?_) | (apply gJO; refine JO_v (V_sub rfl rfl k1 rfl) ?_) | first | (refine sx ?_; try intro _))
      exact JS_ret Tryz.func98 rfl rfl fun w hw => ⟨by rw [hck]; rfl, hw⟩
  · rw [if_neg h6] at hck
    by_cases htv : t < v
    · obtain rfl : gr = true := by
        cases gr
        · exact absurd ⟨htv, rfl⟩ hc5
        · rfl
      repeat (first | (apply gJO; first | refine JO_v (oL (V_load (tb := tb) rfl hh rfl rfl rfl rfl)) ?_ | refine JO_v (oL (V_load (tb := tb) rfl hM rfl rfl rfl rfl)) ?_) | (apply gQO; first | refine QO_v rfl (oL (V_load (tb := tb) rfl hh rfl rfl rfl rfl)) ?_ | refine QO_v rfl (oL (V_load (tb := tb) rfl hM rfl rfl rfl rfl)) ?_) | (apply gJO; refine JO_v (V_sub rfl rfl k1 rfl) ?_) | first | (refine sx ?_; try intro _))
      exact JS_ret Tryz.func98 rfl rfl fun w hw => ⟨by rw [hck]; rfl, hw⟩
    · repeat (first | (apply gJO; first | refine JO_v (oL (V_load (tb := tb) rfl hh rfl rfl rfl rfl)) ?_ | refine JO_v (oL (V_load (tb := tb) rfl hM rfl rfl rfl rfl)) ?_) | (apply gQO; first | refine QO_v rfl (oL (V_load (tb := tb) rfl hh rfl rfl rfl rfl)) ?_ | refine QO_v rfl (oL (V_load (tb := tb) rfl hM rfl rfl rfl rfl)) ?_) | (apply gJO; refine JO_v (V_sub rfl rfl k1 rfl) ?_) | first | (refine sx ?_; try intro _))
      exact JS_ret Tryz.func98 rfl rfl fun w hw => ⟨by rw [hck]; rfl, hw⟩
end
end Go.Proofs.YteelffkghidpfaaGreat

namespace Go.Proofs.YteelffkghidpfaaGreat
open Sx Go Hd
set_option linter.unusedVariables false
set_option linter.unusedSimpArgs false
section
variable {w0 : World} {H : List Asn} {lo hi dg : Int} {u g : Nat}
theorem sw_all {T : List (Int × Int)} (hT : OKT T) (hR : RIGHT T) : 0 ≤ sw T ∧ sw T ≤ 4611686018427387904 := by
  have h1 := swT_nn hT T.length (Nat.le_refl _)
  have h2 := swT_le (i := T.length) hT hR (Nat.le_refl _)
  rw [List.take_length] at h1 h2
  exact ⟨h1, h2⟩
end
end Go.Proofs.YteelffkghidpfaaGreat

namespace Go.Proofs.YteelffkghidpfaaGreat
open Sx Go Hd
set_option linter.unusedVariables false
set_option linter.unusedSimpArgs false
/-! ## lists of cells by rising keys (plain) -/
abbrev Srt (T : List (Int × Int)) : Prop := T.Pairwise fun a b => a.1 < b.1
theorem putT_mem {k n : Int} : ∀ {T : List (Int × Int)} {x : Int × Int}, x ∈ putT k n T → x ∈ T ∨ x.1 = k
  | [], x, h => by
    rw [putT] at h
    right
    rw [List.mem_singleton.1 h]
  | y :: r, x, h => by
    rw [putT] at h
    split at h
    · rcases List.mem_cons.1 h with rfl | h
      · exact .inl (by simp)
      · rcases putT_mem h with h | h
        · exact .inl (by simp [h])
        · exact .inr h
    · split at h
      · rcases List.mem_cons.1 h with rfl | h
        · exact .inr rfl
        · exact .inl (by simp [h])
      · rcases List.mem_cons.1 h with rfl | h
        · exact .inr rfl
        · exact .inl h
theorem putT_srt {k n : Int} : ∀ {T : List (Int × Int)}, Srt T → Srt (putT k n T)
  | [], _ => by rw [putT]; exact List.pairwise_singleton _ _
  | y :: r, h => by
    obtain ⟨h1, h2⟩ := List.pairwise_cons.1 h
    rw [putT]
    split
    · rename_i hlt
      refine List.pairwise_cons.2 ⟨fun z hz => ?_, putT_srt h2⟩
      rcases putT_mem hz with hz | hz
      · exact h1 z hz
      · omega
    · split
      · rename_i heq
        exact List.pairwise_cons.2 ⟨fun z hz => by have := h1 z hz; show k < z.1; omega, h2⟩
      · refine List.pairwise_cons.2 ⟨fun z hz => ?_, h⟩
        rcases List.mem_cons.1 hz with rfl | hz
        · show k < z.1; omega
        · have := h1 z hz
          show k < z.1; omega
theorem putT_new {k n : Int} : ∀ {T : List (Int × Int)}, (∀ x ∈ T, x.1 ≠ k) → (putT k n T).Perm ((k, n) :: T)
  | [], _ => by rw [putT]
  | y :: r, h => by
    have hy := h y (by simp)
    rw [putT]
    split
    · exact ((putT_new fun x hx => h x (by simp [hx])).cons y).trans (List.Perm.swap _ _ _)
    · exact List.Perm.refl _
theorem putT_old {k n b : Int} : ∀ {T : List (Int × Int)}, Srt T → (k, b) ∈ T → ∃ A B, T = A ++ (k, b) :: B ∧ putT k n T = A ++ (k, b + n) :: B
  | [], _, h => absurd h (by simp)
  | y :: r, hs, h => by
    obtain ⟨h1, h2⟩ := List.pairwise_cons.1 hs
    rcases List.mem_cons.1 h with rfl | h
    · exact ⟨[], r, rfl, by rw [putT_eq (x := (k, b)) rfl]; rfl⟩
    · have hy : y.1 < k := h1 (k, b) h
      obtain ⟨A, B, e1, e2⟩ := putT_old (n := n) h2 h
      exact ⟨y :: A, B, by rw [e1]; rfl, by rw [putT_lt hy, e2]; rfl⟩
/-- where a list holds the same in any order -/
theorem perm_old {k n b : Int} {T A B : List (Int × Int)} (hs : Srt T) (hp : (A ++ (k, b) :: B).Perm T) : (A ++ (k, b + n) :: B).Perm (putT k n T) := by
  obtain ⟨A', B', e1, e2⟩ := putT_old (n := n) hs (hp.subset (by simp) : (k, b) ∈ T)
  rw [e2]
  rw [e1] at hp
  have h1 := (List.perm_middle.symm.trans hp).trans List.perm_middle
  exact (List.perm_middle.trans ((List.Perm.cons_inv h1).cons _)).trans List.perm_middle.symm
theorem perm_new {k n : Int} {T L : List (Int × Int)} (hp : L.Perm T) (hn : ∀ x ∈ L, x.1 ≠ k) : (L ++ [(k, n)]).Perm (putT k n T) :=
  (List.perm_append_comm.trans (hp.cons _)).trans (putT_new fun x hx => hn x (hp.symm.subset hx)).symm
end Go.Proofs.YteelffkghidpfaaGreat

namespace Go.Proofs.YteelffkghidpfaaGreat
open Sx Go Hd
set_option linter.unusedVariables false
set_option linter.unusedSimpArgs false
theorem kundI : Tryz.prog.underlying 3 = some (.int .i64) := by kernel_rfl
theorem kI : KeyT Tryz.prog 3 := KeyT.of (Maps.int_keyed kundI)
theorem keyI {k : Int} (h : -9223372036854775808 ≤ k ∧ k < 9223372036854775808) : isKey Tryz.prog 3 (.int .i64 k) :=
  ⟨_, Maps.keyOf_int_mk kundI (by simp [Lit.wf, IntKind.min, IntKind.max, IntKind.bits, IntKind.signed]; omega)⟩
/-- a map's entries are these cells, in any order -/
structure HM (es : List MapEntry) (clock : Nat) (T : List (Int × Int)) : Prop where
  ok : MOk Tryz.prog 3 es clock
  ex : ∃ L : List (Int × Int), L.Perm T ∧ es.map (fun e => (e.key, e.val)) = L.map (fun p => (Value.int .i64 p.1, Value.int .u64 p.2))
theorem HM.nil {clock : Nat} : HM [] clock [] := ⟨MOk.nil, [], List.Perm.refl _, rfl⟩
theorem map_split {α β γ : Type} {f : α → γ} {h : β → γ} : ∀ {es : List α} {A B : List β} {x : β}, es.map f = (A ++ x :: B).map h → ∃ A' e B', es = A' ++ e :: B' ∧ A'.map f = A.map h ∧ f e = h x ∧ B'.map f = B.map h
  | [], A, B, x, e => by cases A <;> simp at e
  | y :: es, [], B, x, e => by
    simp only [List.map_cons, List.nil_append, List.cons.injEq] at e
    exact ⟨[], y, es, rfl, rfl, e.1, e.2⟩
  | y :: es, a :: A, B, x, e => by
    simp only [List.map_cons, List.cons_append, List.cons.injEq] at e
    obtain ⟨A', e', B', h1, h2, h3, h4⟩ := map_split (A := A) e.2
    exact ⟨y :: A', e', B', by rw [h1]; rfl, by simp [e.1, h2], h3, h4⟩
/-- a key that is there -/
theorem HM.old {es : List MapEntry} {clock : Nat} {T : List (Int × Int)} {k b n : Int} (h : HM es clock T) (hs : Srt T) (hm : (k, b) ∈ T) : ∃ A e B, es = A ++ e :: B ∧ e.key = .int .i64 k ∧ e.val = .int .u64 b ∧ HM (A ++ { e with val := .int .u64 (b + n) } :: B) clock (putT k n T) := by
  obtain ⟨L, hp, he⟩ := h.ex
  obtain ⟨A, B, rfl⟩ := List.append_of_mem (hp.symm.subset hm)
  obtain ⟨A', e, B', rfl, h2, h3, h4⟩ := map_split he
  have hk : e.key = .int .i64 k := congrArg Prod.fst h3
  have hv : e.val = .int .u64 b := congrArg Prod.snd h3
  refine ⟨A', e, B', rfl, hk, hv, ⟨h.ok.setv _, _, perm_old hs hp, ?_⟩⟩
  simp only [List.map_append, List.map_cons, h2, h4, hk]
/-- a new key -/
theorem HM.new {es : List MapEntry} {clock : Nat} {T : List (Int × Int)} {k n : Int} (h : HM es clock T) (hk : -9223372036854775808 ≤ k ∧ k < 9223372036854775808) (hn : ∀ x ∈ T, x.1 ≠ k) : (∀ e ∈ es, e.key ≠ .int .i64 k) ∧ HM (es ++ [⟨.int .i64 k, .int .u64 n, clock⟩]) (clock + 1) (putT k n T) := by
  obtain ⟨L, hp, he⟩ := h.ex
  have hno : ∀ e ∈ es, e.key ≠ .int .i64 k := fun e hm hek => by
    have h1 : (e.key, e.val) ∈ es.map (fun e => (e.key, e.val)) := List.mem_map.2 ⟨e, hm, rfl⟩
    rw [he] at h1
    obtain ⟨p, hpL, hpe⟩ := List.mem_map.1 h1
    have h2 := congrArg Prod.fst hpe
    simp only [hek, Value.int.injEq, true_and] at h2
    exact hn p (hp.subset hpL) h2
  refine ⟨hno, h.ok.push (keyI hk) hno, _, perm_new hp (fun x hx => hn x (hp.subset hx)), ?_⟩
  rw [List.map_append, List.map_append, he]; rfl
theorem kzeroU (w : World) : (zeroValue 48).run Tryz.prog w = .ok (.int .u64 0) w := by
  have h : (Tryz.prog.info? 48).bind (·.zero) = some (.int .u64 0) := by kernel_rfl
  obtain ⟨x, h1, h2⟩ := Option.bind_eq_some_iff.1 h
  simp [zeroValue, typeInfo, h1, h2]
section
variable {w0 : World} {H : List Asn} {lo hi dg : Int} {u g : Nat}
set_option maxRecDepth 10000 in
set_option maxHeartbeats 4000000 in
/-- a value that may be is counted -/
theorem HCount_c (bh mb bm : Nat) (gr : Bool) (bu : Nat) (tot : Int) (es : List MapEntry) (clock : Nat) (T : List (Int × Int)) (hM : blk mb (mc lo hi dg u g) ∈ H) (hug : u + g ≤ 62) (hg : 1 ≤ g ∧ g ≤ 18) (hbu : bu ≤ 64) (htot : 0 ≤ tot) (hE : HM es clock T) (hs : Srt T) (v : Nat) (hv : v < 9223372036854775808) (n : Int) (hn : 0 ≤ n ∧ tot + n ≤ 4611686018427387904)
    (hT : ∀ x ∈ T, 0 ≤ x.2 ∧ x.2 ≤ tot) (w : World) (hw : St w0 (blk bh (hc mb bm gr bu tot) :: mapL bm es clock :: H) w) :
    Calls Tryz.prog 99 #[.pointer (some ⟨bh, 0, none⟩), .int .i64 v, .int .u64 n] w fun e w' => e = .returned (.tuple #[]) ∧ ∃ es' clock', HM es' clock' (putT (idx u g v) n T) ∧ St w0 (blk bh (hc mb bm gr (max bu (1 + bkt u g v)) (tot + n)) :: mapL bm es' clock' :: H) w' := by
  obtain ⟨i1, i2, _⟩ := idx_bd hug hg hv
  have k2 : IntKind.u64.wrap (tot + n) = tot + n := wu64 (by omega)
  have k3 : max (bu : Int) ((1 + bkt u g v : Nat) : Int) = ((max bu (1 + bkt u g v) : Nat) : Int) := by omega
  refine enter (vs := [.pointer (some ⟨bh, 0, none⟩), .int .i64 v, .int .u64 n]) Tryz.func99 rfl rfl rfl hw ?_
  clear hw w
  repeat (first | (refine sx ?_; try intro _))
  refine JO_call Tryz.call138 rfl rfl fun w hw => (MIndex_c mb (List.Mem.tail _ (List.Mem.tail _ hM)) hug hg v hv w hw).mono ?_
  rintro e w' ⟨rfl, hw'⟩
  refine ⟨_, rfl, _, hw', ?_⟩
  clear hw' hw w w'
  have hin : -9223372036854775808 ≤ ((idx u g v : Nat) : Int) ∧ ((idx u g v : Nat) : Int) < 9223372036854775808 := by omega
  generalize ((idx u g v : Nat) : Int) = i at *
  by_cases hex : ∃ b, (i, b) ∈ T
  · obtain ⟨b, hmem⟩ := hex
    have hb := hT (i, b) hmem
    obtain ⟨A, e0, B, rfl, hk, hvl, hE2⟩ := hE.old (n := n) hs hmem
    have k1 : IntKind.u64.wrap (b + n) = b + n := wu64 (by simp only [] at hb; omega)
    obtain ⟨ek, el, eb⟩ := e0
    simp only [] at hk hvl
    subst hk hvl
    repeat (first | (apply gJO; first | refine JO_v (V_lookupT (tb := tb) kI rfl rfl rfl (by repeat (first | apply List.Mem.head | apply List.Mem.tail)) hE.ok (e0 := ⟨.int .i64 i, .int .u64 b, eb⟩) (by simp) rfl rfl) ?_ | refine JO_v (V_add rfl rfl k1 rfl) ?_ | refine JO_v (V_add rfl rfl k2 rfl) ?_ | refine JO_k (K_mapUpdateT (tb := tb) kI rfl rfl rfl rfl (by repeat (first | exact Sel.here _ _ | apply Sel.there)) hE.ok rfl) ?_) | (first | (refine sx ?_; try intro _)))
    refine QO_call Tryz.call72 rfl rfl fun w hw => (MBuckets_c mb (List.Mem.tail _ (List.Mem.tail _ hM)) hug v (by omega) w hw).mono ?_
    rw [Int.toNat_natCast]
    rintro e w' ⟨rfl, hw'⟩
    refine ⟨_, rfl, _, hw', .inl fun w hw => hw, ?_⟩
    clear hw' hw w w'
    repeat (first | (apply gQO; refine QO_v rfl (V_max rfl rfl k3 rfl) ?_) | (first | (refine sx ?_; try intro _)))
    exact JS_fin Tryz.func99 rfl rfl (vs := []) fun w hw => ⟨rfl, _, clock, hE2, dS hw⟩
  · have hnoT : ∀ x ∈ T, x.1 ≠ i := fun x hx hxi => hex ⟨x.2, by rw [← hxi]; exact hx⟩
    obtain ⟨hno, hE2⟩ := hE.new (n := n) hin hnoT
    have k1 : IntKind.u64.wrap (0 + n) = n := (wu64 (by omega)).trans (by omega)
    repeat (first | (apply gJO; first | refine JO_v (V_lookupF (tb := tb) kI rfl rfl rfl (by repeat (first | apply List.Mem.head | apply List.Mem.tail)) hE.ok (keyI hin) hno kzeroU rfl) ?_ | refine JO_v (V_add rfl rfl k1 rfl) ?_ | refine JO_v (V_add rfl rfl k2 rfl) ?_ | refine JO_k (K_mapUpdateF (tb := tb) kI rfl rfl rfl rfl (by repeat (first | exact Sel.here _ _ | apply Sel.there)) hE.ok (keyI hin) hno rfl) ?_) | (first | (refine sx ?_; try intro _)))
    refine QO_call Tryz.call72 rfl rfl fun w hw => (MBuckets_c mb (List.Mem.tail _ (List.Mem.tail _ hM)) hug v (by omega) w hw).mono ?_
    rw [Int.toNat_natCast]
    rintro e w' ⟨rfl, hw'⟩
    refine ⟨_, rfl, _, hw', .inl fun w hw => hw, ?_⟩
    clear hw' hw w w'
    repeat (first | (apply gQO; refine QO_v rfl (V_max rfl rfl k3 rfl) ?_) | (first | (refine sx ?_; try intro _)))
    exact JS_fin Tryz.func99 rfl rfl (vs := []) fun w hw => ⟨rfl, _, _, hE2, dS hw⟩
end
end Go.Proofs.YteelffkghidpfaaGreat

namespace Go.Proofs.YteelffkghidpfaaGreat
open Sx Go Hd
set_option linter.unusedVariables false
set_option linter.unusedSimpArgs false
/-! ## right lists of cells (plain) -/
structure GT (T : List (Int × Int)) : Prop where
  srt : Srt T
  key : ∀ x ∈ T, 0 ≤ x.1 ∧ x.1 < 4611686018427387904
  pos : ∀ x ∈ T, 0 < x.2
  tot : sw T ≤ 4611686018427387904
theorem GT.nil : GT [] := ⟨List.Pairwise.nil, by simp, by simp, by decide⟩
theorem sw_nn : ∀ {T : List (Int × Int)}, (∀ x ∈ T, 0 < x.2) → 0 ≤ sw T
  | [], _ => Int.le_refl _
  | y :: r, h => by
    have h1 := h y (by simp)
    have h2 := sw_nn (T := r) fun x hx => h x (by simp [hx])
    rw [sw]; omega
theorem sw_mem : ∀ {T : List (Int × Int)}, (∀ x ∈ T, 0 < x.2) → ∀ x ∈ T, x.2 ≤ sw T
  | [], _, x, hx => absurd hx (by simp)
  | y :: r, h, x, hx => by
    have h1 := h y (by simp)
    have h2 := sw_nn (T := r) fun x hx => h x (by simp [hx])
    rw [sw]
    rcases List.mem_cons.1 hx with rfl | hx
    · omega
    · have := sw_mem (T := r) (fun x hx => h x (by simp [hx])) x hx
      omega
theorem getD_mem {T : List (Int × Int)} {i : Nat} (h : i < T.length) : T.getD i (0, 0) ∈ T := by
  rw [List.getD_eq_getElem?_getD, List.getElem?_eq_getElem h]
  exact List.getElem_mem h
theorem GT.le {T : List (Int × Int)} (h : GT T) (i : Nat) (hi : i < T.length) : 0 ≤ (T.getD i (0, 0)).2 ∧ (T.getD i (0, 0)).2 ≤ sw T := by
  have h2 := h.pos _ (getD_mem hi)
  exact ⟨by omega, sw_mem h.pos _ (getD_mem hi)⟩
theorem GT.right {T : List (Int × Int)} (h : GT T) : RIGHT T := fun i hi => by
  have h1 := h.pos _ (getD_mem hi)
  have h2 := sw_take T i hi
  have h3 : sw (T.take (i + 1)) + sw (T.drop (i + 1)) = sw T := by rw [← sw_app, List.take_append_drop]
  have h4 := sw_nn (T := T.drop (i + 1)) fun x hx => h.pos x (List.mem_of_mem_drop hx)
  have h5 := h.tot
  refine ⟨by omega, by omega, fun h0 => ?_⟩
  have h6 := List.pairwise_iff_getElem.1 h.srt (i - 1) i (by omega) hi (by omega)
  have e : ∀ j (hj : j < T.length), T.getD j (0, 0) = T[j] := fun j hj => by rw [List.getD_eq_getElem?_getD, List.getElem?_eq_getElem hj]; rfl
  rw [e (i - 1) (by omega), e i hi]
  exact h6
theorem putT_sw {k n : Int} : ∀ (T : List (Int × Int)), sw (putT k n T) = sw T + n
  | [] => by rw [putT, sw, sw]; simp [sw]
  | y :: r => by
    rw [putT]
    split
    · rw [sw, sw, putT_sw r]; omega
    · split
      · simp only [sw]; omega
      · simp only [sw]; omega
theorem putT_pos {k n : Int} (hn : 0 < n) : ∀ {T : List (Int × Int)}, (∀ x ∈ T, 0 < x.2) → ∀ x ∈ putT k n T, 0 < x.2
  | [], _, x, hx => by rw [putT] at hx; rw [List.mem_singleton.1 hx]; exact hn
  | y :: r, h, x, hx => by
    have hy := h y (by simp)
    rw [putT] at hx
    split at hx
    · rcases List.mem_cons.1 hx with rfl | hx
      · exact hy
      · exact putT_pos hn (fun x hx => h x (by simp [hx])) x hx
    · split at hx
      · rcases List.mem_cons.1 hx with rfl | hx
        · show 0 < y.2 + n; omega
        · exact h x (by simp [hx])
      · rcases List.mem_cons.1 hx with rfl | hx
        · exact hn
        · exact h x hx
theorem GT.put {T : List (Int × Int)} (h : GT T) {k n : Int} (hk : 0 ≤ k ∧ k < 4611686018427387904) (hn : 0 < n) (ht : sw T + n ≤ 4611686018427387904) : GT (putT k n T) :=
  ⟨putT_srt h.srt, fun x hx => by rcases putT_mem hx with hx | hx; exact h.key x hx; omega, putT_pos hn h.pos, by rw [putT_sw]; exact ht⟩
end Go.Proofs.YteelffkghidpfaaGreat

set_option linter.unusedVariables false
set_option linter.unusedSimpArgs false
namespace Sx
open Go
/-! a range over a map that the loop does not write; a field of a value -/
/-- block r holds the iterator of the map in block bm -/
@[irreducible] def iterA (r bm since c0 : Nat) (seen : List Nat) : Asn where
  holds w fp := fp = [r] ∧ w.heap[r]? = some (.mapIter (some bm) since seen.toArray c0)
  frame w w' fp h hk := ⟨h.1, by rw [hk r (by simp [h.1])]; exact h.2⟩
  live w fp h b' hb := by
    obtain ⟨rfl, hT⟩ := h
    simp at hb; subst hb
    exact (Array.getElem?_eq_some_iff.1 hT).1
theorem iterA_holds {r bm since c0 seen w fp} : (iterA r bm since c0 seen).holds w fp ↔ fp = [r] ∧ w.heap[r]? = some (.mapIter (some bm) since seen.toArray c0) := by unfold iterA; exact Iff.rfl
theorem St.iter_get {w0 H w r bm since c0 seen} (h : St w0 H w) (hm : iterA r bm since c0 seen ∈ H) : w.heap[r]? = some (.mapIter (some bm) since seen.toArray c0) := by
  obtain ⟨f, hf⟩ := h.mem hm
  exact (iterA_holds.1 hf).2
theorem St.iter_put {w0 H w r bm since c0 seen} {F : Asn → List Asn} (seen' : List Nat) (c1 : Nat) (h : St w0 H w) (hu : Sel H (iterA r bm since c0 seen) F) (w1 : World) (hw1 : w1 = w ∨ w1 = w.drew) : St w0 (F (iterA r bm since c1 seen')) (ChangeMaps.setBlock w1 r (.mapIter (some bm) since seen'.toArray c1)) := by
  have h1 : St w0 H w1 := by rcases hw1 with rfl | rfl; exact h; exact h.drew
  refine h1.upd (hu.upd _) rfl rfl rfl (by simp [ChangeMaps.setBlock]) ?_
  intro f1 hf
  obtain ⟨rfl, hb⟩ := iterA_holds.1 hf
  have hs := MapKept.heap_set (o' := .mapIter (some bm) since seen'.toArray c1) hb
  exact ⟨fun b' _ hb' => hs.2 b' (by simpa using hb'), [r], by simp, by simp, iterA_holds.2 ⟨rfl, hs.1⟩⟩
theorem St.iter_new {w0 H w} (h : St w0 H w) (bm since c0 : Nat) (seen : List Nat) : St w0 (iterA w.heap.size bm since c0 seen :: H) (w.alloc (.mapIter (some bm) since seen.toArray c0)) := by
  refine St.step («as» := []) (bs := [iterA w.heap.size bm since c0 seen]) h rfl rfl rfl (by simp) ?_
  intro f1 hf _ _
  simp [All] at hf
  subst hf
  refine ⟨fun b hb _ => (by first | exact heap_alloc_old w _ hb | exact heap_alloc_old w _ _ hb), [w.heap.size], by simp, by simp, [w.heap.size], [], by simp, iterA_holds.2 ⟨rfl, heap_alloc_new w _⟩, rfl⟩
section
variable {P : Program} {f n : Nat} {R : Ending → World → Prop} {D : List Deferred} {w0 : World} {k : List Item} {ov : Ov} {H : List Asn}
  {ops : Array Oper} {l : List Oper} {d : Option Nat} {T : Nat} {pos : String} {af : Array Edge} {g : Option (Nat × Bool)} {x y : Operand} {v : Value} {tb : Tb P}
theorem JO_rangeM {t km em s1 b1 bm clock : Nat} {z1 : Option (List Value)} {es : List MapEntry} (hx : ev ov x = some (.map (some bm))) (h : tlook tb.l t = some ⟨.map km em, s1, b1, z1⟩) (hb : mapL bm es clock ∈ H) (hd : dOk d n = true)
    (hn : ∀ r, JR P f n R D w0 ops l k (put d (.pointer (some ⟨r, 0, none⟩)) ov) (iterA r bm clock clock [] :: H)) : JO P f n R D w0 ops ⟨d, .range t x, T, pos, af, g⟩ l k ov H :=
  JO_step fun a w ha hw => ⟨.pointer (some ⟨w.heap.size, 0, none⟩), w.alloc (.mapIter (some bm) clock #[] clock), by
    simp only [execOp, ha.ev hx]
    simp [run_range_map w t km em bm es.toArray clock (und_map h) (hw.map_get hb)], hd, _, hw.iter_new bm clock clock [], hn w.heap.size⟩
theorem JO_nextM {r bm since c0 clock : Nat} {seen : List Nat} {es : List MapEntry} {F : Asn → List Asn} (hx : ev ov x = some (.pointer (some ⟨r, 0, none⟩))) (hu : Sel H (iterA r bm since c0 seen) F) (hb : mapL bm es clock ∈ H) (hold : ∀ e ∈ es, e.born < since) (hsc : since ≤ c0) (hd : dOk d n = true)
    (hno : (∀ e ∈ es, e.born ∈ seen) → JR P f n R D w0 ops l k (put d (.tuple #[.bool false]) ov) H)
    (hyes : ∀ e ∈ es, e.born ∉ seen → JR P f n R D w0 ops l k (put d (.tuple #[.bool true, e.key, e.val]) ov) (F (iterA r bm since clock (seen ++ [e.born])))) : JO P f n R D w0 ops ⟨d, .next x false, T, pos, af, g⟩ l k ov H :=
  JO_step fun a w ha hw => by
    rcases run_next_at (P := P) w T r bm since c0 seen.toArray es.toArray clock (hw.iter_get (Sel.mem hu)) (hw.map_get hb) (by simpa using hold) hsc with ⟨h0, hrun⟩ | ⟨e, he, w1, hw1, hrun⟩
    · refine ⟨_, w, by simp only [execOp, ha.ev hx]; simp [hrun], hd, H, hw, hno fun e he => ?_⟩
      refine Classical.byContradiction fun hne => ?_
      have : e ∈ (leftOf es.toArray seen.toArray).toList := by simp [leftOf, he, hne]
      have h1 := List.length_pos_of_mem this
      rw [Array.length_toList] at h1
      omega
    · have he' : e ∈ es ∧ e.born ∉ seen := by simpa [leftOf] using he
      refine ⟨_, _, by simp only [execOp, ha.ev hx]; simp [hrun]; rfl, hd, _, ?_, hyes e he'.1 he'.2⟩
      have := hw.iter_put (seen ++ [e.born]) clock hu w1 hw1
      simpa using this
theorem V_entryM {r bm since c0 clock : Nat} {seen : List Nat} {es : List MapEntry} {e : MapEntry} (hx : ev ov x = some (.pointer (some ⟨r, 0, none⟩))) (hi : iterA r bm since clock (seen ++ [e.born]) ∈ H) (hb : mapL bm es clock ∈ H) (he : e ∈ es) (hnd : (es.map (·.born)).Nodup) (hd : dOk d n = true) :
    OpV P n D w0 ov H ⟨d, .entry x, T, pos, af, g⟩ (.tuple #[e.key, e.val]) := by
  unfold OpV
  exact ⟨hd, fun a w ha hw => by
    have hr := hw.iter_get hi
    have := run_entry_at (P := P) w r bm since seen.toArray es.toArray clock e (by simpa using hr) (hw.map_get hb) (by simpa using he) (by simpa using hnd)
    simp only [execOp, ha.ev hx]
    simp [this]⟩
theorem V_entryK {r bm since clock : Nat} {seen : List Nat} {es : List MapEntry} {e : MapEntry} {kv vv : Value} (hx : ev ov x = some (.pointer (some ⟨r, 0, none⟩))) (hi : iterA r bm since clock (seen ++ [e.born]) ∈ H) (hb : mapL bm es clock ∈ H) (he : e ∈ es) (hnd : (es.map (·.born)).Nodup) (hk : e.key = kv) (hv : e.val = vv) (hd : dOk d n = true) :
    OpV P n D w0 ov H ⟨d, .entry x, T, pos, af, g⟩ (.tuple #[kv, vv]) := by
  subst hk hv
  exact V_entryM (c0 := clock) hx hi hb he hnd hd
theorem V_fieldV {t s1 b1 s2 b2 fi ft fo : Nat} {z1 z2 : Option (List Value)} {fs : List (Nat × Nat)} {ty2 : Ty} {cs : List Value} (hx : ev ov x = some (.agg cs.toArray)) (h : tlook tb.l t = some ⟨.struct fs, s1, b1, z1⟩) (h2 : nthP fs fi = some (ft, fo)) (h3 : tlook tb.l ft = some ⟨ty2, s2, b2, z2⟩) (ha : aggT ty2 = false) (hv : nth cs fo = some v) (hd : dOk d n = true) :
    OpV P n D w0 ov H ⟨d, .field t x fi, T, pos, af, g⟩ v := by
  unfold OpV
  exact ⟨hd, fun a w haa hw => by
    obtain ⟨fa, e1, e2⟩ := und_struct h
    rw [nth_eq] at hv
    rw [nthP_eq, ← e2, List.getElem?_map] at h2
    cases hf : fa[fi]? with
    | none => simp [hf] at h2
    | some fd =>
      simp [hf] at h2
      obtain ⟨rfl, rfl⟩ := h2
      simp [execOp, haa.ev hx, Instr.field, run_underlying e1, hf, asAgg, part, run_isAgg w h3, ha, hv]⟩
end
end Sx

namespace Go.Proofs.YteelffkghidpfaaGreat
open Sx Go Hd
set_option linter.unusedVariables false
set_option linter.unusedSimpArgs false
/-! ## counts of cells as bytes (plain) -/
def gapB (n : Int) : List Int := if n = 1 then encN 9 0 else if 1 < n then encN 9 (18446744073709551616 - n) else []
def cntB : Int → List (Int × Int) → List Int
  | _, [] => []
  | a, x :: r => gapB (x.1 - a) ++ encN 9 x.2 ++ cntB (x.1 + 1) r
def cntA (T : List (Int × Int)) : List Int := if T = [] then encN 9 0 else cntB 0 T
theorem gapB_len (n : Int) : (gapB n).length ≤ 10 := by
  have h1 := encN_len 9 0
  have h2 := encN_len 9 (18446744073709551616 - n)
  unfold gapB
  split
  · omega
  · split
    · omega
    · simp
theorem cntB_len : ∀ (T : List (Int × Int)) (a : Int), (cntB a T).length ≤ 20 * T.length
  | [], a => by simp [cntB]
  | x :: r, a => by
    have h1 := gapB_len (x.1 - a)
    have h2 := encN_len 9 x.2
    have h3 := cntB_len r (x.1 + 1)
    rw [cntB, List.length_append, List.length_append, List.length_cons]; omega
theorem cntA_len (T : List (Int × Int)) : (cntA T).length ≤ 20 * T.length + 10 := by
  have h1 := encN_len 9 0
  have h2 := cntB_len T 0
  unfold cntA; split <;> omega
theorem cntB_drop {T : List (Int × Int)} {i : Nat} (h : i < T.length) (a : Int) : cntB a (T.drop i) = gapB ((T.getD i (0, 0)).1 - a) ++ encN 9 (T.getD i (0, 0)).2 ++ cntB ((T.getD i (0, 0)).1 + 1) (T.drop (i + 1)) := by
  rw [List.drop_eq_getElem_cons h, cntB, List.getD_eq_getElem?_getD, List.getElem?_eq_getElem h]; rfl
/-- where the next cell may lie -/
def nxC (T : List (Int × Int)) : Nat → Int
  | 0 => 0
  | i + 1 => (T.getD i (0, 0)).1 + 1
theorem nxC_le {T : List (Int × Int)} (hG : GT T) {i : Nat} (h : i < T.length) : 0 ≤ nxC T i ∧ nxC T i ≤ (T.getD i (0, 0)).1 ∧ (T.getD i (0, 0)).1 < 4611686018427387904 := by
  have hk := hG.key _ (getD_mem (T := T) h)
  refine ⟨?_, ?_, hk.2⟩
  · cases i with
    | zero => exact Int.le_refl _
    | succ j => have := hG.key _ (getD_mem (T := T) (i := j) (by omega)); show 0 ≤ (T.getD j (0, 0)).1 + 1; omega
  · cases i with
    | zero => exact hk.1
    | succ j =>
      have := rise_lt hG.right (i := j) (j := j + 1) (by omega) h
      show (T.getD j (0, 0)).1 + 1 ≤ _; omega
section
variable {w0 : World} {H : List Asn}
theorem WR_apps {b : Nat} {p : Option Addr} {c : Nat} {X Y : List Int} {w : World} (h : St w0 (blk b [.slice p (X.length + Y.length) c] :: vec 5 1 (.slice p (X.length + Y.length) c) (X.length + Y.length) (ints .u8 X ++ ints .u8 Y) :: H) w) : St w0 (WRt b p c (X ++ Y) H) w := by
  rw [ints_app] at h
  show St w0 (blk b [.slice p (X ++ Y).length c] :: vec 5 1 (.slice p (X ++ Y).length c) (X ++ Y).length (ints .u8 (X ++ Y)) :: H) w
  rw [List.length_append]
  exact h
theorem PutN_c (u : Int) (hub : 0 ≤ u ∧ u < 18446744073709551616) (q : Option Addr) (d : Nat) (hu : Rd w0 H (.slice q 1 d) 1 (ints .u64 [u])) (w : World) (hw : St w0 H w) :
    Calls Tryz.prog 65 #[.string (bstr [110]), .slice q 1 d] w fun e w' => ∃ p c, e = .returned (.tuple #[.slice p (encN 9 u).length c, .int .i64 0]) ∧ St w0 (vec 5 1 (.slice p (encN 9 u).length c) (encN 9 u).length (ints .u8 (encN 9 u)) :: H) w' := by
  have he : encs [9] [u] = encN 9 u := List.append_nil _
  have h1 : ∀ j, 0 ≤ [u].getD j 0 ∧ [u].getD j 0 < 18446744073709551616 := fun j => by
    match j with
    | 0 => exact hub
    | j + 1 => exact (by decide : (0 : Int) ≤ 0 ∧ (0 : Int) < 18446744073709551616)
  have h2 : ∀ j, j < [u].length → fitA ([9].getD j 0) ([u].getD j 0) := fun j hj => by
    match j, hj with
    | 0, _ => exact .inl rfl
    | j + 1, h => simp at h
  have := WirePut_c (w0 := w0) (H := H) [9] (by decide) (by decide) q d [u] hu rfl h1 h2 w hw
  rw [he] at this
  exact this
set_option maxRecDepth 10000 in
set_option maxHeartbeats 2000000 in
/-- a number of counts -/
theorem CPut_c (b : Nat) (p : Option Addr) (c : Nat) (B : List Int) (hB : B.length ≤ 1000000000) (v u : Int) (hu : IntKind.u64.wrap v = u) (hub : 0 ≤ u ∧ u < 18446744073709551616) (w : World) (hw : St w0 (WRt b p c B H) w) :
    Calls Tryz.prog 102 #[.int .i64 v, .pointer (some ⟨b, 0, none⟩)] w fun e w' => e = .returned (.tuple #[]) ∧ ∃ p c, St w0 (WRt b p c (B ++ encN 9 u) H) w' := by
  have hel := encN_len 9 u
  refine enter (vs := [.int .i64 v, .pointer (some ⟨b, 0, none⟩)]) Tryz.func102 rfl rfl rfl hw ?_
  clear hw w
  repeat (first | (apply gJO; refine JO_v (V_conv (tb := tb) rfl rfl rfl hu rfl) ?_) | first | (refine sx ?_; try intro _))
  refine JO_call (vs := [.string (bstr [110]), .slice _ 1 1]) Tryz.call65 rfl rfl fun w hw => (PutN_c u hub _ _ (vec_rd (List.Mem.head _)) w hw).mono ?_
  rintro e w' ⟨p', c', rfl, hw'⟩
  (refine ⟨_, rfl, _, hw', ?_⟩; clear hw' hw w w')
  generalize encN 9 u = Y at *
  repeat (first | (refine sx ?_; try intro _))
  refine JO_app (tb := tb) rfl rfl rfl rfl rfl rfl (by repeat (first | exact Sel.here _ _ | apply Sel.there)) (by first | exact vec_rd (by repeat (first | apply List.Mem.head | apply List.Mem.tail)) | assumption | exact ArgRd.rd (by assumption) _ | (apply Rd_weak; assumption; intro _ hx; exact dS hx)) (by rw [ints_len, Nat.mul_one]) ints_one (by omega) rfl ?_
  intro q d
  repeat (first | (refine sx ?_; try intro _))
  exact JS_fin Tryz.func102 rfl rfl fun w hw => ⟨rfl, q, d, WR_apps (dS hw)⟩
set_option maxRecDepth 10000 in
set_option maxHeartbeats 2000000 in
/-- cells without a count -/
theorem CZeros_c (pb b : Nat) (hp : blk pb [.func (.func 102) #[] #[.pointer (some ⟨b, 0, none⟩)]] ∈ H) (p : Option Addr) (c : Nat) (B : List Int) (hB : B.length ≤ 1000000000) (n : Int) (hn : 0 ≤ n ∧ n < 4611686018427387904) (w : World) (hw : St w0 (WRt b p c B H) w) :
    Calls Tryz.prog 103 #[.int .i64 n, .pointer (some ⟨pb, 0, none⟩)] w fun e w' => e = .returned (.tuple #[]) ∧ ∃ p c, St w0 (WRt b p c (B ++ gapB n) H) w' := by
  refine enter (vs := [.int .i64 n, .pointer (some ⟨pb, 0, none⟩)]) Tryz.func103 rfl rfl rfl hw ?_
  clear hw w
  unfold gapB
  by_cases h1 : n = 1
  · rw [if_pos h1]
    repeat (first | (apply gJO; refine JO_v (oL (V_load (tb := tb) rfl (List.Mem.tail _ (List.Mem.tail _ hp)) rfl rfl rfl rfl)) ?_) | first | (refine sx ?_; try intro _))
    refine JO_callv (us := []) (cs := [.pointer (some ⟨b, 0, none⟩)]) rfl Tryz.call102 rfl rfl fun w hw => (CPut_c b p c B hB 0 0 rfl (by decide) w hw).mono ?_
    rintro e w' ⟨rfl, p', c', hw'⟩
    (refine ⟨_, rfl, _, hw', ?_⟩; clear hw' hw w w')
    repeat (first | (refine sx ?_; try intro _))
    exact JS_fin Tryz.func103 rfl rfl fun w hw => ⟨rfl, p', c', hw⟩
  · rw [if_neg h1]
    by_cases h2 : 1 < n
    · rw [if_pos h2]
      repeat (first | (apply gJO; refine JO_v (oL (V_load (tb := tb) rfl (List.Mem.tail _ (List.Mem.tail _ hp)) rfl rfl rfl rfl)) ?_) | first | (refine sx ?_; try intro _))
      refine JO_callv (us := []) (cs := [.pointer (some ⟨b, 0, none⟩)]) rfl Tryz.call102 rfl rfl fun w hw => (CPut_c b p c B hB (0 - n) (18446744073709551616 - n) (by rw [mu64]; omega) (by omega) w hw).mono ?_
      rintro e w' ⟨rfl, p', c', hw'⟩
      (refine ⟨_, rfl, _, hw', ?_⟩; clear hw' hw w w')
      repeat (first | (refine sx ?_; try intro _))
      exact JS_fin Tryz.func103 rfl rfl fun w hw => ⟨rfl, p', c', hw⟩
    · rw [if_neg h2, List.append_nil]
      repeat (first | (refine sx ?_; try intro _))
      exact JS_fin Tryz.func103 rfl rfl fun w hw => ⟨rfl, p, c, hw⟩
set_option maxRecDepth 10000 in
set_option maxHeartbeats 4000000 in
theorem Counts_c (q : Option Addr) (d : Nat) (T : List (Int × Int)) (hr : Rd w0 H (.slice q T.length d) T.length (flat T)) (hG : GT T) (hl : T.length ≤ 1000000) (w : World) (hw : St w0 H w) :
    Calls Tryz.prog 64 #[.slice q T.length d] w fun e w' => ∃ p c, e = .returned (.slice p (cntA T).length c) ∧ St w0 (vec 5 1 (.slice p (cntA T).length c) (cntA T).length (ints .u8 (cntA T)) :: H) w' := by
  have htot := hG.tot
  refine enter (vs := [.slice q T.length d]) Tryz.func64 rfl rfl rfl hw ?_
  clear hw w
  repeat (first | (apply gJR; first | (refine sx ?_; try intro _)) | (apply gJO; first | (refine sx ?_; try intro _)) | apply JS_seq | apply JS_region)
  rename_i bb pb
  refine JS_block ?_
  refine JS_loop4 (fun (i : Nat) (X : List Int) (p : Option Addr) (c : Nat) => [(0, .slice q T.length d), (3, .pointer (some ⟨bb, 0, none⟩)), (4, .pointer (some ⟨pb, 0, none⟩)), (5, .func (.func 103) #[] #[.pointer (some ⟨pb, 0, none⟩)]), (6, .int .i64 (nxC T i)), (11, .slice q T.length d), (12, .int .i64 T.length), (13, .int .i64 i)])
    (fun i X p c => WRt bb p c X (blk pb [.func (.func 102) #[] #[.pointer (some ⟨bb, 0, none⟩)]] :: H)) (fun i X _ _ => i ≤ T.length ∧ X.length ≤ 20 * i ∧ X ++ cntB (nxC T i) (T.drop i) = cntB 0 T) (fun i _ _ _ => T.length - i) 0 [] none 0 ⟨Nat.zero_le _, Nat.zero_le _, rfl⟩ (by repeat (first | exact trivial | refine ⟨rfl, ?_⟩ | refine ⟨lookI rfl (by omega), ?_⟩)) (fun w hw => by
      refine St.perm (St.nilvec (e := 5) (sz := 1) (base := none) hw) ?_
      (repeat (first | exact List.Perm.refl _ | refine List.Perm.cons _ ?_ | refine (List.perm_middle (l₁ := [_])).trans (List.Perm.cons _ ?_) | refine (List.perm_middle (l₁ := [_, _])).trans (List.Perm.cons _ ?_) | refine (List.perm_middle (l₁ := [_, _, _])).trans (List.Perm.cons _ ?_) | refine (List.perm_middle (l₁ := [_, _, _, _])).trans (List.Perm.cons _ ?_) | refine (List.perm_middle (l₁ := [_, _, _, _, _])).trans (List.Perm.cons _ ?_) | refine (List.perm_middle (l₁ := [_, _, _, _, _, _])).trans (List.Perm.cons _ ?_) | refine (List.perm_middle (l₁ := [_, _, _, _, _, _, _])).trans (List.Perm.cons _ ?_) | refine (List.perm_middle (l₁ := [_, _, _, _, _, _, _, _])).trans (List.Perm.cons _ ?_) | refine (List.perm_middle (l₁ := [_, _, _, _, _, _, _, _, _])).trans (List.Perm.cons _ ?_) | refine (List.perm_middle (l₁ := [_, _, _, _, _, _, _, _, _, _])).trans (List.Perm.cons _ ?_) | refine (List.perm_middle (l₁ := [_, _, _, _, _, _, _, _, _, _, _])).trans (List.Perm.cons _ ?_) | refine (List.perm_middle (l₁ := [_, _, _, _, _, _, _, _, _, _, _, _])).trans (List.Perm.cons _ ?_) | refine (List.perm_middle (l₁ := [_, _, _, _, _, _, _, _, _, _, _, _, _])).trans (List.Perm.cons _ ?_)))) ?_
  intro i X p c ⟨hi, hX, he⟩ again
  by_cases hil : i < T.length
  · have hseg := flat_seg T i hil
    have hnx := nxC_le hG hil
    have hpos := hG.pos _ (getD_mem (T := T) hil)
    have hsm := sw_mem hG.pos _ (getD_mem (T := T) hil)
    rw [cntB_drop hil, ← List.append_assoc, ← List.append_assoc] at he
    have hg1 := gapB_len ((T.getD i (0, 0)).1 - nxC T i)
    have hg2 := encN_len 9 (T.getD i (0, 0)).2
    have hn1 : nxC T (i + 1) = (T.getD i (0, 0)).1 + 1 := rfl
    have again' := again (i + 1)
    clear again
    rw [hn1] at again'
    generalize T.getD i (0, 0) = t at *
    obtain ⟨tk, tn⟩ := t
    simp only [] at hseg hnx hpos hsm he hg1 hg2 again'
    generalize nxC T i = a at *
    repeat (first | (apply gJO; first | refine JO_v (oIA (V_index (tb := tb) rfl rfl rfl rfl (Rd.sl (Rd_weak hr fun w hw => dS hw)) (by omega) rfl rfl)) ?_ | refine JO_v (oL (V_loadCA (tb := tb) rfl (Rd_weak hr fun w hw => dS hw) rfl rfl rfl (by decide) hseg rfl)) ?_) | first | (refine sx ?_; try intro _))
    rename_i fb
    refine JO_callv (us := []) (cs := [.pointer (some ⟨pb, 0, none⟩)]) rfl Tryz.call103 rfl rfl fun w hw => (CZeros_c (H := blk fb [.int .i64 tk, .int .u64 tn] :: blk pb [.func (.func 102) #[] #[.pointer (some ⟨bb, 0, none⟩)]] :: H) pb bb (List.Mem.tail _ (List.Mem.head _)) p c X (by omega) (tk - a) (by omega) w (hw.perm (by (repeat (first | exact List.Perm.refl _ | refine List.Perm.cons _ ?_ | refine (List.perm_middle (l₁ := [_])).trans (List.Perm.cons _ ?_) | refine (List.perm_middle (l₁ := [_, _])).trans (List.Perm.cons _ ?_) | refine (List.perm_middle (l₁ := [_, _, _])).trans (List.Perm.cons _ ?_) | refine (List.perm_middle (l₁ := [_, _, _, _])).trans (List.Perm.cons _ ?_) | refine (List.perm_middle (l₁ := [_, _, _, _, _])).trans (List.Perm.cons _ ?_) | refine (List.perm_middle (l₁ := [_, _, _, _, _, _])).trans (List.Perm.cons _ ?_) | refine (List.perm_middle (l₁ := [_, _, _, _, _, _, _])).trans (List.Perm.cons _ ?_) | refine (List.perm_middle (l₁ := [_, _, _, _, _, _, _, _])).trans (List.Perm.cons _ ?_) | refine (List.perm_middle (l₁ := [_, _, _, _, _, _, _, _, _])).trans (List.Perm.cons _ ?_) | refine (List.perm_middle (l₁ := [_, _, _, _, _, _, _, _, _, _])).trans (List.Perm.cons _ ?_) | refine (List.perm_middle (l₁ := [_, _, _, _, _, _, _, _, _, _, _])).trans (List.Perm.cons _ ?_) | refine (List.perm_middle (l₁ := [_, _, _, _, _, _, _, _, _, _, _, _])).trans (List.Perm.cons _ ?_) | refine (List.perm_middle (l₁ := [_, _, _, _, _, _, _, _, _, _, _, _, _])).trans (List.Perm.cons _ ?_)))))).mono ?_
    rintro e w' ⟨rfl, p', c', hw'⟩
    (refine ⟨_, rfl, _, hw', ?_⟩; clear hw' hw w w')
    repeat (first | (refine sx ?_; try intro _))
    refine JO_callv (us := []) (cs := [.pointer (some ⟨bb, 0, none⟩)]) rfl Tryz.call102 rfl rfl fun w hw => (CPut_c bb p' c' _ (by rw [List.length_append]; omega) _ tn (by rw [mu64]; omega) (by omega) w hw).mono ?_
    rintro e w' ⟨rfl, p2, c2, hw'⟩
    (refine ⟨_, rfl, _, hw', ?_⟩; clear hw' hw w w')
    repeat (first | (refine sx ?_; try intro _))
    exact JS_weak (again' (X ++ gapB (tk - a) ++ encN 9 tn) p2 c2 ⟨by omega, by rw [List.length_append, List.length_append]; omega, he⟩ (by omega)) (by repeat (first | exact trivial | refine ⟨rfl, ?_⟩ | refine ⟨lookI rfl (by omega), ?_⟩)) (fun w hw => dS hw)
  · obtain rfl : i = T.length := by omega
    rw [List.drop_length, cntB, List.append_nil] at he
    subst he
    by_cases hT : T = []
    · have hl0 : T.length = 0 := by rw [hT]; rfl
      have hA : cntA T = encN 9 0 := if_pos hT
      have hB : cntB 0 T = [] := by rw [hT]; rfl
      rw [hA, hB]
      repeat (first | (refine sx ?_; try intro _))
      refine JO_callv (us := []) (cs := [.pointer (some ⟨bb, 0, none⟩)]) rfl Tryz.call102 rfl rfl fun w hw => (CPut_c bb p c [] (by simp) 0 0 rfl (by decide) w hw).mono ?_
      rintro e w' ⟨rfl, p2, c2, hw'⟩
      (refine ⟨_, rfl, _, hw', ?_⟩; clear hw' hw w w')
      rw [List.nil_append]
      repeat (first | (refine sx ?_; try intro _))
      exact JS_ret Tryz.func64 rfl rfl fun w hw => ⟨p2, c2, rfl, dS hw⟩
    · have hl0 := List.length_pos_iff.2 hT
      have hA : cntA T = cntB 0 T := if_neg hT
      rw [hA]
      repeat (first | (refine sx ?_; try intro _))
      exact JS_ret Tryz.func64 rfl rfl fun w hw => ⟨p, c, rfl, dS hw⟩
end
end Go.Proofs.YteelffkghidpfaaGreat

namespace Go.Proofs.YteelffkghidpfaaGreat
open Sx Go
set_option linter.unusedVariables false
set_option linter.unusedSimpArgs false
/-- does the highest byte come first? -/
def hiA : Nat → Bool
  | 2 => true | 4 => true | 6 => true | _ => false
theorem tab_cons (n : Nat) (f : Nat → Int) : tab (n + 1) f = f 0 :: tab n fun i => f (i + 1) := by
  unfold tab
  rw [List.range_succ_eq_map, List.map_cons, List.map_map]; rfl
theorem hiB_cons (i : Nat) (n : Int) : hiB (i + 1) n = lowF n i :: hiB i n := by
  unfold hiB
  rw [tab_cons]
  congr 1
  exact tab_congr fun j hj => by rw [show i + 1 - 1 - (j + 1) = i - 1 - j by omega]
theorem lowB_snoc (i : Nat) (n : Int) : lowB (i + 1) n = lowB i n ++ [lowF n i] := tab_succ i (lowF n)
theorem div_st2 {n : Int} (i : Nat) : n / 256 ^ i / 256 = n / 256 ^ (i + 1) := by
  rw [Int.ediv_ediv_of_nonneg (by exact Int.le_of_lt (Int.pow_pos (by decide))), Int.pow_succ]
theorem div_bd {n : Int} (h : 0 ≤ n) (i : Nat) : 0 ≤ n / 256 ^ i ∧ n / 256 ^ i ≤ n := ⟨Int.ediv_nonneg h (Int.le_of_lt (Int.pow_pos (by decide))), Int.ediv_le_self _ h⟩
section
variable {w0 : World} {H : List Asn}
set_option maxRecDepth 10000 in
set_option maxHeartbeats 2000000 in
theorem RFix_c (k : Nat) (hk : k < 10) (w : World) (hw : St w0 H w) :
    Calls Tryz.prog 93 #[.int .u8 (ltA k)] w fun e w' => e = .returned (.tuple #[.int .i64 (szA k), .bool (hiA k)]) ∧ St w0 H w' := by
  refine enter (vs := [.int .u8 (ltA k)]) Tryz.func93 rfl rfl rfl hw ?_
  clear hw w
  match k, hk with
  | 0, _ | 1, _ | 2, _ | 3, _ | 4, _ | 5, _ | 6, _ | 7, _ | 8, _ | 9, _ =>
    repeat (first | (refine sx ?_; try intro _))
    exact JS_ret Tryz.func93 rfl rfl fun w hw => ⟨rfl, hw⟩
  | k + 10, h => exact absurd h (by omega)
set_option maxRecDepth 10000 in
theorem RSign_c (a : Int) (ha : 0 ≤ a ∧ a < 18446744073709551616) (w : World) (hw : St w0 H w) :
    Calls Tryz.prog 123 #[.int .u64 a] w fun e w' => e = .returned (.int .u64 (sgn a)) ∧ St w0 H w' := by
  refine enter (vs := [.int .u64 a]) Tryz.func123 rfl rfl rfl hw ?_
  clear hw w
  unfold sgn
  by_cases h : a < 9223372036854775808
  · rw [if_pos h]
    repeat (first | (refine sx ?_; try intro _))
    exact JS_ret Tryz.func123 rfl rfl fun w hw => ⟨rfl, hw⟩
  · rw [if_neg h]
    repeat (first | (refine sx ?_; try intro _))
    exact JS_ret Tryz.func123 rfl rfl fun w hw => ⟨by rw [show 36893488147419103231 - 2 * a = 2 * (18446744073709551615 - a) + 1 by omega]; rfl, hw⟩
set_option maxRecDepth 10000 in
set_option maxHeartbeats 4000000 in
theorem OneF_c (k : Nat) (hk : k < 7) (n : Int) (hn : 0 ≤ n ∧ n < 18446744073709551616) (w : World) (hw : St w0 H w) :
    Calls Tryz.prog 81 #[.int .u8 (ltA k), .int .u64 n] w fun e w' => ∃ p c, e = .returned (.tuple #[.slice p (encN k n).length c, .bool (decide (n / 256 ^ (szA k).toNat = 0))]) ∧ St w0 (vec 5 1 (.slice p (encN k n).length c) (encN k n).length (ints .u8 (encN k n)) :: H) w' := by
  have hfx := fun {H} w hw => RFix_c (w0 := w0) (H := H) k (by omega) w hw
  have hs : 0 < szA k ∧ szA k ≤ 8 := by
    match k, hk with
    | 0, _ | 1, _ | 2, _ | 3, _ | 4, _ | 5, _ | 6, _ => decide
    | k + 7, h => exact absurd h (by omega)
  have hen : encN k n = if hiA k then hiB (szA k).toNat n else lowB (szA k).toNat n := by
    match k, hk with
    | 0, _ | 1, _ | 2, _ | 3, _ | 4, _ | 5, _ | 6, _ => rfl
    | k + 7, h => exact absurd h (by omega)
  obtain ⟨s, hse⟩ := Int.eq_ofNat_of_zero_le (Int.le_of_lt hs.1)
  rw [hse, Int.toNat_natCast] at hen ⊢
  rw [hse] at hfx hs
  refine enter (vs := [.int .u8 (ltA k), .int .u64 n]) Tryz.func81 rfl rfl rfl hw ?_
  clear hw w
  repeat (first | (refine sx ?_; try intro _))
  refine JO_call Tryz.call93 rfl rfl fun w hw => (hfx w hw).mono ?_
  rintro e w' ⟨rfl, hw'⟩
  (refine ⟨_, rfl, _, hw', ?_⟩; clear hw' hw w w')
  clear hfx
  have hd0 := (div_bd hn.1 s)
  cases hh : hiA k with
  | false =>
    rw [hh] at hen
    simp only [Bool.false_eq_true, if_false] at hen
    rw [hen]
    repeat (first | (apply gJR; first | (refine sx ?_; try intro _)) | (apply gJO; first | (refine sx ?_; try intro _)) | (apply gJS; first | refine JS_condT rfl ?_ | refine JS_cond_T rfl (by omega) ?_) | apply JS_skip | apply JS_seq | apply JS_region)
    refine JS_block ?_
    refine JS_loop3 (fun (i : Nat) (p : Option Addr) (c : Nat) => [(6, .int .i64 s), (7, .bool false), (8, .slice p (lowB i n).length c), (9, .int .u64 (n / 256 ^ i)), (10, .int .i64 i)]) (fun i p c => vec 5 1 (.slice p (lowB i n).length c) (lowB i n).length (ints .u8 (lowB i n)) :: H) (fun i _ _ => i ≤ s) (fun i _ _ => s - i) 0 none 0 (Nat.zero_le _) (by exact ⟨rfl, rfl, rfl, lookI rfl (by simp), rfl, trivial⟩) (fun w hw => St.nilvec hw) ?_
    intro i p c hi again
    by_cases his : i < s
    · have hb := div_bd hn.1 i
      have hst := div_st2 (n := n) i
      have hf : n / 256 ^ i % 256 = lowF n i := rfl
      have hfb := lowF_bd n i
      have hsn := lowB_snoc i n
      have hl : (lowB i n).length = i := tab_len _ _
      have again' := again (i + 1)
      clear again
      rw [hsn] at again'
      generalize lowB i n = X at *
      generalize lowF n i = z at *
      rw [← hst] at again'
      clear hst
      generalize n / 256 ^ i = m at *
      have c8 : IntKind.u8.wrap (m % 256) = z := by rw [mu8]; omega
      repeat (first | (apply gJO; first | refine JO_v (V_conv (tb := tb) rfl rfl rfl c8 rfl) ?_ | (refine JO_app (tb := tb) rfl rfl rfl rfl rfl rfl (by repeat (first | exact Sel.here _ _ | apply Sel.there)) (by first | exact vec_rd (by repeat (first | apply List.Mem.head | apply List.Mem.tail)) | assumption | exact ArgRd.rd (by assumption) _ | (apply Rd_weak; assumption; intro _ hx; exact dS hx)) (by simp only [ints_len, List.length_cons, List.length_nil]; first | omega | rfl) (by first | exact ints_one | (repeat (first | exact trivial | refine ⟨rfl, ?_⟩))) (by omega) rfl ?_; intro _ _)) | first | (refine sx ?_; try intro _))
      have e1 : ints .u8 X ++ [Value.int .u8 z] = ints .u8 (X ++ [z]) := by rw [← ints_app]; rfl
      exact JS_weak (again' _ _ (by omega) (by omega)) (by rw [List.length_append]; exact ⟨rfl, rfl, rfl, rfl, rfl, trivial⟩) (fun w hw => by rw [List.length_append, ← e1]; exact dS hw)
    · obtain rfl : i = s := by omega
      repeat (first | (refine sx ?_; try intro _))
      exact JS_ret Tryz.func81 rfl rfl fun w hw => ⟨p, c, rfl, hw⟩
  | true =>
    rw [hh] at hen
    simp only [if_true] at hen
    rw [hen]
    repeat (first | (apply gJR; first | (refine sx ?_; try intro _)) | (apply gJO; first | (refine sx ?_; try intro _)) | (apply gJS; first | refine JS_condT rfl ?_ | refine JS_cond_T rfl (by omega) ?_) | apply JS_skip | apply JS_seq | apply JS_region)
    refine JS_block ?_
    refine JS_loop3 (fun (i : Nat) (p : Option Addr) (c : Nat) => [(6, .int .i64 s), (7, .bool true), (8, .slice p (hiB i n).length c), (9, .int .u64 (n / 256 ^ i)), (10, .int .i64 i)]) (fun i p c => vec 5 1 (.slice p (hiB i n).length c) (hiB i n).length (ints .u8 (hiB i n)) :: H) (fun i _ _ => i ≤ s) (fun i _ _ => s - i) 0 none 0 (Nat.zero_le _) (by exact ⟨rfl, rfl, rfl, lookI rfl (by simp), rfl, trivial⟩) (fun w hw => St.nilvec hw) ?_
    intro i p c hi again
    by_cases his : i < s
    · have hb := div_bd hn.1 i
      have hst := div_st2 (n := n) i
      have hf : n / 256 ^ i % 256 = lowF n i := rfl
      have hfb := lowF_bd n i
      have hsn := hiB_cons i n
      have hl : (hiB i n).length = i := tab_len _ _
      have again' := again (i + 1)
      clear again
      rw [hsn] at again'
      generalize hiB i n = X at *
      generalize lowF n i = z at *
      rw [← hst] at again'
      clear hst
      generalize n / 256 ^ i = m at *
      have c8 : IntKind.u8.wrap (m % 256) = z := by rw [mu8]; omega
      repeat (first | (apply gJO; first | refine JO_v (V_conv (tb := tb) rfl rfl rfl c8 rfl) ?_ | (refine JO_app (tb := tb) rfl rfl rfl rfl rfl rfl (by repeat (first | exact Sel.here _ _ | apply Sel.there)) (by first | exact vec_rd (by repeat (first | apply List.Mem.head | apply List.Mem.tail)) | assumption | exact ArgRd.rd (by assumption) _ | (apply Rd_weak; assumption; intro _ hx; exact dS hx)) (by simp only [ints_len, List.length_cons, List.length_nil]; first | omega | rfl) (by first | exact ints_one | (repeat (first | exact trivial | refine ⟨rfl, ?_⟩))) (by omega) rfl ?_; intro _ _)) | first | (refine sx ?_; try intro _))
      have e1 : [Value.int .u8 z] ++ ints .u8 X = ints .u8 (z :: X) := rfl
      have e2 : (z :: X).length = 1 + X.length := by rw [List.length_cons]; omega
      exact JS_weak (again' _ _ (by omega) (by omega)) (by rw [e2]; exact ⟨rfl, rfl, rfl, rfl, rfl, trivial⟩) (fun w hw => by rw [e2, ← e1]; exact dS hw)
    · obtain rfl : i = s := by omega
      repeat (first | (refine sx ?_; try intro _))
      exact JS_ret Tryz.func81 rfl rfl fun w hw => ⟨p, c, rfl, hw⟩
theorem varB_last' {f : Nat} {m : Int} (h : m ≤ 127 ∨ f = 0) : varB f m = [m] := by
  rcases h with h | rfl
  · exact varB_last h
  · rfl
set_option maxRecDepth 10000 in
set_option maxHeartbeats 4000000 in
theorem OneV_c (k : Nat) (hk : 7 ≤ k ∧ k < 10) (n : Int) (hn : 0 ≤ n ∧ n < 18446744073709551616) (w : World) (hw : St w0 H w) :
    Calls Tryz.prog 81 #[.int .u8 (ltA k), .int .u64 n] w fun e w' => ∃ p c, e = .returned (.tuple #[.slice p (encN k n).length c, .bool true]) ∧ St w0 (vec 5 1 (.slice p (encN k n).length c) (encN k n).length (ints .u8 (encN k n)) :: H) w' := by
  have hfx := fun {H} w hw => RFix_c (w0 := w0) (H := H) k (by omega) w hw
  have hs : szA k = 0 ∧ hiA k = false := by
    rcases (show k = 7 ∨ k = 8 ∨ k = 9 by omega) with rfl | rfl | rfl <;> decide
  rw [hs.1, hs.2] at hfx
  have hlet : ltA k = 118 ∨ ltA k = 122 ∨ ltA k = 110 := by
    rcases (show k = 7 ∨ k = 8 ∨ k = 9 by omega) with rfl | rfl | rfl <;> decide
  have hsg := sgn_bd hn
  obtain ⟨F, m0, hen, hm0, hF, hm1, hF9⟩ : ∃ (F : Nat) (m0 : Int), encN k n = varB F m0 ∧ (0 ≤ m0 ∧ m0 < 18446744073709551616) ∧ ((ltA k = 110 ∧ F = 8) ∨ (ltA k ≠ 110 ∧ F = 9)) ∧ ((ltA k = 118 ∧ m0 = n) ∨ (ltA k ≠ 118 ∧ m0 = sgn n)) ∧ F ≤ 9 := by
    rcases (show k = 7 ∨ k = 8 ∨ k = 9 by omega) with rfl | rfl | rfl
    · exact ⟨9, n, rfl, hn, .inr ⟨by decide, rfl⟩, .inl ⟨rfl, rfl⟩, by decide⟩
    · exact ⟨9, sgn n, rfl, hsg, .inr ⟨by decide, rfl⟩, .inr ⟨by decide, rfl⟩, by decide⟩
    · exact ⟨8, sgn n, rfl, hsg, .inl ⟨by decide, rfl⟩, .inr ⟨by decide, rfl⟩, by decide⟩
  rw [hen]
  have hSg := fun {H} w hw => RSign_c (w0 := w0) (H := H) n hn w hw
  have hltb := ltA_bd k
  clear hs hen
  generalize ltA k = l at *
  refine enter (vs := [.int .u8 l, .int .u64 n]) Tryz.func81 rfl rfl rfl hw ?_
  clear hw w
  repeat (first | (refine sx ?_; try intro _))
  refine JO_call Tryz.call93 rfl rfl fun w hw => (hfx w hw).mono ?_
  rintro e w' ⟨rfl, hw'⟩
  (refine ⟨_, rfl, _, hw', ?_⟩; clear hw' hw w w')
  clear hfx
  have hK : JS Tryz.prog 81 Tryz.f81.ntmps (fun e w' => ∃ p c, e = .returned (.tuple #[.slice p (varB F m0).length c, .bool true]) ∧ St w0 (vec 5 1 (.slice p (varB F m0).length c) (varB F m0).length (ints .u8 (varB F m0)) :: H) w') [] w0 (todo Tryz.f81 [.b, .b, .b, .b, .b, .b]) [(0, .int .u8 l), (8, .slice none 0 0), (11, .int .u64 m0)] H := by
    clear hSg hm1 hsg
    refine JS_at rfl ?_
    repeat (first | (apply gJR; first | (refine sx ?_; try intro _)) | (apply gJO; first | (refine sx ?_; try intro _)) | apply JS_seq | apply JS_region)
    refine JS_block ?_
    refine JS_loop5 (fun (f : Nat) (m : Int) (X : List Int) (p : Option Addr) (c : Nat) => [(0, .int .u8 l), (8, .slice p X.length c), (11, .int .u64 m)]) (fun f m X p c => vec 5 1 (.slice p X.length c) X.length (ints .u8 X) :: H) (fun f m X _ _ => X ++ varB f m = varB F m0 ∧ X.length + f = F ∧ 0 ≤ m ∧ m < 18446744073709551616 ∧ (F = 9 → m < 2 * 128 ^ f) ∧ (F = 8 → m < 256 * 128 ^ f)) (fun f _ _ _ _ => f) F m0 [] none 0 ⟨rfl, by simp, hm0.1, hm0.2, ?_, ?_⟩ (by repeat (first | exact trivial | refine ⟨rfl, ?_⟩ | refine ⟨lookI rfl (by omega), ?_⟩)) (fun w hw => St.nilvec hw) ?_
    · rintro rfl; exact Int.lt_of_lt_of_le hm0.2 (by decide)
    · rintro rfl; exact Int.lt_of_lt_of_le hm0.2 (by decide)
    intro f m X p c ⟨he, hl, hm0, hm1, hm2, hm3⟩ again
    have hcase : (m ≤ 127 ∧ ¬ 127 < m) ∨ (127 < m ∧ l = 110 ∧ X.length = 8 ∧ f = 0) ∨ (127 < m ∧ l = 110 ∧ ¬ X.length = 8 ∧ f ≠ 0) ∨ (127 < m ∧ ¬ l = 110 ∧ f ≠ 0) := by
      rcases Int.lt_or_le 127 m with h | h
      · right
        rcases hF with ⟨h1, rfl⟩ | ⟨h1, rfl⟩
        · by_cases h2 : X.length = 8
          · exact .inl ⟨h, h1, h2, by omega⟩
          · exact .inr (.inl ⟨h, h1, h2, by omega⟩)
        · refine .inr (.inr ⟨h, h1, fun h2 => ?_⟩)
          subst h2
          have := hm2 rfl
          simp at this
          omega
      · exact .inl ⟨h, by omega⟩
    have hgo : 127 < m → f ≠ 0 → ∃ f', f = f' + 1 ∧ X ++ [m % 128 + 128] ++ varB f' (m / 128) = varB F m0 ∧ (F = 9 → m / 128 < 2 * 128 ^ f') ∧ (F = 8 → m / 128 < 256 * 128 ^ f') := by
      intro h1 h2
      obtain ⟨f', rfl⟩ : ∃ f', f = f' + 1 := ⟨f - 1, by omega⟩
      refine ⟨f', rfl, ?_, fun h => ?_, fun h => ?_⟩
      · rw [← he, varB_step (by omega), List.append_assoc]; rfl
      · have := hm2 h
        rw [Int.pow_succ] at this
        generalize (128 : Int) ^ f' = z at *
        omega
      · have := hm3 h
        rw [Int.pow_succ] at this
        generalize (128 : Int) ^ f' = z at *
        omega
    have hend : (m ≤ 127 ∨ f = 0) → X ++ [m] = varB F m0 ∧ m < 256 := by
      intro h
      refine ⟨by rw [← he, varB_last' h], ?_⟩
      rcases h with h | rfl
      · omega
      · rcases hF with ⟨_, h⟩ | ⟨_, h⟩
        · have := hm3 h; simp at this; omega
        · have := hm2 h; simp at this; omega
    clear hm2 hm3
    have e1 := fun z => show ints .u8 X ++ [Value.int .u8 z] = ints .u8 (X ++ [z]) by rw [← ints_app]; rfl
    rcases hcase with ⟨h1, h2⟩ | ⟨h1, h2, h3, h4⟩ | ⟨h1, h2, h3, h4⟩ | ⟨h1, h2, h4⟩
    · obtain ⟨hX, hm⟩ := hend (.inl h1)
      have c8 : IntKind.u8.wrap m = m := wu8 (by omega)
      rw [← hX]
      repeat (first | (apply gJO; first | refine JO_v (V_conv (tb := tb) rfl rfl rfl c8 rfl) ?_ | (refine JO_app (tb := tb) rfl rfl rfl rfl rfl rfl (by repeat (first | exact Sel.here _ _ | apply Sel.there)) (by first | exact vec_rd (by repeat (first | apply List.Mem.head | apply List.Mem.tail)) | assumption | exact ArgRd.rd (by assumption) _ | (apply Rd_weak; assumption; intro _ hx; exact dS hx)) (by simp only [ints_len, List.length_cons, List.length_nil]; first | omega | rfl) (by first | exact ints_one | (repeat (first | exact trivial | refine ⟨rfl, ?_⟩))) (by omega) rfl ?_; intro _ _)) | first | (refine sx ?_; try intro _))
      exact JS_ret Tryz.func81 rfl rfl fun w hw => ⟨_, _, by rw [List.length_append]; rfl, by rw [List.length_append, ← e1]; exact dS hw⟩
    · obtain ⟨hX, hm⟩ := hend (.inr h4)
      have c8 : IntKind.u8.wrap m = m := wu8 (by omega)
      rw [← hX]
      repeat (first | (apply gJO; first | refine JO_v (V_conv (tb := tb) rfl rfl rfl c8 rfl) ?_ | (refine JO_app (tb := tb) rfl rfl rfl rfl rfl rfl (by repeat (first | exact Sel.here _ _ | apply Sel.there)) (by first | exact vec_rd (by repeat (first | apply List.Mem.head | apply List.Mem.tail)) | assumption | exact ArgRd.rd (by assumption) _ | (apply Rd_weak; assumption; intro _ hx; exact dS hx)) (by simp only [ints_len, List.length_cons, List.length_nil]; first | omega | rfl) (by first | exact ints_one | (repeat (first | exact trivial | refine ⟨rfl, ?_⟩))) (by omega) rfl ?_; intro _ _)) | first | (refine sx ?_; try intro _))
      exact JS_ret Tryz.func81 rfl rfl fun w hw => ⟨_, _, by rw [List.length_append]; rfl, by rw [List.length_append, ← e1]; exact dS hw⟩
    all_goals (
      obtain ⟨f', hf', hX, hy, hz⟩ := hgo h1 h4
      subst hf'
      have c8 : IntKind.u8.wrap (128 + m % 128) = m % 128 + 128 := (wu8 (by omega)).trans (by omega)
      clear hgo hend he
      repeat (first | (apply gJO; first | refine JO_v (V_conv (tb := tb) rfl rfl rfl c8 rfl) ?_ | (refine JO_app (tb := tb) rfl rfl rfl rfl rfl rfl (by repeat (first | exact Sel.here _ _ | apply Sel.there)) (by first | exact vec_rd (by repeat (first | apply List.Mem.head | apply List.Mem.tail)) | assumption | exact ArgRd.rd (by assumption) _ | (apply Rd_weak; assumption; intro _ hx; exact dS hx)) (by simp only [ints_len, List.length_cons, List.length_nil]; first | omega | rfl) (by first | exact ints_one | (repeat (first | exact trivial | refine ⟨rfl, ?_⟩))) (by omega) rfl ?_; intro _ _)) | first | (refine sx ?_; try intro _))
      exact JS_again5 again f' (m / 128) (X ++ [m % 128 + 128]) _ _ ⟨hX, by rw [List.length_append, List.length_singleton]; omega, by omega, by omega, hy, hz⟩ (by omega) (by rw [List.length_append]; exact ⟨rfl, rfl, rfl, trivial⟩) (fun w hw => by rw [List.length_append, ← e1]; exact dS hw))
  rcases hm1 with ⟨h1, rfl⟩ | ⟨h1, rfl⟩
  · clear hlet hSg
    repeat (first | exact JS_of_at (JS_weak hK (by repeat (first | exact trivial | refine ⟨rfl, ?_⟩ | refine ⟨lookI rfl (by omega), ?_⟩)) (fun w hw => hw)) rfl | first | (refine sx ?_; try intro _))
  · clear hlet
    generalize sgn n = m0 at *
    repeat (first | (refine sx ?_; try intro _))
    refine JO_call Tryz.call123 rfl rfl fun w hw => (hSg w hw).mono ?_
    rintro e w' ⟨rfl, hw'⟩
    (refine ⟨_, rfl, _, hw', ?_⟩; clear hw' hw w w')
    repeat (first | exact JS_of_at (JS_weak hK (by repeat (first | exact trivial | refine ⟨rfl, ?_⟩ | refine ⟨lookI rfl (by omega), ?_⟩)) (fun w hw => hw)) rfl | first | (refine sx ?_; try intro _))
end
end Go.Proofs.YteelffkghidpfaaGreat

namespace Go.Proofs.YteelffkghidpfaaGreat
open Sx Go Hd
set_option linter.unusedVariables false
set_option linter.unusedSimpArgs false
section
variable {w0 : World} {H : List Asn}
set_option maxRecDepth 10000 in
/-- a number by a letter, the document's -/
theorem ROne_c (k : Nat) (hk : k < 10) (l : Int) (hl : ltA k = l) (n : Int) (hn : 0 ≤ n ∧ n < 18446744073709551616) (w : World) (hw : St w0 H w) :
    Calls Tryz.prog 58 #[.int .u8 l, .int .u64 n] w fun e w' => ∃ p c, e = .returned (.slice p (encN k n).length c) ∧ St w0 (vec 5 1 (.slice p (encN k n).length c) (encN k n).length (ints .u8 (encN k n)) :: H) w' := by
  subst hl
  have hO : ∀ {H : List Asn} w, St w0 H w → Calls Tryz.prog 81 #[.int .u8 (ltA k), .int .u64 n] w fun e w' => ∃ (p : Option Addr) (c : Nat) (b : Bool), e = .returned (.tuple #[.slice p (encN k n).length c, .bool b]) ∧ St w0 (vec 5 1 (.slice p (encN k n).length c) (encN k n).length (ints .u8 (encN k n)) :: H) w' := fun w hw => by
    rcases Nat.lt_or_ge k 7 with h | h
    · exact (OneF_c k h n hn w hw).mono fun e w' ⟨p, c, h1, h2⟩ => ⟨p, c, _, h1, h2⟩
    · exact (OneV_c k ⟨h, hk⟩ n hn w hw).mono fun e w' ⟨p, c, h1, h2⟩ => ⟨p, c, _, h1, h2⟩
  refine enter (vs := [.int .u8 (ltA k), .int .u64 n]) Tryz.func58 rfl rfl rfl hw ?_
  clear hw w
  repeat (first | (refine sx ?_; try intro _))
  refine JO_call Tryz.call81 rfl rfl fun w hw => (hO w hw).mono ?_
  rintro e w' ⟨p, c, b, rfl, hw'⟩
  (refine ⟨_, rfl, _, hw', ?_⟩; clear hw' hw w w')
  repeat (first | (refine sx ?_; try intro _))
  exact JS_ret Tryz.func58 rfl rfl fun w hw => ⟨p, c, rfl, hw⟩
set_option maxRecDepth 10000 in
set_option maxHeartbeats 4000000 in
theorem RCounts_c (q : Option Addr) (d : Nat) (T : List (Int × Int)) (hr : Rd w0 H (.slice q T.length d) T.length (flat T)) (hG : GT T) (hl : T.length ≤ 1000000) (w : World) (hw : St w0 H w) :
    Calls Tryz.prog 57 #[.slice q T.length d] w fun e w' => ∃ p c, e = .returned (.slice p (cntA T).length c) ∧ St w0 (vec 5 1 (.slice p (cntA T).length c) (cntA T).length (ints .u8 (cntA T)) :: H) w' := by
  have htot := hG.tot
  refine enter (vs := [.slice q T.length d]) Tryz.func57 rfl rfl rfl hw ?_
  clear hw w
  repeat (first | (apply gJR; first | (refine sx ?_; try intro _)) | (apply gJO; first | (refine sx ?_; try intro _)) | apply JS_seq | apply JS_region)
  refine JS_block ?_
  refine JS_loop4 (fun (i : Nat) (X : List Int) (p : Option Addr) (c : Nat) => [(0, .slice q T.length d), (3, .slice p X.length c), (4, .int .i64 (nxC T i)), (5, .int .i64 i)])
    (fun i X p c => vec 5 1 (.slice p X.length c) X.length (ints .u8 X) :: H) (fun i X _ _ => i ≤ T.length ∧ X.length ≤ 20 * i ∧ X ++ cntB (nxC T i) (T.drop i) = cntB 0 T) (fun i _ _ _ => T.length - i) 0 [] none 0 ⟨Nat.zero_le _, Nat.zero_le _, rfl⟩ (by repeat (first | exact trivial | refine ⟨rfl, ?_⟩ | refine ⟨lookI rfl (by omega), ?_⟩)) (fun w hw => St.nilvec hw) ?_
  intro i X p c ⟨hi, hX, he⟩ again
  by_cases hil : i < T.length
  · have g0 := flat_get0 T i hil
    have g1 := flat_get1 T i hil
    have hnx := nxC_le hG hil
    have hpos := hG.pos _ (getD_mem (T := T) hil)
    have hsm := sw_mem hG.pos _ (getD_mem (T := T) hil)
    rw [cntB_drop hil, ← List.append_assoc, ← List.append_assoc] at he
    have hg1 := gapB_len ((T.getD i (0, 0)).1 - nxC T i)
    have hg2 := encN_len 9 (T.getD i (0, 0)).2
    have hn1 : nxC T (i + 1) = (T.getD i (0, 0)).1 + 1 := rfl
    have again' := again (i + 1)
    clear again
    rw [hn1] at again'
    generalize T.getD i (0, 0) = t at *
    obtain ⟨tk, tn⟩ := t
    simp only [] at g0 g1 hnx hpos hsm he hg1 hg2 again'
    generalize nxC T i = a at *
    have hK : ∀ (Y : List Int) (p : Option Addr) (c : Nat), Y = X ++ gapB (tk - a) → JS Tryz.prog 57 Tryz.f57.ntmps (fun e w' => ∃ p c, e = .returned (.slice p (cntA T).length c) ∧ St w0 (vec 5 1 (.slice p (cntA T).length c) (cntA T).length (ints .u8 (cntA T)) :: H) w') [] w0 (todo Tryz.f57 [.b, .b, .b, .a, .b, .k, .l, .b, .a, .k, .b, .b, .b])
        [(0, .slice q T.length d), (3, .slice p Y.length c), (5, .int .i64 i)] (vec 5 1 (.slice p Y.length c) Y.length (ints .u8 Y) :: H) := by
      intro Y p c hY
      have hYl : Y.length ≤ 20 * i + 10 := by rw [hY, List.length_append]; omega
      have cv : IntKind.u64.wrap tn = tn := wu64 (by omega)
      refine JS_at rfl ?_
      repeat (first | (apply gJO; first | refine JO_v (oIA (V_index (tb := tb) rfl rfl rfl rfl (Rd.sl (Rd_weak hr fun w hw => dS hw)) (by omega) rfl rfl)) ?_ | refine JO_v (oFA (V_fieldC (tb := tb) rfl (Rd.sl (Rd_weak hr fun w hw => dS hw)) (by omega) rfl rfl rfl rfl rfl)) ?_ | refine JO_v (oL (V_loadC (tb := tb) rfl (Rd_weak hr fun w hw => dS hw) rfl rfl g0 rfl)) ?_ | refine JO_v (oL (V_loadC (tb := tb) rfl (Rd_weak hr fun w hw => dS hw) rfl rfl g1 rfl)) ?_ | refine JO_v (V_conv (tb := tb) rfl rfl rfl cv rfl) ?_) | first | (refine sx ?_; try intro _))
      refine JO_call Tryz.call58 rfl rfl fun w hw => (ROne_c 9 (by decide) 110 rfl tn (by omega) w hw).mono ?_
      rintro e w' ⟨p', c', rfl, hw'⟩
      (refine ⟨_, rfl, _, hw', ?_⟩; clear hw' hw w w')
      rw [← hY] at he
      generalize encN 9 tn = Z at *
      repeat (first | (refine sx ?_; try intro _))
      (refine JO_app (tb := tb) rfl rfl rfl rfl rfl rfl (by repeat (first | exact Sel.here _ _ | apply Sel.there)) (by first | exact vec_rd (by repeat (first | apply List.Mem.head | apply List.Mem.tail)) | assumption | exact ArgRd.rd (by assumption) _ | (apply Rd_weak; assumption; intro _ hx; exact dS hx)) (by rw [ints_len, Nat.mul_one]) ints_one (by omega) rfl ?_; intro _ _; rw [ints_app])
      repeat (first | (apply gJO; first | refine JO_v (oIA (V_index (tb := tb) rfl rfl rfl rfl (Rd.sl (Rd_weak hr fun w hw => dS hw)) (by omega) rfl rfl)) ?_ | refine JO_v (oFA (V_fieldC (tb := tb) rfl (Rd.sl (Rd_weak hr fun w hw => dS hw)) (by omega) rfl rfl rfl rfl rfl)) ?_ | refine JO_v (oL (V_loadC (tb := tb) rfl (Rd_weak hr fun w hw => dS hw) rfl rfl g0 rfl)) ?_ | refine JO_v (oL (V_loadC (tb := tb) rfl (Rd_weak hr fun w hw => dS hw) rfl rfl g1 rfl)) ?_ | refine JO_v (V_conv (tb := tb) rfl rfl rfl cv rfl) ?_) | first | (refine sx ?_; try intro _))
      exact JS_weak (again' (Y ++ Z) _ _ ⟨by omega, by rw [List.length_append]; omega, he⟩ (by omega)) (by rw [List.length_append]; exact ⟨rfl, rfl, rfl, rfl, trivial⟩) (fun w hw => by rw [List.length_append]; exact dS hw)
    have hcase : (tk - a = 1) ∨ (¬ tk - a = 1 ∧ 1 < tk - a) ∨ (¬ tk - a = 1 ∧ ¬ 1 < tk - a) := by omega
    rcases hcase with h1 | ⟨h1, h2⟩ | ⟨h1, h2⟩
    · have hgp : gapB (tk - a) = encN 9 0 := if_pos h1
      rw [hgp] at hK
      clear hgp he hg1
      have hg0 := encN_len 9 0
      repeat (first | (apply gJO; first | refine JO_v (oIA (V_index (tb := tb) rfl rfl rfl rfl (Rd.sl (Rd_weak hr fun w hw => dS hw)) (by omega) rfl rfl)) ?_ | refine JO_v (oFA (V_fieldC (tb := tb) rfl (Rd.sl (Rd_weak hr fun w hw => dS hw)) (by omega) rfl rfl rfl rfl rfl)) ?_ | refine JO_v (oL (V_loadC (tb := tb) rfl (Rd_weak hr fun w hw => dS hw) rfl rfl g0 rfl)) ?_ | refine JO_v (oL (V_loadC (tb := tb) rfl (Rd_weak hr fun w hw => dS hw) rfl rfl g1 rfl)) ?_ | refine JO_v (V_conv (tb := tb) rfl rfl rfl cv rfl) ?_) | first | (refine sx ?_; try intro _))
      refine JO_call Tryz.call58 rfl rfl fun w hw => (ROne_c 9 (by decide) 110 rfl 0 (by decide) w hw).mono ?_
      rintro e w' ⟨p', c', rfl, hw'⟩
      (refine ⟨_, rfl, _, hw', ?_⟩; clear hw' hw w w')
      generalize encN 9 0 = Z at *
      repeat (first | (refine sx ?_; try intro _))
      (refine JO_app (tb := tb) rfl rfl rfl rfl rfl rfl (by repeat (first | exact Sel.here _ _ | apply Sel.there)) (by first | exact vec_rd (by repeat (first | apply List.Mem.head | apply List.Mem.tail)) | assumption | exact ArgRd.rd (by assumption) _ | (apply Rd_weak; assumption; intro _ hx; exact dS hx)) (by rw [ints_len, Nat.mul_one]) ints_one (by omega) rfl ?_; intro _ _; rw [ints_app])
      repeat (first | exact JS_of_at (JS_weak (hK (X ++ Z) _ _ rfl) (by rw [List.length_append]; exact ⟨rfl, rfl, rfl, trivial⟩) (fun w hw => by rw [List.length_append]; exact dS hw)) rfl | first | (refine sx ?_; try intro _))
    · have hgp : gapB (tk - a) = encN 9 (18446744073709551616 - (tk - a)) := by unfold gapB; rw [if_neg h1, if_pos h2]
      rw [hgp] at hK
      clear hgp he hg1
      have hg0 := encN_len 9 (18446744073709551616 - (tk - a))
      have cv : IntKind.u64.wrap (tk - a - 1) = tk - a - 1 := wu64 (by omega)
      repeat (first | (apply gJO; first | refine JO_v (oIA (V_index (tb := tb) rfl rfl rfl rfl (Rd.sl (Rd_weak hr fun w hw => dS hw)) (by omega) rfl rfl)) ?_ | refine JO_v (oFA (V_fieldC (tb := tb) rfl (Rd.sl (Rd_weak hr fun w hw => dS hw)) (by omega) rfl rfl rfl rfl rfl)) ?_ | refine JO_v (oL (V_loadC (tb := tb) rfl (Rd_weak hr fun w hw => dS hw) rfl rfl g0 rfl)) ?_ | refine JO_v (oL (V_loadC (tb := tb) rfl (Rd_weak hr fun w hw => dS hw) rfl rfl g1 rfl)) ?_ | refine JO_v (V_conv (tb := tb) rfl rfl rfl cv rfl) ?_) | first | (refine sx ?_; try intro _))
      have e1 : 18446744073709551615 - (tk - a - 1) = 18446744073709551616 - (tk - a) := by omega
      rw [e1]
      refine JO_call Tryz.call58 rfl rfl fun w hw => (ROne_c 9 (by decide) 110 rfl (18446744073709551616 - (tk - a)) (by omega) w hw).mono ?_
      rintro e w' ⟨p', c', rfl, hw'⟩
      (refine ⟨_, rfl, _, hw', ?_⟩; clear hw' hw w w')
      generalize encN 9 (18446744073709551616 - (tk - a)) = Z at *
      repeat (first | (refine sx ?_; try intro _))
      (refine JO_app (tb := tb) rfl rfl rfl rfl rfl rfl (by repeat (first | exact Sel.here _ _ | apply Sel.there)) (by first | exact vec_rd (by repeat (first | apply List.Mem.head | apply List.Mem.tail)) | assumption | exact ArgRd.rd (by assumption) _ | (apply Rd_weak; assumption; intro _ hx; exact dS hx)) (by rw [ints_len, Nat.mul_one]) ints_one (by omega) rfl ?_; intro _ _; rw [ints_app])
      repeat (first | exact JS_of_at (JS_weak (hK (X ++ Z) _ _ rfl) (by rw [List.length_append]; exact ⟨rfl, rfl, rfl, trivial⟩) (fun w hw => by rw [List.length_append]; exact dS hw)) rfl | first | (refine sx ?_; try intro _))
    · have hgp : gapB (tk - a) = [] := by unfold gapB; rw [if_neg h1, if_neg h2]
      rw [hgp, List.append_nil] at hK
      clear hgp he hg1
      repeat (first | exact JS_of_at (JS_weak (hK X _ _ rfl) (by repeat (first | exact trivial | refine ⟨rfl, ?_⟩ | refine ⟨lookI rfl (by omega), ?_⟩)) (fun w hw => hw)) rfl | (apply gJO; first | refine JO_v (oIA (V_index (tb := tb) rfl rfl rfl rfl (Rd.sl (Rd_weak hr fun w hw => dS hw)) (by omega) rfl rfl)) ?_ | refine JO_v (oFA (V_fieldC (tb := tb) rfl (Rd.sl (Rd_weak hr fun w hw => dS hw)) (by omega) rfl rfl rfl rfl rfl)) ?_ | refine JO_v (oL (V_loadC (tb := tb) rfl (Rd_weak hr fun w hw => dS hw) rfl rfl g0 rfl)) ?_ | refine JO_v (oL (V_loadC (tb := tb) rfl (Rd_weak hr fun w hw => dS hw) rfl rfl g1 rfl)) ?_ | refine JO_v (V_conv (tb := tb) rfl rfl rfl cv rfl) ?_) | first | (refine sx ?_; try intro _))
  · obtain rfl : i = T.length := by omega
    rw [List.drop_length, cntB, List.append_nil] at he
    subst he
    by_cases hT : T = []
    · have hl0 : T.length = 0 := by rw [hT]; rfl
      have hA : cntA T = encN 9 0 := if_pos hT
      rw [hA]
      repeat (first | (refine sx ?_; try intro _))
      refine JO_call Tryz.call58 rfl rfl fun w hw => (ROne_c 9 (by decide) 110 rfl 0 (by decide) w hw).mono ?_
      rintro e w' ⟨p', c', rfl, hw'⟩
      (refine ⟨_, rfl, _, hw', ?_⟩; clear hw' hw w w')
      repeat (first | (refine sx ?_; try intro _))
      exact JS_ret Tryz.func57 rfl rfl fun w hw => ⟨p', c', rfl, dS hw⟩
    · have hl0 := List.length_pos_iff.2 hT
      have hA : cntA T = cntB 0 T := if_neg hT
      rw [hA]
      repeat (first | (refine sx ?_; try intro _))
      exact JS_ret Tryz.func57 rfl rfl fun w hw => ⟨p, c, rfl, dS hw⟩
end
end Go.Proofs.YteelffkghidpfaaGreat

namespace Go.Proofs.YteelffkghidpfaaGreat
open Sx Go Hd
set_option linter.unusedVariables false
set_option linter.unusedSimpArgs false
section
variable {w0 : World} {H : List Asn} {lo hi dg : Int} {u g : Nat}
theorem HTotal_c (bh mb bm : Nat) (gr : Bool) (bu : Nat) (tot : Int) (hh : blk bh (hc mb bm gr bu tot) ∈ H) (w : World) (hw : St w0 H w) :
    Calls Tryz.prog 43 #[.pointer (some ⟨bh, 0, none⟩)] w fun e w' => e = .returned (.int .u64 tot) ∧ St w0 H w' := by
  refine enter (vs := [.pointer (some ⟨bh, 0, none⟩)]) Tryz.func43 rfl rfl rfl hw ?_
  clear hw w
  repeat (first | (apply gJO; first | refine JO_v (oL (V_load (tb := tb) rfl hh rfl rfl rfl rfl)) ?_) | first | (refine sx ?_; try intro _))
  exact JS_ret Tryz.func43 rfl rfl fun w hw => ⟨rfl, hw⟩
theorem HGrows_c (bh mb bm : Nat) (gr : Bool) (bu : Nat) (tot : Int) (hh : blk bh (hc mb bm gr bu tot) ∈ H) (w : World) (hw : St w0 H w) :
    Calls Tryz.prog 40 #[.pointer (some ⟨bh, 0, none⟩)] w fun e w' => e = .returned (.bool gr) ∧ St w0 H w' := by
  refine enter (vs := [.pointer (some ⟨bh, 0, none⟩)]) Tryz.func40 rfl rfl rfl hw ?_
  clear hw w
  repeat (first | (apply gJO; first | refine JO_v (oL (V_load (tb := tb) rfl hh rfl rfl rfl rfl)) ?_) | first | (refine sx ?_; try intro _))
  exact JS_ret Tryz.func40 rfl rfl fun w hw => ⟨rfl, hw⟩
theorem HShape_c (bh mb bm : Nat) (gr : Bool) (bu : Nat) (tot : Int) (hh : blk bh (hc mb bm gr bu tot) ∈ H) (hM : blk mb (mc lo hi dg u g) ∈ H) (w : World) (hw : St w0 H w) :
    Calls Tryz.prog 39 #[.pointer (some ⟨bh, 0, none⟩)] w fun e w' => e = .returned (hagg lo hi dg) ∧ St w0 H w' := by
  refine enter (vs := [.pointer (some ⟨bh, 0, none⟩)]) Tryz.func39 rfl rfl rfl hw ?_
  clear hw w
  repeat (first | (apply gJO; refine JO_v (oL (V_load (tb := tb) rfl (List.Mem.tail _ hh) rfl rfl rfl rfl)) ?_) | first | (refine sx ?_; try intro _))
  refine JO_call Tryz.call60 rfl rfl fun w hw => (MShape_c mb (List.Mem.tail _ hM) w hw).mono ?_
  rintro e w' ⟨rfl, hw'⟩
  refine ⟨_, rfl, _, hw', ?_⟩
  clear hw' hw w w'
  repeat (first | (refine sx ?_; try intro _))
  refine JS_retC Tryz.func39 rfl (by first | exact ResV.agg (tb := tb) rfl (by repeat (first | apply List.Mem.head | apply List.Mem.tail)) rfl rfl rfl ResV.nil | exact ResV.agg (tb := tb) rfl (by repeat (first | apply List.Mem.head | apply List.Mem.tail)) rfl rfl rfl (ResV.tmp rfl ResV.nil) | exact ResV.agg (tb := tb) rfl (by repeat (first | apply List.Mem.head | apply List.Mem.tail)) rfl rfl rfl (ResV.tmp rfl (ResV.tmp rfl ResV.nil)) | exact ResV.one (tb := tb) rfl (by repeat (first | apply List.Mem.head | apply List.Mem.tail)) rfl rfl rfl ResV.nil | exact ResV.one (tb := tb) rfl (by repeat (first | apply List.Mem.head | apply List.Mem.tail)) rfl rfl rfl (ResV.tmp rfl ResV.nil) | exact ResV.one (tb := tb) rfl (by repeat (first | apply List.Mem.head | apply List.Mem.tail)) rfl rfl rfl (ResV.one (tb := tb) rfl (by repeat (first | apply List.Mem.head | apply List.Mem.tail)) rfl rfl rfl ResV.nil) | exact ResV.tmp rfl (ResV.agg (tb := tb) rfl (by repeat (first | apply List.Mem.head | apply List.Mem.tail)) rfl rfl rfl ResV.nil) | exact ResV.tmp rfl (ResV.one (tb := tb) rfl (by repeat (first | apply List.Mem.head | apply List.Mem.tail)) rfl rfl rfl ResV.nil)) ?_
  intro w hw
  exact ⟨rfl, dS hw⟩
end
end Go.Proofs.YteelffkghidpfaaGreat

namespace Go.Proofs.YteelffkghidpfaaGreat
open Sx Go Hd
set_option linter.unusedVariables false
set_option linter.unusedSimpArgs false
/-- how far a histogram reaches -/
def rchv (u g : Nat) (hi : Int) (bu : Nat) : Int := if bu = 1 + bkt u g hi.toNat then hi else (topv u g bu : Nat)
section
variable {w0 : World} {H : List Asn} {lo hi dg : Int} {u g : Nat}
set_option maxRecDepth 10000 in
set_option maxHeartbeats 2000000 in
theorem HFirst_c (bh mb bm : Nat) (gr : Bool) (bu : Nat) (tot : Int) (hh : blk bh (hc mb bm gr bu tot) ∈ H) (hM : blk mb (mc lo hi dg u g) ∈ H) (hug : u + g ≤ 62) (hhi : -9223372036854775808 ≤ hi ∧ hi < 9223372036854775808) (w : World) (hw : St w0 H w) :
    Calls Tryz.prog 59 #[.pointer (some ⟨bh, 0, none⟩)] w fun e w' => e = .returned (.int .i64 (1 + bkt u g hi.toNat : Nat)) ∧ St w0 H w' := by
  refine enter (vs := [.pointer (some ⟨bh, 0, none⟩)]) Tryz.func59 rfl rfl rfl hw ?_
  clear hw w
  repeat (first | (apply gJO; first | refine JO_v (oL (V_load (tb := tb) rfl hh rfl rfl rfl rfl)) ?_ | refine JO_v (V_fieldV (tb := tb) rfl rfl rfl rfl rfl rfl rfl) ?_) | (apply gQO; first | refine QO_v rfl (oL (V_load (tb := tb) rfl hh rfl rfl rfl rfl)) ?_ | refine QO_v rfl (V_fieldV (tb := tb) rfl rfl rfl rfl rfl rfl rfl) ?_) | first | (refine sx ?_; try intro _))
  refine QO_call Tryz.call60 rfl rfl fun w hw => (MShape_c mb hM w hw).mono ?_
  rintro e w' ⟨rfl, hw'⟩
  refine ⟨_, rfl, _, hw', .inl fun w hw => hw, ?_⟩
  clear hw' hw w w'
  repeat (first | (apply gJO; first | refine JO_v (oL (V_load (tb := tb) rfl hh rfl rfl rfl rfl)) ?_ | refine JO_v (V_fieldV (tb := tb) rfl rfl rfl rfl rfl rfl rfl) ?_) | (apply gQO; first | refine QO_v rfl (oL (V_load (tb := tb) rfl hh rfl rfl rfl rfl)) ?_ | refine QO_v rfl (V_fieldV (tb := tb) rfl rfl rfl rfl rfl rfl rfl) ?_) | first | (refine sx ?_; try intro _))
  refine QO_call Tryz.call72 rfl rfl fun w hw => (MBuckets_c mb hM hug hi hhi w hw).mono ?_
  rintro e w' ⟨rfl, hw'⟩
  refine ⟨_, rfl, _, hw', .inl fun w hw => hw, ?_⟩
  clear hw' hw w w'
  repeat (first | (refine sx ?_; try intro _))
  exact JS_ret Tryz.func59 rfl rfl fun w hw => ⟨rfl, hw⟩
set_option maxRecDepth 10000 in
set_option maxHeartbeats 2000000 in
theorem HReach_c (bh mb bm : Nat) (gr : Bool) (bu : Nat) (tot : Int) (hh : blk bh (hc mb bm gr bu tot) ∈ H) (hM : blk mb (mc lo hi dg u g) ∈ H) (hug : u + g ≤ 62) (hg : 1 ≤ g) (hbu : bu ≤ 64) (hhi : -9223372036854775808 ≤ hi ∧ hi < 9223372036854775808) (w : World) (hw : St w0 H w) :
    Calls Tryz.prog 30 #[.pointer (some ⟨bh, 0, none⟩)] w fun e w' => e = .returned (.int .i64 (rchv u g hi bu)) ∧ St w0 H w' := by
  have hr : rchv u g hi bu = if bu = 1 + bkt u g hi.toNat then hi else (topv u g bu : Nat) := rfl
  refine enter (vs := [.pointer (some ⟨bh, 0, none⟩)]) Tryz.func30 rfl rfl rfl hw ?_
  clear hw w
  repeat (first | (apply gJO; first | refine JO_v (oL (V_load (tb := tb) rfl hh rfl rfl rfl rfl)) ?_ | refine JO_v (V_fieldV (tb := tb) rfl rfl rfl rfl rfl rfl rfl) ?_) | (apply gQO; first | refine QO_v rfl (oL (V_load (tb := tb) rfl hh rfl rfl rfl rfl)) ?_ | refine QO_v rfl (V_fieldV (tb := tb) rfl rfl rfl rfl rfl rfl rfl) ?_) | first | (refine sx ?_; try intro _))
  refine QO_call Tryz.call59 rfl rfl fun w hw => (HFirst_c bh mb bm gr bu tot hh hM hug hhi w hw).mono ?_
  rintro e w' ⟨rfl, hw'⟩
  refine ⟨_, rfl, _, hw', .inl fun w hw => hw, ?_⟩
  clear hw' hw w w'
  by_cases hb : bu = 1 + bkt u g hi.toNat
  · rw [if_pos hb] at hr
    generalize 1 + bkt u g hi.toNat = z at *
    repeat (first | (apply gJO; first | refine JO_v (oL (V_load (tb := tb) rfl hh rfl rfl rfl rfl)) ?_ | refine JO_v (V_fieldV (tb := tb) rfl rfl rfl rfl rfl rfl rfl) ?_) | (apply gQO; first | refine QO_v rfl (oL (V_load (tb := tb) rfl hh rfl rfl rfl rfl)) ?_ | refine QO_v rfl (V_fieldV (tb := tb) rfl rfl rfl rfl rfl rfl rfl) ?_) | first | (refine sx ?_; try intro _))
    refine JO_call Tryz.call60 rfl rfl fun w hw => (MShape_c mb hM w hw).mono ?_
    rintro e w' ⟨rfl, hw'⟩
    refine ⟨_, rfl, _, hw', ?_⟩
    clear hw' hw w w'
    repeat (first | (apply gJO; first | refine JO_v (oL (V_load (tb := tb) rfl hh rfl rfl rfl rfl)) ?_ | refine JO_v (V_fieldV (tb := tb) rfl rfl rfl rfl rfl rfl rfl) ?_) | (apply gQO; first | refine QO_v rfl (oL (V_load (tb := tb) rfl hh rfl rfl rfl rfl)) ?_ | refine QO_v rfl (V_fieldV (tb := tb) rfl rfl rfl rfl rfl rfl rfl) ?_) | first | (refine sx ?_; try intro _))
    exact JS_ret Tryz.func30 rfl rfl fun w hw => ⟨by rw [hr]; rfl, hw⟩
  · rw [if_neg hb] at hr
    generalize 1 + bkt u g hi.toNat = z at *
    repeat (first | (apply gJO; first | refine JO_v (oL (V_load (tb := tb) rfl hh rfl rfl rfl rfl)) ?_ | refine JO_v (V_fieldV (tb := tb) rfl rfl rfl rfl rfl rfl rfl) ?_) | (apply gQO; first | refine QO_v rfl (oL (V_load (tb := tb) rfl hh rfl rfl rfl rfl)) ?_ | refine QO_v rfl (V_fieldV (tb := tb) rfl rfl rfl rfl rfl rfl rfl) ?_) | first | (refine sx ?_; try intro _))
    refine QO_call Tryz.call61 rfl rfl fun w hw => (MTop_c mb hM hug hg bu (by omega) w hw).mono ?_
    rintro e w' ⟨rfl, hw'⟩
    refine ⟨_, rfl, _, hw', .inl fun w hw => hw, ?_⟩
    clear hw' hw w w'
    repeat (first | (refine sx ?_; try intro _))
    exact JS_ret Tryz.func30 rfl rfl fun w hw => ⟨by rw [hr]; rfl, hw⟩
end
end Go.Proofs.YteelffkghidpfaaGreat

namespace Go.Proofs.YteelffkghidpfaaGreat
open Go Go.Shelf Go.Proofs
def sortP_ren : Go.Shelf.Ren := ⟨fun | 6 => 62 | 15 => 101 | 14 => 100 | 28 => 147 | 29 => 111 | 20 => 139 | 21 => 140 | 22 => 141 | 23 => 142 | 24 => 143 | 25 => 144 | 26 => 145 | 27 => 146 | 46 => 188 | 47 => 189 | 48 => 190 | 49 => 191 | 50 => 192 | 57 => 226 | n => n, fun | 22 => 58 | 24 => 97 | 25 => 99 | 3 => 3 | 39 => 33 | 0 => 0 | 53 => 31 | 55 => 48 | 4 => 4 | 46 => 185 | 45 => 184 | 50 => 130 | 5 => 5 | 9 => 9 | 66 => 230 | 70 => 233 | 76 => 260 | 77 => 226 | n => n, fun n => n⟩
theorem sortP_lays : SlLaysF0.n6 Tryz.prog sortP_ren where
  mixed := by kernel_rfl
  f6 := ⟨"slices.SortFunc[[]theodolite/api.Pair,theodolite/api.Pair]", by decide, Tryz.func62.trans (congrArg some (by kernel_rfl))⟩
  f14 := ⟨"slices.pdqsortCmpFunc[theodolite/api.Pair]", by decide, Tryz.func100.trans (congrArg some (by kernel_rfl))⟩
  f15 := Tryz.func101.trans (congrArg some (by kernel_rfl))
  f20 := ⟨"slices.insertionSortCmpFunc[theodolite/api.Pair]", by decide, Tryz.func139.trans (congrArg some (by kernel_rfl))⟩
  f21 := ⟨"slices.heapSortCmpFunc[theodolite/api.Pair]", by decide, Tryz.func140.trans (congrArg some (by kernel_rfl))⟩
  f22 := ⟨"slices.breakPatternsCmpFunc[theodolite/api.Pair]", by decide, Tryz.func141.trans (congrArg some (by kernel_rfl))⟩
  f23 := ⟨"slices.choosePivotCmpFunc[theodolite/api.Pair]", by decide, Tryz.func142.trans (congrArg some (by kernel_rfl))⟩
  f24 := ⟨"slices.reverseRangeCmpFunc[theodolite/api.Pair]", by decide, Tryz.func143.trans (congrArg some (by kernel_rfl))⟩
  f25 := ⟨"slices.partialInsertionSortCmpFunc[theodolite/api.Pair]", by decide, Tryz.func144.trans (congrArg some (by kernel_rfl))⟩
  f26 := ⟨"slices.partitionEqualCmpFunc[theodolite/api.Pair]", by decide, Tryz.func145.trans (congrArg some (by kernel_rfl))⟩
  f27 := ⟨"slices.partitionCmpFunc[theodolite/api.Pair]", by decide, Tryz.func146.trans (congrArg some (by kernel_rfl))⟩
  f28 := Tryz.func147.trans (congrArg some (by kernel_rfl))
  f29 := Tryz.func111.trans (congrArg some (by kernel_rfl))
  f46 := ⟨"slices.siftDownCmpFunc[theodolite/api.Pair]", by decide, Tryz.func188.trans (congrArg some (by kernel_rfl))⟩
  f47 := Tryz.func189.trans (congrArg some (by kernel_rfl))
  f48 := Tryz.func190.trans (congrArg some (by kernel_rfl))
  f49 := ⟨"slices.medianAdjacentCmpFunc[theodolite/api.Pair]", by decide, Tryz.func191.trans (congrArg some (by kernel_rfl))⟩
  f50 := ⟨"slices.medianCmpFunc[theodolite/api.Pair]", by decide, Tryz.func192.trans (congrArg some (by kernel_rfl))⟩
  f57 := ⟨"slices.order2CmpFunc[theodolite/api.Pair]", by decide, Tryz.func226.trans (congrArg some (by kernel_rfl))⟩
  t0 := Tryz.underlying0
  a0 := Tryz.isAgg0
  z0 := Tryz.sizeOf0
  v0 := Tryz.zeroValue0
  t3 := Tryz.underlying3
  a3 := Tryz.isAgg3
  z3 := Tryz.sizeOf3
  v3 := Tryz.zeroValue3
  t4 := Tryz.underlying4
  a4 := Tryz.isAgg4
  z4 := Tryz.sizeOf4
  v4 := Tryz.zeroValue4
  t5 := Tryz.underlying5
  a5 := Tryz.isAgg5
  z5 := Tryz.sizeOf5
  v5 := Tryz.zeroValue5
  t9 := Tryz.underlying9
  a9 := Tryz.isAgg9
  z9 := Tryz.sizeOf9
  v9 := Tryz.zeroValue9
  t22 := Tryz.underlying58
  a22 := Tryz.isAgg58
  z22 := Tryz.sizeOf58
  v22 := Tryz.zeroValue58
  t25 := Tryz.underlying99
  a25 := Tryz.isAgg99
  z25 := Tryz.sizeOf99
  v25 := Tryz.zeroValue99
  t39 := Tryz.underlying33
  a39 := Tryz.isAgg33
  z39 := Tryz.sizeOf33
  v39 := Tryz.zeroValue33
  t45 := Tryz.underlying184
  a45 := Tryz.isAgg184
  z45 := Tryz.sizeOf184
  v45 := Tryz.zeroValue184
  t46 := Tryz.underlying185
  a46 := Tryz.isAgg185
  z46 := Tryz.sizeOf185
  v46 := Tryz.zeroValue185
  t50 := Tryz.underlying130
  a50 := Tryz.isAgg130
  z50 := Tryz.sizeOf130
  v50 := Tryz.zeroValue130
  t53 := Tryz.underlying31
  a53 := Tryz.isAgg31
  z53 := Tryz.sizeOf31
  v53 := Tryz.zeroValue31
  t55 := Tryz.underlying48
  a55 := Tryz.isAgg48
  z55 := Tryz.sizeOf48
  v55 := Tryz.zeroValue48
  t66 := Tryz.underlying230
  a66 := Tryz.isAgg230
  z66 := Tryz.sizeOf230
  v66 := Tryz.zeroValue230
  t70 := Tryz.underlying233
  a70 := Tryz.isAgg233
  z70 := Tryz.sizeOf233
  v70 := Tryz.zeroValue233
  t76 := Tryz.underlying260
  a76 := Tryz.isAgg260
  z76 := Tryz.sizeOf260
  v76 := Tryz.zeroValue260
  t77 := Tryz.underlying226
  a77 := Tryz.isAgg226
  z77 := Tryz.sizeOf226
  v77 := Tryz.zeroValue226
end Go.Proofs.YteelffkghidpfaaGreat

namespace Go.Proofs.YteelffkghidpfaaGreat
open Sx Go Hd Go.Shelf Go.RowKit Go.Lib Go.Sort
set_option linter.unusedVariables false
set_option linter.unusedSimpArgs false
/-! ## the pairs, sorted by their keys -/
abbrev PK : Type := {p : Int × Int // -4611686018427387904 ≤ p.1 ∧ p.1 < 4611686018427387904}
instance : Inhabited PK := ⟨⟨(0, 0), by decide⟩⟩
def pkE (x : PK) : List Value := [.int .i64 x.1.1, .int .u64 x.1.2]
def pkC (x y : PK) : Int := x.1.1 - y.1.1
theorem pk_swo : SWO (ltOf pkC) where
  irrefl x := by simp [ltOf, pkC]
  trans x y z h1 h2 := by
    have h1 : x.1.1 - y.1.1 < 0 := of_decide_eq_true h1
    have h2 : y.1.1 - z.1.1 < 0 := of_decide_eq_true h2
    exact decide_eq_true (show x.1.1 - z.1.1 < 0 by omega)
  ntrans x y z h1 h2 := by
    have h1 : ¬ x.1.1 - y.1.1 < 0 := of_decide_eq_false h1
    have h2 : ¬ y.1.1 - z.1.1 < 0 := of_decide_eq_false h2
    exact decide_eq_false (show ¬ x.1.1 - z.1.1 < 0 by omega)
set_option maxHeartbeats 1000000 in
theorem pk_cmp (x y : PK) (W : World) : Calls Tryz.prog 63 #[.agg #[.int .i64 x.1.1, .int .u64 x.1.2], .agg #[.int .i64 y.1.1, .int .u64 y.1.2]] W fun e w' => e = .returned (.int .i64 (x.1.1 - y.1.1)) ∧ ∃ q os', w' = grow (W.drewN q) os' := by
  obtain ⟨⟨a, b⟩, ha⟩ := x
  obtain ⟨⟨c, d⟩, hc⟩ := y
  simp only [] at ha hc ⊢
  have hw : IntKind.i64.wrap (a - c) = a - c := Sx.wi64 (by omega)
  go_enter Tryz.func63, Tryz.ntmps63
  go_wp2
  go_ret
  exact ⟨rfl, 0, _, by rw [alloc_eq_grow, alloc_eq_grow, grow_grow]; rfl⟩
theorem pk_flat (d : Array PK) : (flatK pkE 2 d).toList = flat (d.toList.map (·.1)) := by
  apply List.ext_getElem?
  intro j
  by_cases hj : j < d.size * 2
  · have h1 : (flatK pkE 2 d)[j]? = some ((pkE d[j / 2]!)[j % 2]!) := by
      rw [← get_flatK pkE 2 d j hj, getElem!_pos _ j (by simpa using hj), Array.getElem?_eq_getElem]
    rw [Array.getElem?_toList, h1]
    have hq : j / 2 < d.size := by omega
    have hq' : j / 2 < (d.toList.map (·.1)).length := by simpa using hq
    have hx : (d.toList.map (·.1)).getD (j / 2) (0, 0) = d[j / 2]!.1 := by
      rw [List.getD_eq_getElem?_getD, List.getElem?_eq_getElem hq', getElem!_pos d _ hq]; simp
    rcases Nat.mod_two_eq_zero_or_one j with h | h
    · have := flat_get0 _ _ hq'
      rw [show j / 2 * 2 = j by omega, hx] at this
      rw [this, h]; rfl
    · have := flat_get1 _ _ hq'
      rw [show j / 2 * 2 + 1 = j by omega, hx] at this
      rw [this, h]; rfl
  · rw [List.getElem?_eq_none (by simp; omega), List.getElem?_eq_none (by rw [flat_len]; simp; omega)]
/-- two sorted lists of the same pairs, no key twice -/
theorem srt_unique {L T : List (Int × Int)} (hp : L.Perm T) (hL : L.Pairwise fun a b => a.1 ≤ b.1) (hT : Srt T) : L = T := by
  have hT' : T.Pairwise fun a b => a.1 ≤ b.1 := hT.imp fun h => by omega
  refine List.Perm.eq_of_pairwise (le := fun a b : Int × Int => a.1 ≤ b.1) (fun a b ha hb h1 h2 => ?_) hL hT' hp
  have ha' := hp.subset ha
  obtain ⟨i, hi, rfl⟩ := List.getElem_of_mem ha'
  obtain ⟨j, hj, rfl⟩ := List.getElem_of_mem hb
  rcases Nat.lt_trichotomy i j with h | rfl | h
  · have := List.pairwise_iff_getElem.1 hT i j hi hj h; omega
  · rfl
  · have := List.pairwise_iff_getElem.1 hT j i hj hi h; omega
theorem pk_of : ∀ (L : List (Int × Int)), (∀ x ∈ L, -4611686018427387904 ≤ x.1 ∧ x.1 < 4611686018427387904) → ∃ d : List PK, d.map (·.1) = L
  | [], _ => ⟨[], rfl⟩
  | x :: r, h => by
    obtain ⟨d, hd⟩ := pk_of r fun y hy => h y (by simp [hy])
    exact ⟨⟨x, h x (by simp)⟩ :: d, by simp [hd]⟩
section
variable {w0 : World} {H : List Asn}
set_option maxHeartbeats 1000000 in
theorem SortP_c (p : Option Addr) (c : Nat) (L T : List (Int × Int)) (hp : L.Perm T) (hT : Srt T) (hk : ∀ x ∈ T, -4611686018427387904 ≤ x.1 ∧ x.1 < 4611686018427387904) (hl : T.length < 4611686018427387904) (w : World) (hw : St w0 (vec 97 2 (.slice p L.length c) L.length (flat L) :: H) w) :
    Calls Tryz.prog 62 #[.slice p L.length c, .func (.func 63) #[] #[]] w fun e w' => e = .returned (.tuple #[]) ∧ St w0 (vec 97 2 (.slice p T.length c) T.length (flat T) :: H) w' := by
  have hlen : L.length = T.length := hp.length_eq
  cases hn : L with
  | nil =>
    subst hn
    have : T = [] := by simpa using hlen.symm
    subst this
    exact (AnyF.slices_SortFunc_none sortP_lays p c _ w).mono fun e w' ⟨he, hw'⟩ => ⟨he, hw' ▸ hw⟩
  | cons y r =>
    rw [← hn]
    obtain ⟨D, hD⟩ := pk_of L fun x hx => hk x (hp.subset hx)
    have hDs : D.length = L.length := by rw [← hD, List.length_map]
    have hpos : 0 < L.length := by rw [hn]; simp
    clear hn
    obtain ⟨f1, hv⟩ := hw.mem (List.Mem.head _)
    obtain ⟨hv1, hv2⟩ := vec_holds.1 hv
    rcases hv2 with ⟨b, _, hz, _⟩ | ⟨g, cap, cur, hu, rfl, hg, hc1, hc2, hc3, hc4⟩
    · omega
    · injection hu with hu1 hu2 hu3
      subst hu1 hu3
      have hgs : g < w.heap.size := (Array.getElem?_eq_some_iff.1 hg).1
      have hF : (flatK pkE 2 D.toArray).toList = flat L := by rw [pk_flat]; simp [hD]
      have hFs : (flatK pkE 2 D.toArray).size = L.length * 2 := by rw [← Array.length_toList, hF, flat_len]
      have hH : HoldsK pkE 2 w g 0 D.toArray := by
        intro j hj
        rw [hFs] at hj
        have hjc : j < cur.size := by rw [hc3]; have := Nat.mul_le_mul_right 2 hc1; omega
        have h1 : cur[j]? = some ((flatK pkE 2 D.toArray)[j]!) := by
          have h2 : (cur.toList.take (L.length * 2))[j]? = (flatK pkE 2 D.toArray).toList[j]? := by rw [hc4, hF]
          rw [List.getElem?_take_of_lt hj, Array.getElem?_toList, Array.getElem?_toList] at h2
          rw [h2, getElem!_pos _ j (by rw [hFs]; exact hj), Array.getElem?_eq_getElem]
        refine ⟨?_, ?_⟩
        · simp [World.cell?, hg, h1]
        · simp [World.frozen?, hg]
      have hcon := AnyQ.slices_SortFunc sortP_lays 2 Tryz.isAgg97 Tryz.sizeOf97 pkE (fun _ => rfl) (fun x v hv => by simp [pkE] at hv; rcases hv with rfl | rfl <;> rfl) pkC pk_swo _ #[] g 0 c D.toArray w Tryz.call63 (fun _ _ _ _ x y => pk_cmp x y _) hH hgs (by simp [hDs]; omega)
      rw [show D.toArray.size = L.length by simp [hDs]] at hcon
      refine hcon.mono ?_
      rintro e w' ⟨rfl, d', m, os, hperm, hsort, rfl⟩
      refine ⟨rfl, ?_⟩
      have hds : d'.size = L.length := by rw [hperm.1]; simp [hDs]
      have hp2 : d'.toList.Perm D := by
        have := hperm.2.2
        rw [← hDs] at this
        simpa [Array.extract_eq_self_of_le, hds, hDs] using this
      have hT' : d'.toList.map (·.1) = T := by
        refine srt_unique (((hp2.map (·.1)).trans (by rw [hD])).trans hp) ?_ hT
        rw [List.pairwise_map, List.pairwise_iff_getElem]
        intro i j hi hj hij
        have h1 := hsort i j (Nat.zero_le _) hij (by rw [Array.length_toList] at hj; omega)
        rw [Array.length_toList] at hi hj
        rw [getElem!_pos d' i hi, getElem!_pos d' j hj] at h1
        have h1 : ¬ d'[j].1.1 - d'[i].1.1 < 0 := of_decide_eq_false h1
        simp only [Array.getElem_toList]
        omega
      have hF2 : (flatK pkE 2 d').toList = flat T := by rw [pk_flat, hT']
      have hFs2 : (flatK pkE 2 d').size = L.length * 2 := by simp [hds]
      refine St.upd hw (Upd.here _ _ _) rfl rfl rfl ?_ ?_
      · simp [sortWorldK, grow, putRowK, putRow, mapBlock, Sort.ahead]
      · intro f hf
        have hfe : f = [g] := by
          obtain ⟨_, hf2⟩ := vec_holds.1 hf
          rcases hf2 with ⟨b, _, hz, _⟩ | ⟨g', cap', cur', hu', rfl, _⟩
          · omega
          · injection hu' with h1 _ _
            injection h1 with h1
            injection h1 with h1 _ _
            rw [h1]
        subst hfe
        have hheap : ∀ b, b < w.heap.size → (sortWorldK pkE 2 w g 0 m d' os).heap[b]? = (w.heap.modify g (onCells (putCells id 0 (flatK pkE 2 d'))))[b]? := fun b hb => by
          show ((w.heap.modify g (onCells (putCells id 0 (flatK pkE 2 d')))) ++ os)[b]? = _
          rw [Array.getElem?_append_left (by simpa using hb)]
        refine ⟨fun b hb hbn => ?_, [g], by simp, fun b hb => .inl hb, vec_holds.2 ⟨by rw [flat_len], .inr ⟨g, c, putCells id 0 (flatK pkE 2 d') cur, by rw [← hlen], rfl, ?_, by omega, hc2, ?_, ?_⟩⟩⟩
        · rw [hheap b hb, Array.getElem?_modify, if_neg (fun h => hbn (by simp [h]))]
        · rw [hheap g hgs, Array.getElem?_modify, if_pos rfl, hg]; rfl
        · simp [putCells, hc3]
        · rw [← hF2]
          apply List.ext_getElem?
          intro j
          by_cases hj : j < L.length * 2
          · have hjc : j < cur.size := by rw [hc3]; have := Nat.mul_le_mul_right 2 hc1; omega
            rw [← hlen, List.getElem?_take_of_lt hj, Array.getElem?_toList, Array.getElem?_toList]
            simp only [putCells, Array.getElem?_mapIdx, Array.getElem?_eq_getElem hjc, Option.map_some, Nat.zero_le, true_and, Nat.zero_add, hFs2, hj, if_true, Nat.sub_zero, id]
            rw [getElem!_pos _ j (by rw [hFs2]; exact hj), Array.getElem?_eq_getElem]
          · rw [List.getElem?_eq_none (by simp; omega), List.getElem?_eq_none (by rw [Array.length_toList, hFs2]; omega)]
end
end Go.Proofs.YteelffkghidpfaaGreat

namespace Go.Proofs.YteelffkghidpfaaGreat
open Sx Go Hd
set_option linter.unusedVariables false
set_option linter.unusedSimpArgs false
/-- an entry as a pair -/
def prOf (e : MapEntry) : Int × Int := match e.key, e.val with
  | .int _ a, .int _ b => (a, b)
  | _, _ => (0, 0)
theorem HM.prs {es : List MapEntry} {clock : Nat} {T : List (Int × Int)} (h : HM es clock T) : (es.map prOf).Perm T := by
  obtain ⟨L, hp, he⟩ := h.ex
  have : es.map prOf = L := by
    have h1 : es.map prOf = (es.map fun e => (e.key, e.val)).map fun q : Value × Value => match q.1, q.2 with
      | .int _ a, .int _ b => (a, b)
      | _, _ => (0, 0) := by rw [List.map_map]; rfl
    rw [h1, he, List.map_map]
    exact (List.map_congr_left fun x _ => rfl).trans (List.map_id _)
  rw [this]; exact hp
theorem HM.at' {es : List MapEntry} {clock : Nat} {T : List (Int × Int)} (h : HM es clock T) {e : MapEntry} (he : e ∈ es) : e.key = .int .i64 (prOf e).1 ∧ e.val = .int .u64 (prOf e).2 ∧ prOf e ∈ T := by
  obtain ⟨L, hp, hx⟩ := h.ex
  have h1 : (e.key, e.val) ∈ L.map fun p : Int × Int => (Value.int .i64 p.1, Value.int .u64 p.2) := by rw [← hx]; exact List.mem_map.2 ⟨e, he, rfl⟩
  obtain ⟨p, hpL, hpe⟩ := List.mem_map.1 h1
  injection hpe with h2 h3
  have h4 : prOf e = p := by unfold prOf; rw [← h2, ← h3]
  exact ⟨by rw [h4, h2], by rw [h4, h3], h.prs.subset (List.mem_map.2 ⟨e, he, rfl⟩)⟩
theorem HM.lenT {es : List MapEntry} {clock : Nat} {T : List (Int × Int)} (h : HM es clock T) : es.length = T.length := by rw [← h.prs.length_eq, List.length_map]
theorem nodup_of_map {α β : Type} {f : α → β} {l : List α} (h : (l.map f).Nodup) : l.Nodup := (List.pairwise_map.1 h).imp fun hne he => hne (by rw [he])
/-- entries that were told, each once: some of all, and all at the end -/
theorem told_le {es S : List MapEntry} (hn : (S.map (·.born)).Nodup) (hs : ∀ e ∈ S, e ∈ es) : S.length ≤ es.length := by
  have hS : S.Nodup := nodup_of_map hn
  exact hS.length_le_of_subset hs
theorem told_all {es S : List MapEntry} (hb : (es.map (·.born)).Nodup) (hn : (S.map (·.born)).Nodup) (hs : ∀ e ∈ S, e ∈ es) (ha : ∀ e ∈ es, e.born ∈ S.map (·.born)) : S.Perm es := by
  have hS : S.Nodup := nodup_of_map hn
  have hE : es.Nodup := nodup_of_map hb
  rw [List.perm_ext_iff_of_nodup hS hE]
  intro x
  refine ⟨hs x, fun hx => ?_⟩
  obtain ⟨y, hy, hxy⟩ := List.mem_map.1 (ha x hx)
  have : y = x := by
    obtain ⟨i, hi, rfl⟩ := List.getElem_of_mem (hs y hy)
    obtain ⟨j, hj, rfl⟩ := List.getElem_of_mem hx
    have := (List.getElem_inj (i := i) (j := j) (h₀ := by simpa using hi) (h₁ := by simpa using hj) hb).1 (by simpa using hxy)
    subst this; rfl
  exact this ▸ hy
theorem maps_snoc (S : List MapEntry) (e : MapEntry) : (S ++ [e]).map (·.born) = S.map (·.born) ++ [e.born] ∧ (S ++ [e]).map prOf = S.map prOf ++ [prOf e] := by simp
section
variable {w0 : World} {H : List Asn} {lo hi dg : Int} {u g : Nat}
set_option maxRecDepth 10000 in
set_option maxHeartbeats 4000000 in
/-- the pairs of a histogram, by rising keys -/
theorem HPairs_c (bh mb bm : Nat) (gr : Bool) (bu : Nat) (tot : Int) (es : List MapEntry) (clock : Nat) (T : List (Int × Int)) (hh : blk bh (hc mb bm gr bu tot) ∈ H) (hm : mapL bm es clock ∈ H) (hE : HM es clock T) (hT : Srt T) (hk : ∀ x ∈ T, 0 ≤ x.1 ∧ x.1 < 4611686018427387904) (hl : T.length ≤ 1000000) (w : World) (hw : St w0 H w) :
    Calls Tryz.prog 31 #[.pointer (some ⟨bh, 0, none⟩)] w fun e w' => ∃ q d, e = .returned (.slice q T.length d) ∧ St w0 (vec 97 2 (.slice q T.length d) T.length (flat T) :: H) w' := by
  have hlen := hE.lenT
  refine enter (vs := [.pointer (some ⟨bh, 0, none⟩)]) Tryz.func31 rfl rfl rfl hw ?_
  clear hw w
  repeat (first | (apply gJO; first | refine JO_v (oL (V_load (tb := tb) rfl hh rfl rfl rfl rfl)) ?_ | (refine JO_rangeM (tb := tb) rfl rfl hm rfl ?_; intro r)) | (apply gJR; first | (refine sx ?_; try intro _)) | (apply gJO; first | (refine sx ?_; try intro _)) | apply JS_seq | apply JS_region)
  refine JS_block ?_
  refine JS_loop3 (fun (S : List MapEntry) (q : Option Addr) (d : Nat) => [(0, .pointer (some ⟨bh, 0, none⟩)), (3, .slice q S.length d), (10, .pointer (some ⟨r, 0, none⟩))])
    (fun S q d => vec 97 2 (.slice q S.length d) S.length (flat (S.map prOf)) :: iterA r bm clock clock (S.map (·.born)) :: H)
    (fun S q d => (S.map (·.born)).Nodup ∧ ∀ e ∈ S, e ∈ es) (fun S _ _ => es.length - S.length) [] none 0 ⟨by simp, by simp⟩ (by repeat (first | exact trivial | refine ⟨rfl, ?_⟩ | refine ⟨lookI rfl (by omega), ?_⟩)) (fun w hw => St.nilvec hw) ?_
  intro S q d ⟨hS1, hS2⟩ again
  have hle := told_le hS1 hS2
  repeat (first | apply JS_seq | apply JS_region | apply JR_un)
  refine JO_nextM (c0 := clock) rfl (by repeat (first | exact Sel.here _ _ | apply Sel.there)) (List.Mem.tail _ (List.Mem.tail _ hm)) hE.ok.lt (Nat.le_refl _) rfl ?_ ?_
  · intro hall
    clear again
    have hperm := told_all hE.ok.born hS1 hS2 hall
    have hp2 : (S.map prOf).Perm T := (hperm.map prOf).trans hE.prs
    have hsl : S.length = (S.map prOf).length := by simp
    rw [hsl]
    repeat (first | (refine sx ?_; try intro _))
    refine JO_call Tryz.call62 rfl rfl fun w hw => (SortP_c q d (S.map prOf) T hp2 hT (fun x hx => by have := hk x hx; omega) (by omega) w hw).mono ?_
    rintro e w' ⟨rfl, hw'⟩
    refine ⟨_, rfl, _, hw', ?_⟩
    clear hw' hw w w'
    rw [hp2.length_eq]
    repeat (first | (refine sx ?_; try intro _))
    exact JS_ret Tryz.func31 rfl rfl fun w hw => ⟨q, d, rfl, dS hw⟩
  · intro e he hne
    obtain ⟨hke, hve, heT⟩ := hE.at' he
    have hms := maps_snoc S e
    have hnd : ((S ++ [e]).map (·.born)).Nodup := by
      rw [hms.1]
      exact List.nodup_append.2 ⟨hS1, by simp, fun a ha b hb hab => hne (by rw [List.mem_singleton.1 hb] at hab; exact hab ▸ ha)⟩
    have hsub : ∀ x ∈ S ++ [e], x ∈ es := fun x hx => by
      rcases List.mem_append.1 hx with hx | hx
      · exact hS2 x hx
      · rw [List.mem_singleton.1 hx]; exact he
    have hle2 := told_le hnd hsub
    rw [List.length_append, List.length_singleton] at hle2
    rw [hke, hve]
    generalize he2 : prOf e = p at *
    obtain ⟨pk, pn⟩ := p
    simp only [] at *
    repeat (first | (apply gJO; first | refine JO_v (V_entryK rfl (List.Mem.tail _ (List.Mem.head _)) (List.Mem.tail _ (List.Mem.tail _ hm)) he hE.ok.born hke hve rfl) ?_ | (refine JO_app (tb := tb) rfl rfl rfl rfl rfl rfl (by repeat (first | exact Sel.here _ _ | apply Sel.there)) (vec_rd (List.Mem.head _)) (by rfl) ⟨rfl, rfl, trivial⟩ (by omega) rfl ?_; intro _ _)) | first | (refine sx ?_; try intro _))
    refine JS_again3 again (S ++ [e]) _ _ ⟨hnd, hsub⟩ (by rw [List.length_append, List.length_singleton]; omega) (by rw [List.length_append, List.length_singleton]; exact (by repeat (first | exact trivial | refine ⟨rfl, ?_⟩ | refine ⟨lookI rfl (by omega), ?_⟩))) (fun w hw => ?_)
    rw [hms.1, hms.2, ← flat_app1, List.length_append, List.length_singleton]
    exact dS hw
end
end Go.Proofs.YteelffkghidpfaaGreat

namespace Go.Proofs.YteelffkghidpfaaGreat
open Sx Go Hd
set_option linter.unusedVariables false
set_option linter.unusedSimpArgs false
/-! ## the plain form (plain) -/
def hdB (lo reach dg : Int) (n : Nat) : List Int := encs [4, 4, 4, 4, 6, 6, 6] [478450451, n, 0, dg, lo, reach, 4607182418800017408]
def wrB (lo reach dg : Int) (T : List (Int × Int)) : List Int := hdB lo reach dg (cntA T).length ++ cntA T
theorem enc4_len (n : Int) : (encN 4 n).length = 4 := tab_len _ _
theorem enc6_len (n : Int) : (encN 6 n).length = 8 := tab_len _ _
theorem hdB_len (lo reach dg : Int) (n : Nat) : (hdB lo reach dg n).length = 40 := by
  unfold hdB encs encs encs encs encs encs encs encs
  simp only [List.length_append, enc4_len, enc6_len, List.length_nil]
theorem wrB_len (lo reach dg : Int) (T : List (Int × Int)) : (wrB lo reach dg T).length = 40 + (cntA T).length := by unfold wrB; rw [List.length_append, hdB_len]
theorem wrB_eq (lo reach dg : Int) (T : List (Int × Int)) : [] ++ encN 4 478450451 ++ encN 4 (cntA T).length ++ encN 4 0 ++ encN 4 dg ++ encN 6 lo ++ encN 6 reach ++ encN 6 4607182418800017408 ++ cntA T = wrB lo reach dg T := by
  unfold wrB hdB encs encs encs encs encs encs encs encs
  simp only [List.append_assoc, List.nil_append, List.append_nil]
theorem topv_lt' (u g n : Nat) : topv u g n < 9223372036854775808 := by
  unfold topv
  split
  · decide
  · rename_i h
    have h1 := Nat.pow_le_pow_right (n := 2) (by decide) (show min (max n 1) 64 - 1 + u + g ≤ 63 by omega)
    have h2 : (2 : Nat) ^ 63 = 9223372036854775808 := by decide
    have h3 := p2pos (min (max n 1) 64 - 1 + u + g)
    omega
section
variable {w0 : World} {H : List Asn} {lo hi dg : Int} {u g : Nat}
set_option maxRecDepth 10000 in
set_option maxHeartbeats 8000000 in
/-- the plain form, the document's -/
theorem RWrite_c (lo reach dg : Int) (hlo : 0 ≤ lo ∧ lo < 9223372036854775808) (hre : 0 ≤ reach ∧ reach < 9223372036854775808) (hdg : 0 ≤ dg ∧ dg < 9223372036854775808) (q : Option Addr) (d : Nat) (T : List (Int × Int)) (hr : Rd w0 H (.slice q T.length d) T.length (flat T)) (hG : GT T) (hl : T.length ≤ 1000000) (w : World) (hw : St w0 H w) :
    Calls Tryz.prog 29 #[.int .i64 lo, .int .i64 reach, .int .i64 dg, .slice q T.length d] w fun e w' => ∃ p c, e = .returned (.slice p (wrB lo reach dg T).length c) ∧ St w0 (vec 5 1 (.slice p (wrB lo reach dg T).length c) (wrB lo reach dg T).length (ints .u8 (wrB lo reach dg T)) :: H) w' := by
  have hcl := cntA_len T
  have hwl := wrB_len lo reach dg T
  have hwe := wrB_eq lo reach dg T
  refine enter (vs := [.int .i64 lo, .int .i64 reach, .int .i64 dg, .slice q T.length d]) Tryz.func29 rfl rfl rfl hw ?_
  clear hw w
  repeat (first | (refine sx ?_; try intro _))
  refine JO_call Tryz.call57 rfl rfl fun w hw => (RCounts_c q d T hr hG hl w hw).mono ?_
  rintro e w' ⟨pc, cc, rfl, hw'⟩
  refine ⟨_, rfl, vec 5 1 (.slice none 0 0) 0 (ints .u8 []) :: _, St.nilvec hw', ?_⟩
  clear hw' hw w w'
  have hO4 := fun {H} n hn w hw => ROne_c (w0 := w0) (H := H) 4 (by decide) 87 rfl n hn w hw
  have hO6 := fun {H} n hn w hw => ROne_c (w0 := w0) (H := H) 6 (by decide) 81 rfl n hn w hw
  have e4 := enc4_len
  have e6 := enc6_len
  generalize hA0 : wrB lo reach dg T = A0 at *
  generalize hC0 : cntA T = C0 at *
  have c1 : IntKind.u64.wrap (C0.length : Int) = C0.length := wu64 (by omega)
  have c2 : IntKind.u64.wrap dg = dg := wu64 (by omega)
  have c3 : IntKind.u64.wrap lo = lo := wu64 (by omega)
  have c4 : IntKind.u64.wrap reach = reach := wu64 (by omega)
  generalize hA1 : encN 4 478450451 = A1 at *
  have l1 : A1.length = 4 := by rw [← hA1]; exact e4 _
  generalize hA2 : encN 4 (C0.length : Int) = A2 at *
  have l2 : A2.length = 4 := by rw [← hA2]; exact e4 _
  generalize hA3 : encN 4 0 = A3 at *
  have l3 : A3.length = 4 := by rw [← hA3]; exact e4 _
  generalize hA4 : encN 4 dg = A4 at *
  have l4 : A4.length = 4 := by rw [← hA4]; exact e4 _
  generalize hA5 : encN 6 lo = A5 at *
  have l5 : A5.length = 8 := by rw [← hA5]; exact e6 _
  generalize hA6 : encN 6 reach = A6 at *
  have l6 : A6.length = 8 := by rw [← hA6]; exact e6 _
  generalize hA7 : encN 6 4607182418800017408 = A7 at *
  have l7 : A7.length = 8 := by rw [← hA7]; exact e6 _
  have o1 := fun {H} w hw => hO4 (H := H) 478450451 (by decide) w hw
  have o2 := fun {H} w hw => hO4 (H := H) C0.length (by omega) w hw
  have o3 := fun {H} w hw => hO4 (H := H) 0 (by decide) w hw
  have o4 := fun {H} w hw => hO4 (H := H) dg (by omega) w hw
  have o5 := fun {H} w hw => hO6 (H := H) lo (by omega) w hw
  have o6 := fun {H} w hw => hO6 (H := H) reach (by omega) w hw
  have o7 := fun {H} w hw => hO6 (H := H) 4607182418800017408 (by decide) w hw
  rw [hA1] at o1
  rw [hA2] at o2
  rw [hA3] at o3
  rw [hA4] at o4
  rw [hA5] at o5
  rw [hA6] at o6
  rw [hA7] at o7
  clear hO4 hO6 e4 e6 hA1 hA2 hA3 hA4 hA5 hA6 hA7
  repeat (first | (refine sx ?_; try intro _))
  refine JO_call Tryz.call58 rfl rfl fun w hw => (o1 w hw).mono ?_
  rintro e w' ⟨p1, k1, rfl, hw'⟩
  (refine ⟨_, rfl, _, hw', ?_⟩; clear hw' hw w w')
  clear o1
  repeat (first | (refine sx ?_; try intro _))
  (refine JO_app (tb := tb) rfl rfl rfl rfl rfl rfl (by repeat (first | exact Sel.here _ _ | apply Sel.there)) (by first | exact vec_rd (by repeat (first | apply List.Mem.head | apply List.Mem.tail)) | assumption | exact ArgRd.rd (by assumption) _ | (apply Rd_weak; assumption; intro _ hx; exact dS hx)) (by rw [ints_len, Nat.mul_one]) ints_one (by omega) rfl ?_; intro _ _; rw [ints_app])
  repeat (first | (apply gJO; refine JO_v (V_conv (tb := tb) rfl rfl rfl c1 rfl) ?_) | first | (refine sx ?_; try intro _))
  refine JO_call Tryz.call58 rfl rfl fun w hw => (o2 w hw).mono ?_
  rintro e w' ⟨p2, k2, rfl, hw'⟩
  (refine ⟨_, rfl, _, hw', ?_⟩; clear hw' hw w w')
  clear o2
  repeat (first | (refine sx ?_; try intro _))
  (refine JO_app (tb := tb) rfl rfl rfl rfl rfl rfl (by repeat (first | exact Sel.here _ _ | apply Sel.there)) (by first | exact vec_rd (by repeat (first | apply List.Mem.head | apply List.Mem.tail)) | assumption | exact ArgRd.rd (by assumption) _ | (apply Rd_weak; assumption; intro _ hx; exact dS hx)) (by rw [ints_len, Nat.mul_one]) ints_one (by omega) rfl ?_; intro _ _; rw [ints_app])
  repeat (first | (refine sx ?_; try intro _))
  refine JO_call Tryz.call58 rfl rfl fun w hw => (o3 w hw).mono ?_
  rintro e w' ⟨p3, k3, rfl, hw'⟩
  (refine ⟨_, rfl, _, hw', ?_⟩; clear hw' hw w w')
  clear o3
  repeat (first | (refine sx ?_; try intro _))
  (refine JO_app (tb := tb) rfl rfl rfl rfl rfl rfl (by repeat (first | exact Sel.here _ _ | apply Sel.there)) (by first | exact vec_rd (by repeat (first | apply List.Mem.head | apply List.Mem.tail)) | assumption | exact ArgRd.rd (by assumption) _ | (apply Rd_weak; assumption; intro _ hx; exact dS hx)) (by rw [ints_len, Nat.mul_one]) ints_one (by omega) rfl ?_; intro _ _; rw [ints_app])
  repeat (first | (apply gJO; refine JO_v (V_conv (tb := tb) rfl rfl rfl c2 rfl) ?_) | first | (refine sx ?_; try intro _))
  refine JO_call Tryz.call58 rfl rfl fun w hw => (o4 w hw).mono ?_
  rintro e w' ⟨p4, k4, rfl, hw'⟩
  (refine ⟨_, rfl, _, hw', ?_⟩; clear hw' hw w w')
  clear o4
  repeat (first | (refine sx ?_; try intro _))
  (refine JO_app (tb := tb) rfl rfl rfl rfl rfl rfl (by repeat (first | exact Sel.here _ _ | apply Sel.there)) (by first | exact vec_rd (by repeat (first | apply List.Mem.head | apply List.Mem.tail)) | assumption | exact ArgRd.rd (by assumption) _ | (apply Rd_weak; assumption; intro _ hx; exact dS hx)) (by rw [ints_len, Nat.mul_one]) ints_one (by omega) rfl ?_; intro _ _; rw [ints_app])
  repeat (first | (apply gJO; refine JO_v (V_conv (tb := tb) rfl rfl rfl c3 rfl) ?_) | first | (refine sx ?_; try intro _))
  refine JO_call Tryz.call58 rfl rfl fun w hw => (o5 w hw).mono ?_
  rintro e w' ⟨p5, k5, rfl, hw'⟩
  (refine ⟨_, rfl, _, hw', ?_⟩; clear hw' hw w w')
  clear o5
  repeat (first | (refine sx ?_; try intro _))
  (refine JO_app (tb := tb) rfl rfl rfl rfl rfl rfl (by repeat (first | exact Sel.here _ _ | apply Sel.there)) (by first | exact vec_rd (by repeat (first | apply List.Mem.head | apply List.Mem.tail)) | assumption | exact ArgRd.rd (by assumption) _ | (apply Rd_weak; assumption; intro _ hx; exact dS hx)) (by rw [ints_len, Nat.mul_one]) ints_one (by omega) rfl ?_; intro _ _; rw [ints_app])
  repeat (first | (apply gJO; refine JO_v (V_conv (tb := tb) rfl rfl rfl c4 rfl) ?_) | first | (refine sx ?_; try intro _))
  refine JO_call Tryz.call58 rfl rfl fun w hw => (o6 w hw).mono ?_
  rintro e w' ⟨p6, k6, rfl, hw'⟩
  (refine ⟨_, rfl, _, hw', ?_⟩; clear hw' hw w w')
  clear o6
  repeat (first | (refine sx ?_; try intro _))
  (refine JO_app (tb := tb) rfl rfl rfl rfl rfl rfl (by repeat (first | exact Sel.here _ _ | apply Sel.there)) (by first | exact vec_rd (by repeat (first | apply List.Mem.head | apply List.Mem.tail)) | assumption | exact ArgRd.rd (by assumption) _ | (apply Rd_weak; assumption; intro _ hx; exact dS hx)) (by rw [ints_len, Nat.mul_one]) ints_one (by omega) rfl ?_; intro _ _; rw [ints_app])
  repeat (first | (refine sx ?_; try intro _))
  refine JO_call Tryz.call58 rfl rfl fun w hw => (o7 w hw).mono ?_
  rintro e w' ⟨p7, k7, rfl, hw'⟩
  (refine ⟨_, rfl, _, hw', ?_⟩; clear hw' hw w w')
  clear o7
  repeat (first | (refine sx ?_; try intro _))
  (refine JO_app (tb := tb) rfl rfl rfl rfl rfl rfl (by repeat (first | exact Sel.here _ _ | apply Sel.there)) (by first | exact vec_rd (by repeat (first | apply List.Mem.head | apply List.Mem.tail)) | assumption | exact ArgRd.rd (by assumption) _ | (apply Rd_weak; assumption; intro _ hx; exact dS hx)) (by rw [ints_len, Nat.mul_one]) ints_one (by omega) rfl ?_; intro _ _; rw [ints_app])
  repeat (first | (refine sx ?_; try intro _))
  (refine JO_app (tb := tb) rfl rfl rfl rfl rfl rfl (by repeat (first | exact Sel.here _ _ | apply Sel.there)) (by first | exact vec_rd (by repeat (first | apply List.Mem.head | apply List.Mem.tail)) | assumption | exact ArgRd.rd (by assumption) _ | (apply Rd_weak; assumption; intro _ hx; exact dS hx)) (by rw [ints_len, Nat.mul_one]) ints_one (by omega) rfl ?_; intro _ _; rw [ints_app])
  repeat (first | (refine sx ?_; try intro _))
  have hlen : 0 + A1.length + A2.length + A3.length + A4.length + A5.length + A6.length + A7.length + C0.length = A0.length := by omega
  refine JS_ret Tryz.func29 rfl rfl fun w hw => ?_
  rw [hlen, hwe] at hw
  exact ⟨_, _, by rw [hlen]; rfl, dS hw⟩
theorem PutH_c (lo reach dg : Int) (n : Nat) (hlo : 0 ≤ lo ∧ lo < 9223372036854775808) (hre : 0 ≤ reach ∧ reach < 9223372036854775808) (hdg : 0 ≤ dg ∧ dg < 4294967296) (hn : n < 4294967296) (q : Option Addr) (d : Nat) (hu : Rd w0 H (.slice q 7 d) 7 (ints .u64 [478450451, (n : Int), 0, dg, lo, reach, 4607182418800017408])) (w : World) (hw : St w0 H w) :
    Calls Tryz.prog 65 #[.string (bstr [87, 87, 87, 87, 81, 81, 81]), .slice q 7 d] w fun e w' => ∃ p c, e = .returned (.tuple #[.slice p 40 c, .int .i64 0]) ∧ St w0 (vec 5 1 (.slice p 40 c) 40 (ints .u8 (hdB lo reach dg n)) :: H) w' := by
  have h1 : ∀ j, 0 ≤ [478450451, (n : Int), 0, dg, lo, reach, 4607182418800017408].getD j 0 ∧ [478450451, (n : Int), 0, dg, lo, reach, 4607182418800017408].getD j 0 < 18446744073709551616 := fun j => by
    match j with
    | 0 => exact (by decide : (0 : Int) ≤ 478450451 ∧ (478450451 : Int) < 18446744073709551616)
    | 1 => show 0 ≤ (n : Int) ∧ (n : Int) < 18446744073709551616; omega
    | 2 => exact (by decide : (0 : Int) ≤ 0 ∧ (0 : Int) < 18446744073709551616)
    | 3 => show 0 ≤ dg ∧ dg < 18446744073709551616; omega
    | 4 => show 0 ≤ lo ∧ lo < 18446744073709551616; omega
    | 5 => show 0 ≤ reach ∧ reach < 18446744073709551616; omega
    | 6 => exact (by decide : (0 : Int) ≤ 4607182418800017408 ∧ (4607182418800017408 : Int) < 18446744073709551616)
    | j + 7 => exact (by decide : (0 : Int) ≤ 0 ∧ (0 : Int) < 18446744073709551616)
  have h2 : ∀ j, j < [478450451, (n : Int), 0, dg, lo, reach, 4607182418800017408].length → fitA ([4, 4, 4, 4, 6, 6, 6].getD j 0) ([478450451, (n : Int), 0, dg, lo, reach, 4607182418800017408].getD j 0) := fun j hj => by
    match j, hj with
    | 0, _ => exact .inr (.inr ⟨by decide, by decide, (by decide : (478450451 : Int) < 256 ^ 4)⟩)
    | 1, _ => exact .inr (.inr ⟨by decide, by decide, (by rw [show (256 : Int) ^ 4 = 4294967296 by decide]; omega : (n : Int) < 256 ^ 4)⟩)
    | 2, _ => exact .inr (.inr ⟨by decide, by decide, (by decide : (0 : Int) < 256 ^ 4)⟩)
    | 3, _ => exact .inr (.inr ⟨by decide, by decide, (by rw [show (256 : Int) ^ 4 = 4294967296 by decide]; omega : dg < 256 ^ 4)⟩)
    | 4, _ => exact .inr (.inl rfl)
    | 5, _ => exact .inr (.inl rfl)
    | 6, _ => exact .inr (.inl rfl)
    | j + 7, h => simp at h; omega
  have := WirePut_c (w0 := w0) (H := H) [4, 4, 4, 4, 6, 6, 6] (by decide) (by decide) q d [478450451, (n : Int), 0, dg, lo, reach, 4607182418800017408] hu rfl h1 h2 w hw
  have he : encs [4, 4, 4, 4, 6, 6, 6] [478450451, (n : Int), 0, dg, lo, reach, 4607182418800017408] = hdB lo reach dg n := rfl
  rw [he, hdB_len] at this
  exact this
set_option maxRecDepth 10000 in
set_option maxHeartbeats 4000000 in
/-- the plain form of a histogram -/
theorem HWrite_c (bh mb bm : Nat) (gr : Bool) (bu : Nat) (es : List MapEntry) (clock : Nat) (T : List (Int × Int)) (hh : blk bh (hc mb bm gr bu (sw T)) ∈ H) (hm : mapL bm es clock ∈ H) (hM : blk mb (mc lo hi dg u g) ∈ H) (hE : HM es clock T) (hG : GT T) (hug : u + g ≤ 62) (hg : 1 ≤ g ∧ g ≤ 18) (hbu : bu ≤ 64) (hl : T.length ≤ 1000000)
    (hlo : 0 ≤ lo ∧ lo < 9223372036854775808) (hhi : 0 ≤ hi ∧ hi < 9223372036854775808) (hdg : 0 ≤ dg ∧ dg < 4294967296) (w : World) (hw : St w0 H w) :
    Calls Tryz.prog 32 #[.pointer (some ⟨bh, 0, none⟩)] w fun e w' => ∃ p c, e = .returned (.tuple #[.slice p (wrB lo (rchv u g hi bu) dg T).length c, .int .i64 0]) ∧ St w0 (vec 5 1 (.slice p (wrB lo (rchv u g hi bu) dg T).length c) (wrB lo (rchv u g hi bu) dg T).length (ints .u8 (wrB lo (rchv u g hi bu) dg T)) :: H) w' := by
  have hcl := cntA_len T
  have hwl := wrB_len lo (rchv u g hi bu) dg T
  have hre : 0 ≤ rchv u g hi bu ∧ rchv u g hi bu < 9223372036854775808 := by
    unfold rchv
    split
    · exact hhi
    · have := topv_lt' u g bu; omega
  have hwe : hdB lo (rchv u g hi bu) dg (cntA T).length ++ cntA T = wrB lo (rchv u g hi bu) dg T := rfl
  have hSh := fun {H} (x1 : blk bh (hc mb bm gr bu (sw T)) ∈ H) (x3 : blk mb (mc lo hi dg u g) ∈ H) w hw => HShape_c (w0 := w0) bh mb bm gr bu (sw T) x1 x3 w hw
  have hRe := fun {H} (x1 : blk bh (hc mb bm gr bu (sw T)) ∈ H) (x3 : blk mb (mc lo hi dg u g) ∈ H) w hw => HReach_c (w0 := w0) bh mb bm gr bu (sw T) x1 x3 hug hg.1 hbu (by omega) w hw
  refine enter (vs := [.pointer (some ⟨bh, 0, none⟩)]) Tryz.func32 rfl rfl rfl hw ?_
  clear hw w
  repeat (first | (refine sx ?_; try intro _))
  refine JO_call Tryz.call39 rfl rfl fun w hw => (hSh hh hM w hw).mono ?_
  rintro e w' ⟨rfl, hw'⟩
  (refine ⟨_, rfl, _, hw', ?_⟩; clear hw' hw w w')
  repeat (first | (refine sx ?_; try intro _))
  refine JO_call Tryz.call31 rfl rfl fun w hw => (HPairs_c bh mb bm gr bu (sw T) es clock T hh hm hE hG.srt hG.key hl w hw).mono ?_
  rintro e w' ⟨q, d, rfl, hw'⟩
  (refine ⟨_, rfl, _, hw', ?_⟩; clear hw' hw w w')
  repeat (first | (refine sx ?_; try intro _))
  refine JO_call Tryz.call64 rfl rfl fun w hw => (Counts_c q d T (vec_rd (List.Mem.head _)) hG hl w hw).mono ?_
  rintro e w' ⟨pc, cc, rfl, hw'⟩
  (refine ⟨_, rfl, _, hw', ?_⟩; clear hw' hw w w')
  generalize rchv u g hi bu = re at *
  generalize hA0 : wrB lo re dg T = A0 at *
  generalize hC0 : cntA T = C0 at *
  have c1 : IntKind.u64.wrap (C0.length : Int) = C0.length := wu64 (by omega)
  have c2 : IntKind.u64.wrap dg = dg := wu64 (by omega)
  have c3 : IntKind.u64.wrap lo = lo := wu64 (by omega)
  have c4 : IntKind.u64.wrap re = re := wu64 (by omega)
  repeat (first | (apply gQO; first | refine QO_v rfl (V_conv (tb := tb) rfl rfl rfl c1 rfl) ?_ | refine QO_v rfl (V_conv (tb := tb) rfl rfl rfl c2 rfl) ?_ | refine QO_v rfl (V_conv (tb := tb) rfl rfl rfl c3 rfl) ?_) | first | (refine sx ?_; try intro _))
  refine QO_call Tryz.call30 rfl rfl fun w hw => (hRe (List.Mem.tail _ (List.Mem.tail _ (List.Mem.tail _ hh))) (List.Mem.tail _ (List.Mem.tail _ (List.Mem.tail _ hM))) w hw).mono ?_
  rintro e w' ⟨rfl, hw'⟩
  (refine ⟨_, rfl, _, hw', .inl fun w hw => by repeat (first | exact hw | exact hw.drop), ?_⟩; clear hw' hw w w')
  repeat (first | (apply gQO; first | refine QO_v rfl (V_conv (tb := tb) rfl rfl rfl c4 rfl) ?_ | (refine QO_e (E_buildSlice (tb := tb) rfl rfl rfl rfl rfl rfl rfl rfl rfl) rfl (.inr fun _ _ hw => dS hw) ?_; intro _)) | first | (refine sx ?_; try intro _))
  refine QO_call (vs := [.string (bstr [87, 87, 87, 87, 81, 81, 81]), .slice _ 7 7]) Tryz.call65 rfl rfl fun w hw => (PutH_c lo re dg C0.length hlo hre hdg (by omega) _ _ (vec_rd (List.Mem.head _)) w hw).mono ?_
  rintro e w' ⟨p', c', rfl, hw'⟩
  (refine ⟨_, rfl, _, hw', .inl fun w hw => by repeat (first | exact hw | exact hw.drop), ?_⟩; clear hw' hw w w')
  repeat (first | (refine sx ?_; try intro _))
  refine JO_app (tb := tb) rfl rfl rfl rfl rfl rfl (by repeat (first | exact Sel.here _ _ | apply Sel.there)) (by first | exact vec_rd (by repeat (first | apply List.Mem.head | apply List.Mem.tail)) | assumption | exact ArgRd.rd (by assumption) _ | (apply Rd_weak; assumption; intro _ hx; exact dS hx)) (by rw [ints_len, Nat.mul_one]) ints_one (by omega) rfl ?_
  intro q2 d2
  rw [ints_app, hwe]
  repeat (first | (refine sx ?_; try intro _))
  have hlen : 40 + C0.length = A0.length := by omega
  refine JS_ret Tryz.func32 rfl rfl fun w hw => ?_
  rw [hlen] at hw
  exact ⟨_, _, by rw [hlen]; rfl, dS hw⟩
end
end Go.Proofs.YteelffkghidpfaaGreat

namespace Go.Proofs.YteelffkghidpfaaGreat
open Sx Go
set_option linter.unusedVariables false
set_option linter.unusedSimpArgs false
theorem uptoT_get (T : List (Int × Int)) (j : Nat) (h : j < T.length) : (ints .u64 (uptoT T T.length))[j]? = some (.int .u64 (sw (T.take (j + 1)))) := by
  rw [ints_get (by rw [show (uptoT T T.length).length = T.length from tab_len _ _]; exact h)]
  congr 2
  exact tab_get h
theorem IsTab.sw {w0 H b T} (h : IsTab w0 H b T) (i : Nat) (hi : i ≤ T.length) : 0 ≤ sw (T.take i) ∧ sw (T.take i) ≤ 4611686018427387904 :=
  ⟨swT_nn h.hT i hi, swT_le h.hT (fun j hj => h.hR j (by omega)) hi⟩
theorem Sum_c {w0 : World} {H : List Asn} (b : Nat) (T : List (Int × Int)) (hs : IsTab w0 H b T) (i : Nat) (hi : i ≤ T.length) (hl : T.length ≤ 1000000) (w : World) (hw : St w0 H w) :
    Calls Tryz.prog 154 #[.pointer (some ⟨b, 0, none⟩), .int .i64 i] w fun e w' => e = .returned (.int .u64 (sw (T.take i))) ∧ St w0 H w' := by
  obtain ⟨⟨pk, ck, pu, cu, hb, hk, hu⟩, hT, hR⟩ := hs
  refine enter (vs := [.pointer (some ⟨b, 0, none⟩), .int .i64 i]) Tryz.func154 rfl rfl rfl hw ?_
  cases i with
  | zero =>
    repeat (first | (refine sx ?_; try intro _))
    refine JS_ret Tryz.func154 rfl rfl ?_
    intro w hw
    exact ⟨rfl, hw⟩
  | succ i =>
    have g := uptoT_get T i (by omega)
    have hj : IntKind.i64.wrap (((i + 1 : Nat) : Int) - 1) = (i : Int) := (wi64 (by omega)).trans (by omega)
    repeat (first | (apply gJO; first | refine JO_v (V_load (tb := tb) rfl hb rfl rfl rfl rfl) ?_ | refine JO_v (V_sub rfl rfl hj rfl) ?_ | refine JO_v (V_loadC (tb := tb) rfl hu rfl rfl g rfl) ?_) | (first | (refine sx ?_; try intro _)))
    refine JS_ret Tryz.func154 rfl rfl ?_
    intro w hw
    exact ⟨rfl, hw⟩
theorem TTotal_c {w0 : World} {H : List Asn} (b : Nat) (T : List (Int × Int)) (hs : IsTab w0 H b T) (hl : T.length ≤ 1000000) (w : World) (hw : St w0 H w) :
    Calls Tryz.prog 115 #[.pointer (some ⟨b, 0, none⟩)] w fun e w' => e = .returned (.int .u64 (sw T)) ∧ St w0 H w' := by
  have hs' := hs
  obtain ⟨⟨pk, ck, pu, cu, hb, hk, hu⟩, hT, hR⟩ := hs
  refine enter (vs := [.pointer (some ⟨b, 0, none⟩)]) Tryz.func115 rfl rfl rfl hw ?_
  repeat (first | (apply gJO; refine JO_v (V_load (tb := tb) rfl hb rfl rfl rfl rfl) ?_) | (first | (refine sx ?_; try intro _)))
  refine JO_call Tryz.call154 rfl rfl fun w hw => (Sum_c b T hs' T.length (Nat.le_refl _) hl w hw).mono ?_
  rintro e w' ⟨rfl, hw'⟩
  rw [List.take_length]
  refine ⟨_, rfl, _, hw', ?_⟩
  clear hw' hw w w'
  repeat (first | (refine sx ?_; try intro _))
  refine JS_ret Tryz.func115 rfl rfl ?_
  intro w hw
  exact ⟨rfl, hw⟩
end Go.Proofs.YteelffkghidpfaaGreat

namespace Go.Proofs.YteelffkghidpfaaGreat
open Sx Go
set_option linter.unusedVariables false
set_option linter.unusedSimpArgs false
end Go.Proofs.YteelffkghidpfaaGreat

namespace Go.Proofs.YteelffkghidpfaaGreat
open Sx Go
set_option linter.unusedVariables false
set_option linter.unusedSimpArgs false
theorem Mul64_c {w0 : World} {H : List Asn} (a b : Int) (ha : 0 ≤ a ∧ a < 18446744073709551616) (hb : 0 ≤ b ∧ b < 18446744073709551616) (w : World) (hw : St w0 H w) :
    Calls Tryz.prog 250 #[.int .u64 a, .int .u64 b] w fun e w' => e = .returned (.tuple #[.int .u64 (a * b / 18446744073709551616), .int .u64 (a * b % 18446744073709551616)]) ∧ St w0 H w' := by
  refine enter (vs := [.int .u64 a, .int .u64 b]) Tryz.func250 rfl rfl rfl hw ?_
  repeat (first | (refine su ?_; try intro _))
  refine JS_ret Tryz.func250 rfl rfl ?_
  intro w hw
  have := mul64_arith a b ha.1 ha.2 hb.1 hb.2
  refine ⟨?_, hw⟩
  rw [← this]
  rfl
end Go.Proofs.YteelffkghidpfaaGreat

namespace Go.Proofs.YteelffkghidpfaaGreat
open Sx Go
set_option linter.unusedVariables false
set_option linter.unusedSimpArgs false
end Go.Proofs.YteelffkghidpfaaGreat

namespace Go.Proofs.YteelffkghidpfaaGreat
open Sx Go
set_option linter.unusedVariables false
set_option linter.unusedSimpArgs false
/-- what MulDiv answers -/
def MD (a b d q l r : Int) : Prop :=
  (d ≠ 0 ∧ a * b / d < 18446744073709551616 ∧ q = a * b / d ∧ l = a * b % d ∧ r = 0 ∧ 0 ≤ q ∧ 0 ≤ l ∧ l < d) ∨ ((d = 0 ∨ 18446744073709551616 ≤ a * b / d) ∧ q = 0 ∧ l = 0 ∧ r = 100)
end Go.Proofs.YteelffkghidpfaaGreat

namespace Go.Proofs.YteelffkghidpfaaGreat
open Sx Go
set_option linter.unusedVariables false
set_option linter.unusedSimpArgs false
end Go.Proofs.YteelffkghidpfaaGreat

/- Numbers as lists of digits to the base 65536, the lowest first: plain facts. -/
namespace Go.Proofs.YteelffkghidpfaaGreat
/-- the number that digits make -/
def val : List Int → Int
  | [] => 0
  | x :: r => x + 65536 * val r
/-- digits -/
def D16 (L : List Int) : Prop := ∀ j, 0 ≤ L.getD j 0 ∧ L.getD j 0 < 65536
theorem four {L : List Int} (h : L.length = 4) : ∃ a b c d, L = [a, b, c, d] := by
  match L, h with
  | [a, b, c, d], _ => exact ⟨a, b, c, d, rfl⟩
/-- the four digits of a number of 64 bits -/
def dig4 (a : Int) : List Int := [a % 65536, a / 65536 % 65536, a / 4294967296 % 65536, a / 281474976710656]
/-- four digits from a place on -/
def num4 (L : List Int) (f : Nat) : Int := L.getD f 0 + 65536 * (L.getD (f + 1) 0 + 65536 * (L.getD (f + 2) 0 + 65536 * L.getD (f + 3) 0))
end Go.Proofs.YteelffkghidpfaaGreat

namespace Go.Proofs.YteelffkghidpfaaGreat
open Sx Go
set_option linter.unusedVariables false
set_option linter.unusedSimpArgs false
attribute [local irreducible] IntKind.wrap
end Go.Proofs.YteelffkghidpfaaGreat

namespace Go.Proofs.YteelffkghidpfaaGreat
open Sx Go
set_option linter.unusedVariables false
set_option linter.unusedSimpArgs false
end Go.Proofs.YteelffkghidpfaaGreat

/- Bit by bit division: plain facts. -/
namespace Go.Proofs.YteelffkghidpfaaGreat
end Go.Proofs.YteelffkghidpfaaGreat

namespace Go.Proofs.YteelffkghidpfaaGreat
open Sx Go
set_option linter.unusedVariables false
set_option linter.unusedSimpArgs false
end Go.Proofs.YteelffkghidpfaaGreat

namespace Go.Proofs.YteelffkghidpfaaGreat
open Sx Go
set_option linter.unusedVariables false
set_option linter.unusedSimpArgs false
end Go.Proofs.YteelffkghidpfaaGreat

namespace Go.Proofs.YteelffkghidpfaaGreat
open Sx Go
set_option linter.unusedVariables false
set_option linter.unusedSimpArgs false
/-- the rank, of a quotient and what is left -/
def RV (q l v : Int) : Prop := (l = 0 ∧ q = 0 ∧ v = 1) ∨ (l = 0 ∧ q ≠ 0 ∧ v = q) ∨ (l ≠ 0 ∧ v = q + 1)
def RK (a b n v r : Int) : Prop := ((b = 0 ∨ b < a) ∧ v = 0 ∧ r = 7) ∨ (0 < b ∧ a ≤ b ∧ n = 0 ∧ v = 0 ∧ r = 8) ∨ (0 < b ∧ a ≤ b ∧ n ≠ 0 ∧ r = 0 ∧ RV (a * n / b) (a * n % b) v)
end Go.Proofs.YteelffkghidpfaaGreat

namespace Go.Proofs.YteelffkghidpfaaGreat
open Sx Go
set_option linter.unusedVariables false
set_option linter.unusedSimpArgs false
/-- the least numbers of a part -/
def LE (a b x y : Int) : Prop := ((b = 0 ∨ b < a) ∧ x = 0 ∧ y = 0) ∨ (0 < b ∧ a ≤ b ∧ 0 < (Int.gcd a b : Int) ∧ x = a / Int.gcd a b ∧ y = b / Int.gcd a b)
end Go.Proofs.YteelffkghidpfaaGreat

namespace Go.Proofs.YteelffkghidpfaaGreat
open Sx Go
set_option linter.unusedVariables false
set_option linter.unusedSimpArgs false
def CT (n k : Int) (L : List Int) (r : Int) : Prop := ((k < 1 ∨ 1000 < k) ∧ L = [] ∧ r = 1) ∨ (1 ≤ k ∧ k ≤ 1000 ∧ n = 0 ∧ L = [] ∧ r = 8) ∨
  (1 ≤ k ∧ k ≤ 1000 ∧ n ≠ 0 ∧ r = 0 ∧ (L.length : Int) = k - 1 ∧ ∀ i : Nat, i < L.length → ∃ r', RK (i + 1) k n (L.getD i 0) r')
end Go.Proofs.YteelffkghidpfaaGreat

namespace Go.Proofs.YteelffkghidpfaaGreat
open Sx Go
set_option linter.unusedVariables false
set_option linter.unusedSimpArgs false
/-- the first place of the most -/
def MX (T : List (Int × Int)) (i at' : Nat) : Prop := at' < i ∧ (∀ j, j < i → (T.getD j (0, 0)).2 ≤ (T.getD at' (0, 0)).2) ∧ ∀ j, j < at' → (T.getD j (0, 0)).2 < (T.getD at' (0, 0)).2
theorem MX.one {T i a b} (h : MX T i a) (h' : MX T i b) : a = b := by
  obtain ⟨h1, h2, h3⟩ := h
  obtain ⟨g1, g2, g3⟩ := h'
  rcases Nat.lt_trichotomy a b with h | h | h
  · have := g3 a h; have := h2 b g1; omega
  · exact h
  · have := h3 b h; have := g2 a h1; omega
theorem MX.no {T i a} (h : MX T i a) (hn : ¬ (T.getD a (0, 0)).2 < (T.getD i (0, 0)).2) : MX T (i + 1) a :=
  ⟨by have := h.1; omega, fun j hj => by
    rcases Nat.lt_or_ge j i with h1 | h1
    · exact h.2.1 j h1
    · obtain rfl : j = i := by omega
      omega, h.2.2⟩
end Go.Proofs.YteelffkghidpfaaGreat

namespace Go.Proofs.YteelffkghidpfaaGreat
open Sx Go Hd
set_option linter.unusedVariables false
set_option linter.unusedSimpArgs false
/-- keys that are cells' -/
def KSI (u g : Nat) (T : List (Int × Int)) : Prop := ∀ x ∈ T, ∃ k : Nat, x.1 = (k : Int) ∧ isI u g k
theorem KSI.nil {u g : Nat} : KSI u g [] := fun x hx => absurd hx (by simp)
theorem KSI.put {u g : Nat} {T : List (Int × Int)} (h : KSI u g T) {k : Nat} (hk : isI u g k) (n : Int) : KSI u g (putT k n T) := fun x hx => by
  rcases putT_mem hx with hx | hx
  · exact h x hx
  · exact ⟨k, hx, hk⟩
theorem isI_bd {u g k : Nat} (hug : u + g ≤ 62) (hg : 1 ≤ g ∧ g ≤ 18) (h : isI u g k) : k ≤ 8650752 := by
  have h1 := ival_idx hg.1 h
  have h2 := (idx_bd hug hg (ival_lt h)).1
  omega
/-- the end of the cell with an index -/
def hiI (u g k : Nat) : Nat := ival u g k + (siz u g (ival u g k) - 1)
section
variable {w0 : World} {H : List Asn} {lo hi dg : Int} {u g : Nat}
end
end Go.Proofs.YteelffkghidpfaaGreat

namespace Go.Proofs.YteelffkghidpfaaGreat
open Sx Go Hd
set_option linter.unusedVariables false
set_option linter.unusedSimpArgs false
/-! ## equality of pairs, and of shapes -/
theorem fieldsPair : (Tryz.prog.fieldsOf 97).toList = [⟨"Key", 3, 0, false, "", "", 0⟩, ⟨"N", 48, 1, false, "", "", 8⟩] := by kernel_rfl
theorem part1 {t : Nat} {l : List Value} {i : Nat} {v : Value} (h : Tryz.prog.plainKey t = true) (hv : l[i]? = some v) (w : World) : (part t l.toArray i).run Tryz.prog w = .ok v w :=
  run_part_plain (P := Tryz.prog) (w := w) (e := t) h (xs := l.toArray) (off := i) (by simpa using hv)
theorem eqPair (a b c d : Int) (w : World) : (Op.eqFields 9999 [Value.int .i64 a, .int .u64 b].toArray [Value.int .i64 c, .int .u64 d].toArray (Tryz.prog.fieldsOf 97).toList).run Tryz.prog w = .ok (decide (a = c) && decide (b = d)) w := by
  have e1 : (Op.equalIn 9999 3 (.int .i64 a) (.int .i64 c)).run Tryz.prog w = .ok (a == c) w := run_equalIn_int (P := Tryz.prog) w 9998 3 .i64 .i64 a c (und_int (tb := tb) (t := 3) rfl)
  have e2 : (Op.equalIn 9999 48 (.int .u64 b) (.int .u64 d)).run Tryz.prog w = .ok (b == d) w := run_equalIn_int (P := Tryz.prog) w 9998 48 .u64 .u64 b d (und_int (tb := tb) (t := 48) rfl)
  have k3 : Tryz.prog.plainKey 3 = true := by kernel_rfl
  have k22 : Tryz.prog.plainKey 48 = true := by kernel_rfl
  rw [fieldsPair]
  have p1 := part1 (l := [Value.int .i64 a, .int .u64 b]) (i := 0) k3 rfl w
  have p2 := part1 (l := [Value.int .i64 a, .int .u64 b]) (i := 1) k22 rfl w
  have p3 := part1 (l := [Value.int .i64 c, .int .u64 d]) (i := 0) k3 rfl w
  have p4 := part1 (l := [Value.int .i64 c, .int .u64 d]) (i := 1) k22 rfl w
  have n1 : ("Key" : String) ≠ "_" := by decide
  have n2 : ("N" : String) ≠ "_" := by decide
  simp only [Op.eqFields, n1, n2, ne_eq, not_false_eq_true, if_true, Sem.run_bind, p1, p2, p3, p4, e1, e2, Result.andThen_ok, Sem.run_ite, Sem.run_pure]
  by_cases h1 : a = c <;> by_cases h2 : b = d <;> simp [h1, h2]
theorem uPair : Tryz.prog.underlying 97 = some (.struct (Tryz.prog.fieldsOf 97)) := by kernel_rfl
theorem hPair : Tryz.prog.stoodInHeld 97 = false := by kernel_rfl
theorem mPair : Tryz.prog.eqGuardType Tryz.prog.depth 97 = false := by kernel_rfl
section
variable {D : List Deferred} {w0 : World} {H : List Asn} {ov : Ov} {n : Nat} {d : Option Nat} {x y : Operand} {T T2 : Nat} {pos : String} {af : Array Edge} {g : Option (Nat × Bool)}
theorem V_nePair {a b a' b' : Int} {r : Bool} (hx : ev ov x = some (.agg #[.int .i64 a, .int .u64 b])) (hy : ev ov y = some (.agg #[.int .i64 a', .int .u64 b'])) (hr : (!(decide (a = a') && decide (b = b'))) = r) (hd : dOk d n = true) :
    OpV Tryz.prog n D w0 ov H ⟨d, .binOp .neq 97 x y T2, T, pos, af, g⟩ (.bool r) := by
  have := V_eqS (P := Tryz.prog) (w0 := w0) (D := D) (H := H) (T := T) (T2 := T2) (pos := pos) (af := af) (g := g) (.inr rfl) hx hy uPair hPair mPair (eqPair a b a' b') hd
  simp only [hr] at this; exact this
end
section
variable {w0 : World} {H : List Asn} {lo hi dg : Int} {u g : Nat}
set_option maxRecDepth 10000 in
set_option maxHeartbeats 2000000 in
/-- two rows of the same pairs -/
theorem RSame_c (p q : Option Addr) (c d m : Nat) (T : List (Int × Int)) (hp : Rd w0 H (.slice p m c) m (flat T)) (hq : Rd w0 H (.slice q m d) m (flat T)) (hm : T.length = m) (hl : m ≤ 1000000) (w : World) (hw : St w0 H w) :
    Calls Tryz.prog 41 #[.slice p m c, .slice q m d] w fun e w' => e = .returned (.bool true) ∧ St w0 H w' := by
  refine enter (vs := [.slice p m c, .slice q m d]) Tryz.func41 rfl rfl rfl hw ?_
  clear hw w
  repeat (first | (apply gJR; first | (refine sx ?_; try intro _)) | (apply gJO; first | (refine sx ?_; try intro _)) | apply JS_seq | apply JS_region | (apply gJS; refine JS_condF rfl ?_) | (apply gJS; refine JS_cond_F rfl (by omega) ?_) | apply JS_skip)
  refine JS_block ?_
  refine JS_loop1 (fun (i : Nat) => [(0, .slice p m c), (1, .slice q m d), (5, .int .i64 i)]) (fun _ => H) (fun i => i ≤ m) (fun i => m - i) 0 (Nat.zero_le _) (by repeat (first | exact trivial | refine ⟨rfl, ?_⟩ | refine ⟨lookI rfl (by omega), ?_⟩)) (fun w hw => hw) ?_
  intro i hi again
  by_cases him : i < m
  · have hat := flat_seg T i (by omega)
    generalize T.getD i (0, 0) = x at *
    have hr : (!(decide (x.1 = x.1) && decide (x.2 = x.2))) = false := by simp
    repeat (first | (apply gQO; first | refine QO_v rfl (oL (V_loadCA (tb := tb) rfl hp rfl rfl rfl (by decide) hat rfl)) ?_ | refine QO_v rfl (oL (V_loadCA (tb := tb) rfl hq rfl rfl rfl (by decide) hat rfl)) ?_ | refine QO_v rfl (V_nePair rfl rfl hr rfl) ?_) | first | (refine sx ?_; try intro _))
    exact JS_again1 again (i + 1) (by omega) (by omega) (by repeat (first | exact trivial | refine ⟨rfl, ?_⟩ | refine ⟨lookI rfl (by omega), ?_⟩)) (fun w hw => hw)
  · obtain rfl : i = m := by omega
    repeat (first | (refine sx ?_; try intro _))
    exact JS_ret Tryz.func41 rfl rfl fun w hw => ⟨rfl, hw⟩
end
end Go.Proofs.YteelffkghidpfaaGreat

namespace Go.Proofs.YteelffkghidpfaaGreat
open Sx Go Hd
set_option linter.unusedVariables false
set_option linter.unusedSimpArgs false
section
variable {w0 : World} {H : List Asn} {lo hi dg : Int} {u g : Nat}
/-- the least and the greatest key, as cells -/
def kLo (T : List (Int × Int)) : Nat := (T.getD 0 (0, 0)).1.toNat
def kHi (T : List (Int × Int)) : Nat := (T.getD (T.length - 1) (0, 0)).1.toNat
theorem KSI.at {u g : Nat} {T : List (Int × Int)} (h : KSI u g T) {i : Nat} (hi : i < T.length) : (T.getD i (0, 0)).1 = ((T.getD i (0, 0)).1.toNat : Nat) ∧ isI u g (T.getD i (0, 0)).1.toNat := by
  obtain ⟨k, h1, h2⟩ := h _ (getD_mem hi)
  rw [h1, Int.toNat_natCast]
  exact ⟨rfl, h2⟩
end
end Go.Proofs.YteelffkghidpfaaGreat

namespace Go.Proofs.YteelffkghidpfaaGreat
open Sx Go Hd
set_option linter.unusedVariables false
set_option linter.unusedSimpArgs false
section
variable {w0 : World} {H : List Asn} {lo hi dg : Int} {u g : Nat}
end
end Go.Proofs.YteelffkghidpfaaGreat

namespace Sx
open Go
section
variable {P : Program} {n : Nat} {D : List Deferred} {w0 : World} {ov : Ov} {H : List Asn} {K : KC} {Z : Array Oper × List Nat} {l : List Oper} {d : Option Nat} {T : Nat} {pos : String} {af : Array Edge} {g : Option (Nat × Bool)} {v : Value} {op : Op}
end
end Sx
namespace Go.Proofs.YteelffkghidpfaaGreat
open Sx Go Hd
set_option linter.unusedVariables false
set_option linter.unusedSimpArgs false
/-! ## cells taken together -/
def takeT (T P : List (Int × Int)) : List (Int × Int) := P.foldl (fun T p => putT p.1 p.2 T) T
section
variable {w0 : World} {H : List Asn} {lo hi dg : Int} {u g : Nat}
end
end Go.Proofs.YteelffkghidpfaaGreat

namespace Sx
open Go
end Sx
namespace Go.Proofs.YteelffkghidpfaaGreat
open Sx Go Hd
set_option linter.unusedVariables false
set_option linter.unusedSimpArgs false
/-- what taking answers -/
def tkc (same : Bool) (t1 t2 : Int) : Int := if same = false then 3 else if 4611686018427387904 - t1 < t2 then 6 else 0
section
variable {w0 : World} {H : List Asn} {lo hi dg lo2 hi2 dg2 : Int} {u g u2 g2 : Nat}
end
end Go.Proofs.YteelffkghidpfaaGreat

namespace Go.Proofs.YteelffkghidpfaaGreat
open Sx Go Hd
set_option linter.unusedVariables false
set_option linter.unusedSimpArgs false
section
variable {w0 : World} {H : List Asn} {lo hi dg lo2 hi2 dg2 : Int} {u g u2 g2 : Nat}
end
end Go.Proofs.YteelffkghidpfaaGreat

namespace Go.Proofs.YteelffkghidpfaaGreat
open Sx Go Hd
set_option linter.unusedVariables false
set_option linter.unusedSimpArgs false
section
variable {w0 : World} {H : List Asn} {lo hi dg lo2 hi2 dg2 : Int} {u g u2 g2 : Nat}
/-- the row of a histogram behind so many steps: the old one, or a new one -/
def rowX (X : Asn) (q0 : Option Addr) (d0 : Nat) (i : Nat) (q : Option Addr) (d : Nat) (T : List (Int × Int)) : Prop :=
  (i = 0 ∧ X = vec 97 2 (.slice none 0 0) 0 [] ∧ q = q0 ∧ d = d0) ∨ (0 < i ∧ X = vec 97 2 (.slice q T.length d) T.length (flat T))
end
end Go.Proofs.YteelffkghidpfaaGreat

namespace Go.Proofs.YteelffkghidpfaaGreat
open Sx Go Hd
set_option linter.unusedVariables false
set_option linter.unusedSimpArgs false
section
variable {w0 : World} {H : List Asn} {lo hi dg : Int} {u g : Nat}
end
end Go.Proofs.YteelffkghidpfaaGreat

namespace Go.Proofs.YteelffkghidpfaaGreat
open Sx Go Hd
set_option linter.unusedVariables false
set_option linter.unusedSimpArgs false
theorem chk_0 {u g : Nat} {gr : Bool} {bu : Nat} {tot v n : Int} (hn : 0 ≤ n) (h : chk u g gr bu tot v n = 0) : 0 < n ∧ 0 ≤ v ∧ tot + n ≤ 4611686018427387904 := by
  unfold chk at h
  split at h
  · omega
  · split at h
    · omega
    · rename_i h1 h2
      split at h
      · omega
      · have : ¬ v < 0 := fun h' => h2 (.inl h')
        omega
section
variable {w0 : World} {H : List Asn} {lo hi dg : Int} {u g : Nat}
set_option maxRecDepth 10000 in
set_option maxHeartbeats 4000000 in
theorem HRecord_c (bh mb bm : Nat) (gr : Bool) (bu : Nat) (es : List MapEntry) (clock : Nat) (T : List (Int × Int)) (hM : blk mb (mc lo hi dg u g) ∈ H) (hug : u + g ≤ 62) (hg : 1 ≤ g ∧ g ≤ 18) (hbu : bu ≤ 64) (hE : HM es clock T) (hG : GT T) (v n : Int) (hv : -9223372036854775808 ≤ v ∧ v < 9223372036854775808) (hn : 0 ≤ n ∧ n < 18446744073709551616) (w : World) (hw : St w0 (blk bh (hc mb bm gr bu (sw T)) :: mapL bm es clock :: H) w) :
    Calls Tryz.prog 56 #[.pointer (some ⟨bh, 0, none⟩), .int .i64 v, .int .u64 n] w fun e w' => e = .returned (.int .i64 (chk u g gr bu (sw T) v n)) ∧
      ((chk u g gr bu (sw T) v n ≠ 0 ∧ St w0 (blk bh (hc mb bm gr bu (sw T)) :: mapL bm es clock :: H) w') ∨
      (chk u g gr bu (sw T) v n = 0 ∧ ∃ es' clock', HM es' clock' (putT (idx u g v.toNat) n T) ∧ St w0 (blk bh (hc mb bm gr (max bu (1 + bkt u g v.toNat)) (sw T + n)) :: mapL bm es' clock' :: H) w')) := by
  have ht0 := sw_nn hG.pos
  have htt := hG.tot
  refine enter (vs := [.pointer (some ⟨bh, 0, none⟩), .int .i64 v, .int .u64 n]) Tryz.func56 rfl rfl rfl hw ?_
  clear hw w
  repeat (first | (refine sx ?_; try intro _))
  refine JO_call Tryz.call98 rfl rfl fun w hw => (HCheck_c bh mb bm gr bu (sw T) (List.Mem.head _) (List.Mem.tail _ (List.Mem.tail _ hM)) hug hg.1 hbu ⟨ht0, htt⟩ v n hv hn w hw).mono ?_
  rintro e w' ⟨rfl, hw'⟩
  refine ⟨_, rfl, _, hw', ?_⟩
  clear hw' hw w w'
  by_cases hc : chk u g gr bu (sw T) v n = 0
  · obtain ⟨p1, p2, p3⟩ := chk_0 hn.1 hc
    obtain ⟨x, rfl⟩ := Int.eq_ofNat_of_zero_le p2
    rw [hc, Int.toNat_natCast]
    repeat (first | (refine sx ?_; try intro _))
    refine JO_call Tryz.call99 rfl rfl fun w hw => (HCount_c bh mb bm gr bu (sw T) es clock T hM hug hg hbu ht0 hE hG.srt x (by omega) n ⟨hn.1, p3⟩ (fun y hy => ⟨by have := hG.pos y hy; omega, sw_mem hG.pos y hy⟩) w hw).mono ?_
    rintro e w' ⟨rfl, es', clock', hE', hw'⟩
    refine ⟨_, rfl, _, hw', ?_⟩
    clear hw' hw w w'
    repeat (first | (refine sx ?_; try intro _))
    exact JS_ret Tryz.func56 rfl rfl fun w hw => ⟨rfl, .inr ⟨rfl, es', clock', hE', hw⟩⟩
  · generalize chk u g gr bu (sw T) v n = c at *
    repeat (first | (refine sx ?_; try intro _))
    exact JS_ret Tryz.func56 rfl rfl fun w hw => ⟨rfl, .inl ⟨hc, hw⟩⟩
end
end Go.Proofs.YteelffkghidpfaaGreat

namespace Go.Proofs.YteelffkghidpfaaGreat
open Sx Go Hd
set_option linter.unusedVariables false
set_option linter.unusedSimpArgs false
theorem u1 : uOf 1 = 0 := by decide
theorem g3 : gOf 3 = 11 := by decide
theorem shOK_alive : shOK 1 2000 3 := by decide
theorem b2000 : 1 + bkt 0 11 (Int.toNat 2000) = 1 := by decide
instance (u g k : Nat) : Decidable (isI u g k) := by unfold isI; infer_instance
section
variable {w0 : World} {H : List Asn}
end
end Go.Proofs.YteelffkghidpfaaGreat

namespace Go.Proofs.YteelffkghidpfaaGreat
open Sx Go Hd
set_option linter.unusedVariables false
set_option linter.unusedSimpArgs false
section
variable {w0 : World} {H : List Asn}
/-- what a pair is laid as -/
abbrev pA (pa pb : Addr) (h1 m1 b1 h2 m2 b2 ra rb : Nat) (lo hi dg : Int) (u g : Nat) (gr : Bool) (bu : Nat) : List Asn :=
  [vec 54 1 (.slice (some pa) 2 2) 2 [.pointer (some ⟨h1, 0, none⟩), .pointer (some ⟨h2, 0, none⟩)], vec 30 1 (.slice (some pb) 2 2) 2 [.pointer (some ⟨ra, 0, none⟩), .pointer (some ⟨rb, 0, none⟩)],
    blk ra (rc lo hi dg u g gr bu (.slice none 0 0)), blk rb (rc lo hi dg u g gr bu (.slice none 0 0)), blk h1 (hc m1 b1 gr bu 0), mapL b1 [] 0, blk m1 (mc lo hi dg u g), blk h2 (hc m2 b2 gr bu 0), mapL b2 [] 0, blk m2 (mc lo hi dg u g)]
end
end Go.Proofs.YteelffkghidpfaaGreat

set_option linter.unusedVariables false
namespace Sx
open Go
/-! a region that draws its order: the quiet operations are shown in a wider class of worlds (Hi) than the loud ones (H) -/
section
variable (P : Program) (E : List PanicEntry → List Deferred → World → Prop) (ops : Array Oper) (sy : List Nat) (K : (World → Prop) → Act → Prop)
def goN2 (next : (World → Prop) → (World → Prop) → Act → Prop) (m : Nat) (o : Oper) (I C : World → Prop) (a : Act) : Prop :=
  (loud o.op = false ∧ ∃ v, (∀ w, I w → (execOp a.eval o).run P w = .ok (.value v) w) ∧ next I C (a.put o.dst v)) ∨
  (loud o.op = true ∧ ∀ w, C w → Oper.wpN P E o a w fun a' w' => ∃ I' C' : World → Prop, C' w' ∧ (∀ w, C' w → I' w) ∧ ((∀ w, I' w → I w) ∨ sy.contains m = true) ∧ next I' C' a')
def walkN2 : List Oper → (World → Prop) → (World → Prop) → Act → Prop
  | [], I, C, a => K C a
  | o :: rest, I, C, a => if Region.wanted o (yielded ops a.tmps) then goN2 P E sy (walkN2 rest) rest.length o I C a else walkN2 rest I C (a.put o.dst undef)
end
section
variable {P : Program} {E : List PanicEntry → List Deferred → World → Prop} {ops : Array Oper}
theorem wpS_walk2 {sy : List Nat} {K : (World → Prop) → Act → Prop} (hsel : Region.noSelect ops = true) : ∀ (st done : List Nat) (l : List Oper) (listed : Array Bool) (I C : World → Prop) (a : Act), (∀ w, C w → I w) →
    l.map some = st.map (fun i => ops[i]?) → ordB ops sy done st listed = true → (∀ s ∈ done, s < ops.size) → (∀ j, listed.getD j false = true ↔ j ∈ done) → (∀ S, (∀ s ∈ done, calmAt ops s = false → s ∈ S) → Sofar ops S listed) → walkN2 P E ops sy K l I C a →
    ∀ w, C w → wpS P E ops I (till ops sy done st) (fun a w => ∃ C' : World → Prop, C' w ∧ K C' a) st.length listed a w
  | [], done, l, listed, I, C, a, hIC, hl, hB, hs, hd, hG, h, w, hw => by
    have : l = [] := by simpa using hl
    subst this
    simp only [ordB, Bool.and_eq_true, List.isEmpty_iff] at hB
    exact ⟨hB.1, C, hw, h⟩
  | i :: st, done, [], listed, I, C, a, hIC, hl, hB, hs, hd, hG, h, w, hw => by simp at hl
  | i :: st, done, o :: l, listed, I, C, a, hIC, hl, hB, hs, hd, hG, h, w, hw => by
    obtain ⟨hgate, hsz⟩ := ordB_gate (i :: st) done listed hB hs
    simp only [List.map_cons, List.cons.injEq] at hl
    have ho : ops[i]? = some o := hl.1.symm
    have hlen : l.length = st.length := by simpa using congrArg List.length hl.2
    have hi : i < ops.size := (Array.getElem?_eq_some_iff.1 ho).1
    have hB0 := hB
    simp only [ordB, ho, Bool.and_eq_true] at hB
    obtain ⟨⟨hB1, hB2⟩, hB3⟩ := hB
    have hrdy : i ∈ Region.ready .any ops listed := by
      split at hB2
      · rw [beq_iff_eq] at hB2; rw [hB2]; simp
      · rw [Bool.and_eq_true] at hB2; simpa using hB2.1
    have hs' : ∀ s ∈ i :: done, s < ops.size := fun s hs' => (List.mem_cons.1 hs').elim (fun e => e ▸ hi) (hs s)
    have hiun : listed.getD i true = false := (mem_ready.1 hrdy).1
    have hlt : i < listed.size := by
      rcases Nat.lt_or_ge i listed.size with h' | h'
      · exact h'
      · simp [Array.getElem?_eq_none h'] at hiun
    have hd' : ∀ j, (listed.setIfInBounds i true).getD j false = true ↔ j ∈ i :: done := fun j => by
      by_cases hij : i = j
      · subst hij
        simp [hlt]
      · rw [getD_set_ne false hij, hd j]
        simp [Ne.symm hij]
    have hG' : ∀ S, (∀ s ∈ i :: done, calmAt ops s = false → s ∈ S) → Sofar ops S (listed.setIfInBounds i true) := fun S hS => by
      refine ⟨fun j oj hj hl e he hb => ?_, fun k hk hkc hl => absurd (hS k ((hd' k).1 hl) hkc) hk⟩
      by_cases hij : i = j
      · subst hij
        rw [ho] at hj; cases hj
        obtain ⟨_, o', ho', hall⟩ := mem_ready.1 hrdy
        rw [ho] at ho'; cases ho'
        exact getD_set_true (hall e he hb)
      · rw [getD_set_ne false hij] at hl
        exact getD_set_true ((hG S fun s hs => hS s (List.mem_cons_of_mem _ hs)).down j oj hj hl e he hb)
    have IH := fun (I C : World → Prop) (a : Act) (hIC : ∀ w, C w → I w) (h : walkN2 P E ops sy K l I C a) => wpS_walk2 hsel st (i :: done) l (listed.setIfInBounds i true) I C a hIC hl.2 hB3 hs' hd' hG' h
    have hunl : ∀ j, (listed.setIfInBounds i true).getD j true = false → j ∉ i :: done := fun j h hj => getD_conf h ((hd' j).2 hj)
    simp only [walkN2] at h
    have hpure : ∀ v, loud o.op = false → Stays P ops I o v a → walkN2 P E ops sy K l I C (a.put o.dst v) → wpS P E ops I (till ops sy done (i :: st)) (fun a w => ∃ C' : World → Prop, C' w ∧ K C' a) (st.length + 1) listed a w := by
      intro v hlo hst hn
      have hnsy : sy.contains st.length = false := by
        cases hc : sy.contains st.length with
        | false => rfl
        | true => rw [hc] at hB1; simp [hlo] at hB1
      have htl : till ops sy done (i :: st) = till ops sy (i :: done) st := by simp only [till]; rw [hnsy]; simp
      simp only [hlo, Bool.false_eq_true, if_false, Bool.and_eq_true] at hB2
      cases hcal : calm o.op with
      | false =>
        refine wpS_first ho (Region.noSelect_spec hsel) hgate hsz (by rw [htl]; exact till_sub _ _ _ (List.mem_cons_self ..) (by unfold calmAt; simp only [ho]; exact hcal)) st.length listed a w (hG _ fun s hs hc => till_sub _ _ _ hs hc) (Region.free_spec ho hB2.2) hrdy hst (hIC w hw) ?_
        rw [htl]
        exact IH I C _ hIC hn w hw
      | true =>
        refine wpS_calm ho (Region.noSelect_spec hsel) (fun h => by have h' := till_calm _ _ _ h; unfold calmAt at h'; simp only [ho, hcal] at h'; cases h') st.length listed a w (Region.free_spec ho hB2.2) hrdy (hst.calm hcal (hIC w hw)) ?_
        rw [htl]
        exact IH I C _ hIC hn w hw
    have hloud : loud o.op = true → ∀ (a' : Act) (w' : World) (I' C' : World → Prop), C' w' → (∀ w, C' w → I' w) → ((∀ w, I' w → I w) ∨ sy.contains st.length = true) → walkN2 P E ops sy K l I' C' a' →
        ((i ∈ till ops sy done (i :: st) → I w') ∧ wpS P E ops I (till ops sy done (i :: st)) (fun a w => ∃ C' : World → Prop, C' w ∧ K C' a) st.length (listed.setIfInBounds i true) a' w') := by
      intro hlo a' w' I' C' hw' hIC' hor hn
      have h1 := IH I' C' a' hIC' hn w' hw'
      cases hc : sy.contains st.length with
      | true =>
        have htl : till ops sy done (i :: st) = done.filter fun k => !calmAt ops k := by simp only [till]; rw [hc]; simp
        rw [htl]
        refine ⟨fun hid => ?_, wpS_weak _ _ _ _ (fun j hj hu => absurd (List.mem_cons_of_mem _ (mem_noncalm.1 hj).1) (hunl j hu)) h1⟩
        exact (getD_conf hiun ((hd i).2 (mem_noncalm.1 hid).1)).elim
      | false =>
        have hsub := hor.resolve_right (by rw [hc]; simp)
        have htl : till ops sy done (i :: st) = till ops sy (i :: done) st := by simp only [till]; rw [hc]; simp
        rw [htl]
        exact ⟨fun _ => hsub _ (hIC' _ hw'), wpS_weak _ _ _ _ (fun j hj _ => ⟨hj, hsub⟩) h1⟩
    by_cases hwt : Region.wanted o (yielded ops a.tmps) = true
    · rw [if_pos hwt] at h
      rcases h with ⟨hlo, v, hv, hn⟩ | ⟨hlo, hn⟩
      · exact hpure v hlo (.inl ⟨hwt, hv⟩) hn
      · rw [if_pos hlo, beq_iff_eq] at hB2
        refine ⟨fun h0 => (by rw [h0] at hrdy; cases hrdy), fun j hj => ?_⟩
        have : j = i := by rw [hB2] at hj; simpa using hj
        subst this
        unfold stepN
        simp only [ho, hwt, if_true]
        exact Oper.wpN_mono (fun a' w' ⟨I', C', hw', hIC', hor, hn'⟩ => hloud hlo a' w' I' C' hw' hIC' (by rwa [hlen] at hor) hn') (hn w hw)
    · have hwt' : Region.wanted o (yielded ops a.tmps) = false := by simpa using hwt
      rw [if_neg hwt] at h
      cases hlo : loud o.op with
      | false => exact hpure undef hlo (.inr ⟨hwt', rfl⟩) h
      | true =>
        rw [if_pos hlo, beq_iff_eq] at hB2
        refine ⟨fun h0 => (by rw [h0] at hrdy; cases hrdy), fun j hj => ?_⟩
        have : j = i := by rw [hB2] at hj; simpa using hj
        subst this
        unfold stepN
        simp only [ho, hwt', Bool.false_eq_true, if_false]
        exact hloud hlo _ _ I C hw hIC (.inl fun _ h => h) h
end
section
variable (P : Program) (n : Nat) (D : List Deferred) (w0 : World)
def QR2 (Z : Array Oper × List Nat) (l : List Oper) (ov : Ov) (Hi H : List Asn) (K : KC) : Prop :=
  ∀ a, Rep n D ov a → walkN2 P K.e Z.1 Z.2 K.k l (St w0 Hi) (St w0 H) a
def QO2 (Z : Array Oper × List Nat) (o : Oper) (l : List Oper) (ov : Ov) (Hi H : List Asn) (K : KC) : Prop :=
  ∀ a, Rep n D ov a → goN2 P K.e Z.2 (walkN2 P K.e Z.1 Z.2 K.k l) l.length o (St w0 Hi) (St w0 H) a
end
section
variable {P : Program} {f n : Nat} {R : Ending → World → Prop} {D : List Deferred} {w0 : World} {k : List Item} {ov : Ov} {Hi H H' : List Asn} {K : KC}
  {Z : Array Oper × List Nat} {l : List Oper} {d : Option Nat} {T : Nat} {pos : String} {af : Array Edge} {g : Option (Nat × Bool)} {v : Value} {op : Op} {o : Oper}
theorem gQR2 (h : QR2 P n D w0 Z l ov Hi H K) : QR2 P n D w0 Z l ov Hi H K := h
theorem gQO2 (h : QO2 P n D w0 Z o l ov Hi H K) : QO2 P n D w0 Z o l ov Hi H K := h
theorem QR2_nil (h : JS P f n R D w0 k ov H) : QR2 P n D w0 Z [] ov Hi H (QK P f R k) := by
  unfold QK JS at *
  exact fun a ha w hw => h a w ha hw
theorem QR2_un (h : QO2 P n D w0 Z ⟨d, op, T, pos, af, none⟩ l ov Hi H K) : QR2 P n D w0 Z (⟨d, op, T, pos, af, none⟩ :: l) ov Hi H K := by
  intro a ha
  simp only [walkN2]
  rw [if_pos (by simp [Region.wanted])]
  exact h a ha
theorem QO2_v (hlo : loud op = false) (h : OpV P n D w0 ov Hi ⟨d, op, T, pos, af, g⟩ v) (hn : QR2 P n D w0 Z l (put d v ov) Hi H K) : QO2 P n D w0 Z ⟨d, op, T, pos, af, g⟩ l ov Hi H K := by
  unfold OpV at h
  exact fun a ha => .inl ⟨hlo, v, fun w hw => h.2 a w ha hw, hn _ (ha.put h.1 v)⟩
theorem QO2_callE {q : Nat} {xs : List Operand} {vs : List Value} {ts : Array Nat} (hc : ∀ args w, (callFunc q args).run P w = .ok (.enter q args) w) (hx : evs ov xs = some vs) (hd : dOk d n = true)
    (h : ∀ w, St w0 H w → Calls P q vs.toArray w fun e w' => (∃ v, e = .returned v ∧ ∃ Hi' H', St w0 H' w' ∧ (∀ w, St w0 H' w → St w0 Hi' w) ∧ ((∀ w, St w0 Hi' w → St w0 Hi w) ∨ Z.2.contains l.length = true) ∧ QR2 P n D w0 Z l (put d v ov) Hi' H' K) ∨ (∃ ch, e = .panicked ch ∧ K.e ch D w')) :
    QO2 P n D w0 Z ⟨d, .call ⟨.value (.func q), xs.toArray, ts⟩, T, pos, af, g⟩ l ov Hi H K := by
  intro a ha
  refine .inr ⟨rfl, fun w hw => ?_⟩
  have hrun : (execOp a.eval ⟨d, .call ⟨.value (.func q), xs.toArray, ts⟩, T, pos, af, g⟩).run P w = .ok (.enter q vs.toArray) w := by
    simp only [execOp, resolve, Deferred.ofValue, Act.eval, Sem.run_bind, Sem.run_pure, Result.andThen_ok, invoke]
    rw [List.map_toArray, ha.evs hx]
    simpa using hc vs.toArray w
  simp only [Oper.wpN, hrun, Oper.upN]
  exact (h w hw).mono fun e w' h' => h'.imp (fun ⟨v, he, Hi', H', hw', hI, hor, hn⟩ => ⟨v, he, St w0 Hi', St w0 H', hw', hI, hor, hn _ (ha.put hd v)⟩) (fun ⟨ch, he, hk⟩ => ⟨ch, he, by rw [ha.defers]; exact hk⟩)
theorem QO2_k (hlo : loud op = true) (h : OpK P n D w0 ov H ⟨d, op, T, pos, af, g⟩ H') (hI : ∀ w, St w0 H' w → St w0 Hi w) (hn : QR2 P n D w0 Z l (put d undef ov) Hi H' K) : QO2 P n D w0 Z ⟨d, op, T, pos, af, g⟩ l ov Hi H K := by
  intro a ha
  unfold OpK at h
  refine .inr ⟨hlo, fun w hw => ?_⟩
  obtain ⟨w', hrun, hw'⟩ := h.2 a w ha hw
  simp only [Oper.wpN, hrun, Oper.upN]
  exact ⟨St w0 Hi, St w0 H', hw', hI, .inl fun _ h => h, hn _ (ha.put h.1 undef)⟩
theorem JS_order2 {id : Nat} {l : List Oper} (Hi : List Asn) (st sy : List Nat) {l' : List Oper} (hI : ∀ w, St w0 H w → St w0 Hi w) (hp : Picks l st l') (hm : P.follows .mixedOrders = true) (hs : Region.noSelect l.toArray = true) (hlen : st.length = l.length)
    (hB : ordB l.toArray sy [] st (Array.replicate l.length false) = true) (h : QR2 P n D w0 (l.toArray, sy) l' ov Hi H (QK P f R k)) :
    JS P f n R D w0 (.code (.region id l.toArray true) :: k) ov H := by
  unfold JS
  intro a w ha hw
  refine J_of_wpE (Q := QQ P f R k) (wp_region_any hm ?_) fun e a' w' h => h
  have h0 : ∀ j, (Array.replicate l.length false).getD j false = false := fun j => by
    rcases Nat.lt_or_ge j l.length with h | h
    · simp [h]
    · simp [h]
  have hws := wpS_walk2 (P := P) (E := (QK P f R k).e) (K := (QK P f R k).k) (sy := sy) hs st [] l' (Array.replicate l.length false) (St w0 Hi) (St w0 H) a hI hp.map hB (by simp) (fun j => by rw [h0 j]; simp)
    (fun S _ => ⟨fun j oj _ hj => (by rw [h0 j] at hj; cases hj), fun k _ _ hk => (by rw [h0 k] at hk; cases hk)⟩) (h a ha) w.drew hw.drew
  have := wpAny_of_S (Q' := QQ P f R k) (fun ch a w h => by unfold QK at h; exact h) (fun a w ⟨C, hC, hk⟩ => by unfold QK at hk; exact hk w hC) _ _ _ _ hws
  rw [hlen] at this
  simpa using this
attribute [irreducible] QR2 QO2
end
end Sx
namespace Go.Proofs.YteelffkghidpfaaGreat
open Sx Go
section
variable {n : Nat} {D : List Deferred} {w0 : World} {ov : Ov} {Hi H : List Asn} {K : KC} {Z : Array Oper × List Nat} {l : List Oper} {d : Option Nat} {T : Nat} {pos : String} {af : Array Edge} {g : Option (Nat × Bool)} {v : Value} {op : Op}
theorem aQ2 (hn : QR2 Tryz.prog n D w0 Z l (put d v ov) Hi H K) (h : OpV Tryz.prog n D w0 ov Hi ⟨d, op, T, pos, af, g⟩ v := by first | (apply oMv; exact V_move rfl rfl) | (apply oAs; exact V_assign rfl rfl) | (apply oL; first | exact V_load (tb := tb) rfl (by repeat (first | apply List.Mem.head | apply List.Mem.tail)) rfl rfl rfl rfl | exact V_loadC (tb := tb) rfl (by first | exact vec_rd (by repeat (first | apply List.Mem.head | apply List.Mem.tail)) | assumption | exact ArgRd.rd (by assumption) _ | (apply Rd_weak; assumption; intro _ hx; exact dS hx)) rfl rfl (by first | exact ints_get (by omega) | exact rfl) rfl | exact V_loadA (tb := tb) rfl (by repeat (first | apply List.Mem.head | apply List.Mem.tail)) rfl rfl rfl rfl) | (apply oB; first | (apply ob_add; first | exact V_add rfl rfl (by first | exact wi64 (by omega) | exact wu64 (by omega) | exact wu32 (by omega) | exact wu8 (by omega) | exact mu64 _ | exact mu32 _ | exact mu8 _ | exact mi64 _ | exact rfl) rfl) | (apply ob_sub; first | exact V_sub rfl rfl (by first | exact wi64 (by omega) | exact wu64 (by omega) | exact wu32 (by omega) | exact wu8 (by omega) | exact mu64 _ | exact mu32 _ | exact mu8 _ | exact mi64 _ | exact rfl) rfl) | (apply ob_mul; first | exact V_mul rfl rfl (by first | exact wi64 (by omega) | exact wu64 (by omega) | exact wu32 (by omega) | exact wu8 (by omega) | exact mu64 _ | exact mu32 _ | exact mu8 _ | exact mi64 _ | exact rfl) rfl) | (apply ob_eql; first | exact V_eqlT rfl rfl (by omega) rfl | exact V_eqlF rfl rfl (by omega) rfl | exact V_eql rfl rfl rfl) | (apply ob_neq; first | exact V_neqT rfl rfl (by omega) rfl | exact V_neqF rfl rfl (by omega) rfl | exact V_neq rfl rfl rfl) | (apply ob_lss; first | exact V_lssT rfl rfl (by omega) rfl | exact V_lssF rfl rfl (by omega) rfl | exact V_lss rfl rfl rfl) | (apply ob_leq; first | exact V_leqT rfl rfl (by omega) rfl | exact V_leqF rfl rfl (by omega) rfl | exact V_leq rfl rfl rfl) | (apply ob_gtr; first | exact V_gtrT rfl rfl (by omega) rfl | exact V_gtrF rfl rfl (by omega) rfl | exact V_gtr rfl rfl rfl) | (apply ob_geq; first | exact V_geqT rfl rfl (by omega) rfl | exact V_geqF rfl rfl (by omega) rfl | exact V_geq rfl rfl rfl) | (apply ob_quo; first | exact V_quo rfl rfl (by omega) (by first | exact IntWalk.i64_quo _ _ (by omega) | exact IntWalk.u64_quo _ _ (by omega) | exact IntWalk.u32_quo _ _ (by omega) | exact IntWalk.u8_quo _ _ (by omega)) rfl) | (apply ob_rem; first | exact V_rem rfl rfl (by omega) (Int.tmod_eq_emod_of_nonneg (by omega)) rfl) | (apply ob_and; first | exact V_and rfl rfl (by first | exact mask32_u64 (by omega) | exact mask_u64 8 (by decide) (by omega) rfl | exact mask_u64 16 (by decide) (by omega) rfl) rfl) | (apply ob_eql; first | exact V_eqP (tb := tb) rfl rfl rfl rfl | exact V_eqBB (tb := tb) rfl rfl rfl rfl | exact V_eqB (tb := tb) rfl rfl rfl rfl | exact V_eqNil (tb := tb) rfl rfl rfl rfl | exact V_eqStr rfl rfl (by assumption) (by assumption) rfl) | (apply ob_neq; first | exact V_neP (tb := tb) rfl rfl rfl rfl | exact V_neBB (tb := tb) rfl rfl rfl rfl | exact V_neB (tb := tb) rfl rfl rfl rfl | exact V_neStr rfl rfl (by assumption) (by assumption) rfl) | (apply oK; first | (apply ob_shr; exact V_shr (m := _) rfl rfl (by omega) (by simp only [IntKind.bits, Int.reduceToNat, Nat.reduceLeDiff, Nat.min_eq_left]; exact rfl) (by first | (simp only [Int.reducePow]; exact rfl) | exact rfl) rfl) | (apply ob_shl; exact V_shl (m := _) rfl rfl (by omega) (by simp only [IntKind.bits, Int.reduceToNat, Nat.reduceLeDiff, Nat.min_eq_left]; exact rfl) (by (try simp only [Int.reducePow]); first | exact wi64 (by omega) | exact wu64 (by omega) | exact wu32 (by omega) | exact wu8 (by omega) | exact mu64 _ | exact mu32 _ | exact mu8 _ | exact mi64 _ | exact rfl) rfl))) | (apply oE; first | exact V_extract rfl rfl rfl) | (apply oc_len; exact V_len (tb := tb) rfl rfl rfl) | (apply oc_len; exact V_lenS (tb := tb) rfl rfl rfl) | (apply oc_min; exact V_min rfl rfl rfl rfl) | (apply oc_max; exact V_max rfl rfl rfl rfl) | (apply oCv; first | exact V_conv (tb := tb) rfl rfl rfl (by first | exact wi64 (by omega) | exact wu64 (by omega) | exact wu32 (by omega) | exact wu8 (by omega) | exact mu64 _ | exact mu32 _ | exact mu8 _ | exact mi64 _ | exact rfl) rfl | exact V_str (tb := tb) rfl (by first | exact vec_rd (by repeat (first | apply List.Mem.head | apply List.Mem.tail)) | assumption | exact ArgRd.rd (by assumption) _ | (apply Rd_weak; assumption; intro _ hx; exact dS hx)) (by first | assumption | rfl | omega) rfl rfl rfl rfl) | (apply oP; first | exact V_pickT rfl rfl rfl | exact V_pickF rfl rfl rfl | exact V_pickB rfl rfl rfl rfl) | (apply oU; first | exact V_notD rfl rfl | exact V_not rfl rfl | exact V_neg rfl (by first | exact wi64 (by omega) | exact wu64 (by omega) | exact wu32 (by omega) | exact wu8 (by omega) | exact mu64 _ | exact mu32 _ | exact mu8 _ | exact mi64 _ | exact rfl) rfl) | (apply oN; first | exact V_nilCheck rfl rfl) | (apply oFA; first | exact V_field (tb := tb) rfl rfl rfl rfl rfl rfl | exact V_fieldC (tb := tb) rfl (by first | exact Rd.sl (vec_rd (by repeat (first | apply List.Mem.head | apply List.Mem.tail))) | exact Rd.sl (by assumption) | exact Rd.sl (ArgRd.rd (by assumption) _) | (apply Rd.sl; (apply Rd_weak; assumption; intro _ hx; exact dS hx))) (by omega) rfl rfl rfl rfl rfl) | (apply oIA; first | exact V_index (tb := tb) rfl rfl rfl rfl (by first | exact Rd.sl (vec_rd (by repeat (first | apply List.Mem.head | apply List.Mem.tail))) | exact Rd.sl (by assumption) | exact Rd.sl (ArgRd.rd (by assumption) _) | (apply Rd.sl; (apply Rd_weak; assumption; intro _ hx; exact dS hx))) (by omega) (by (try simp only [tn, tna, tn1, tn2, tn3, tn4, tnd16, tnd8, Int.reduceToNat]); first | exact Nat.mul_one _ | exact rfl) rfl | exact V_indexA (tb := tb) rfl rfl rfl rfl (by omega) rfl) | (apply oBd; first | exact V_build (tb := tb) rfl rfl rfl rfl rfl) | (apply oF; first | exact V_makeFunc rfl rfl rfl)) (hlo : loud op = false := by rfl) : QO2 Tryz.prog n D w0 Z ⟨d, op, T, pos, af, g⟩ l ov Hi H K := QO2_v hlo h hn
theorem aK2 {H' : List Asn} (hI : ∀ w, St w0 H' w → St w0 Hi w) (hn : QR2 Tryz.prog n D w0 Z l (put d undef ov) Hi H' K) (h : OpK Tryz.prog n D w0 ov H ⟨d, op, T, pos, af, g⟩ H' := by first | exact K_store (tb := tb) rfl rfl (by repeat (first | apply Upd.here | apply Upd.there)) rfl rfl rfl (by repeat (first | exact trivial | refine ⟨rfl, ?_⟩)) rfl rfl | exact K_storeC1 (tb := tb) rfl rfl ints_set (by repeat (first | apply Upd.here | apply Upd.there)) rfl rfl (by rw [ints_len]; omega) rfl) (hlo : loud op = true := by rfl) : QO2 Tryz.prog n D w0 Z ⟨d, op, T, pos, af, g⟩ l ov Hi H K := QO2_k hlo h hI hn
end
end Go.Proofs.YteelffkghidpfaaGreat

namespace Go.Proofs.YteelffkghidpfaaGreat
open Sx Go Hd
set_option linter.unusedVariables false
set_option linter.unusedSimpArgs false
/-! ## what is recorded (plain) -/
def wtN (N : List Int) (i : Nat) : Int := if i < N.length then 1 + N.getD i 0 % 1000 else 1
/-- one value -/
def rec1 (u g : Nat) (gr : Bool) (s : Nat × List (Int × Int)) (v n : Int) : Nat × List (Int × Int) :=
  if chk u g gr s.1 (sw s.2) v n = 0 then (max s.1 (1 + bkt u g v.toNat), putT (idx u g v.toNat) n s.2) else s
/-- the first of some values, with their weights -/
def recS (u g : Nat) (gr : Bool) (bu : Nat) (L : List Int) (W : Nat → Int) : Nat → Nat × List (Int × Int)
  | 0 => (bu, [])
  | i + 1 => rec1 u g gr (recS u g gr bu L W i) (L.getD i 0) (W i)
theorem bkt_63 {u g v : Nat} (hv : v < 9223372036854775808) (hug : 1 ≤ u + g) : bkt u g v ≤ 62 := by
  have := bl_v hv
  unfold bkt; omega
structure OKS (s : Nat × List (Int × Int)) : Prop where
  bu : s.1 ≤ 64
  gt : GT s.2
section
variable {w0 : World} {H : List Asn}
/-- a histogram and the document's one -/
abbrev hA (h m b r : Nat) (lo hi dg : Int) (u g : Nat) (gr : Bool) (bu : Nat) (es : List MapEntry) (clock : Nat) (T : List (Int × Int)) (q : Option Addr) (d : Nat) : List Asn :=
  [blk h (hc m b gr bu (sw T)), mapL b es clock, blk r (rc lo hi dg u g gr bu (.slice q T.length d)), vec 97 2 (.slice q T.length d) T.length (flat T), blk m (mc lo hi dg u g)]
end
end Go.Proofs.YteelffkghidpfaaGreat

set_option linter.unusedVariables false
namespace Sx
open Go
/-! an assertion with a value that is not told -/
def anyA {ι : Type} (f : ι → Asn) : Asn where
  holds w fp := ∃ i, (f i).holds w fp
  frame w w' fp h hk := h.elim fun i h => ⟨i, (f i).frame w w' fp h hk⟩
  live w fp h := h.elim fun i h => (f i).live w fp h
section
variable {P : Program} {n : Nat} {D : List Deferred} {w0 : World} {ov : Ov} {Hi H : List Asn} {K : KC}
  {Z : Array Oper × List Nat} {l : List Oper} {d : Option Nat} {T : Nat} {pos : String} {af : Array Edge} {g : Option (Nat × Bool)} {v : Value} {op : Op} {o : Oper} {ι : Type} {f : ι → Asn}
theorem St.any {w : World} (i : ι) (h : St w0 (f i :: H) w) : St w0 (anyA f :: H) w := by
  refine (St.conv (H := H) (bs := [anyA f]) (show St w0 ([f i] ++ H) w from h) ?_)
  rintro fp ⟨f1, f2, e, h1, h2⟩
  exact ⟨f1, f2, e, ⟨i, h1⟩, h2⟩
end
end Sx
namespace Go.Proofs.YteelffkghidpfaaGreat
open Sx Go
end Go.Proofs.YteelffkghidpfaaGreat

set_option linter.unusedVariables false
namespace Sx
open Go
/-! a region's guards, where the quiet operations are shown in a wider class of worlds -/
section
variable {P : Program} {n : Nat} {D : List Deferred} {w0 : World} {ov : Ov} {Hi H : List Asn} {K : KC}
  {Z : Array Oper × List Nat} {l : List Oper} {d : Option Nat} {T : Nat} {pos : String} {af : Array Edge} {g : Option (Nat × Bool)} {op : Op}
end
end Sx

namespace Go.Proofs.YteelffkghidpfaaGreat
open Sx Go Hd
set_option linter.unusedVariables false
set_option linter.unusedSimpArgs false
section
variable {w0 : World} {H : List Asn}
theorem HNewF_c (lo hi dg : Int) (gr : Bool) (hlo : -9223372036854775808 ≤ lo ∧ lo < 9223372036854775808) (hhi : -9223372036854775808 ≤ hi ∧ hi < 9223372036854775808) (hdg : -9223372036854775808 ≤ dg ∧ dg < 9223372036854775808) (hno : ¬ shOK lo hi dg) (w : World) (hw : St w0 H w) :
    Calls Tryz.prog 55 #[hagg lo hi dg, .bool gr] w fun e w' => e = .returned (.tuple #[.pointer none, .int .i64 1]) ∧ St w0 H w' :=
  (HNew_c lo hi dg gr hlo hhi hdg w hw).mono fun e w' h => h.elim (fun h => h.2) fun h => absurd h.1 hno
theorem HNewT_c (lo hi dg : Int) (gr : Bool) (hs : shOK lo hi dg) (hhi : hi < 9223372036854775808) (w : World) (hw : St w0 H w) :
    Calls Tryz.prog 55 #[hagg lo hi dg, .bool gr] w fun e w' => ∃ bh mb bm, e = .returned (.tuple #[.pointer (some ⟨bh, 0, none⟩), .int .i64 0]) ∧ St w0 (blk bh (hc mb bm gr (1 + bkt (uOf lo) (gOf dg) hi.toNat) (sw [])) :: mapL bm [] 0 :: blk mb (mc lo hi dg (uOf lo) (gOf dg)) :: H) w' := by
  obtain ⟨s1, s2, s3, s4⟩ := hs.1
  exact (HNew_c lo hi dg gr (by omega) (by omega) (by omega) w hw).mono fun e w' h => h.elim (fun h => absurd hs h.1) fun h => h.2
end
end Go.Proofs.YteelffkghidpfaaGreat
