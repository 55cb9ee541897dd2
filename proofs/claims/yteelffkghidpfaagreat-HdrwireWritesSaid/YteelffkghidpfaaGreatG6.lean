import Derived.Test.YteelffkghidpfaaGreatG5
namespace Sx
open Go
end Sx
namespace Go.Proofs.YteelffkghidpfaaGreat
open Sx Go
set_option linter.unusedVariables false
set_option linter.unusedSimpArgs false
set_option maxRecDepth 100000
attribute [local irreducible] syA fc tk cds
section
variable {w0 : World} {H : List Asn}
end
end Go.Proofs.YteelffkghidpfaaGreat

namespace Go.Proofs.YteelffkghidpfaaGreat
open Sx Go
set_option linter.unusedVariables false
set_option linter.unusedSimpArgs false
set_option maxRecDepth 100000
attribute [local irreducible] syA fc tk cds
/-! ## another limit -/
/-- steps under limits: one that goes on, goes on under each limit that has room, and fails under a lesser one -/
def PLg (f : Nat → Nat → List Int → Stp) : Prop := ∀ lim lim' a o a' o', f lim a o = .go a' o' → o.length ≤ o'.length ∧ (o'.length ≤ lim' → f lim' a o = .go a' o') ∧ (o.length ≤ lim' → lim' < o'.length → f lim' a o = .err 64)
def PLs (f : Nat → Nat → List Int → Stp) : Prop := ∀ lim lim' a o a' o', f lim a o = .stop a' o' → o.length ≤ o'.length ∧ (o'.length ≤ lim' → f lim' a o = .stop a' o') ∧ (o.length ≤ lim' → lim' < o'.length → f lim' a o = .err 64)
def PLr (g : Nat → Nat → List Int → Res) : Prop := ∀ lim lim' a o a' o', g lim a o = .ok a' o' → o.length ≤ o'.length ∧ (o'.length ≤ lim' → g lim' a o = .ok a' o') ∧ (o.length ≤ lim' → lim' < o'.length → g lim' a o = .err 64)
end Go.Proofs.YteelffkghidpfaaGreat

namespace Go.Proofs.YteelffkghidpfaaGreat
open Sx Go
set_option linter.unusedVariables false
set_option linter.unusedSimpArgs false
set_option maxRecDepth 100000
attribute [local irreducible] syA fc tk cds
/-! ## an error is told by a number that is not 0 -/
end Go.Proofs.YteelffkghidpfaaGreat

set_option linter.unusedVariables false
set_option linter.unusedSimpArgs false
set_option maxRecDepth 100000
namespace Go.Proofs.YteelffkghidpfaaGreat
open Sx Go
/-! what inflate.Read hands out are bytes -/
end Go.Proofs.YteelffkghidpfaaGreat

set_option linter.unusedVariables false
set_option linter.unusedSimpArgs false
set_option maxRecDepth 100000
namespace Go.Proofs.YteelffkghidpfaaGreat
open Sx Go
/-- what comes behind the deflated part -/
def ZT (B : List Int) (r : Res) (e : Int) (o : List Int) : Prop :=
  match r with
  | .err x => e = x ∧ o = []
  | .ok a o' => ((B.drop (2 + (a + 7) / 8)).length < 4 ∧ e = 20 ∧ o = []) ∨ (4 ≤ (B.drop (2 + (a + 7) / 8)).length ∧
      (((B.drop (2 + (a + 7) / 8)).take 4 ≠ sb4 (adl o') ∧ e = 91 ∧ o = []) ∨ ((B.drop (2 + (a + 7) / 8)).take 4 = sb4 (adl o') ∧
        ((4 < (B.drop (2 + (a + 7) / 8)).length ∧ e = 92 ∧ o = []) ∨ ((B.drop (2 + (a + 7) / 8)).length = 4 ∧ e = 0 ∧ o = o')))))
/-- what opening answers -/
def ZR (B : List Int) (L : Int) (e : Int) (o : List Int) : Prop :=
  ((L < 0 ∨ 1048576 < L) ∧ e = 1 ∧ o = []) ∨ ((0 ≤ L ∧ L ≤ 1048576) ∧ ((B.length < 2 ∧ e = 20 ∧ o = []) ∨ (2 ≤ B.length ∧
    ((¬ hdOK B ∧ e = 90 ∧ o = []) ∨ (hdOK B ∧ ∃ r, ALLR (B.drop 2) L.toNat r ∧ ZT B r e o)))))
section
variable {w0 : World} {H : List Asn}
set_option maxRecDepth 10000 in
/-- the reference's Pack -/
theorem RPack9_c (p : Option Addr) (c m : Nat) (B : List Int) (hr : Rd w0 H (.slice p m c) m (ints .u8 B)) (hm : B.length = m) (hB : OKB B) (h4 : m ≤ 100000) (w : World) (hw : St w0 H w) :
    Calls Tryz.prog 48 #[.slice p m c] w fun e w' => ∃ q d, e = .returned (.slice q (pkB B).length d) ∧ St w0 (vec 5 1 (.slice q (pkB B).length d) (pkB B).length (ints .u8 (pkB B)) :: H) w' := by
  refine enter (vs := [.slice p m c]) Tryz.func48 rfl rfl rfl hw ?_
  clear hw w
  have o3 : OKB (bestB B) := by have o1 := pack_okb' (fixL B) (fixL_01 B); have o2 := sbs_okb hB; unfold bestB; split <;> assumption
  have o4 := bestB_pos B
  have o5 := bestB_len hB
  obtain ⟨E, hE⟩ : ∃ E, bestB B = E := ⟨_, rfl⟩
  obtain ⟨s, hs⟩ : ∃ s, adl B = s := ⟨_, rfl⟩
  have hD := fun {H} hr w hw => RBest_c (H := H) (w0 := w0) p c m B hr hm hB h4 w hw
  have hS := fun {H} hr w hw => RSum9_c (H := H) (w0 := w0) p c m B hr hm hB (by omega) w hw
  have hP : pkB B = [120, 1] ++ E ++ sb4 s := by unfold pkB; rw [hE, hs]
  have hl : ([120, 1] ++ E ++ sb4 s).length = 2 + E.length + 4 := by simp [sb4]; omega
  rw [hE] at o3 o4 o5 hD
  rw [hs] at hS
  rw [hP, hl]
  repeat (first | (refine sx ?_; try intro _))
  refine JO_call Tryz.call82 rfl rfl fun w hw => (hD (Rd_weak hr fun w hw => St.sub (by repeat (first | exact List.Sublist.refl _ | apply List.Sublist.cons_cons | apply List.Sublist.cons)) hw) w hw).mono ?_
  rintro e w' ⟨q1, d1, rfl, hw'⟩
  refine ⟨_, rfl, _, hw', ?_⟩
  clear hw' hw w w'
  repeat (first | (apply gJO; (refine JO_app (tb := tb) rfl rfl rfl rfl rfl rfl (by repeat (first | exact Sel.here _ _ | apply Sel.there)) (by first | exact vec_rd (by repeat (first | apply List.Mem.head | apply List.Mem.tail)) | assumption | exact ArgRd.rd (by assumption) _ | (apply Rd_weak; assumption; intro _ hx; exact St.sub (by repeat (first | exact List.Sublist.refl _ | apply List.Sublist.cons_cons | apply List.Sublist.cons)) hx)) (by simp only [ints_len, List.length_cons, List.length_nil]; first | omega | rfl) (by first | exact ints_one | (repeat (first | exact trivial | refine ⟨rfl, ?_⟩))) (by omega) rfl ?_; intro _ _)) | (first | (refine sx ?_; try intro _)))
  refine JO_call Tryz.call83 rfl rfl fun w hw => (hS (Rd_weak hr fun w hw => St.sub (by repeat (first | exact List.Sublist.refl _ | apply List.Sublist.cons_cons | apply List.Sublist.cons)) hw) w hw).mono ?_
  rintro e w' ⟨q2, d2, rfl, hw'⟩
  refine ⟨_, rfl, _, hw', ?_⟩
  clear hw' hw w w'
  repeat (first | (apply gJO; (refine JO_app (tb := tb) rfl rfl rfl rfl rfl rfl (by repeat (first | exact Sel.here _ _ | apply Sel.there)) (by first | exact vec_rd (by repeat (first | apply List.Mem.head | apply List.Mem.tail)) | assumption | exact ArgRd.rd (by assumption) _ | (apply Rd_weak; assumption; intro _ hx; exact St.sub (by repeat (first | exact List.Sublist.refl _ | apply List.Sublist.cons_cons | apply List.Sublist.cons)) hx)) (by simp only [ints_len, List.length_cons, List.length_nil]; first | omega | rfl) (by first | exact ints_one | (repeat (first | exact trivial | refine ⟨rfl, ?_⟩))) (by omega) rfl ?_; intro _ _)) | (first | (refine sx ?_; try intro _)))
  exact JS_ret Tryz.func48 rfl rfl fun w hw => ⟨_, _, rfl, by rw [← ints_app, ← ints_app]; exact St.sub (by repeat (first | exact List.Sublist.refl _ | apply List.Sublist.cons_cons | apply List.Sublist.cons)) hw⟩
end
end Go.Proofs.YteelffkghidpfaaGreat

set_option linter.unusedVariables false
set_option linter.unusedSimpArgs false
set_option maxRecDepth 100000
namespace Go.Proofs.YteelffkghidpfaaGreat
open Sx Go
section
variable {w0 : World} {H : List Asn}
end
end Go.Proofs.YteelffkghidpfaaGreat

namespace Go.Proofs.YteelffkghidpfaaGreat
open Sx Go
set_option linter.unusedVariables false
set_option linter.unusedSimpArgs false
set_option maxRecDepth 100000
attribute [local irreducible] syA fc tk cds
end Go.Proofs.YteelffkghidpfaaGreat

namespace Go.Proofs.YteelffkghidpfaaGreat
open Sx Go
set_option linter.unusedVariables false
set_option linter.unusedSimpArgs false
set_option maxRecDepth 100000
attribute [local irreducible] syA fc tk cds
/-! ## another stream with the same bits up to a place -/
structure AG (bt bt' : Nat → Int) (N N' M : Nat) : Prop where
  eq : ∀ j, j < M → bt j = bt' j
  le : M ≤ N
  le' : M ≤ N'
  b : ∀ j, bt j = 0 ∨ bt j = 1
  b' : ∀ j, bt' j = 0 ∨ bt' j = 1
section
variable {bt bt' : Nat → Int} {N N' M : Nat}
def AGg (M : Nat) (c : Prop) (f f' : Nat → List Int → Stp) : Prop := ∀ a o a' o', a ≤ M → f a o = .go a' o' → (a' ≤ M → f' a o = .go a' o') ∧ (c → M < a' → f' a o = .err 20)
def AGs (M : Nat) (c : Prop) (f f' : Nat → List Int → Stp) : Prop := ∀ a o a' o', a ≤ M → f a o = .stop a' o' → (a' ≤ M → f' a o = .stop a' o') ∧ (c → M < a' → f' a o = .err 20)
def AGr (M : Nat) (c : Prop) (f f' : Nat → List Int → Res) : Prop := ∀ a o a' o', a ≤ M → f a o = .ok a' o' → (a' ≤ M → f' a o = .ok a' o') ∧ (c → M < a' → f' a o = .err 20)
end
end Go.Proofs.YteelffkghidpfaaGreat

set_option linter.unusedVariables false
set_option linter.unusedSimpArgs false
set_option maxRecDepth 100000
namespace Go.Proofs.YteelffkghidpfaaGreat
open Sx Go
attribute [local irreducible] syA fc tk cds
/-! ## tokens' bits are read as the text -/
/-- from a place on stand these bits -/
def AtB (bt : Nat → Int) (a : Nat) (L : List Int) : Prop := ∀ j, j < L.length → bt (a + j) = L.getD j 0
/-- a token's bits, by any codes -/
def tkg (cl cs : Nat → List Int) (t : Int × Nat × Nat) : List Int :=
  if t.2.2 = 0 then cl t.1.toNat
  else cl (lenS t.2.1).1.toNat ++ grp (lenS t.2.1).2.2 (lenS t.2.1).2.1.toNat ++ cs (spanS t.2.2).1.toNat ++ grp (spanS t.2.2).2.2 (spanS t.2.2).2.1.toNat
/-- a token's symbols -/
def ts1 (t : Int × Nat × Nat) : Nat := if t.2.2 = 0 then t.1.toNat else (lenS t.2.1).1.toNat
def ts2 (t : Int × Nat × Nat) : Nat := (spanS t.2.2).1.toNat
/-- what is wanted of a set's codes -/
def CODED (bt : Nat → Int) (N : Nat) (L : List Int) (c : Nat → List Int) (k : Nat) : Prop := ∀ a, a + (c k).length ≤ N → AtB bt a (c k) → symS bt N L a = .ok k (a + (c k).length)
section
variable {bt : Nat → Int} {N lim : Nat} {L D : List Int} {cl cs : Nat → List Int} {B : List Int}
attribute [local irreducible] grp lenS spanS lbase lfar
end
end Go.Proofs.YteelffkghidpfaaGreat

set_option linter.unusedVariables false
set_option linter.unusedSimpArgs false
set_option maxRecDepth 100000
namespace Go.Proofs.YteelffkghidpfaaGreat
open Sx Go
attribute [local irreducible] syA fc tk cds
end Go.Proofs.YteelffkghidpfaaGreat

set_option linter.unusedVariables false
set_option linter.unusedSimpArgs false
set_option maxRecDepth 100000
namespace Go.Proofs.YteelffkghidpfaaGreat
open Sx Go
theorem sb4_okb {s : Int} (h : 0 ≤ s ∧ s < 4294967296) : OKB (sb4 s) := OKB_of (by simp only [sb4, List.all_cons, List.all_nil, Bool.and_true, Bool.and_eq_true, decide_eq_true_eq]; omega)
theorem pk_okb {B : List Int} (hB : OKB B) : OKB (pkB B) := by
  have o1 := pack_okb' (fixL B) (fixL_01 B)
  have o2 := sbs_okb hB
  have o3 : OKB (bestB B) := by unfold bestB; split <;> assumption
  exact OKB_app (OKB_app (okb_small (by decide)) o3) (sb4_okb (adl_bd hB))
theorem pk_len (B : List Int) : (pkB B).length = (bestB B).length + 6 := by simp [pkB, sb4]
section
variable {w0 : World} {H : List Asn}
end
end Go.Proofs.YteelffkghidpfaaGreat

set_option linter.unusedVariables false
set_option linter.unusedSimpArgs false
namespace Go.Proofs.YteelffkghidpfaaGreat
open Sx Go
/-! ## the stream of one byte that is repeated: how long it is -/
theorem best_le (B : List Int) (h : B.length ≤ 2000) : (bestB B).length ≤ B.length + 5 ∧ (bestB B).length ≤ (pack (fixL B)).length ∧ (bestB B).length ≤ (sbs B).length := by
  have hl := sb_len (B.length + 1) B (by omega)
  rw [if_pos (by omega)] at hl
  have hs : (sbs B).length = B.length + 5 := by unfold sbs; omega
  unfold bestB
  split <;> omega
section
attribute [local irreducible] sbs pack fixL bestB
variable {w0 : World} {H : List Asn}
end
end Go.Proofs.YteelffkghidpfaaGreat

namespace Go.Proofs.YteelffkghidpfaaGreat
open Sx Go Hd
set_option linter.unusedVariables false
set_option linter.unusedSimpArgs false
/-! ## the compressed form (plain) -/
def hd8 (n : Nat) : List Int := encs [4, 4] [478450452, n]
def packB (P : List Int) : List Int := hd8 (pkB P).length ++ pkB P
theorem hd8_len (n : Nat) : (hd8 n).length = 8 := by
  unfold hd8 encs encs encs
  simp only [List.length_append, enc4_len, List.length_nil]
theorem packB_len (P : List Int) : (packB P).length = 8 + (pkB P).length := by unfold packB; rw [List.length_append, hd8_len]
theorem pkB_bd {P : List Int} (h : P.length ≤ 2000) : (pkB P).length ≤ 2011 := by
  have h1 := pk_len P
  have h2 := (best_le P h).1
  omega
theorem h8_fit {n : Nat} (hn : n < 4294967296) :
    (∀ j, 0 ≤ [478450452, (n : Int)].getD j 0 ∧ [478450452, (n : Int)].getD j 0 < 18446744073709551616) ∧
    (∀ j, j < [478450452, (n : Int)].length → fitA ([4, 4].getD j 0) ([478450452, (n : Int)].getD j 0)) := by
  constructor
  · intro j
    match j with
    | 0 => exact (by decide : (0 : Int) ≤ 478450452 ∧ (478450452 : Int) < 18446744073709551616)
    | 1 => show 0 ≤ (n : Int) ∧ (n : Int) < 18446744073709551616; omega
    | j + 2 => exact (by decide : (0 : Int) ≤ 0 ∧ (0 : Int) < 18446744073709551616)
  · intro j hj
    match j, hj with
    | 0, _ => exact .inr (.inr ⟨by decide, by decide, (by decide : (478450452 : Int) < 256 ^ 4)⟩)
    | 1, _ => exact .inr (.inr ⟨by decide, by decide, (by rw [show (256 : Int) ^ 4 = 4294967296 by decide]; omega : (n : Int) < 256 ^ 4)⟩)
    | j + 2, h => simp at h; omega
theorem packB_okb {P : List Int} (hP : OKB P) (h : P.length ≤ 2000) : OKB (packB P) := by
  have hb := pkB_bd h
  refine mem_okb fun x hx => ?_
  unfold packB at hx
  rcases List.mem_append.1 hx with hx | hx
  · have h1 := (h8_fit (n := (pkB P).length) (by omega)).1
    refine encs_byt _ _ (fun y hy => ?_) x hx
    obtain ⟨i, hi, rfl⟩ := List.getElem_of_mem hy
    have := h1 i
    rw [List.getD_eq_getElem?_getD, List.getElem?_eq_getElem hi] at this
    exact this
  · exact (pk_okb hP).mem x hx
section
variable {w0 : World} {H : List Asn} {lo hi dg : Int} {u g : Nat}
theorem PutW2_c (n : Nat) (hn : n < 4294967296) (q : Option Addr) (d : Nat) (hu : Rd w0 H (.slice q 2 d) 2 (ints .u64 [478450452, (n : Int)])) (w : World) (hw : St w0 H w) :
    Calls Tryz.prog 65 #[.string (bstr [87, 87]), .slice q 2 d] w fun e w' => ∃ p c, e = .returned (.tuple #[.slice p 8 c, .int .i64 0]) ∧ St w0 (vec 5 1 (.slice p 8 c) 8 (ints .u8 (hd8 n)) :: H) w' := by
  obtain ⟨h1, h2⟩ := h8_fit hn
  have := WirePut_c (w0 := w0) (H := H) [4, 4] (by decide) (by decide) q d [478450452, (n : Int)] hu rfl h1 h2 w hw
  have he : encs [4, 4] [478450452, (n : Int)] = hd8 n := rfl
  rw [he, hd8_len] at this
  exact this
set_option maxRecDepth 10000 in
theorem PackN_c (w : World) (hw : St w0 H w) : Calls Tryz.prog 33 #[.pointer none] w fun e w' => e = .returned (.tuple #[.slice none 0 0, .int .i64 1]) ∧ St w0 H w' := by
  refine enter (vs := [.pointer none]) Tryz.func33 rfl rfl rfl hw ?_
  clear hw w
  repeat (first | (refine sx ?_; try intro _))
  refine JO_call Tryz.call32 rfl rfl fun w hw => (WriteN_c w hw).mono ?_
  rintro e w' ⟨rfl, hw'⟩
  (refine ⟨_, rfl, _, hw', ?_⟩; clear hw' hw w w')
  repeat (first | (refine sx ?_; try intro _))
  exact JS_ret Tryz.func33 rfl rfl fun w hw => ⟨rfl, hw⟩
set_option maxRecDepth 10000 in
set_option maxHeartbeats 4000000 in
/-- the compressed form of a histogram -/
theorem HPack_c (bh mb bm : Nat) (gr : Bool) (bu : Nat) (es : List MapEntry) (clock : Nat) (T : List (Int × Int)) (hh : blk bh (hc mb bm gr bu (sw T)) ∈ H) (hm : mapL bm es clock ∈ H) (hM : blk mb (mc lo hi dg u g) ∈ H) (hE : HM es clock T) (hG : GT T) (hug : u + g ≤ 62) (hg : 1 ≤ g ∧ g ≤ 18) (hbu : bu ≤ 64) (hl : T.length ≤ 1000000) (hPl : (wrB lo (rchv u g hi bu) dg T).length ≤ 2000)
    (hlo : 0 ≤ lo ∧ lo < 9223372036854775808) (hhi : 0 ≤ hi ∧ hi < 9223372036854775808) (hdg : 0 ≤ dg ∧ dg < 4294967296) (w : World) (hw : St w0 H w) :
    Calls Tryz.prog 33 #[.pointer (some ⟨bh, 0, none⟩)] w fun e w' => ∃ p c, e = .returned (.tuple #[.slice p (packB (wrB lo (rchv u g hi bu) dg T)).length c, .int .i64 0]) ∧ St w0 (vec 5 1 (.slice p (packB (wrB lo (rchv u g hi bu) dg T)).length c) (packB (wrB lo (rchv u g hi bu) dg T)).length (ints .u8 (packB (wrB lo (rchv u g hi bu) dg T))) :: H) w' := by
  have hcl := cntA_len T
  have hwl := wrB_len lo (rchv u g hi bu) dg T
  have hre : 0 ≤ rchv u g hi bu ∧ rchv u g hi bu < 9223372036854775808 := by
    unfold rchv
    split
    · exact hhi
    · have := topv_lt' u g bu; omega
  have hok := wrB_okb hlo hre hdg hG (by omega)
  have hW := fun w hw => HWrite_c (w0 := w0) (H := H) bh mb bm gr bu es clock T hh hm hM hE hG hug hg hbu (by omega) hlo hhi hdg w hw
  generalize wrB lo (rchv u g hi bu) dg T = P at *
  have hpl := packB_len P
  have hpb := pkB_bd hPl
  have hpe : hd8 (pkB P).length ++ pkB P = packB P := rfl
  refine enter (vs := [.pointer (some ⟨bh, 0, none⟩)]) Tryz.func33 rfl rfl rfl hw ?_
  clear hw w
  repeat (first | (refine sx ?_; try intro _))
  refine JO_call Tryz.call32 rfl rfl fun w hw => (hW w hw).mono ?_
  rintro e w' ⟨p1, c1, rfl, hw'⟩
  (refine ⟨_, rfl, _, hw', ?_⟩; clear hw' hw w w')
  repeat (first | (refine sx ?_; try intro _))
  refine JO_call Tryz.call46 rfl rfl fun w hw => (ZPack_c p1 c1 P.length P (vec_rd (List.Mem.head _)) rfl hok (by omega) w hw).mono ?_
  rintro e w' ⟨p2, c2, rfl, hw'⟩
  (refine ⟨_, rfl, _, hw', ?_⟩; clear hw' hw w w')
  generalize packB P = A at *
  generalize pkB P = Z at *
  have cz : IntKind.u64.wrap (Z.length : Int) = Z.length := wu64 (by omega)
  repeat (first | (apply gJO; refine JO_v (V_conv (tb := tb) rfl rfl rfl cz rfl) ?_) | first | (refine sx ?_; try intro _))
  refine JO_call (vs := [.string (bstr [87, 87]), .slice _ 2 2]) Tryz.call65 rfl rfl fun w hw => (PutW2_c Z.length (by omega) _ _ (vec_rd (List.Mem.head _)) w hw).mono ?_
  rintro e w' ⟨p3, c3, rfl, hw'⟩
  (refine ⟨_, rfl, _, hw', ?_⟩; clear hw' hw w w')
  repeat (first | (refine sx ?_; try intro _))
  refine JO_app (tb := tb) rfl rfl rfl rfl rfl rfl (by repeat (first | exact Sel.here _ _ | apply Sel.there)) (by first | exact vec_rd (by repeat (first | apply List.Mem.head | apply List.Mem.tail)) | assumption | exact ArgRd.rd (by assumption) _ | (apply Rd_weak; assumption; intro _ hx; exact St.sub (by repeat (first | exact List.Sublist.refl _ | apply List.Sublist.cons_cons | apply List.Sublist.cons)) hx)) (by rw [ints_len, Nat.mul_one]) ints_one (by omega) rfl ?_
  intro q4 d4
  rw [ints_app, hpe]
  repeat (first | (refine sx ?_; try intro _))
  have hlen : 8 + Z.length = A.length := by omega
  refine JS_ret Tryz.func33 rfl rfl fun w hw => ?_
  rw [hlen] at hw
  exact ⟨_, _, by rw [hlen]; rfl, St.sub (by repeat (first | exact List.Sublist.refl _ | apply List.Sublist.cons_cons | apply List.Sublist.cons)) hw⟩
set_option maxRecDepth 10000 in
set_option maxHeartbeats 4000000 in
/-- the compressed form of a plain one, the document's -/
theorem RPack19_c (p : Option Addr) (c m : Nat) (P : List Int) (hr : Rd w0 H (.slice p m c) m (ints .u8 P)) (hm : P.length = m) (hP : OKB P) (hPl : m ≤ 2000) (w : World) (hw : St w0 H w) :
    Calls Tryz.prog 34 #[.slice p m c] w fun e w' => ∃ q d, e = .returned (.slice q (packB P).length d) ∧ St w0 (vec 5 1 (.slice q (packB P).length d) (packB P).length (ints .u8 (packB P)) :: H) w' := by
  have hpl := packB_len P
  have hpb := pkB_bd (P := P) (by omega)
  have hpe : encN 4 478450452 ++ encN 4 (pkB P).length ++ pkB P = packB P := by
    unfold packB hd8 encs encs encs; simp only [List.append_assoc, List.append_nil]
  refine enter (vs := [.slice p m c]) Tryz.func34 rfl rfl rfl hw ?_
  clear hw w
  repeat (first | (refine sx ?_; try intro _))
  refine JO_call Tryz.call48 rfl rfl fun w hw => (RPack9_c p c m P hr hm hP (by omega) w hw).mono ?_
  rintro e w' ⟨p2, c2, rfl, hw'⟩
  (refine ⟨_, rfl, _, hw', ?_⟩; clear hw' hw w w')
  generalize packB P = A at *
  generalize pkB P = Z at *
  have cz : IntKind.u64.wrap (Z.length : Int) = Z.length := wu64 (by omega)
  have o1 := fun {H} w hw => ROne_c (w0 := w0) (H := H) 4 (by decide) 87 rfl 478450452 (by decide) w hw
  have o2 := fun {H} w hw => ROne_c (w0 := w0) (H := H) 4 (by decide) 87 rfl Z.length (by omega) w hw
  have l1 := enc4_len 478450452
  have l2 := enc4_len Z.length
  generalize encN 4 478450452 = A1 at *
  generalize encN 4 (Z.length : Int) = A2 at *
  repeat (first | (refine sx ?_; try intro _))
  refine JO_call Tryz.call58 rfl rfl fun w hw => (o1 w hw).mono ?_
  rintro e w' ⟨p3, c3, rfl, hw'⟩
  (refine ⟨_, rfl, _, hw', ?_⟩; clear hw' hw w w')
  clear o1
  repeat (first | (apply gJO; refine JO_v (V_conv (tb := tb) rfl rfl rfl cz rfl) ?_) | first | (refine sx ?_; try intro _))
  refine JO_call Tryz.call58 rfl rfl fun w hw => (o2 w hw).mono ?_
  rintro e w' ⟨p4, c4, rfl, hw'⟩
  (refine ⟨_, rfl, _, hw', ?_⟩; clear hw' hw w w')
  clear o2
  repeat (first | (refine sx ?_; try intro _))
  (refine JO_app (tb := tb) rfl rfl rfl rfl rfl rfl (by repeat (first | exact Sel.here _ _ | apply Sel.there)) (by first | exact vec_rd (by repeat (first | apply List.Mem.head | apply List.Mem.tail)) | assumption | exact ArgRd.rd (by assumption) _ | (apply Rd_weak; assumption; intro _ hx; exact St.sub (by repeat (first | exact List.Sublist.refl _ | apply List.Sublist.cons_cons | apply List.Sublist.cons)) hx)) (by rw [ints_len, Nat.mul_one]) ints_one (by omega) rfl ?_; intro _ _; rw [ints_app])
  repeat (first | (refine sx ?_; try intro _))
  (refine JO_app (tb := tb) rfl rfl rfl rfl rfl rfl (by repeat (first | exact Sel.here _ _ | apply Sel.there)) (by first | exact vec_rd (by repeat (first | apply List.Mem.head | apply List.Mem.tail)) | assumption | exact ArgRd.rd (by assumption) _ | (apply Rd_weak; assumption; intro _ hx; exact St.sub (by repeat (first | exact List.Sublist.refl _ | apply List.Sublist.cons_cons | apply List.Sublist.cons)) hx)) (by rw [ints_len, Nat.mul_one]) ints_one (by omega) rfl ?_; intro _ _; rw [ints_app])
  rw [hpe]
  repeat (first | (refine sx ?_; try intro _))
  have hlen : A1.length + A2.length + Z.length = A.length := by omega
  refine JS_ret Tryz.func34 rfl rfl fun w hw => ?_
  rw [hlen] at hw
  exact ⟨_, _, by rw [hlen]; rfl, St.sub (by repeat (first | exact List.Sublist.refl _ | apply List.Sublist.cons_cons | apply List.Sublist.cons)) hw⟩
end
end Go.Proofs.YteelffkghidpfaaGreat

namespace Go.Proofs.YteelffkghidpfaaGreat
open Sx Go Hd
set_option linter.unusedVariables false
set_option linter.unusedSimpArgs false
theorem packB_knd {P : List Int} (h : P.length ≤ 2000) : kndB (packB P) = 2 := by
  have hb := pkB_bd h
  obtain ⟨h1, h2⟩ := h8_fit (n := (pkB P).length) (by omega)
  have e1 : packB P = encs [4] [478450452] ++ (encN 4 (pkB P).length ++ pkB P) := by
    unfold packB hd8 encs encs encs; simp only [List.append_assoc, List.append_nil, List.nil_append]
  have e2 := decs_encs [4] [478450452] (encN 4 (pkB P).length ++ pkB P) rfl (by decide) (fun j => by
    match j with
    | 0 => exact (by decide : (0 : Int) ≤ 478450452 ∧ (478450452 : Int) < 18446744073709551616)
    | j + 1 => exact (by decide : (0 : Int) ≤ 0 ∧ (0 : Int) < 18446744073709551616)) (fun j hj => by
    match j, hj with
    | 0, _ => exact .inr (.inr ⟨by decide, by decide, (by decide : (478450452 : Int) < 256 ^ 4)⟩)
    | j + 1, h => simp at h)
  unfold kndB
  rw [e1, e2]
  rfl
theorem wrB_knd {lo reach dg : Int} {T : List (Int × Int)} : kndB (wrB lo reach dg T) = 1 := by
  have e2 := fun R => decs_encs [4] [478450451] R rfl (by decide) (fun j => by
    match j with
    | 0 => exact (by decide : (0 : Int) ≤ 478450451 ∧ (478450451 : Int) < 18446744073709551616)
    | j + 1 => exact (by decide : (0 : Int) ≤ 0 ∧ (0 : Int) < 18446744073709551616)) (fun j hj => by
    match j, hj with
    | 0, _ => exact .inr (.inr ⟨by decide, by decide, (by decide : (478450451 : Int) < 256 ^ 4)⟩)
    | j + 1, h => simp at h)
  have e1 : ∃ R, wrB lo reach dg T = encs [4] [478450451] ++ R := by
    unfold wrB hdB encs encs; simp only [List.append_assoc, List.append_nil, List.nil_append]; exact ⟨_, rfl⟩
  obtain ⟨R, e1⟩ := e1
  unfold kndB
  rw [e1, e2]
  rfl
section
variable {w0 : World} {H : List Asn} {lo hi dg : Int} {u g : Nat}
set_option maxRecDepth 10000 in
theorem SizeN_c (w : World) (hw : St w0 H w) : Calls Tryz.prog 35 #[.pointer none] w fun e w' => e = .returned (.int .i64 0) ∧ St w0 H w' := by
  refine enter (vs := [.pointer none]) Tryz.func35 rfl rfl rfl hw ?_
  clear hw w
  repeat (first | (refine sx ?_; try intro _))
  refine JO_call Tryz.call32 rfl rfl fun w hw => (WriteN_c w hw).mono ?_
  rintro e w' ⟨rfl, hw'⟩
  (refine ⟨_, rfl, _, hw', ?_⟩; clear hw' hw w w')
  repeat (first | (refine sx ?_; try intro _))
  exact JS_ret Tryz.func35 rfl rfl fun w hw => ⟨rfl, hw⟩
set_option maxRecDepth 10000 in
theorem HSize_c (bh mb bm : Nat) (gr : Bool) (bu : Nat) (es : List MapEntry) (clock : Nat) (T : List (Int × Int)) (hh : blk bh (hc mb bm gr bu (sw T)) ∈ H) (hm : mapL bm es clock ∈ H) (hM : blk mb (mc lo hi dg u g) ∈ H) (hE : HM es clock T) (hG : GT T) (hug : u + g ≤ 62) (hg : 1 ≤ g ∧ g ≤ 18) (hbu : bu ≤ 64) (hl : T.length ≤ 1000000)
    (hlo : 0 ≤ lo ∧ lo < 9223372036854775808) (hhi : 0 ≤ hi ∧ hi < 9223372036854775808) (hdg : 0 ≤ dg ∧ dg < 4294967296) (w : World) (hw : St w0 H w) :
    Calls Tryz.prog 35 #[.pointer (some ⟨bh, 0, none⟩)] w fun e w' => e = .returned (.int .i64 (wrB lo (rchv u g hi bu) dg T).length) ∧ St w0 H w' := by
  have hW := fun w hw => HWrite_c (w0 := w0) (H := H) bh mb bm gr bu es clock T hh hm hM hE hG hug hg hbu (by omega) hlo hhi hdg w hw
  generalize wrB lo (rchv u g hi bu) dg T = P at *
  refine enter (vs := [.pointer (some ⟨bh, 0, none⟩)]) Tryz.func35 rfl rfl rfl hw ?_
  clear hw w
  repeat (first | (refine sx ?_; try intro _))
  refine JO_call Tryz.call32 rfl rfl fun w hw => (hW w hw).mono ?_
  rintro e w' ⟨p1, c1, rfl, hw'⟩
  (refine ⟨_, rfl, _, hw', ?_⟩; clear hw' hw w w')
  repeat (first | (refine sx ?_; try intro _))
  exact JS_ret Tryz.func35 rfl rfl fun w hw => ⟨rfl, St.sub (by repeat (first | exact List.Sublist.refl _ | apply List.Sublist.cons_cons | apply List.Sublist.cons)) hw⟩
end
set_option maxRecDepth 100000 in
set_option maxHeartbeats 8000000 in
theorem HdrwireWrites_l (a0 a1 a2 : Int) (gr : Bool) (lp : Option Addr) (lc lm : Nat) (L : List Int) (np : Option Addr) (nc nm : Nat) (N : List Int) (w0 : World) (h0 : 0 ≤ a0 ∧ a0 < 18446744073709551616) (h1 : 0 ≤ a1 ∧ a1 < 256) (h2 : 0 ≤ a2 ∧ a2 < 18446744073709551616)
    (hL : ArgRd w0 (.slice lp lm lc) lm (ints .i64 L)) (lL : L.length = lm) (kL : OKI L ∧ (lp = none → lm = 0) ∧ lm ≤ 17592186043904) (hN : ArgRd w0 (.slice np nm nc) nm (ints .u32 N)) (lN : N.length = nm) (kN : OKW N ∧ (np = none → nm = 0) ∧ nm ≤ 35184372087808) :
    Calls Tryz.prog 9 #[.int .u64 a0, .int .u8 a1, .int .u64 a2, .bool gr, .slice lp lm lc, .slice np nm nc] w0 fun e w' => e = .returned (.bool true) ∧ RowKit.Below w0.heap.size w0 w' := by
  subst lL lN
  have hs := law_sh a0 a1 a2 h0 h1 h2.1
  have hl1 : 1 ≤ lawLo a0 ∧ lawLo a0 ≤ 100000 := by unfold lawLo; omega
  have hhi : lawHi a0 a2 < 9223372036854775808 := by unfold lawHi; omega
  have hhi0 : 0 ≤ lawHi a0 a2 := by unfold lawHi; omega
  have hd1 : 1 ≤ lawDg a1 ∧ lawDg a1 ≤ 5 := by unfold lawDg; omega
  have hSh := fun {H} w hw => Shape17_c (w0 := w0) (H := H) a0 a1 a2 h0 h1 h2 w hw
  refine enter (vs := [.int .u64 a0, .int .u8 a1, .int .u64 a2, .bool gr, .slice lp L.length lc, .slice np N.length nc]) Tryz.func9 rfl rfl rfl (St.start w0) ?_
  generalize lawLo a0 = lo at *
  generalize lawHi a0 a2 = hi at *
  generalize lawDg a1 = dg at *
  have hug := hs.2
  have hgd := gOf_bd hd1
  have hg' : 1 ≤ gOf dg ∧ gOf dg ≤ 18 := by omega
  repeat (first | (refine sx ?_; try intro _))
  refine JO_call Tryz.call26 rfl rfl fun w hw => (alive19_c w hw).mono ?_
  rintro e w' ⟨rfl, hw'⟩
  (refine ⟨_, rfl, _, hw', ?_⟩; clear hw' hw w w')
  repeat (first | (refine sx ?_; try intro _))
  refine JO_call Tryz.call27 rfl rfl fun w hw => (hSh w hw).mono ?_
  rintro e w' ⟨rfl, hw'⟩
  (refine ⟨_, rfl, _, hw', ?_⟩; clear hw' hw w w')
  repeat (first | (refine sx ?_; try intro _))
  rename_i sb
  refine JO_call Tryz.call28 rfl rfl fun w hw => (Recorded19_c lo hi dg gr hs hhi lp np lc nc L N (hL.rd _) (hN.rd _) kL.1 kN.1 (by omega) (by omega) w hw).mono ?_
  rintro e w' ⟨h, m, b, es, clock, rfl, hE, hw'⟩
  have hb0 : 1 + bkt (uOf lo) (gOf dg) hi.toNat ≤ 64 := by
    have := bkt_63 (u := uOf lo) (g := gOf dg) (v := hi.toNat) (by omega) (by omega)
    omega
  obtain ⟨⟨ob, ogt⟩, ol⟩ := recS_ok (u := uOf lo) (g := gOf dg) (gr := gr) (bu := 1 + bkt (uOf lo) (gOf dg) hi.toNat) (L := L) (W := wtW N) hug hg' hb0 (fun j => (kL.1 j).2) (fun j => by have := wtW_bd N j; omega) (min L.length 40)
  generalize recS (uOf lo) (gOf dg) gr (1 + bkt (uOf lo) (gOf dg) hi.toNat) L (wtW N) (min L.length 40) = s at *
  obtain ⟨bu, T⟩ := s
  unfold hW at hw'
  dsimp only at ob ogt ol hE hw'
  generalize uOf lo = u at *
  generalize gOf dg = g at *
  have hl : T.length ≤ 40 := by omega
  have hlo63 : 0 ≤ lo ∧ lo < 9223372036854775808 := by omega
  have hre : 0 ≤ rchv u g hi bu ∧ rchv u g hi bu < 9223372036854775808 := by
    unfold rchv
    split
    · omega
    · have := topv_lt' u g bu; omega
  have hok0 := wrB_okb (lo := lo) (reach := rchv u g hi bu) (dg := dg) (T := T) (by omega) hre (by omega) ogt (by omega)
  have hlen0 := wrB_len lo (rchv u g hi bu) dg T
  have hcl := cntA_len T
  have hP2 : (wrB lo (rchv u g hi bu) dg T).length ≤ 2000 := by omega
  have hknd := wrB_knd (lo := lo) (reach := rchv u g hi bu) (dg := dg) (T := T)
  have hknd2 := packB_knd hP2
  have hpok := packB_okb hok0 hP2
  have hpl := packB_len (wrB lo (rchv u g hi bu) dg T)
  have hpb := pkB_bd hP2
  have hRe := fun {H'} (x1 : blk h (hc m b gr bu (sw T)) ∈ H') (x3 : blk m (mc lo hi dg u g) ∈ H') w hw => HReach_c (w0 := w0) (H := H') h m b gr bu (sw T) x1 x3 hug hg'.1 ob ⟨by omega, hhi⟩ w hw
  have hPr := fun {H'} (x1 : blk h (hc m b gr bu (sw T)) ∈ H') (x2 : mapL b es clock ∈ H') w hw => HPairs_c (w0 := w0) (H := H') h m b gr bu (sw T) es clock T x1 x2 hE ogt.srt ogt.key (by omega) w hw
  have hRW := fun {H'} (q : Option Addr) (d : Nat) (hr : Rd w0 H' (.slice q T.length d) T.length (flat T)) w hw => RWrite_c (w0 := w0) (H := H') lo (rchv u g hi bu) dg (by omega) hre (by omega) q d T hr ogt (by omega) w hw
  have hWr := fun {H'} (x1 : blk h (hc m b gr bu (sw T)) ∈ H') (x2 : mapL b es clock ∈ H') (x3 : blk m (mc lo hi dg u g) ∈ H') w hw => HWrite_c (w0 := w0) (H := H') h m b gr bu es clock T x1 x2 x3 hE ogt hug hg' ob (by omega) hlo63 ⟨hhi0, hhi⟩ (by omega) w hw
  have hSz := fun {H'} (x1 : blk h (hc m b gr bu (sw T)) ∈ H') (x2 : mapL b es clock ∈ H') (x3 : blk m (mc lo hi dg u g) ∈ H') w hw => HSize_c (w0 := w0) (H := H') h m b gr bu es clock T x1 x2 x3 hE ogt hug hg' ob (by omega) hlo63 ⟨hhi0, hhi⟩ (by omega) w hw
  have hPk := fun {H'} (x1 : blk h (hc m b gr bu (sw T)) ∈ H') (x2 : mapL b es clock ∈ H') (x3 : blk m (mc lo hi dg u g) ∈ H') w hw => HPack_c (w0 := w0) (H := H') h m b gr bu es clock T x1 x2 x3 hE ogt hug hg' ob (by omega) hP2 hlo63 ⟨hhi0, hhi⟩ (by omega) w hw
  generalize rchv u g hi bu = rc at *
  generalize wrB lo rc dg T = B0 at *
  clear hSh hgd hL hN kL kN
  (refine ⟨_, rfl, _, hw', ?_⟩; clear hw' hw w w')
  repeat (first | apply hIx 7 | first | (refine sx ?_; try intro _))
  refine Hold.go ?_
  refine JS_seq ?_
  refine JS_order [0, 1, 2, 4, 5, 6, 3, 7, 8, 9] [] (Picks.cons rfl (Picks.cons rfl (Picks.cons rfl (Picks.cons rfl (Picks.cons rfl (Picks.cons rfl (Picks.cons rfl (Picks.cons rfl (Picks.cons rfl (Picks.cons rfl (Picks.nil))))))))))) (by kernel_rfl) (by kernel_rfl) rfl (by decide +kernel) ?_
  repeat (first | (refine sx ?_; try intro _))
  refine QO_call Tryz.call30 rfl rfl fun w hw => (hRe (List.Mem.head _) (List.Mem.tail _ (List.Mem.tail _ (List.Mem.head _))) w hw).mono ?_
  rintro e w' ⟨rfl, hw'⟩
  (refine ⟨_, rfl, _, hw', .inl fun w hw => St.sub (by repeat (first | exact List.Sublist.refl _ | apply List.Sublist.cons_cons | apply List.Sublist.cons)) hw, ?_⟩; clear hw' hw w w')
  repeat (first | (refine sx ?_; try intro _))
  refine QO_call Tryz.call31 rfl rfl fun w hw => (hPr (List.Mem.head _) (List.Mem.tail _ (List.Mem.head _)) w hw).mono ?_
  rintro e w' ⟨qp, qd, rfl, hw'⟩
  (refine ⟨_, rfl, _, hw', .inl fun w hw => St.sub (by repeat (first | exact List.Sublist.refl _ | apply List.Sublist.cons_cons | apply List.Sublist.cons)) hw, ?_⟩; clear hw' hw w w')
  repeat (first | (refine sx ?_; try intro _))
  refine QO_call Tryz.call29 rfl rfl fun w hw => (hRW qp qd (vec_rd (List.Mem.head _)) w hw).mono ?_
  rintro e w' ⟨p1, c1, rfl, hw'⟩
  (refine ⟨_, rfl, _, hw', .inl fun w hw => St.sub (by repeat (first | exact List.Sublist.refl _ | apply List.Sublist.cons_cons | apply List.Sublist.cons)) hw, ?_⟩; clear hw' hw w w')
  repeat (first | (refine sx ?_; try intro _))
  refine JO_call Tryz.call32 rfl rfl fun w hw => (hWr (by repeat (first | apply List.Mem.head | apply List.Mem.tail)) (by repeat (first | apply List.Mem.head | apply List.Mem.tail)) (by repeat (first | apply List.Mem.head | apply List.Mem.tail)) w hw).mono ?_
  rintro e w' ⟨p2, c2, rfl, hw'⟩
  (refine ⟨_, rfl, _, hw', ?_⟩; clear hw' hw w w')
  repeat (first | (refine sx ?_; try intro _))
  refine JO_call Tryz.call33 rfl rfl fun w hw => (hPk (by repeat (first | apply List.Mem.head | apply List.Mem.tail)) (by repeat (first | apply List.Mem.head | apply List.Mem.tail)) (by repeat (first | apply List.Mem.head | apply List.Mem.tail)) w hw).mono ?_
  rintro e w' ⟨p3, c3, rfl, hw'⟩
  (refine ⟨_, rfl, _, hw', ?_⟩; clear hw' hw w w')
  repeat (first | (refine sx ?_; try intro _))
  refine JO_call Tryz.call32 rfl rfl fun w hw => (WriteN_c w hw).mono ?_
  rintro e w' ⟨rfl, hw'⟩
  (refine ⟨_, rfl, _, hw', ?_⟩; clear hw' hw w w')
  repeat (first | (refine sx ?_; try intro _))
  refine JO_call Tryz.call33 rfl rfl fun w hw => (PackN_c w hw).mono ?_
  rintro e w' ⟨rfl, hw'⟩
  (refine ⟨_, rfl, _, hw', ?_⟩; clear hw' hw w w')
  have hR19 := fun {H'} (hr : Rd w0 H' (.slice p1 B0.length c1) B0.length (ints .u8 B0)) w hw => RPack19_c (w0 := w0) (H := H') p1 c1 B0.length B0 hr rfl hok0 hP2 w hw
  generalize packB B0 = A at *
  repeat (first | apply hIx 12 | first | (refine sx ?_; try intro _))
  refine Hold.go ?_
  refine JS_seq ?_
  refine JS_order [0, 1, 2, 3, 4, 5, 6, 7, 8, 9, 10, 11, 12, 13, 14, 15, 16, 17, 18, 19, 20, 21, 22, 24, 25, 23, 26, 27, 28, 29, 30, 31, 32, 33, 34, 35, 36, 37, 38, 39, 40, 41, 42, 43, 44, 45, 46, 47, 48, 49, 50] [] (Picks.cons rfl (Picks.cons rfl (Picks.cons rfl (Picks.cons rfl (Picks.cons rfl (Picks.cons rfl (Picks.cons rfl (Picks.cons rfl (Picks.cons rfl (Picks.cons rfl (Picks.cons rfl (Picks.cons rfl (Picks.cons rfl (Picks.cons rfl (Picks.cons rfl (Picks.cons rfl (Picks.cons rfl (Picks.cons rfl (Picks.cons rfl (Picks.cons rfl (Picks.cons rfl (Picks.cons rfl (Picks.cons rfl (Picks.cons rfl (Picks.cons rfl (Picks.cons rfl (Picks.cons rfl (Picks.cons rfl (Picks.cons rfl (Picks.cons rfl (Picks.cons rfl (Picks.cons rfl (Picks.cons rfl (Picks.cons rfl (Picks.cons rfl (Picks.cons rfl (Picks.cons rfl (Picks.cons rfl (Picks.cons rfl (Picks.cons rfl (Picks.cons rfl (Picks.cons rfl (Picks.cons rfl (Picks.cons rfl (Picks.cons rfl (Picks.cons rfl (Picks.cons rfl (Picks.cons rfl (Picks.cons rfl (Picks.cons rfl (Picks.cons rfl (Picks.nil)))))))))))))))))))))))))))))))))))))))))))))))))))) (by kernel_rfl) (by kernel_rfl) rfl (by decide +kernel) ?_
  repeat (first | (apply gQO; first | refine QO_v rfl (V_eqStrC (s := bstr B0) rfl rfl rfl) ?_ | refine QO_v rfl (V_str (tb := tb) rfl (vec_rd (cs := ints .u8 B0) (by repeat (first | apply List.Mem.head | apply List.Mem.tail))) rfl rfl rfl rfl rfl) ?_) | first | (refine sx ?_; try intro _))
  refine QO_call Tryz.call34 rfl rfl fun w hw => (hR19 (vec_rd (by repeat (first | apply List.Mem.head | apply List.Mem.tail))) w hw).mono ?_
  rintro e w' ⟨p4, c4, rfl, hw'⟩
  (refine ⟨_, rfl, _, hw', .inl fun w hw => St.sub (by repeat (first | exact List.Sublist.refl _ | apply List.Sublist.cons_cons | apply List.Sublist.cons)) hw, ?_⟩; clear hw' hw w w')
  repeat (first | (apply gQO; first | refine QO_v rfl (V_eqStrC (s := bstr A) rfl rfl rfl) ?_ | refine QO_v rfl (V_str (tb := tb) rfl (vec_rd (cs := ints .u8 A) (by repeat (first | apply List.Mem.head | apply List.Mem.tail))) rfl rfl rfl rfl rfl) ?_) | first | (refine sx ?_; try intro _))
  refine QO_call Tryz.call35 rfl rfl fun w hw => (hSz (by repeat (first | apply List.Mem.head | apply List.Mem.tail)) (by repeat (first | apply List.Mem.head | apply List.Mem.tail)) (by repeat (first | apply List.Mem.head | apply List.Mem.tail)) w hw).mono ?_
  rintro e w' ⟨rfl, hw'⟩
  (refine ⟨_, rfl, _, hw', .inl fun w hw => St.sub (by repeat (first | exact List.Sublist.refl _ | apply List.Sublist.cons_cons | apply List.Sublist.cons)) hw, ?_⟩; clear hw' hw w w')
  repeat (first | (refine sx ?_; try intro _))
  refine QO_call Tryz.call35 rfl rfl fun w hw => (SizeN_c w hw).mono ?_
  rintro e w' ⟨rfl, hw'⟩
  (refine ⟨_, rfl, _, hw', .inl fun w hw => St.sub (by repeat (first | exact List.Sublist.refl _ | apply List.Sublist.cons_cons | apply List.Sublist.cons)) hw, ?_⟩; clear hw' hw w w')
  repeat (first | (refine sx ?_; try intro _))
  refine QO_call Tryz.call36 rfl rfl fun w hw => (Kind_c p2 c2 B0.length B0 (vec_rd (by repeat (first | apply List.Mem.head | apply List.Mem.tail))) rfl hok0 (by omega) (fun h => by have := Rd.nil (p := p2) (m := B0.length) (c := c2) (vec_rd (cs := ints .u8 B0) (by repeat (first | apply List.Mem.head | apply List.Mem.tail))) hw h; omega) w hw).mono ?_
  rintro e w' ⟨rfl, hw'⟩
  rw [hknd]
  (refine ⟨_, rfl, _, hw', .inl fun w hw => St.sub (by repeat (first | exact List.Sublist.refl _ | apply List.Sublist.cons_cons | apply List.Sublist.cons)) hw, ?_⟩; clear hw' hw w w')
  repeat (first | (refine sx ?_; try intro _))
  refine QO_call Tryz.call36 rfl rfl fun w hw => (Kind_c p3 c3 A.length A (vec_rd (by repeat (first | apply List.Mem.head | apply List.Mem.tail))) rfl hpok (by omega) (fun h => by have := Rd.nil (p := p3) (m := A.length) (c := c3) (vec_rd (cs := ints .u8 A) (by repeat (first | apply List.Mem.head | apply List.Mem.tail))) hw h; omega) w hw).mono ?_
  rintro e w' ⟨rfl, hw'⟩
  rw [hknd2]
  (refine ⟨_, rfl, _, hw', .inl fun w hw => St.sub (by repeat (first | exact List.Sublist.refl _ | apply List.Sublist.cons_cons | apply List.Sublist.cons)) hw, ?_⟩; clear hw' hw w w')
  repeat (first | (refine sx ?_; try intro _))
  exact JS_ret Tryz.func9 rfl rfl fun w hw => ⟨rfl, hw.grown⟩
end Go.Proofs.YteelffkghidpfaaGreat
