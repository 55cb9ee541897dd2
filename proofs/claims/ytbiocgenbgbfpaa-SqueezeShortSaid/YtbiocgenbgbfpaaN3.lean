import Derived.Carry
import Derived.Maps.Keyed
import Derived.WideKeyEntry
import Derived.DeepKeys4
import Derived.WalkKit
import Derived.ProofKit
import Derived.OpenShut
import Derived.ChangeSlices
import Derived.Test.YtbiocgenbgbfpaaN2
namespace Go.Proofs.Ytbiocgenbgbfpaa
open Sx Go
set_option linter.unusedVariables false
set_option linter.unusedSimpArgs false
attribute [local irreducible] syA fc tk cds
/-! ## what a compressed stream tells, on bits -/
/-- so many bits as a number, the first one the lowest -/
def nbt (bt : Nat → Int) (a : Nat) : Nat → Int
  | 0 => 0
  | c + 1 => nbt bt a c + bt (a + c) * 2 ^ c
theorem nbt_bd (bt : Nat → Int) (hb : ∀ j, bt j = 0 ∨ bt j = 1) (a : Nat) : ∀ c, 0 ≤ nbt bt a c ∧ nbt bt a c < 2 ^ c
  | 0 => ⟨Int.le_refl _, by show (0 : Int) < 1; decide⟩
  | c + 1 => by
    have h := nbt_bd bt hb a c
    simp only [nbt, Int.pow_succ]
    rcases hb (a + c) with h1 | h1 <;> rw [h1] <;> omega
theorem nbt_congr {bt bt' : Nat → Int} {a a' : Nat} : ∀ {c : Nat}, (∀ j, j < c → bt (a + j) = bt' (a' + j)) → nbt bt a c = nbt bt' a' c
  | 0, _ => rfl
  | c + 1, h => by
    simp only [nbt]
    rw [nbt_congr (c := c) (fun j hj => h j (by omega)), h c (by omega)]
inductive Stp where
  | err (e : Int)
  | stop (a : Nat) (o : List Int)
  | go (a : Nat) (o : List Int)
inductive Res where
  | err (e : Int)
  | ok (a : Nat) (o : List Int)
/-- a step done over and over -/
inductive It (f : Nat → List Int → Stp) : Nat → List Int → Res → Prop where
  | err {a : Nat} {o : List Int} {e : Int} (h : f a o = .err e) : It f a o (.err e)
  | stop {a : Nat} {o : List Int} {a' : Nat} {o' : List Int} (h : f a o = .stop a' o') : It f a o (.ok a' o')
  | go {a : Nat} {o : List Int} {a' : Nat} {o' : List Int} {r : Res} (h : f a o = .go a' o') (t : It f a' o' r) : It f a o r
theorem It.one {f : Nat → List Int → Stp} {a : Nat} {o : List Int} {r r' : Res} (h : It f a o r) : It f a o r' → r = r' := by
  induction h with
  | err h => intro h'; cases h' with
    | err h2 => rw [h] at h2; cases h2; rfl
    | stop h2 => rw [h] at h2; cases h2
    | go h2 _ => rw [h] at h2; cases h2
  | stop h => intro h'; cases h' with
    | err h2 => rw [h] at h2; cases h2
    | stop h2 => rw [h] at h2; cases h2; rfl
    | go h2 _ => rw [h] at h2; cases h2
  | go h _ ih => intro h'; cases h' with
    | err h2 => rw [h] at h2; cases h2
    | stop h2 => rw [h] at h2; cases h2
    | go h2 t => rw [h] at h2; cases h2; exact ih t
open Classical in
noncomputable def itF (f : Nat → List Int → Stp) (a : Nat) (o : List Int) : Res := if h : ∃ r, It f a o r then h.choose else .err 0
theorem itF_of {f : Nat → List Int → Stp} {a : Nat} {o : List Int} {r : Res} (h : It f a o r) : itF f a o = r := by
  have hex : ∃ r, It f a o r := ⟨r, h⟩
  unfold itF
  rw [dif_pos hex]
  exact hex.choose_spec.one h
inductive Sy where
  | err (e : Int)
  | ok (i : Int) (a : Nat)
open Classical in
/-- a symbol by lengths -/
noncomputable def symS (bt : Nat → Int) (N : Nat) (L : List Int) (a : Nat) : Sy :=
  if h : ∃ x : Int × Nat × Int, RD L (fun j => bt (a + j)) (N - a) x.1 x.2.1 x.2.2 then (if h.choose.2.2 = 0 then .ok h.choose.1 (a + h.choose.2.1) else .err h.choose.2.2) else .err 0
theorem symS_of {bt : Nat → Int} {N a : Nat} {L : List Int} (hB : OKB L) (hk : OKL L) (hb : ∀ j, bt j = 0 ∨ bt j = 1) {i : Int} {u : Nat} {r : Int} (h : RD L (fun j => bt (a + j)) (N - a) i u r) :
    symS bt N L a = if r = 0 then .ok i (a + u) else .err r := by
  have hex : ∃ x : Int × Nat × Int, RD L (fun j => bt (a + j)) (N - a) x.1 x.2.1 x.2.2 := ⟨(i, u, r), h⟩
  unfold symS
  rw [dif_pos hex]
  obtain ⟨h1, h2, h3⟩ := RD_fun hB hk (fun j => hb _) hex.choose_spec h
  rw [h1, h2, h3]
/-- bytes from so far back -/
def cpy (o : List Int) (back : Nat) : Nat → List Int
  | 0 => o
  | n + 1 => cpy o back n ++ [(cpy o back n).getD ((cpy o back n).length - back) 0]
theorem cpy_len (o : List Int) (back : Nat) : ∀ n, (cpy o back n).length = o.length + n
  | 0 => rfl
  | n + 1 => by simp only [cpy, List.length_append, List.length_cons, List.length_nil, cpy_len o back n]; omega
/-- behind a length's symbol -/
noncomputable def blk2 (bt : Nat → Int) (N lim : Nat) (D : List Int) (o : List Int) (len : Int) (a : Nat) : Stp :=
  match symS bt N D a with
  | .err e => .err e
  | .ok d a2 =>
    if (lfar d).1 = 0 then .err 62
    else if N < a2 + (lfar d).2.toNat then .err 20
    else if (o.length : Int) < (lfar d).1 + nbt bt a2 (lfar d).2.toNat then .err 63
    else if (lim : Int) - o.length < len then .err 64
    else .go (a2 + (lfar d).2.toNat) (cpy o ((lfar d).1 + nbt bt a2 (lfar d).2.toNat).toNat len.toNat)
/-- a symbol of a block -/
noncomputable def blkF (bt : Nat → Int) (N lim : Nat) (L D : List Int) (a : Nat) (o : List Int) : Stp :=
  match symS bt N L a with
  | .err e => .err e
  | .ok i a1 =>
    if i = 256 then .stop a1 o
    else if i < 256 then (if (lim : Int) - o.length < 1 then .err 64 else .go a1 (o ++ [i]))
    else if (lbase i).1 = 0 then .err 62
    else if N < a1 + (lbase i).2.toNat then .err 20
    else blk2 bt N lim D o ((lbase i).1 + nbt bt a1 (lbase i).2.toNat) (a1 + (lbase i).2.toNat)
/-- some lengths more -/
def lenP (many : Nat) (l : List Int) (x : Int) (t : Int) (a : Nat) : Stp :=
  if (many : Int) < l.length + t then .err 62 else .go a (l ++ List.replicate t.toNat x)
/-- a symbol of the lengths -/
noncomputable def lenF (bt : Nat → Int) (N : Nat) (C : List Int) (many : Nat) (a : Nat) (l : List Int) : Stp :=
  if many ≤ l.length then .stop a l else
  match symS bt N C a with
  | .err e => .err e
  | .ok i a1 =>
    if i = 16 then (if l.length = 0 then .err 62 else if N < a1 + 2 then .err 20 else lenP many l (l.getD (l.length - 1) 0) (3 + nbt bt a1 2) (a1 + 2))
    else if i = 17 then (if N < a1 + 3 then .err 20 else lenP many l 0 (3 + nbt bt a1 3) (a1 + 3))
    else if i = 18 then (if N < a1 + 7 then .err 20 else lenP many l 0 (11 + nbt bt a1 7) (a1 + 7))
    else lenP many l i 1 a1
/-- bytes of bits -/
def byts (bt : Nat → Int) (a n : Nat) : List Int := (List.range n).map fun j => nbt bt (a + 8 * j) 8
theorem byts_len (bt : Nat → Int) (a n : Nat) : (byts bt a n).length = n := by simp [byts]
/-- the next place where a byte begins -/
def upto8 (a : Nat) : Nat := (a + 7) / 8 * 8
/-- a stored block -/
def stoF (bt : Nat → Int) (N lim : Nat) (a : Nat) (o : List Int) : Res :=
  if N < upto8 a + 16 then .err 20
  else if N < upto8 a + 32 then .err 20
  else if nbt bt (upto8 a) 16 + nbt bt (upto8 a + 16) 16 ≠ 65535 then .err 61
  else if (lim : Int) - o.length < nbt bt (upto8 a) 16 then .err 64
  else if (N : Int) < upto8 a + 32 + 8 * nbt bt (upto8 a) 16 then .err 20
  else .ok (upto8 a + 32 + 8 * (nbt bt (upto8 a) 16).toNat) (o ++ byts bt (upto8 a + 32) (nbt bt (upto8 a) 16).toNat)
/-- the order of the lengths' lengths -/
def ordL : List Nat := [16, 17, 18, 0, 8, 7, 9, 6, 10, 5, 11, 4, 12, 3, 13, 2, 14, 1, 15]
def ccl (bt : Nat → Int) (a : Nat) : Nat → List Int
  | 0 => List.replicate 19 0
  | i + 1 => (ccl bt a i).set (ordL.getD i 0) (nbt bt (a + 3 * i) 3)
theorem ccl_len (bt : Nat → Int) (a : Nat) : ∀ n, (ccl bt a n).length = 19
  | 0 => by simp [ccl]
  | n + 1 => by simp [ccl, ccl_len bt a n]
open Classical in
/-- behind the lengths of both sets -/
noncomputable def des2 (bt : Nat → Int) (N lim lit : Nat) (l : List Int) (a : Nat) (o : List Int) : Res :=
  if l.getD 256 0 = 0 then .err 62
  else if ¬ OKL (l.take lit) then .err 62
  else if ¬ OKL (l.drop lit) then .err 62
  else itF (blkF bt N lim (l.take lit) (l.drop lit)) a o
open Classical in
/-- behind the numbers of lengths -/
noncomputable def des1 (bt : Nat → Int) (N lim lit sp ln : Nat) (a : Nat) (o : List Int) : Res :=
  if 286 < lit ∨ 30 < sp then .err 62
  else if N < a + 3 * ln then .err 20
  else if ¬ OKL (ccl bt a ln) ∨ ¬ tk (ccl bt a ln) = 32768 then .err 62
  else match itF (lenF bt N (ccl bt a ln) (lit + sp)) (a + 3 * ln) [] with
    | .err e => .err e
    | .ok a' l => des2 bt N lim lit l a' o
/-- a described block -/
noncomputable def desF (bt : Nat → Int) (N lim : Nat) (a : Nat) (o : List Int) : Res :=
  if N < a + 5 then .err 20
  else if N < a + 10 then .err 20
  else if N < a + 14 then .err 20
  else des1 bt N lim (nbt bt a 5 + 257).toNat (nbt bt (a + 5) 5 + 1).toNat (nbt bt (a + 10) 4 + 4).toNat (a + 14) o
/-- a block of a kind -/
noncomputable def kndF (bt : Nat → Int) (N lim : Nat) (k : Int) (a : Nat) (o : List Int) : Res :=
  if k = 0 then stoF bt N lim a o
  else if k = 1 then itF (blkF bt N lim (tab 288 fixF) (List.replicate 32 5)) a o
  else if k = 2 then desF bt N lim a o
  else .err 60
/-- a block -/
noncomputable def rdF (bt : Nat → Int) (N lim : Nat) (a : Nat) (o : List Int) : Stp :=
  if N < a + 1 then .err 20
  else if N < a + 3 then .err 20
  else match kndF bt N lim (nbt bt (a + 1) 2) (a + 3) o with
    | .err e => .err e
    | .ok a' o' => if nbt bt a 1 = 0 then .go a' o' else .stop a' o'
/-- all of it: how many bits, which bytes -/
def ALLR (B : List Int) (lim : Nat) (r : Res) : Prop := It (rdF (bitB B 0) (8 * B.length) lim) 0 [] r
theorem bitB_add (B : List Int) (a j : Nat) : bitB B 0 (a + j) = bitB B a j := by
  unfold bitB; simp only [Nat.zero_add]
theorem bitB_fun (B : List Int) (a : Nat) : (fun j => bitB B 0 (a + j)) = bitB B a := funext fun j => bitB_add B a j
end Go.Proofs.Ytbiocgenbgbfpaa

namespace Go.Proofs.Ytbiocgenbgbfpaa
open Sx Go
set_option linter.unusedVariables false
set_option linter.unusedSimpArgs false
attribute [local irreducible] syA fc tk cds
theorem or_add_u32 {a y : Int} {s : Nat} (hs : s < 32) (ha : 0 ≤ a ∧ a < 2 ^ s) (hy : y = 0 ∨ y = 1) : IntKind.u32.wrap ((BitVec.ofInt IntKind.u32.bits a ||| BitVec.ofInt IntKind.u32.bits (y * 2 ^ s)).toNat) = a + y * 2 ^ s := by
  have hp : (2 : Int) ^ s ≤ 2147483648 := by
    have : ∀ k : Fin 32, (2 : Int) ^ k.val ≤ 2147483648 := by decide
    exact this ⟨s, hs⟩
  have hyb : 0 ≤ y * 2 ^ s ∧ y * 2 ^ s ≤ 2147483648 := by rcases hy with rfl | rfl <;> omega
  rw [or_nat .u32 ⟨ha.1, by show a < 4294967296; omega⟩ ⟨hyb.1, by show y * 2 ^ s < 4294967296; omega⟩]
  obtain ⟨m, rfl⟩ := Int.eq_ofNat_of_zero_le ha.1
  have hpn : ((2 ^ s : Nat) : Int) = 2 ^ s := by simp
  rcases hy with rfl | rfl
  · simp only [Int.zero_mul, Int.toNat_natCast, Int.toNat_zero, Nat.or_zero, Int.add_zero]
    exact wu32 (by omega)
  · have h := Nat.two_pow_add_eq_or_of_lt (i := s) (b := m) (by have := ha.2; rw [← hpn] at this; omega) 1
    rw [Nat.mul_one] at h
    rw [Int.one_mul, Int.toNat_natCast, show ((2 : Int) ^ s).toNat = 2 ^ s by rw [← hpn]; rfl, Nat.or_comm, ← h]
    refine (wu32 (by omega)).trans (by omega)
theorem pw32 (i : Nat) (h : i < 32) : (1 : Int) ≤ 2 ^ i ∧ (2 : Int) ^ i ≤ 2147483648 := by
  have : ∀ k : Fin 32, (1 : Int) ≤ 2 ^ k.val ∧ (2 : Int) ^ k.val ≤ 2147483648 := by decide
  exact this ⟨i, h⟩
set_option maxHeartbeats 4000000 in
/-- so many bits are read -/
theorem RGrp_c {w0 : World} {H : List Asn} (b : Nat) (q : Option Addr) (d m : Nat) (B : List Int) (hr : Rd w0 H (.slice q m d) m (ints .u8 B)) (hm : B.length = m) (hB : OKB B) (hm1 : m ≤ 140737488355328) (a c : Nat) (hc : c ≤ 32) (ha : a ≤ 8 * m) (w : World) (hw : St w0 (blk b [.slice q m d, .int .i64 a] :: H) w) :
    Calls Try.prog 136 #[.pointer (some ⟨b, 0, none⟩), .int .i64 c] w fun e w' =>
      (8 * m < a + c ∧ e = .returned (.tuple #[.int .u32 0, .int .i64 20]) ∧ St w0 (blk b [.slice q m d, .int .i64 a] :: H) w') ∨
      (a + c ≤ 8 * m ∧ e = .returned (.tuple #[.int .u32 (nbt (bitB B 0) a c), .int .i64 0]) ∧ St w0 (blk b [.slice q m d, .int .i64 (a + c : Nat)] :: H) w') := by
  refine enter (vs := [.pointer (some ⟨b, 0, none⟩), .int .i64 c]) Try.func136 rfl rfl rfl hw ?_
  repeat (first | (refine sx ?_; try intro _))
  refine JO_call Try.call141 rfl rfl fun w hw => (Left_c b q d m a (List.Mem.head _) hm1 (by omega) w hw).mono ?_
  rintro e w' ⟨rfl, hw'⟩
  refine ⟨_, rfl, _, hw', ?_⟩
  clear hw' hw w w'
  by_cases hend : 8 * m < a + c
  · repeat (first | (refine sx ?_; try intro _))
    refine JS_ret Try.func136 rfl rfl ?_
    intro w hw
    exact .inl ⟨hend, rfl, hw⟩
  repeat (first | (apply gJR; first | (refine sx ?_; try intro _)) | (apply gJO; first | (refine sx ?_; try intro _)) | apply JS_seq | apply JS_region | refine JS_condF rfl ?_ | refine JS_cond_F rfl (by omega) ?_ | apply JS_skip)
  refine JS_block ?_
  refine JS_loop1 (fun (i : Nat) => [(0, .pointer (some ⟨b, 0, none⟩)), (6, .int .u32 (nbt (bitB B 0) a i)), (18, .int .i64 c), (19, .int .i64 i)]) (fun i => blk b [.slice q m d, .int .i64 (a + i : Nat)] :: H)
    (fun i => i ≤ c) (fun i => c - i) 0 (Nat.zero_le _) (by repeat (first | exact trivial | refine ⟨rfl, ?_⟩ | refine ⟨lookI rfl (by omega), ?_⟩)) (fun _ h => h) ?_
  intro i hi again
  by_cases hic : i < c
  · have hr' : Rd w0 (blk b [.slice q m d, .int .i64 (a + i : Nat)] :: H) (.slice q m d) m (ints .u8 B) := Rd_weak hr fun w hw => St.sub (by repeat (first | exact List.Sublist.refl _ | apply List.Sublist.cons_cons | apply List.Sublist.cons)) hw
    have hb := hB ((a + i) / 8)
    have gi : (ints .u8 B)[(a + i) / 8]? = some (.int .u8 (B.getD ((a + i) / 8) 0)) := ints_get (by omega)
    have hs : min (((a + i : Nat) : Int) % 8).toNat IntKind.u8.bits = (a + i) % 8 := by show min _ 8 = _; omega
    obtain ⟨y, hy⟩ : ∃ y, B.getD ((a + i) / 8) 0 / 2 ^ ((a + i) % 8) = y := ⟨_, rfl⟩
    have hpos : (0 : Int) < 2 ^ ((a + i) % 8) := Int.pow_pos (by decide)
    have hy0 : 0 ≤ y := by rw [← hy]; exact Int.ediv_nonneg hb.1 (Int.le_of_lt hpos)
    have hy1 : y < 256 := by
      rw [← hy]
      exact Int.lt_of_le_of_lt (Int.ediv_le_self _ hb.1) hb.2
    have hz : y % 2 = 0 ∨ y % 2 = 1 := by omega
    have hbt : bitB B 0 (a + i) = y % 2 := by unfold bitB; rw [Nat.zero_add, hy]
    obtain ⟨hn0, hn1⟩ := nbt_bd (bitB B 0) (bitB_01 B 0) a i
    obtain ⟨hp0, hp1⟩ := pw32 i (by omega)
    have hs2 : min ((i : Int)).toNat IntKind.u32.bits = i := by show min _ 32 = _; omega
    have hwr : IntKind.u32.wrap (y % 2 * 2 ^ i) = y % 2 * 2 ^ i := wu32 (by rcases hz with h | h <;> rw [h] <;> omega)
    have hor := or_add_u32 (s := i) (by omega) ⟨hn0, hn1⟩ hz
    repeat (first | (apply gQO; refine QO_v rfl (V_loadC (tb := tb) rfl hr' rfl rfl gi rfl) ?_) | (apply gQO; refine QO_v rfl (V_shr (m := (a + i) % 8) rfl rfl (by omega) hs hy rfl) ?_) | (apply gQO; refine QO_v rfl (V_and rfl rfl (mask1_u8 ⟨hy0, hy1⟩) rfl) ?_) | (apply gQO; refine QO_v rfl (V_shl (m := i) (c := y % 2 * 2 ^ i) rfl rfl (by omega) hs2 hwr rfl) ?_) | (apply gQO; refine QO_v rfl (V_or rfl rfl hor rfl) ?_) | (first | (refine sx ?_; try intro _)))
    refine JS_again1 again (i + 1) (by omega) (by omega) ?_ (fun w hw => hw)
    refine ⟨rfl, ?_, rfl, rfl, trivial⟩
    simp only [nbt, hbt]; rfl
  · obtain rfl : i = c := by omega
    clear again
    repeat (first | (refine sx ?_; try intro _))
    refine JS_ret Try.func136 rfl rfl ?_
    intro w hw
    exact .inr ⟨by omega, rfl, hw⟩
/-- up to the next byte -/
theorem Align_c {w0 : World} {H : List Asn} (b : Nat) (u : Value) (a : Nat) (ha : a ≤ 4611686018427387904) (w : World) (hw : St w0 (blk b [u, .int .i64 a] :: H) w) :
    Calls Try.prog 129 #[.pointer (some ⟨b, 0, none⟩)] w fun e w' => e = .returned (.tuple #[]) ∧ St w0 (blk b [u, .int .i64 (upto8 a : Nat)] :: H) w' := by
  refine enter (vs := [.pointer (some ⟨b, 0, none⟩)]) Try.func129 rfl rfl rfl hw ?_
  repeat (first | (refine sx ?_; try intro _))
  refine JS_fin Try.func129 rfl rfl ?_
  intro w hw
  refine ⟨rfl, ?_⟩
  rwa [show ((a : Int) + 7) / 8 * 8 = (upto8 a : Nat) by unfold upto8; omega] at hw
theorem upto8_le {a m : Nat} (h : a ≤ 8 * m) : upto8 a ≤ 8 * m := by unfold upto8; omega
theorem upto8_8 (a : Nat) : upto8 a % 8 = 0 := by unfold upto8; omega
theorem upto8_up (a : Nat) : upto8 (upto8 a) = upto8 a := by unfold upto8; omega
set_option maxHeartbeats 2000000 in
/-- bytes are read -/
theorem Text_c {w0 : World} {H : List Asn} (b : Nat) (q : Option Addr) (d m : Nat) (B : List Int) (hr : Rd w0 H (.slice q m d) m (ints .u8 B)) (hm : B.length = m) (hB : OKB B) (hm1 : m ≤ 140737488355328) (a n : Nat) (hn : n ≤ 140737488355328) (ha : a ≤ 8 * m) (w : World) (hw : St w0 (blk b [.slice q m d, .int .i64 a] :: H) w) :
    Calls Try.prog 130 #[.pointer (some ⟨b, 0, none⟩), .int .i64 n] w fun e w' =>
      (8 * m < upto8 a + 8 * n ∧ e = .returned (.tuple #[.slice none 0 0, .int .i64 20]) ∧ St w0 (blk b [.slice q m d, .int .i64 (upto8 a : Nat)] :: H) w') ∨
      (upto8 a + 8 * n ≤ 8 * m ∧ ∃ p c, e = .returned (.tuple #[.slice p n c, .int .i64 0]) ∧ St w0 (vec 5 1 (.slice p n c) n (ints .u8 ((B.drop (upto8 a / 8)).take n)) :: blk b [.slice q m d, .int .i64 (upto8 a + 8 * n : Nat)] :: H) w') := by
  have hu := upto8_le ha
  have hu8 := upto8_8 a
  refine enter (vs := [.pointer (some ⟨b, 0, none⟩), .int .i64 n]) Try.func130 rfl rfl rfl hw ?_
  repeat (first | (refine sx ?_; try intro _))
  refine JO_call Try.call129 rfl rfl fun w hw => (Align_c b _ a (by omega) w hw).mono ?_
  rintro e w' ⟨rfl, hw'⟩
  refine ⟨_, rfl, _, hw', ?_⟩
  clear hw' hw w w'
  generalize upto8 a = u at *
  repeat (first | (refine sx ?_; try intro _))
  refine JO_call Try.call141 rfl rfl fun w hw => (Left_c b q d m u (List.Mem.head _) hm1 (by omega) w hw).mono ?_
  rintro e w' ⟨rfl, hw'⟩
  refine ⟨_, rfl, _, hw', ?_⟩
  clear hw' hw w w'
  by_cases hend : 8 * m < u + 8 * n
  · repeat (first | (refine sx ?_; try intro _))
    refine JS_ret Try.func130 rfl rfl ?_
    intro w hw
    exact .inl ⟨hend, rfl, hw⟩
  have hr' : Rd w0 (blk b [.slice q m d, .int .i64 (u + 8 * n : Nat)] :: H) (.slice q m d) m (ints .u8 B) := Rd_weak hr fun w hw => St.sub (by repeat (first | exact List.Sublist.refl _ | apply List.Sublist.cons_cons | apply List.Sublist.cons)) hw
  have hrs := Rd_sub (lo := u / 8) (hi := u / 8 + n) (sz := 1) hr' (by omega) (by omega)
  have hsub : ((ints .u8 B).drop (u / 8 * 1)).take ((u / 8 + n - u / 8) * 1) = ints .u8 ((B.drop (u / 8)).take n) := by
    rw [show u / 8 + n - u / 8 = n by omega, Nat.mul_one, Nat.mul_one, ints_drop, ints_take]
  rw [hsub, show u / 8 + n - u / 8 = n by omega] at hrs
  have hcap : ∀ w, St w0 (blk b [.slice q m d, .int .i64 (u + 8 * n : Nat)] :: H) w → u / 8 + n ≤ d := fun w hw => by
    have := (hr'.lcap hw).1; omega
  have hst : ((u : Int) + 8 * n) = ((u + 8 * n : Nat) : Int) := by omega
  repeat (first | (apply gJO; refine JO_v (V_slice (tb := tb) (lo := u / 8) (hi := u / 8 + n) rfl rfl rfl rfl rfl (by omega) (by omega) (fun w hw => ⟨by omega, hcap w (by rw [← hst]; exact hw)⟩) rfl) ?_) | (first | (refine sx ?_; try intro _)))
  have e3 : u / 8 + n - u / 8 = n := by omega
  simp only [hst, e3]
  have hl : ((B.drop (u / 8)).take n).length = n := by rw [List.length_take, List.length_drop]; omega
  have hok : OKB ((B.drop (u / 8)).take n) := Byt_take (Byt_drop hB _) _
  refine JO_call Try.call35 rfl rfl fun w hw => (Clone_c _ _ n _ hrs hl hok (by omega) (hrs.nil hw) w hw).mono ?_
  rintro e w' ⟨p, c, rfl, hw'⟩
  refine ⟨_, rfl, _, hw', ?_⟩
  clear hw' hw w w'
  repeat (first | (refine sx ?_; try intro _))
  refine JS_ret Try.func130 rfl rfl ?_
  intro w hw
  exact .inr ⟨by omega, p, c, rfl, hw⟩
end Go.Proofs.Ytbiocgenbgbfpaa

namespace Go.Proofs.Ytbiocgenbgbfpaa
open Sx Go
set_option linter.unusedVariables false
set_option linter.unusedSimpArgs false
attribute [local irreducible] syA fc tk cds
/-- what is thrown when a reading is given up -/
def FLT (r : Int) : List PanicEntry := [{ v := .iface 162 (.int .i64 r), recovered := false }]
theorem Give_c {w0 : World} {H : List Asn} (r : Int) (w : World) (hw : St w0 H w) :
    Calls Try.prog 106 #[.int .i64 r] w fun e w' => (r = 0 ∧ e = .returned (.tuple #[]) ∧ St w0 H w') ∨ (r ≠ 0 ∧ e = .panicked (FLT r) ∧ St w0 H w') := by
  refine enter (vs := [.int .i64 r]) Try.func106 rfl rfl rfl hw ?_
  by_cases h : r = 0
  · repeat (first | (refine sx ?_; try intro _))
    refine JS_fin Try.func106 rfl rfl ?_
    intro w hw
    exact .inl ⟨h, rfl, hw⟩
  · repeat (first | (apply gJO; refine JO_v (V_mkI (tb := tb) rfl rfl (by simp) rfl) ?_) | first | (refine sx ?_; try intro _))
    refine JO_panic Try.func106 rfl ?_
    intro a w _ hw
    exact .inr ⟨h, rfl, hw⟩
/-- the reading's memory -/
abbrev infL (bf br : Nat) (q : Option Addr) (d m : Nat) (B : List Int) (lim : Int) (a : Nat) (po : Option Addr) (co : Nat) (o : List Int) (H : List Asn) : List Asn :=
  blk br [.slice q m d, .int .i64 a] :: blk bf [.pointer (some ⟨br, 0, none⟩), .slice po o.length co, .int .i64 lim] :: vec 5 1 (.slice po o.length co) o.length (ints .u8 o) :: vec 5 1 (.slice q m d) m (ints .u8 B) :: H
theorem infL_drop {w0 : World} {w : World} {bf br : Nat} {q : Option Addr} {d m : Nat} {B : List Int} {lim : Int} {a : Nat} {po : Option Addr} {co : Nat} {o : List Int} {H : List Asn} (h : St w0 (infL bf br q d m B lim a po co o H) w) : St w0 H w := h.drop.drop.drop.drop
theorem infL_in {w0 : World} {w : World} {bf br : Nat} {q : Option Addr} {d m : Nat} {B : List Int} {lim : Int} {a : Nat} {po : Option Addr} {co : Nat} {o : List Int} {H : List Asn} {x : Asn} (h : St w0 (x :: infL bf br q d m B lim a po co o H) w) : St w0 (infL bf br q d m B lim a po co o (x :: H)) w :=
  h.perm (List.Perm.trans (List.Perm.swap _ _ _) (List.Perm.cons _ (List.Perm.trans (List.Perm.swap _ _ _) (List.Perm.cons _ (List.Perm.trans (List.Perm.swap _ _ _) (List.Perm.cons _ (List.Perm.swap _ _ _)))))))
theorem infL_out {w0 : World} {w : World} {bf br : Nat} {q : Option Addr} {d m : Nat} {B : List Int} {lim : Int} {a : Nat} {po : Option Addr} {co : Nat} {o : List Int} {H : List Asn} {x : Asn} (h : St w0 (infL bf br q d m B lim a po co o (x :: H)) w) : St w0 (infL bf br q d m B lim a po co o H) w := St.sub (by repeat (first | exact List.Sublist.refl _ | apply List.Sublist.cons_cons | apply List.Sublist.cons)) h
/-- what stays the same all along -/
structure InfK (m : Nat) (B : List Int) (lim : Nat) : Prop where
  hm : B.length = m
  hB : OKB B
  hm1 : m ≤ 140737488355328
  hl : lim ≤ 1048576
theorem pw16 (i : Nat) (h : i ≤ 16) : (1 : Int) ≤ 2 ^ i ∧ (2 : Int) ^ i ≤ 65536 := by
  have : ∀ k : Fin 17, (1 : Int) ≤ 2 ^ k.val ∧ (2 : Int) ^ k.val ≤ 65536 := by decide
  exact this ⟨i, by omega⟩
section
variable {w0 : World} {H : List Asn} {bf br : Nat} {q : Option Addr} {d m : Nat} {B : List Int} {lim : Nat} {po : Option Addr} {co : Nat} {o : List Int}
theorem Grp_c (hK : InfK m B lim) (a c : Nat) (hc : c ≤ 16) (ha : a ≤ 8 * m) (w : World) (hw : St w0 (infL bf br q d m B lim a po co o H) w) :
    Calls Try.prog 105 #[.pointer (some ⟨bf, 0, none⟩), .int .i64 c] w fun e w' => (8 * m < a + c ∧ e = .panicked (FLT 20) ∧ St w0 H w') ∨
      (a + c ≤ 8 * m ∧ e = .returned (.int .i64 (nbt (bitB B 0) a c)) ∧ St w0 (infL bf br q d m B lim (a + c) po co o H) w') := by
  obtain ⟨hn0, hn1⟩ := nbt_bd (bitB B 0) (bitB_01 B 0) a c
  have hp := (pw16 c hc).2
  refine enter (vs := [.pointer (some ⟨bf, 0, none⟩), .int .i64 c]) Try.func105 rfl rfl rfl hw ?_
  repeat (first | (refine sx ?_; try intro _))
  refine JO_call Try.call136 rfl rfl fun w hw => (RGrp_c br q d m B (vec_rd (by repeat (first | apply List.Mem.head | apply List.Mem.tail))) hK.hm hK.hB hK.hm1 a c (by omega) ha w hw).mono ?_
  rintro e w' (⟨h, rfl, hw'⟩ | ⟨h, rfl, hw'⟩)
  · refine ⟨_, rfl, _, hw', ?_⟩
    clear hw' hw w w'
    repeat (first | (refine sx ?_; try intro _))
    refine JO_callE Try.func105 Try.call106 rfl rfl fun A hA w hw => (Give_c 20 w hw).mono ?_
    rintro e w' (⟨h, rfl, hw'⟩ | ⟨_, rfl, hw'⟩)
    · exact absurd h (by decide)
    · exact .inr ⟨_, rfl, .inl ⟨h, rfl, infL_drop hw'⟩⟩
  · refine ⟨_, rfl, _, hw', ?_⟩
    clear hw' hw w w'
    generalize nbt (bitB B 0) a c = x at *
    repeat (first | (refine sx ?_; try intro _))
    refine JO_callE Try.func105 Try.call106 rfl rfl fun A hA w hw => (Give_c 0 w hw).mono ?_
    rintro e w' (⟨_, rfl, hw'⟩ | ⟨h, rfl, hw'⟩)
    · refine .inl ⟨_, rfl, _, hw', ?_⟩
      clear hw' hw w w'
      repeat (first | (refine sx ?_; try intro _))
      refine JS_ret Try.func105 rfl rfl ?_
      intro w hw
      exact .inr ⟨h, rfl, hw⟩
    · exact absurd rfl h
/-- what a symbol's reading does -/
def symP (bt : Nat → Int) (m : Nat) (L : List Int) (a : Nat) (E : Int → Prop) (K : Int → Nat → Prop) : Prop :=
  match symS bt (8 * m) L a with
  | .err r => E r
  | .ok i a1 => 0 ≤ i ∧ i < L.length ∧ a < a1 ∧ a1 ≤ 8 * m ∧ K i a1
theorem Sym_c (hK : InfK m B lim) (a : Nat) (ha : a ≤ 8 * m) (b : Nat) (L : List Int) (hs : IsSet w0 H b L) (w : World) (hw : St w0 (infL bf br q d m B lim a po co o H) w) :
    Calls Try.prog 142 #[.pointer (some ⟨bf, 0, none⟩), .pointer (some ⟨b, 0, none⟩)] w fun e w' =>
      symP (bitB B 0) m L a (fun r => e = .panicked (FLT r) ∧ St w0 H w') (fun i a1 => e = .returned (.int .i64 i) ∧ St w0 (infL bf br q d m B lim a1 po co o H) w') := by
  refine enter (vs := [.pointer (some ⟨bf, 0, none⟩), .pointer (some ⟨b, 0, none⟩)]) Try.func142 rfl rfl rfl hw ?_
  repeat (first | (refine sx ?_; try intro _))
  refine JO_call Try.call149 rfl rfl fun w hw => (Read2_c b br L B (hs.sub (by repeat (first | exact List.Sublist.refl _ | apply List.Sublist.cons))) q d m (vec_rd (by repeat (first | apply List.Mem.head | apply List.Mem.tail))) hK.hm hK.hB hK.hm1 a ha w hw).mono ?_
  rintro e w' ⟨i, u, r, rfl, hw', hu, hrd⟩
  refine ⟨_, rfl, _, hw', ?_⟩
  clear hw' hw w w'
  rw [← bitB_fun] at hrd
  have hsy := symS_of hs.hB hs.hl (bitB_01 B 0) hrd
  by_cases hr : r = 0
  · subst hr
    rw [if_pos rfl] at hsy
    have hi : 0 ≤ i ∧ i < L.length ∧ 0 < u := by
      rcases hrd with ⟨j, rfl, _, ⟨n, hj, h0, hn, _⟩, hu⟩ | ⟨_, _, h | h | ⟨_, _, h | h⟩⟩
      · rw [hu] at hn; omega
      · omega
      · omega
      · omega
      · omega
    repeat (first | (refine sx ?_; try intro _))
    refine JO_callE Try.func142 Try.call106 rfl rfl fun A hA w hw => (Give_c 0 w hw).mono ?_
    rintro e w' (⟨_, rfl, hw'⟩ | ⟨h, rfl, hw'⟩)
    · refine .inl ⟨_, rfl, _, hw', ?_⟩
      clear hw' hw w w'
      repeat (first | (refine sx ?_; try intro _))
      refine JS_ret Try.func142 rfl rfl ?_
      intro w hw
      unfold symP
      rw [hsy]
      exact ⟨hi.1, hi.2.1, by omega, hu, rfl, hw⟩
    · exact absurd rfl h
  · rw [if_neg hr] at hsy
    repeat (first | (refine sx ?_; try intro _))
    refine JO_callE Try.func142 Try.call106 rfl rfl fun A hA w hw => (Give_c r w hw).mono ?_
    rintro e w' (⟨h, rfl, hw'⟩ | ⟨_, rfl, hw'⟩)
    · exact absurd h hr
    · refine .inr ⟨_, rfl, ?_⟩
      show symP _ _ _ _ _ _
      unfold symP
      rw [hsy]
      exact ⟨rfl, infL_drop hw'⟩
/-- bytes are told -/
theorem Tell_c (hK : InfK m B lim) (a : Nat) (u : Option Addr) (cu n : Nat) (X : List Int) (hr : Rd w0 H (.slice u n cu) n (ints .u8 X)) (hX : X.length = n) (ho : o.length ≤ lim) (hn : n ≤ 140737488355328) (w : World) (hw : St w0 (infL bf br q d m B lim a po co o H) w) :
    Calls Try.prog 131 #[.pointer (some ⟨bf, 0, none⟩), .slice u n cu] w fun e w' => ((lim : Int) - o.length < n ∧ e = .panicked (FLT 64) ∧ St w0 H w') ∨
      (¬ (lim : Int) - o.length < n ∧ e = .returned (.tuple #[]) ∧ ∃ po co, St w0 (infL bf br q d m B lim a po co (o ++ X) H) w') := by
  have hl := hK.hl
  refine enter (vs := [.pointer (some ⟨bf, 0, none⟩), .slice u n cu]) Try.func131 rfl rfl rfl hw ?_
  by_cases h : (lim : Int) - o.length < n
  · repeat (first | (refine sx ?_; try intro _))
    refine JO_callE Try.func131 Try.call106 rfl rfl fun A hA w hw => (Give_c 64 w hw).mono ?_
    rintro e w' (⟨h, rfl, hw'⟩ | ⟨_, rfl, hw'⟩)
    · exact absurd h (by decide)
    · exact .inr ⟨_, rfl, .inl ⟨h, rfl, infL_drop hw'⟩⟩
  · repeat (first | (refine sx ?_; try intro _))
    have hr' : Rd w0 (infL bf br q d m B lim a po co o H) (.slice u n cu) n (ints .u8 X) := Rd_weak hr fun w hw => infL_drop hw
    refine JO_app (tb := tb) rfl rfl rfl rfl rfl rfl (by repeat (first | exact Sel.here _ _ | apply Sel.there)) hr' (by rw [ints_len]; omega) (by first | exact ints_one | (repeat (first | exact trivial | refine ⟨rfl, ?_⟩))) (by omega) rfl ?_
    intro p c
    repeat (first | (refine sx ?_; try intro _))
    refine JS_fin Try.func131 rfl rfl ?_
    intro w hw
    refine .inr ⟨h, rfl, p, c, ?_⟩
    unfold infL
    rw [List.length_append, hX, ← ints_app]
    exact hw
end
end Go.Proofs.Ytbiocgenbgbfpaa

namespace Go.Proofs.Ytbiocgenbgbfpaa
open Sx Go
set_option linter.unusedVariables false
set_option linter.unusedSimpArgs false
attribute [local irreducible] syA fc tk cds
def resP (r : Res) (E : Int → Prop) (K : Nat → List Int → Prop) : Prop :=
  match r with
  | .err e => E e
  | .ok a o => K a o
theorem xor16 {n : Nat} (h : n < 65536) : n ^^^ 65535 = 65535 - n := by
  have h1 : (BitVec.ofNat 16 n ^^^ BitVec.allOnes 16).toNat = n ^^^ 65535 := by
    rw [BitVec.toNat_xor, BitVec.toNat_ofNat, Nat.mod_eq_of_lt (by omega)]; rfl
  rw [← h1, BitVec.xor_allOnes, BitVec.toNat_not, BitVec.toNat_ofNat, Nat.mod_eq_of_lt (by omega)]
theorem xor16_i64 {a : Int} (h : 0 ≤ a ∧ a < 65536) : IntKind.i64.wrap ((BitVec.ofInt IntKind.i64.bits a ^^^ BitVec.ofInt IntKind.i64.bits 65535).toNat) = 65535 - a := by
  rw [xor_nat .i64 ⟨h.1, Int.lt_trans h.2 (by decide)⟩ ⟨by omega, by decide⟩, show (65535 : Int).toNat = 65535 from rfl, xor16 (by omega)]
  exact (wi64 (by omega)).trans (by omega)
theorem nbt_byte (B : List Int) (hB : OKB B) (j : Nat) : nbt (bitB B 0) (8 * j) 8 = B.getD j 0 := by
  have h := hB j
  simp only [nbt, bitB, Nat.zero_add]
  have e : ∀ t, t < 8 → (8 * j + t) / 8 = j ∧ (8 * j + t) % 8 = t := fun t ht => by omega
  rw [(e 0 (by omega)).1, (e 0 (by omega)).2, (e 1 (by omega)).1, (e 1 (by omega)).2, (e 2 (by omega)).1, (e 2 (by omega)).2, (e 3 (by omega)).1, (e 3 (by omega)).2, (e 4 (by omega)).1, (e 4 (by omega)).2, (e 5 (by omega)).1, (e 5 (by omega)).2, (e 6 (by omega)).1, (e 6 (by omega)).2, (e 7 (by omega)).1, (e 7 (by omega)).2]
  simp only [Int.reducePow]
  omega
theorem byts_eq (B : List Int) (hB : OKB B) (j n : Nat) (h : j + n ≤ B.length) : byts (bitB B 0) (8 * j) n = (B.drop j).take n := by
  apply List.ext_getElem?
  intro k
  simp only [byts, List.getElem?_map, List.getElem?_take, List.getElem?_drop]
  by_cases hk : k < n
  · rw [List.getElem?_range hk, if_pos hk, Option.map_some, show 8 * j + 8 * k = 8 * (j + k) by omega, nbt_byte B hB]
    rw [List.getD_eq_getElem?_getD, List.getElem?_eq_getElem (by omega)]; rfl
  · rw [if_neg hk, List.getElem?_eq_none (by simp; omega)]; rfl
section
variable {w0 : World} {H : List Asn} {bf br : Nat} {q : Option Addr} {d m : Nat} {B : List Int} {lim : Nat} {po : Option Addr} {co : Nat} {o : List Int}
set_option maxHeartbeats 2000000 in
theorem Sto_c (hK : InfK m B lim) (a : Nat) (ha : a ≤ 8 * m) (ho : o.length ≤ lim) (w : World) (hw : St w0 (infL bf br q d m B lim a po co o H) w) :
    Calls Try.prog 102 #[.pointer (some ⟨bf, 0, none⟩)] w fun e w' => resP (stoF (bitB B 0) (8 * m) lim a o) (fun r => e = .panicked (FLT r) ∧ St w0 H w')
      (fun a' o' => a' ≤ 8 * m ∧ o'.length ≤ lim ∧ e = .returned (.tuple #[]) ∧ ∃ po co, St w0 (infL bf br q d m B lim a' po co o' H) w') := by
  have hl := hK.hl
  have hm1 := hK.hm1
  have hu := upto8_le ha
  have hu8 := upto8_8 a
  refine enter (vs := [.pointer (some ⟨bf, 0, none⟩)]) Try.func102 rfl rfl rfl hw ?_
  repeat (first | (refine sx ?_; try intro _))
  refine JO_call Try.call129 rfl rfl fun w hw => (Align_c br _ a (by omega) w hw).mono ?_
  rintro e w' ⟨rfl, hw'⟩
  refine ⟨_, rfl, _, hw', ?_⟩
  clear hw' hw w w'
  have hS : ∀ r, stoF (bitB B 0) (8 * m) lim a o = r → stoF (bitB B 0) (8 * m) lim a o = r := fun _ h => h
  unfold stoF at hS ⊢
  generalize upto8 a = u at *
  have huu : upto8 (u + 32) = u + 32 := by unfold upto8; omega
  obtain ⟨n, hn⟩ := Int.eq_ofNat_of_zero_le (nbt_bd (bitB B 0) (bitB_01 B 0) u 16).1
  have hn1 := (nbt_bd (bitB B 0) (bitB_01 B 0) u 16).2
  obtain ⟨x, hx⟩ := Int.eq_ofNat_of_zero_le (nbt_bd (bitB B 0) (bitB_01 B 0) (u + 16) 16).1
  have hx1 := (nbt_bd (bitB B 0) (bitB_01 B 0) (u + 16) 16).2
  have hp16 : (2 : Int) ^ 16 = 65536 := by decide
  rw [hn, hp16] at hn1
  rw [hx, hp16] at hx1
  rw [hn, hx]
  repeat (first | (refine sx ?_; try intro _))
  refine JO_callE Try.func102 Try.call105 rfl rfl fun A hA w hw => (Grp_c hK u 16 (by omega) (by omega) w hw).mono ?_
  rintro e w' (⟨h, rfl, hw'⟩ | ⟨h1, he, hw'⟩)
  · refine .inr ⟨_, rfl, ?_⟩
    show resP _ _ _
    rw [if_pos h]; exact ⟨rfl, hw'⟩
  rw [hn] at he; subst he
  refine .inl ⟨_, rfl, _, hw', ?_⟩
  clear hw' hw w w' hA A
  rw [if_neg (by omega)]
  repeat (first | (refine sx ?_; try intro _))
  refine JO_callE Try.func102 Try.call105 rfl rfl fun A hA w hw => (Grp_c hK (u + 16) 16 (by omega) (by omega) w hw).mono ?_
  rintro e w' (⟨h, rfl, hw'⟩ | ⟨h2, he, hw'⟩)
  · refine .inr ⟨_, rfl, ?_⟩
    show resP _ _ _
    rw [if_pos (by omega)]; exact ⟨rfl, hw'⟩
  rw [hx] at he; subst he
  refine .inl ⟨_, rfl, _, hw', ?_⟩
  clear hw' hw w w' hA A
  rw [if_neg (by omega)]
  have hxor := xor16_i64 (a := (n : Int)) ⟨by omega, hn1⟩
  by_cases h3 : (n : Int) + x ≠ 65535
  · repeat (first | (apply gJO; refine JO_v (V_xor rfl rfl hxor rfl) ?_) | first | (refine sx ?_; try intro _))
    refine JO_callE Try.func102 Try.call106 rfl rfl fun A hA w hw => (Give_c 61 w hw).mono ?_
    rintro e w' (⟨h, rfl, hw'⟩ | ⟨_, rfl, hw'⟩)
    · exact absurd h (by decide)
    · refine .inr ⟨_, rfl, ?_⟩
      show resP _ _ _
      rw [if_pos h3]; exact ⟨rfl, infL_drop hw'⟩
  rw [if_neg h3]
  have h3' : (n : Int) + x = 65535 := by omega
  by_cases h4 : (lim : Int) - o.length < n
  · repeat (first | (apply gJO; refine JO_v (V_xor rfl rfl hxor rfl) ?_) | first | (refine sx ?_; try intro _))
    refine JO_callE Try.func102 Try.call106 rfl rfl fun A hA w hw => (Give_c 64 w hw).mono ?_
    rintro e w' (⟨h, rfl, hw'⟩ | ⟨_, rfl, hw'⟩)
    · exact absurd h (by decide)
    · refine .inr ⟨_, rfl, ?_⟩
      show resP _ _ _
      rw [if_pos h4]; exact ⟨rfl, infL_drop hw'⟩
  rw [if_neg h4]
  repeat (first | (apply gJO; refine JO_v (V_xor rfl rfl hxor rfl) ?_) | first | (refine sx ?_; try intro _))
  refine JO_call Try.call130 rfl rfl fun w hw => (Text_c br q d m B (vec_rd (by repeat (first | apply List.Mem.head | apply List.Mem.tail))) hK.hm hK.hB hK.hm1 (u + 16 + 16) n (by omega) (by omega) w hw).mono ?_
  rw [show u + 16 + 16 = u + 32 by omega, huu]
  rintro e w' (⟨h5, rfl, hw'⟩ | ⟨h5, p, c, rfl, hw'⟩)
  · refine ⟨_, rfl, _, hw', ?_⟩
    clear hw' hw w w'
    repeat (first | (refine sx ?_; try intro _))
    refine JO_callE Try.func102 Try.call106 rfl rfl fun A hA w hw => (Give_c 20 w hw).mono ?_
    rintro e w' (⟨h, rfl, hw'⟩ | ⟨_, rfl, hw'⟩)
    · exact absurd h (by decide)
    · refine .inr ⟨_, rfl, ?_⟩
      show resP _ _ _
      rw [if_pos (by omega)]; exact ⟨rfl, infL_drop hw'⟩
  refine ⟨_, rfl, _, hw', ?_⟩
  clear hw' hw w w'
  have hby := byts_eq B hK.hB ((u + 32) / 8) n (by rw [hK.hm]; omega)
  rw [show 8 * ((u + 32) / 8) = u + 32 by omega] at hby
  rw [← hby]
  rw [if_neg (by omega), Int.toNat_natCast]
  repeat (first | (refine sx ?_; try intro _))
  refine JO_callE Try.func102 Try.call106 rfl rfl fun A hA w hw => (Give_c 0 w hw).mono ?_
  rintro e w' (⟨_, rfl, hw'⟩ | ⟨h, rfl, hw'⟩)
  rotate_left
  · exact absurd rfl h
  refine .inl ⟨_, rfl, _, hw', ?_⟩
  clear hw' hw w w' hA A
  repeat (first | (refine sx ?_; try intro _))
  refine JO_callE Try.func102 Try.call131 rfl rfl fun A hA w hw => (Tell_c hK (u + 32 + 8 * n) p c n _ (vec_rd (List.Mem.head _)) (byts_len _ _ _) ho (by omega) w (infL_in hw)).mono ?_
  rintro e w' (⟨h, rfl, hw'⟩ | ⟨_, rfl, p', c', hw'⟩)
  · exact absurd h h4
  refine .inl ⟨_, rfl, _, hw', ?_⟩
  clear hw' hw w w' hA A
  repeat (first | (refine sx ?_; try intro _))
  refine JS_fin Try.func102 rfl rfl ?_
  intro w hw
  refine ⟨h5, ?_, rfl, p', c', infL_out hw⟩
  rw [List.length_append, byts_len]; omega
theorem MakeS_c (p : Option Addr) (c m : Nat) (B : List Int) (hr : Rd w0 H (.slice p m c) m (ints .u8 B)) (hm : B.length = m) (hB : OKB B) (hm1 : m ≤ 140737488355328) (hpm : p = none → m = 0) (w : World) (hw : St w0 H w) :
    Calls Try.prog 17 #[.slice p m c] w fun e w' => ∃ u r, e = .returned (.tuple #[u, .int .i64 r]) ∧
      ((BADL B r ∧ u = .pointer none ∧ St w0 H w') ∨ (OKL B ∧ r = 0 ∧ ∃ b a1 a2 a3, u = .pointer (some ⟨b, 0, none⟩) ∧ IsSet w0 [a1, a2, a3] b B ∧ St w0 (a1 :: a2 :: a3 :: H) w')) := by
  refine (Make_c p c m B hr hm hB hm1 hpm w hw).mono ?_
  rintro e w' ⟨u, r, rfl, h⟩
  refine ⟨u, r, rfl, ?_⟩
  subst hm
  rcases h with ⟨h1, rfl, rfl, h2⟩ | ⟨h1, h15, h2, rfl, rfl, h3⟩ | ⟨h1, h15, h2, rfl, b, q, d, s, k, rfl, h3⟩
  · exact .inl ⟨.inl ⟨h1, rfl⟩, rfl, h2⟩
  · exact .inl ⟨.inr ⟨h1, h15, fun h => h2 ((fine_iff B hB h15).2 h), rfl⟩, rfl, h3⟩
  · refine .inr ⟨⟨h1, h15, (fine_iff B hB h15).1 h2⟩, rfl, b, _, _, _, rfl, ⟨⟨q, d, s, k, (by repeat (first | apply List.Mem.head | apply List.Mem.tail)), vec_rd (by repeat (first | apply List.Mem.head | apply List.Mem.tail)), vec_rd (by repeat (first | apply List.Mem.head | apply List.Mem.tail))⟩, hB, ⟨h1, h15, (fine_iff B hB h15).1 h2⟩⟩, h3⟩
/-- a set is made -/
theorem Made_c (p : Option Addr) (c n : Nat) (L : List Int) (hr : Rd w0 H (.slice p n c) n (ints .u8 L)) (hL : L.length = n) (hB : OKB L) (hn : n ≤ 140737488355328) (w : World) (hw : St w0 H w) :
    Calls Try.prog 133 #[.slice p n c] w fun e w' => (¬ OKL L ∧ e = .panicked (FLT 62) ∧ St w0 H w') ∨ (OKL L ∧ ∃ b a1 a2 a3, e = .returned (.pointer (some ⟨b, 0, none⟩)) ∧ IsSet w0 [a1, a2, a3] b L ∧ St w0 (a1 :: a2 :: a3 :: H) w') := by
  refine enter (vs := [.slice p n c]) Try.func133 rfl rfl rfl hw ?_
  repeat (first | (refine sx ?_; try intro _))
  refine JO_call Try.call17 rfl rfl fun w hw => (MakeS_c p c n L hr hL hB hn (hr.nil hw) w hw).mono ?_
  rintro e w' ⟨u, r, rfl, h⟩
  rcases h with ⟨hbad, rfl, hw'⟩ | ⟨hok, rfl, b, a1, a2, a3, rfl, hs, hw'⟩
  · refine ⟨_, rfl, _, hw', ?_⟩
    clear hw' hw w w'
    have hr0 := hbad.pos
    repeat (first | (refine sx ?_; try intro _))
    refine JO_callE Try.func133 Try.call106 rfl rfl fun A hA w hw => (Give_c 62 w hw).mono ?_
    rintro e w' (⟨h, rfl, hw'⟩ | ⟨_, rfl, hw'⟩)
    · exact absurd h (by decide)
    · exact .inr ⟨_, rfl, .inl ⟨hbad.not, rfl, hw'⟩⟩
  · refine ⟨_, rfl, _, hw', ?_⟩
    clear hw' hw w w'
    repeat (first | (refine sx ?_; try intro _))
    refine JS_ret Try.func133 rfl rfl ?_
    intro w hw
    exact .inr ⟨hok, b, a1, a2, a3, rfl, hs, hw⟩
set_option maxRecDepth 10000 in
set_option maxHeartbeats 4000000 in
/-- bytes from so far back, again -/
theorem Again_c (hK : InfK m B lim) (a len bk : Nat) (hbk : 0 < bk) (ho : o.length ≤ lim) (hlen : len ≤ 1000) (hbk2 : bk ≤ 100000) (w : World) (hw : St w0 (infL bf br q d m B lim a po co o H) w) :
    Calls Try.prog 143 #[.pointer (some ⟨bf, 0, none⟩), .int .i64 len, .int .i64 bk] w fun e w' => (o.length < bk ∧ e = .panicked (FLT 63) ∧ St w0 H w') ∨ (bk ≤ o.length ∧ (lim : Int) - o.length < len ∧ e = .panicked (FLT 64) ∧ St w0 H w') ∨
      (bk ≤ o.length ∧ ¬ (lim : Int) - o.length < len ∧ e = .returned (.tuple #[]) ∧ ∃ po co, St w0 (infL bf br q d m B lim a po co (cpy o bk len) H) w') := by
  have hl := hK.hl
  refine enter (vs := [.pointer (some ⟨bf, 0, none⟩), .int .i64 len, .int .i64 bk]) Try.func143 rfl rfl rfl hw ?_
  by_cases h1 : o.length < bk
  · repeat (first | (refine sx ?_; try intro _))
    refine JO_callE Try.func143 Try.call106 rfl rfl fun A hA w hw => (Give_c 63 w hw).mono ?_
    rintro e w' (⟨h, rfl, hw'⟩ | ⟨_, rfl, hw'⟩)
    · exact absurd h (by decide)
    · exact .inr ⟨_, rfl, .inl ⟨h1, rfl, infL_drop hw'⟩⟩
  by_cases h2 : (lim : Int) - o.length < len
  · repeat (first | (refine sx ?_; try intro _))
    refine JO_callE Try.func143 Try.call106 rfl rfl fun A hA w hw => (Give_c 64 w hw).mono ?_
    rintro e w' (⟨h, rfl, hw'⟩ | ⟨_, rfl, hw'⟩)
    · exact absurd h (by decide)
    · exact .inr ⟨_, rfl, .inr (.inl ⟨by omega, h2, rfl, infL_drop hw'⟩)⟩
  repeat (first | (apply gJR; first | (refine sx ?_; try intro _)) | (apply gJO; first | (refine sx ?_; try intro _)) | (apply gQR; first | (refine sx ?_; try intro _)) | (apply gQO; first | (refine sx ?_; try intro _)) | apply JS_seq | apply JS_region | refine JS_draw [] (by kernel_rfl) (by kernel_rfl) (by decide +kernel) ?_ | refine JS_condF rfl ?_ | refine JS_cond_F rfl (by omega) ?_ | apply JS_skip)
  refine JS_block ?_
  refine JS_loop3 (fun (i : Nat) (p : Option Addr) (c : Nat) => [(0, .pointer (some ⟨bf, 0, none⟩)), (2, .int .i64 bk), (27, .int .i64 len), (28, .int .i64 i)]) (fun i p c => infL bf br q d m B lim a p c (cpy o bk i) H)
    (fun i _ _ => i ≤ len) (fun i _ _ => len - i) 0 po co (Nat.zero_le _) (by repeat (first | exact trivial | refine ⟨rfl, ?_⟩ | refine ⟨lookI rfl (by omega), ?_⟩)) (fun _ h => h) ?_
  intro i p c hi again
  have hcl := cpy_len o bk i
  by_cases hil : i < len
  · have hcs : cpy o bk (i + 1) = cpy o bk i ++ [(cpy o bk i).getD ((cpy o bk i).length - bk) 0] := rfl
    generalize cpy o bk i = L at *
    have gi : (ints .u8 L)[L.length - bk]? = some (.int .u8 (L.getD (L.length - bk) 0)) := ints_get (by omega)
    generalize L.getD (L.length - bk) 0 = x at *
    repeat (first | (apply gQO; first | refine QO_v rfl (V_index (tb := tb) (j := L.length - bk) rfl rfl rfl rfl (Rd.sl (vec_rd (by repeat (first | apply List.Mem.head | apply List.Mem.tail)))) (by omega) (by omega) rfl) ?_ | refine QO_v rfl (V_loadC (tb := tb) rfl (vec_rd (by repeat (first | apply List.Mem.head | apply List.Mem.tail))) rfl rfl gi rfl) ?_ | (refine QO_e (E_buildSlice (tb := tb) rfl rfl rfl rfl rfl rfl rfl rfl rfl) rfl (.inr fun _ _ hw => St.sub (by repeat (first | exact List.Sublist.refl _ | apply List.Sublist.cons_cons | apply List.Sublist.cons)) hw) ?_; intro _) | (refine QO_e (E_appendB (tb := tb) rfl rfl rfl rfl rfl rfl (by repeat (first | exact Sel.here _ _ | apply Sel.there)) (by first | exact vec_rd (by repeat (first | apply List.Mem.head | apply List.Mem.tail)) | assumption | exact ArgRd.rd (by assumption) _ | (apply Rd_weak; assumption; intro _ hx; exact St.sub (by repeat (first | exact List.Sublist.refl _ | apply List.Sublist.cons_cons | apply List.Sublist.cons)) hx)) (by simp only [ints_len, List.length_cons, List.length_nil]; first | omega | rfl) (by first | exact ints_one | (repeat (first | exact trivial | refine ⟨rfl, ?_⟩))) (by omega) (by omega) rfl) rfl (.inr fun _ _ hw => vecB_back (by repeat (first | exact Sel.here _ _ | apply Sel.there)) hw) ?_; intro _)) | (first | (refine sx ?_; try intro _)))
    rename_i p1 c1
    exact JS_again3 again (i + 1) c1.1 c1.2 (by omega) (by omega) (by exact ⟨rfl, rfl, rfl, rfl, trivial⟩) (fun w hw => by rw [hcs]; unfold infL; rw [show (L ++ [x]).length = L.length + 1 by simp, ← ints_app1]; have g := vecB_fwd (by repeat (first | exact Sel.here _ _ | apply Sel.there)) hw; exact St.sub (by repeat (first | exact List.Sublist.refl _ | apply List.Sublist.cons_cons | apply List.Sublist.cons)) g)
  · obtain rfl : i = len := by omega
    clear again
    repeat (first | (refine sx ?_; try intro _))
    refine JS_fin Try.func143 rfl rfl ?_
    intro w hw
    exact .inr (.inr ⟨by omega, h2, rfl, p, c, hw⟩)
end
end Go.Proofs.Ytbiocgenbgbfpaa

namespace Go.Proofs.Ytbiocgenbgbfpaa
open Sx Go
set_option linter.unusedVariables false
set_option linter.unusedSimpArgs false
attribute [local irreducible] syA fc tk cds pack bms
set_option maxHeartbeats 2000000 in
/-- a literal's or length's symbol -/
theorem WLit_c {w0 : World} {H : List Asn} (b : Nat) (L : List Int) (q : Option Addr) (d : Nat) (u : Value) (u' : Value) (p1 p3 : Option Addr) (c1 c3 m1 : Nat) (B A : List Int) (hrB : Rd w0 H (.slice p1 m1 c1) m1 (ints .u8 B)) (hrA : Rd w0 H (.slice p3 m1 c3) m1 (ints .u32 A)) (hB : B.length = m1) (hA : A.length = m1)
    (k x : Nat) (hk : k < m1) (hx : B.getD k 0 = x) (hx15 : x ≤ 15) (hAk : 0 ≤ A.getD k 0 ∧ A.getD k 0 < 2 ^ x) (hL : ∀ j, L.getD j 0 = 0 ∨ L.getD j 0 = 1) (hl : L.length ≤ 70368744177600) (w : World)
    (hw : St w0 (wtA b L q d [.slice p1 m1 c1, u, .slice p3 m1 c3, u'] :: wrV L q d :: H) w) :
    Calls Try.prog 84 #[.pointer (some ⟨b, 0, none⟩), .int .i64 k] w fun e w' => e = .returned (.tuple #[]) ∧ ∃ q d, St w0 (wtA b (L ++ bms (A.getD k 0) x) q d [.slice p1 m1 c1, u, .slice p3 m1 c3, u'] :: wrV (L ++ bms (A.getD k 0) x) q d :: H) w' := by
  refine enter (vs := [.pointer (some ⟨b, 0, none⟩), .int .i64 k]) Try.func84 rfl rfl rfl hw ?_
  have gB : (ints .u8 B)[k]? = some (.int .u8 x) := by rw [← hx]; exact ints_get (by omega)
  have gA : (ints .u32 A)[k]? = some (.int .u32 (A.getD k 0)) := ints_get (by omega)
  have hrB' : Rd w0 (wtA b L q d [.slice p1 m1 c1, u, .slice p3 m1 c3, u'] :: wrV L q d :: H) (.slice p1 m1 c1) m1 (ints .u8 B) := Rd_weak hrB fun w hw => St.sub (by repeat (first | exact List.Sublist.refl _ | apply List.Sublist.cons_cons | apply List.Sublist.cons)) hw
  have hrA' : Rd w0 (wtA b L q d [.slice p1 m1 c1, u, .slice p3 m1 c3, u'] :: wrV L q d :: H) (.slice p3 m1 c3) m1 (ints .u32 A) := Rd_weak hrA fun w hw => St.sub (by repeat (first | exact List.Sublist.refl _ | apply List.Sublist.cons_cons | apply List.Sublist.cons)) hw
  have hpw : (2 : Int) ^ x ≤ 32768 := by
    have h : ∀ k : Fin 16, (2 : Int) ^ k.val ≤ 32768 := by decide
    exact h ⟨x, by omega⟩
  repeat (first | (apply gQO; refine QO_v rfl (V_loadC (tb := tb) rfl hrB' rfl rfl gB rfl) ?_) | (apply gQO; refine QO_v rfl (V_loadC (tb := tb) rfl hrA' rfl rfl gA rfl) ?_) | (first | (refine sx ?_; try intro _)))
  refine QO_call Try.call78 rfl rfl fun w hw => (WCodeT_c b L q d (A.getD k 0) x (by omega) hAk (by omega) hL hl w hw).mono ?_
  rintro e w' ⟨rfl, q2, d2, hw'⟩
  refine ⟨_, rfl, _, hw', .inr rfl, ?_⟩
  clear hw' hw w w'
  repeat (first | (refine sx ?_; try intro _))
  refine JS_fin Try.func84 rfl rfl (vs := []) ?_
  intro w hw
  exact ⟨rfl, q2, d2, hw⟩
set_option maxHeartbeats 2000000 in
/-- a span's symbol -/
theorem WSpan_c {w0 : World} {H : List Asn} (b : Nat) (L : List Int) (q : Option Addr) (d : Nat) (u : Value) (u' : Value) (p1 p3 : Option Addr) (c1 c3 m1 : Nat) (B A : List Int) (hrB : Rd w0 H (.slice p1 m1 c1) m1 (ints .u8 B)) (hrA : Rd w0 H (.slice p3 m1 c3) m1 (ints .u32 A)) (hB : B.length = m1) (hA : A.length = m1)
    (k x : Nat) (hk : k < m1) (hx : B.getD k 0 = x) (hx15 : x ≤ 15) (hAk : 0 ≤ A.getD k 0 ∧ A.getD k 0 < 2 ^ x) (hL : ∀ j, L.getD j 0 = 0 ∨ L.getD j 0 = 1) (hl : L.length ≤ 70368744177600) (w : World)
    (hw : St w0 (wtA b L q d [u, .slice p1 m1 c1, u', .slice p3 m1 c3] :: wrV L q d :: H) w) :
    Calls Try.prog 125 #[.pointer (some ⟨b, 0, none⟩), .int .i64 k] w fun e w' => e = .returned (.tuple #[]) ∧ ∃ q d, St w0 (wtA b (L ++ bms (A.getD k 0) x) q d [u, .slice p1 m1 c1, u', .slice p3 m1 c3] :: wrV (L ++ bms (A.getD k 0) x) q d :: H) w' := by
  refine enter (vs := [.pointer (some ⟨b, 0, none⟩), .int .i64 k]) Try.func125 rfl rfl rfl hw ?_
  have gB : (ints .u8 B)[k]? = some (.int .u8 x) := by rw [← hx]; exact ints_get (by omega)
  have gA : (ints .u32 A)[k]? = some (.int .u32 (A.getD k 0)) := ints_get (by omega)
  have hrB' : Rd w0 (wtA b L q d [u, .slice p1 m1 c1, u', .slice p3 m1 c3] :: wrV L q d :: H) (.slice p1 m1 c1) m1 (ints .u8 B) := Rd_weak hrB fun w hw => St.sub (by repeat (first | exact List.Sublist.refl _ | apply List.Sublist.cons_cons | apply List.Sublist.cons)) hw
  have hrA' : Rd w0 (wtA b L q d [u, .slice p1 m1 c1, u', .slice p3 m1 c3] :: wrV L q d :: H) (.slice p3 m1 c3) m1 (ints .u32 A) := Rd_weak hrA fun w hw => St.sub (by repeat (first | exact List.Sublist.refl _ | apply List.Sublist.cons_cons | apply List.Sublist.cons)) hw
  have hpw : (2 : Int) ^ x ≤ 32768 := by
    have h : ∀ k : Fin 16, (2 : Int) ^ k.val ≤ 32768 := by decide
    exact h ⟨x, by omega⟩
  repeat (first | (apply gQO; refine QO_v rfl (V_loadC (tb := tb) rfl hrB' rfl rfl gB rfl) ?_) | (apply gQO; refine QO_v rfl (V_loadC (tb := tb) rfl hrA' rfl rfl gA rfl) ?_) | (first | (refine sx ?_; try intro _)))
  refine QO_call Try.call78 rfl rfl fun w hw => (WCodeT_c b L q d (A.getD k 0) x (by omega) hAk (by omega) hL hl w hw).mono ?_
  rintro e w' ⟨rfl, q2, d2, hw'⟩
  refine ⟨_, rfl, _, hw', .inr rfl, ?_⟩
  clear hw' hw w w'
  repeat (first | (refine sx ?_; try intro _))
  refine JS_fin Try.func125 rfl rfl (vs := []) ?_
  intro w hw
  exact ⟨rfl, q2, d2, hw⟩

/-- the codes of lengths that are a set's -/
theorem FCodes_c {w0 : World} {H : List Asn} (p : Option Addr) (c m : Nat) (B : List Int) (hr : Rd w0 H (.slice p m c) m (ints .u8 B)) (hm : B.length = m) (hB : OKB B) (hok : OKL B) (hpm : p = none → m = 0) (w : World) (hw : St w0 H w) :
    Calls Try.prog 82 #[.slice p m c] w fun e w' => ∃ p c, e = .returned (.slice p m c) ∧ St w0 (vec 91 1 (.slice p m c) m (ints .u32 (cds B 16 0)) :: H) w' := by
  have h320 := hok.1
  refine enter (vs := [.slice p m c]) Try.func82 rfl rfl rfl hw ?_
  repeat (first | (refine sx ?_; try intro _))
  refine JO_call Try.call17 rfl rfl fun w hw => (MakeS_c p c m B hr hm hB (by omega) hpm w hw).mono ?_
  rintro e w' ⟨u, r, rfl, ⟨h, _⟩ | ⟨_, rfl, b, a1, a2, a3, rfl, hs, hw'⟩⟩
  · exact absurd hok h.not
  refine ⟨_, rfl, _, hw', ?_⟩
  clear hw' hw w w'
  repeat (first | (refine sx ?_; try intro _))
  refine JO_call Try.call79 rfl rfl fun w hw => (Codes2_c b m B hm (hs.sub ((((List.nil_sublist H).cons_cons a3).cons_cons a2).cons_cons a1)) w hw).mono ?_
  rintro e w' ⟨p2, c2, rfl, hw'⟩
  refine ⟨_, rfl, _, hw', ?_⟩
  clear hw' hw w w'
  repeat (first | (refine sx ?_; try intro _))
  refine JS_ret Try.func82 rfl rfl ?_
  intro w hw
  exact ⟨_, _, rfl, St.sub (by repeat (first | exact List.Sublist.refl _ | apply List.Sublist.cons_cons | apply List.Sublist.cons)) hw⟩
end Go.Proofs.Ytbiocgenbgbfpaa

namespace Go.Proofs.Ytbiocgenbgbfpaa
open Sx Go
set_option linter.unusedVariables false
set_option linter.unusedSimpArgs false
/-! the writer of a fixed block -/
def fxB : List Int := tab 288 fixF
def fxC : List Int := cds fxB 16 0
def spB : List Int := List.replicate 32 5
def spC : List Int := cds spB 16 0
theorem fxB_len : fxB.length = 288 := tab_len _ _
theorem fxC_len : fxC.length = 288 := (cds_len _ _ _).trans fxB_len
theorem spB_len : spB.length = 32 := List.length_replicate
theorem spC_len : spC.length = 32 := (cds_len _ _ _).trans spB_len
theorem fxB_get (k : Nat) (hk : k < 288) : fxB.getD k 0 = fixF k := by
  unfold fxB tab
  rw [List.getD_eq_getElem?_getD, List.getElem?_map, List.getElem?_range hk]; rfl
theorem fx_at (k : Nat) (hk : k < 288) : ∃ x : Nat, fxB.getD k 0 = x ∧ 7 ≤ x ∧ x ≤ 9 ∧ 0 ≤ fxC.getD k 0 ∧ fxC.getD k 0 < 2 ^ x := by
  have hg := fxB_get k hk
  obtain ⟨x, hx, h7, h9⟩ : ∃ x : Nat, fixF k = x ∧ 7 ≤ x ∧ x ≤ 9 := by
    unfold fixF
    split
    · exact ⟨8, rfl, by omega, by omega⟩
    · split
      · exact ⟨9, rfl, by omega, by omega⟩
      · split
        · exact ⟨7, rfl, by omega, by omega⟩
        · exact ⟨8, rfl, by omega, by omega⟩
  rw [hx] at hg
  have h := cd_lt fxB fix_okb fix_okl k x (by rw [fxB_len]; exact hk) (by omega) hg
  have hc : fxC.getD k 0 = cd fxB k := by
    unfold fxC
    rw [cds_get fxB fix_okl.2.1 k (by rw [fxB_len]; exact hk), if_pos (by omega)]
  exact ⟨x, hg, h7, h9, by rw [hc]; exact h.1, by rw [hc]; exact h.2⟩
theorem sp_at (k : Nat) (hk : k < 32) : spB.getD k 0 = (5 : Nat) ∧ 0 ≤ spC.getD k 0 ∧ spC.getD k 0 < 2 ^ 5 := by
  have hg : spB.getD k 0 = (5 : Nat) := by
    unfold spB
    rw [List.getD_eq_getElem?_getD, List.getElem?_replicate, if_pos hk]; rfl
  have h := cd_lt spB spans_okb spans_okl k 5 (by rw [spB_len]; exact hk) (by omega) hg
  have hc : spC.getD k 0 = cd spB k := by
    unfold spC
    rw [cds_get spB spans_okl.2.1 k (by rw [spB_len]; exact hk), if_pos (by omega)]
  exact ⟨hg, by rw [hc]; exact h.1, by rw [hc]; exact h.2⟩
attribute [irreducible] fxB fxC spB spC
/-- the bits of a literal's or length's symbol, and of a span's -/
def fxS (k : Nat) : List Int := bms (fxC.getD k 0) (fxB.getD k 0).toNat
def spS (k : Nat) : List Int := bms (spC.getD k 0) 5
theorem fxS_len (k : Nat) (hk : k < 288) : 7 ≤ (fxS k).length ∧ (fxS k).length ≤ 9 := by
  obtain ⟨x, h1, h2, h3, _⟩ := fx_at k hk
  unfold fxS bms
  rw [h1, List.length_map, List.length_range]; omega
abbrev fwL (b : Nat) (L : List Int) (q : Option Addr) (d : Nat) (pl ps pa pb : Option Addr) (cl cs ca cb : Nat) (H : List Asn) : List Asn :=
  wtA b L q d [.slice pl 288 cl, .slice ps 32 cs, .slice pa 288 ca, .slice pb 32 cb] :: wrV L q d :: vec 5 1 (.slice pl 288 cl) 288 (ints .u8 fxB) :: vec 5 1 (.slice ps 32 cs) 32 (ints .u8 spB) ::
    vec 91 1 (.slice pa 288 ca) 288 (ints .u32 fxC) :: vec 91 1 (.slice pb 32 cb) 32 (ints .u32 spC) :: H
section
variable {w0 : World} {H : List Asn} {b : Nat} {L : List Int} {q : Option Addr} {d : Nat} {pl ps pa pb : Option Addr} {cl cs ca cb : Nat}
theorem FLit_c (k : Nat) (hk : k < 288) (hL : ∀ j, L.getD j 0 = 0 ∨ L.getD j 0 = 1) (hl : L.length ≤ 70368744177600) (w : World) (hw : St w0 (fwL b L q d pl ps pa pb cl cs ca cb H) w) :
    Calls Try.prog 84 #[.pointer (some ⟨b, 0, none⟩), .int .i64 k] w fun e w' => e = .returned (.tuple #[]) ∧ ∃ q d, St w0 (fwL b (L ++ fxS k) q d pl ps pa pb cl cs ca cb H) w' := by
  obtain ⟨x, h1, h7, h9, hc⟩ := fx_at k hk
  unfold fxS
  rw [h1, Int.toNat_natCast]
  exact WLit_c b L q d _ _ pl pa cl ca 288 fxB fxC (vec_rd (by repeat (first | apply List.Mem.head | apply List.Mem.tail))) (vec_rd (by repeat (first | apply List.Mem.head | apply List.Mem.tail))) fxB_len fxC_len k x hk h1 (by omega) hc hL hl w hw
theorem FSpan_c (k : Nat) (hk : k < 32) (hL : ∀ j, L.getD j 0 = 0 ∨ L.getD j 0 = 1) (hl : L.length ≤ 70368744177600) (w : World) (hw : St w0 (fwL b L q d pl ps pa pb cl cs ca cb H) w) :
    Calls Try.prog 125 #[.pointer (some ⟨b, 0, none⟩), .int .i64 k] w fun e w' => e = .returned (.tuple #[]) ∧ ∃ q d, St w0 (fwL b (L ++ spS k) q d pl ps pa pb cl cs ca cb H) w' := by
  obtain ⟨h1, hc⟩ := sp_at k hk
  unfold spS
  exact WSpan_c b L q d _ _ ps pb cs cb 32 spB spC (vec_rd (by repeat (first | apply List.Mem.head | apply List.Mem.tail))) (vec_rd (by repeat (first | apply List.Mem.head | apply List.Mem.tail))) spB_len spC_len k 5 hk h1 (by omega) hc hL hl w hw
/-- a token that is a byte -/
theorem Tok0_c (x : Nat) (hx : x < 256) (hL : ∀ j, L.getD j 0 = 0 ∨ L.getD j 0 = 1) (hl : L.length ≤ 70368744177600) (w : World) (hw : St w0 (fwL b L q d pl ps pa pb cl cs ca cb H) w) :
    Calls Try.prog 83 #[.pointer (some ⟨b, 0, none⟩), .agg #[.int .u8 x, .int .i64 0, .int .i64 0]] w fun e w' => e = .returned (.tuple #[]) ∧ ∃ q d, St w0 (fwL b (L ++ fxS x) q d pl ps pa pb cl cs ca cb H) w' := by
  refine enter (vs := [.pointer (some ⟨b, 0, none⟩), .agg #[.int .u8 x, .int .i64 0, .int .i64 0]]) Try.func83 rfl rfl rfl hw ?_
  repeat (first | (refine sx ?_; try intro _))
  rename_i bx
  refine JO_call Try.call84 rfl rfl fun w hw => (FLit_c x (by omega) hL hl w hw.drop).mono ?_
  rintro e w' ⟨rfl, q2, d2, hw'⟩
  refine ⟨_, rfl, _, hw', ?_⟩
  clear hw' hw w w'
  repeat (first | (refine sx ?_; try intro _))
  refine JS_ret Try.func83 rfl rfl fun w hw => ⟨rfl, q2, d2, hw⟩
end
end Go.Proofs.Ytbiocgenbgbfpaa

set_option linter.unusedVariables false
set_option linter.unusedSimpArgs false
namespace Go.Proofs.Ytbiocgenbgbfpaa
open Sx Go
/-! ## what stood there already: plain laws -/
/-- how many bytes are the same from two places on, at most so many -/
def sam (B : List Int) (i k : Nat) : Nat → Nat
  | 0 => 0
  | f + 1 => if k < B.length ∧ B.getD i 0 = B.getD k 0 then 1 + sam B (i + 1) (k + 1) f else 0
theorem sam_le (B : List Int) : ∀ (f i k : Nat), sam B i k f ≤ f
  | 0, _, _ => Nat.le_refl _
  | f + 1, i, k => by
    rw [sam]
    split
    · have := sam_le B f (i + 1) (k + 1); omega
    · omega
theorem sam_len (B : List Int) : ∀ (f i k : Nat), k ≤ B.length → k + sam B i k f ≤ B.length
  | 0, _, _, h => h
  | f + 1, i, k, h => by
    rw [sam]
    split
    · rename_i hc
      have := sam_len B f (i + 1) (k + 1) (by omega); omega
    · omega
/-- the token's length and distance: from the newest place on, a greater one only -/
def bst (B : List Int) (at_ : Nat) : Nat → Nat × Nat → Nat × Nat
  | 0, s => s
  | i + 1, s => if 32768 < at_ - i then s else bst B at_ i (if s.1 < sam B i at_ 258 then (sam B i at_ 258, at_ - i) else s)
/-- the same over places in a list, the newest first -/
def pst (B : List Int) (at_ : Nat) : List Nat → Nat × Nat → Nat × Nat
  | [], s => s
  | i :: r, s => if 32768 < at_ - i then s else if (if s.1 < sam B i at_ 258 then (sam B i at_ 258, at_ - i) else s).1 = 258 then (if s.1 < sam B i at_ 258 then (sam B i at_ 258, at_ - i) else s) else pst B at_ r (if s.1 < sam B i at_ 258 then (sam B i at_ 258, at_ - i) else s)
/-- three bytes from a place on -/
abbrev K3 := Int × Int × Int
def k3 (B : List Int) (i : Nat) : K3 := (B.getD i 0, B.getD (i + 1) 0, B.getD (i + 2) 0)
theorem sam_3 (B : List Int) (i k f : Nat) (hk : k + 3 ≤ B.length) : 3 ≤ sam B i k (f + 3) ↔ k3 B i = k3 B k := by
  rw [sam, sam, sam]
  unfold k3
  simp only [Prod.mk.injEq]
  by_cases h0 : B.getD i 0 = B.getD k 0
  · rw [if_pos ⟨by omega, h0⟩]
    by_cases h1 : B.getD (i + 1) 0 = B.getD (k + 1) 0
    · rw [if_pos ⟨by omega, h1⟩]
      by_cases h2 : B.getD (i + 1 + 1) 0 = B.getD (k + 1 + 1) 0
      · rw [if_pos ⟨by omega, h2⟩]
        exact ⟨fun _ => ⟨h0, h1, h2⟩, fun _ => by omega⟩
      · rw [if_neg (fun h => h2 h.2)]
        exact ⟨fun h => by omega, fun h => absurd h.2.2 h2⟩
    · rw [if_neg (fun h => h1 h.2)]
      exact ⟨fun h => by omega, fun h => absurd h.2.1 h1⟩
  · rw [if_neg (fun h => h0 h.2)]
    exact ⟨fun h => by omega, fun h => absurd h.1 h0⟩
theorem sam_short (B : List Int) (i k f : Nat) (hk : B.length < k + 3) : sam B i k f < 3 := by
  rcases Nat.lt_or_ge B.length k with h | h
  · cases f with
    | zero => simp [sam]
    | succ f => rw [sam, if_neg (by omega)]; omega
  · have := sam_len B f i k h; omega
/-- places with these three bytes, before a place; the oldest first -/
def plc (B : List Int) (at_ : Nat) (x : K3) : List Nat := (List.range at_).filter fun i => decide (i + 3 ≤ B.length ∧ k3 B i = x)
theorem plc_lt {B : List Int} {at_ : Nat} {x : K3} {i : Nat} (h : i ∈ plc B at_ x) : i < at_ := by
  unfold plc at h; simp at h; exact h.1
theorem plc_0 (B : List Int) (x : K3) : plc B 0 x = [] := rfl
theorem plc_s (B : List Int) (at_ : Nat) (x : K3) : plc B (at_ + 1) x = if at_ + 3 ≤ B.length ∧ k3 B at_ = x then plc B at_ x ++ [at_] else plc B at_ x := by
  unfold plc
  rw [List.range_succ, List.filter_append]
  split
  · rename_i h; rw [List.filter_cons_of_pos (by simpa using h), List.filter_nil]
  · rename_i h; rw [List.filter_cons_of_neg (by simpa using h), List.filter_nil, List.append_nil]
theorem pst_stop (B : List Int) (at_ : Nat) : ∀ (l : List Nat) (s : Nat × Nat), s.1 = 258 → pst B at_ l s = s
  | [], s, h => rfl
  | i :: r, s, h => by
    have hs := sam_le B 258 i at_
    unfold pst
    rw [if_neg (by omega : ¬ s.1 < sam B i at_ 258)]
    split
    · rfl
    · rfl
theorem bst_stop (B : List Int) (at_ : Nat) : ∀ (i : Nat) (s : Nat × Nat), s.1 = 258 → bst B at_ i s = s
  | 0, s, h => rfl
  | i + 1, s, h => by
    have hs := sam_le B 258 i at_
    unfold bst
    rw [if_neg (by omega : ¬ s.1 < sam B i at_ 258)]
    split
    · rfl
    · exact bst_stop B at_ i s h
theorem pst_far (B : List Int) (at_ : Nat) : ∀ (l : List Nat) (s : Nat × Nat), (∀ i ∈ l, 32768 < at_ - i) → pst B at_ l s = s
  | [], s, h => rfl
  | i :: r, s, h => by
    unfold pst
    rw [if_pos (h i (by simp))]
theorem bst_le (B : List Int) (at_ : Nat) : ∀ (i : Nat) (s : Nat × Nat), s.1 ≤ (bst B at_ i s).1
  | 0, s => Nat.le_refl _
  | i + 1, s => by
    unfold bst
    split
    · exact Nat.le_refl _
    · split
      · exact Nat.le_trans (Nat.le_of_lt (by assumption)) (bst_le B at_ i _)
      · exact bst_le B at_ i s
/-- the places of the same three bytes are enough -/
theorem bst_pst (B : List Int) (at_ : Nat) (h3 : at_ + 3 ≤ B.length) : ∀ (i : Nat), i ≤ at_ → ∀ s p : Nat × Nat, (s.1 < 3 ∧ p = (0, 0)) ∨ (s = p ∧ 3 ≤ s.1) →
    ((bst B at_ i s).1 < 3 ∧ pst B at_ (plc B i (k3 B at_)).reverse p = (0, 0)) ∨ (bst B at_ i s = pst B at_ (plc B i (k3 B at_)).reverse p ∧ 3 ≤ (bst B at_ i s).1)
  | 0, _, s, p, h => by rw [plc_0]; exact h
  | i + 1, hi, s, p, h => by
    have hl := sam_le B 258 i at_
    have h3i : 3 ≤ sam B i at_ 258 ↔ k3 B i = k3 B at_ := sam_3 B i at_ 255 h3
    have hfar : 32768 < at_ - i → pst B at_ (plc B (i + 1) (k3 B at_)).reverse p = p := fun hf => pst_far B at_ _ _ fun j hj => by
      have := plc_lt (List.mem_reverse.1 hj); omega
    by_cases hf : 32768 < at_ - i
    · rw [hfar hf, bst, if_pos hf]; exact h
    · rw [bst, if_neg hf]
      by_cases hk : k3 B i = k3 B at_
      · have ep : plc B (i + 1) (k3 B at_) = plc B i (k3 B at_) ++ [i] := by rw [plc_s, if_pos ⟨by omega, hk⟩]
        rw [ep, List.reverse_append, List.reverse_singleton, List.singleton_append, pst, if_neg hf]
        have hs3 := h3i.2 hk
        have hsp : (if s.1 < sam B i at_ 258 then (sam B i at_ 258, at_ - i) else s) = (if p.1 < sam B i at_ 258 then (sam B i at_ 258, at_ - i) else p) ∧ 3 ≤ (if s.1 < sam B i at_ 258 then (sam B i at_ 258, at_ - i) else s).1 := by
          rcases h with ⟨h1, rfl⟩ | ⟨rfl, h1⟩
          · rw [if_pos (by omega), if_pos (by show 0 < _; omega)]
            exact ⟨rfl, hs3⟩
          · refine ⟨rfl, ?_⟩
            split <;> first | omega | (show 3 ≤ sam B i at_ 258; omega)
        rw [← hsp.1]
        obtain ⟨u, hu⟩ : ∃ u, (if s.1 < sam B i at_ 258 then (sam B i at_ 258, at_ - i) else s) = u := ⟨_, rfl⟩
        rw [hu] at hsp ⊢
        by_cases h258 : u.1 = 258
        · rw [if_pos h258, bst_stop B at_ i u h258]
          exact .inr ⟨rfl, hsp.2⟩
        · rw [if_neg h258]
          exact bst_pst B at_ h3 i (by omega) u u (.inr ⟨rfl, hsp.2⟩)
      · have ep : plc B (i + 1) (k3 B at_) = plc B i (k3 B at_) := by rw [plc_s, if_neg (fun h => hk h.2)]
        rw [ep]
        have hlt : sam B i at_ 258 < 3 := by
          rcases Nat.lt_or_ge (sam B i at_ 258) 3 with h' | h'
          · exact h'
          · exact absurd (h3i.1 h') hk
        refine bst_pst B at_ h3 i (by omega) _ p ?_
        rcases h with ⟨h1, h2⟩ | ⟨h1, h2⟩
        · left
          refine ⟨?_, h2⟩
          split <;> first | omega | (show sam B i at_ 258 < 3; omega)
        · rw [if_neg (by omega)]
          exact .inr ⟨h1, h2⟩
theorem bst_short (B : List Int) (at_ : Nat) (h3 : B.length < at_ + 3) : ∀ (i : Nat) (s : Nat × Nat), s.1 < 3 → (bst B at_ i s).1 < 3
  | 0, s, h => h
  | i + 1, s, h => by
    have := sam_short B i at_ 258 h3
    unfold bst
    split
    · exact h
    · refine bst_short B at_ h3 i _ ?_
      split <;> first | omega | (show sam B i at_ 258 < 3; omega)
/-- the token at a place -/
def tok (B : List Int) (at_ : Nat) : Int × Nat × Nat :=
  if (bst B at_ at_ (0, 0)).1 < 3 then (B.getD at_ 0, 0, 0) else (0, (bst B at_ at_ (0, 0)).1, (bst B at_ at_ (0, 0)).2)
theorem tok_far (B : List Int) (at_ : Nat) (h3 : at_ + 3 ≤ B.length) : tok B at_ = if pst B at_ (plc B at_ (k3 B at_)).reverse (0, 0) = (0, 0) then (B.getD at_ 0, 0, 0) else (0, (pst B at_ (plc B at_ (k3 B at_)).reverse (0, 0)).1, (pst B at_ (plc B at_ (k3 B at_)).reverse (0, 0)).2) := by
  unfold tok
  rcases bst_pst B at_ h3 at_ (Nat.le_refl _) (0, 0) (0, 0) (.inl ⟨by decide, rfl⟩) with ⟨h1, h2⟩ | ⟨h1, h2⟩
  · rw [if_pos h1, if_pos h2]
  · rw [if_neg (by omega), ← h1, if_neg (fun h => by rw [h] at h2; simp at h2)]
theorem tok_near (B : List Int) (at_ : Nat) (h3 : B.length < at_ + 3) : tok B at_ = (B.getD at_ 0, 0, 0) := by
  unfold tok
  rw [if_pos (bst_short B at_ h3 at_ (0, 0) (by decide))]
theorem bst_bd (B : List Int) (at_ : Nat) (ha : at_ ≤ B.length) : ∀ (i : Nat), i ≤ at_ → ∀ s : Nat × Nat, (s.1 ≤ 258 ∧ at_ + s.1 ≤ B.length ∧ (0 < s.1 → 0 < s.2 ∧ s.2 ≤ at_ ∧ s.2 ≤ 32768)) →
    (bst B at_ i s).1 ≤ 258 ∧ at_ + (bst B at_ i s).1 ≤ B.length ∧ (0 < (bst B at_ i s).1 → 0 < (bst B at_ i s).2 ∧ (bst B at_ i s).2 ≤ at_ ∧ (bst B at_ i s).2 ≤ 32768)
  | 0, _, s, h => h
  | i + 1, hi, s, h => by
    have h1 := sam_le B 258 i at_
    have h2 := sam_len B 258 i at_ ha
    unfold bst
    split
    · exact h
    · refine bst_bd B at_ ha i (by omega) _ ?_
      split
      · exact ⟨h1, h2, fun _ => by omega⟩
      · exact h
theorem tok_bd (B : List Int) (at_ : Nat) (ha : at_ < B.length) : (tok B at_ = (B.getD at_ 0, 0, 0)) ∨ (∃ n d, tok B at_ = (0, n, d) ∧ 3 ≤ n ∧ n ≤ 258 ∧ at_ + n ≤ B.length ∧ 1 ≤ d ∧ d ≤ at_ ∧ d ≤ 32768) := by
  obtain ⟨h1, h2, h3⟩ := bst_bd B at_ (by omega) at_ (Nat.le_refl _) (0, 0) ⟨by omega, by omega, fun h => absurd h (by simp)⟩
  unfold tok
  split
  · exact .inl rfl
  · exact .inr ⟨_, _, rfl, by omega, h1, h2, by omega, by omega, by omega⟩
/-- all tokens from a place on -/
def toks (B : List Int) : Nat → Nat → List (Int × Nat × Nat)
  | 0, _ => []
  | f + 1, at_ => if at_ < B.length then tok B at_ :: toks B f (at_ + max 1 (tok B at_).2.1) else []
theorem toks_fuel (B : List Int) : ∀ (f g at_ : Nat), B.length - at_ ≤ f → B.length - at_ ≤ g → toks B f at_ = toks B g at_
  | 0, 0, _, _, _ => rfl
  | 0, g + 1, at_, h, _ => by rw [toks, toks, if_neg (by omega)]
  | f + 1, 0, at_, _, h => by rw [toks, toks, if_neg (by omega)]
  | f + 1, g + 1, at_, hf, hg => by
    rw [toks, toks]
    split
    · rw [toks_fuel B f g _ (by omega) (by omega)]
    · rfl
/-- the cells of tokens -/
def tkv (l : List (Int × Nat × Nat)) : List Value := l.flatMap fun t => [.int .u8 t.1, .int .i64 t.2.1, .int .i64 t.2.2]
theorem tkv_app (l : List (Int × Nat × Nat)) (t : Int × Nat × Nat) : tkv (l ++ [t]) = tkv l ++ [.int .u8 t.1, .int .i64 t.2.1, .int .i64 t.2.2] := by
  unfold tkv; simp
theorem tkv_len (l : List (Int × Nat × Nat)) : (tkv l).length = l.length * 3 := by
  unfold tkv
  induction l with
  | nil => rfl
  | cons t l ih => rw [List.flatMap_cons, List.length_append, ih]; simp; omega
end Go.Proofs.Ytbiocgenbgbfpaa

namespace Sx
open Go
/-- block b holds a map -/
@[irreducible] def mapA (b : Nat) (es : Array MapEntry) (clock : Nat) : Asn where
  holds w fp := fp = [b] ∧ w.heap[b]? = some (.map es clock)
  frame w w' fp h hk := ⟨h.1, by rw [hk b (by simp [h.1])]; exact h.2⟩
  live w fp h b' hb := by
    obtain ⟨rfl, hT⟩ := h
    simp at hb; subst hb
    exact (Array.getElem?_eq_some_iff.1 hT).1
theorem mapA_holds {b es clock w fp} : (mapA b es clock).holds w fp ↔ fp = [b] ∧ w.heap[b]? = some (.map es clock) := by unfold mapA; exact Iff.rfl
theorem St.newMap {w0 H w} (h : St w0 H w) : St w0 (mapA w.heap.size #[] 0 :: H) (w.alloc (.map #[] 0)) := by
  refine St.step («as» := []) (bs := [mapA w.heap.size #[] 0]) h rfl rfl rfl (by simp) ?_
  intro f1 hf _ _
  simp [All] at hf
  subst hf
  refine ⟨fun b hb _ => heap_alloc_old w _ hb, [w.heap.size], by simp, by simp, [w.heap.size], [], by simp, mapA_holds.2 ⟨rfl, heap_alloc_new w _⟩, rfl⟩
section
variable {P : Program} {f n : Nat} {R : Ending → World → Prop} {D : List Deferred} {w0 : World} {k : List Item} {ov : Ov} {H : List Asn}
  {ops : Array Oper} {l : List Oper} {d : Option Nat} {T : Nat} {pos : String} {af : Array Edge} {g : Option (Nat × Bool)}
theorem kMm {t : Nat} {r : Option Operand} (h : JO P f n R D w0 ops ⟨d, .makeMap t r, T, pos, af, g⟩ l k ov H) : JO P f n R D w0 ops ⟨d, .makeMap t r, T, pos, af, g⟩ l k ov H := h
theorem JO_makeMap {t : Nat} (hd : dOk d n = true) (hn : ∀ b, JR P f n R D w0 ops l k (put d (.map (some b)) ov) (mapA b #[] 0 :: H)) : JO P f n R D w0 ops ⟨d, .makeMap t none, T, pos, af, g⟩ l k ov H :=
  JO_step fun a w ha hw => ⟨.map (some w.heap.size), w.alloc (.map #[] 0), by simp [execOp, RowKit.run_makeMap], hd, _, hw.newMap, hn w.heap.size⟩
end
end Sx

set_option linter.unusedVariables false
set_option linter.unusedSimpArgs false
namespace Sx
open Go
/-! maps: entries in a list, in the order in which they came -/
def isKey (P : Program) (k : TypeId) (v : Value) : Prop := ∃ l, keyOf P k v = some l
/-- what the operations need of a key's type -/
structure KeyT (P : Program) (k : TypeId) : Prop where
  check : ∀ (w : World) (em : Bool) {v : Value}, isKey P k v → (Instr.checkKey em 10000 k v).run P w = .ok () w
  find : ∀ (w : World) {x : Value}, isKey P k x → ∀ es : List MapEntry, (∀ e ∈ es, isKey P k e.key) →
    ((Instr.findKey k x es).run P w = .ok none w ∧ ∀ e ∈ es, e.key ≠ x) ∨ ∃ j e, (Instr.findKey k x es).run P w = .ok (some (j, e.val)) w ∧ es[j]? = some e ∧ e.key = x
  stays : ∀ (w : World) {v : Value}, isKey P k v → (Instr.keyThatStays v v).run P w = .ok v w
theorem KeyT.of {P : Program} {k : TypeId} (K : Maps.Keyed P k) : KeyT P k :=
  ⟨fun w em _ ⟨_, h⟩ => K.check w em h, fun w _ ⟨_, h⟩ es hes => K.find w h es hes, fun w _ ⟨_, h⟩ => K.stays w h⟩
structure MOk (P : Program) (k : TypeId) (es : List MapEntry) (clock : Nat) : Prop where
  key : ∀ e ∈ es, isKey P k e.key
  nodup : (es.map (·.key)).Nodup
  lt : ∀ e ∈ es, e.born < clock
  born : (es.map (·.born)).Nodup
theorem MOk.nil {P : Program} {k : TypeId} {clock : Nat} : MOk P k [] clock := ⟨by simp, by simp, by simp, by simp⟩
theorem MOk.push {P : Program} {k : TypeId} {es : List MapEntry} {clock : Nat} (h : MOk P k es clock) {key v : Value} (hk : isKey P k key) (hn : ∀ e ∈ es, e.key ≠ key) : MOk P k (es ++ [⟨key, v, clock⟩]) (clock + 1) := by
  refine ⟨?_, ?_, ?_, ?_⟩
  · intro e he
    rcases List.mem_append.1 he with he | he
    · exact h.key e he
    · simp at he; subst he; exact hk
  · rw [List.map_append, List.map_cons, List.map_nil]
    refine List.nodup_append.2 ⟨h.nodup, by simp, fun a ha b hb e => ?_⟩
    simp only [List.mem_singleton] at hb
    obtain ⟨x, hx, rfl⟩ := List.mem_map.1 ha
    exact hn x hx (e.trans hb)
  · intro e he
    rcases List.mem_append.1 he with he | he
    · have := h.lt e he; omega
    · simp at he; subst he; simp
  · rw [List.map_append, List.map_cons, List.map_nil]
    refine List.nodup_append.2 ⟨h.born, by simp, fun a ha b hb e => ?_⟩
    simp only [List.mem_singleton] at hb
    obtain ⟨x, hx, rfl⟩ := List.mem_map.1 ha
    have := h.lt x hx
    omega
theorem MOk.setv {P : Program} {k : TypeId} {A B : List MapEntry} {e : MapEntry} {clock : Nat} (h : MOk P k (A ++ e :: B) clock) (v : Value) : MOk P k (A ++ { e with val := v } :: B) clock := by
  refine ⟨?_, ?_, ?_, ?_⟩
  · intro x hx
    rcases List.mem_append.1 hx with hx | hx
    · exact h.key x (List.mem_append_left _ hx)
    · rcases List.mem_cons.1 hx with rfl | hx
      · exact h.key e (by simp)
      · exact h.key x (by simp [hx])
  · have := h.nodup
    simpa using this
  · intro x hx
    rcases List.mem_append.1 hx with hx | hx
    · exact h.lt x (List.mem_append_left _ hx)
    · rcases List.mem_cons.1 hx with rfl | hx
      · exact h.lt e (by simp)
      · exact h.lt x (by simp [hx])
  · have := h.born
    simpa using this
theorem key_inj : ∀ {es : List MapEntry}, (es.map (·.key)).Nodup → ∀ {x y : MapEntry}, x ∈ es → y ∈ es → x.key = y.key → x = y
  | [], _, _, _, hx, _, _ => absurd hx (by simp)
  | e :: r, h, x, y, hx, hy, hk => by
    rw [List.map_cons, List.nodup_cons] at h
    rcases List.mem_cons.1 hx with hx | hx <;> rcases List.mem_cons.1 hy with hy | hy
    · rw [hx, hy]
    · rw [hx] at hk; exact absurd (List.mem_map.2 ⟨y, hy, hk.symm⟩) h.1
    · rw [hy] at hk; exact absurd (List.mem_map.2 ⟨x, hx, hk⟩) h.1
    · exact key_inj h.2 hx hy hk
/-- a block holds a map of these entries -/
abbrev mapL (b : Nat) (es : List MapEntry) (clock : Nat) : Asn := mapA b es.toArray clock
theorem St.map_get {w0 H w b es clock} (h : St w0 H w) (hm : mapL b es clock ∈ H) : w.heap[b]? = some (.map es.toArray clock) := by
  obtain ⟨f, hf⟩ := h.mem hm
  exact (mapA_holds.1 hf).2
theorem St.map_put {w0 H w b es clock} {F : Asn → List Asn} (es' : List MapEntry) (clock' : Nat) (h : St w0 H w) (hu : Sel H (mapL b es clock) F) : St w0 (F (mapL b es' clock')) { w with heap := w.heap.setIfInBounds b (.map es'.toArray clock') } := by
  refine h.upd (hu.upd _) rfl rfl rfl (by simp) ?_
  intro f1 hf
  obtain ⟨rfl, hb⟩ := mapA_holds.1 hf
  have hs := MapKept.heap_set (o' := .map es'.toArray clock') hb
  exact ⟨fun b' _ hb' => hs.2 b' (by simpa using hb'), [b], by simp, by simp, mapA_holds.2 ⟨rfl, hs.1⟩⟩
section
variable {P : Program} {n : Nat} {D : List Deferred} {w0 : World} {ov : Ov} {H : List Asn}
  {d : Option Nat} {T : Nat} {pos : String} {af : Array Edge} {g : Option (Nat × Bool)} {x y y2 : Operand} {tb : Tb P} {t k e : TypeId} {s1 b1 : Nat} {z1 : Option (List Value)} {b clock : Nat} {es : List MapEntry} {key v : Value}
theorem KeyT.found (K : KeyT P k) (w : World) (hM : MOk P k es clock) {e0 : MapEntry} (he : e0 ∈ es) : ∃ j, (Instr.findKey k e0.key es).run P w = .ok (some (j, e0.val)) w ∧ es[j]? = some e0 := by
  rcases K.find w (hM.key e0 he) es hM.key with ⟨_, h⟩ | ⟨j, e1, h1, h2, h3⟩
  · exact absurd rfl (h e0 he)
  · have : e1 = e0 := key_inj hM.nodup (List.mem_of_getElem? h2) he h3
    subst this
    exact ⟨j, h1, h2⟩
theorem KeyT.missed (K : KeyT P k) (w : World) (hM : MOk P k es clock) (hk : isKey P k key) (hn : ∀ e ∈ es, e.key ≠ key) : (Instr.findKey k key es).run P w = .ok none w := by
  rcases K.find w hk es hM.key with ⟨h, _⟩ | ⟨j, e1, h1, h2, h3⟩
  · exact h
  · exact absurd h3 (hn e1 (List.mem_of_getElem? h2))
theorem V_lookupT (K : KeyT P k) (h : tlook tb.l t = some ⟨.map k e, s1, b1, z1⟩) (hx : ev ov x = some (.map (some b))) (hy : ev ov y = some key) (hb : mapL b es clock ∈ H) (hM : MOk P k es clock) {e0 : MapEntry} (he : e0 ∈ es) (hk : e0.key = key) (hd : dOk d n = true) :
    OpV P n D w0 ov H ⟨d, .lookup t x y false, T, pos, af, g⟩ e0.val := by
  unfold OpV
  refine ⟨hd, fun a w ha hw => ?_⟩
  subst hk
  obtain ⟨j, h1, h2⟩ := K.found w hM he
  simp [execOp, ha.ev hx, ha.ev hy, Instr.lookup, run_underlying (und_map h), MapKept.run_getObj_map (hw.map_get hb), K.check w _ (hM.key e0 he), h1]
theorem V_lookupF (K : KeyT P k) (h : tlook tb.l t = some ⟨.map k e, s1, b1, z1⟩) (hx : ev ov x = some (.map (some b))) (hy : ev ov y = some key) (hb : mapL b es clock ∈ H) (hM : MOk P k es clock) (hkey : isKey P k key) (hn : ∀ e ∈ es, e.key ≠ key) (hz : ∀ w, (zeroValue e).run P w = .ok v w) (hd : dOk d n = true) :
    OpV P n D w0 ov H ⟨d, .lookup t x y false, T, pos, af, g⟩ v := by
  unfold OpV
  refine ⟨hd, fun a w ha hw => ?_⟩
  have h1 := K.missed w hM hkey hn
  simp [execOp, ha.ev hx, ha.ev hy, Instr.lookup, run_underlying (und_map h), MapKept.run_getObj_map (hw.map_get hb), K.check w _ hkey, h1, hz]
theorem V_lookupTk (K : KeyT P k) (h : tlook tb.l t = some ⟨.map k e, s1, b1, z1⟩) (hx : ev ov x = some (.map (some b))) (hy : ev ov y = some key) (hb : mapL b es clock ∈ H) (hM : MOk P k es clock) {e0 : MapEntry} (he : e0 ∈ es) (hk : e0.key = key) (hd : dOk d n = true) :
    OpV P n D w0 ov H ⟨d, .lookup t x y true, T, pos, af, g⟩ (.tuple #[e0.val, .bool true]) := by
  unfold OpV
  refine ⟨hd, fun a w ha hw => ?_⟩
  subst hk
  obtain ⟨j, h1, h2⟩ := K.found w hM he
  simp [execOp, ha.ev hx, ha.ev hy, Instr.lookup, run_underlying (und_map h), MapKept.run_getObj_map (hw.map_get hb), K.check w _ (hM.key e0 he), h1]
theorem V_lookupFk (K : KeyT P k) (h : tlook tb.l t = some ⟨.map k e, s1, b1, z1⟩) (hx : ev ov x = some (.map (some b))) (hy : ev ov y = some key) (hb : mapL b es clock ∈ H) (hM : MOk P k es clock) (hkey : isKey P k key) (hn : ∀ e ∈ es, e.key ≠ key) (hz : ∀ w, (zeroValue e).run P w = .ok v w) (hd : dOk d n = true) :
    OpV P n D w0 ov H ⟨d, .lookup t x y true, T, pos, af, g⟩ (.tuple #[v, .bool false]) := by
  unfold OpV
  refine ⟨hd, fun a w ha hw => ?_⟩
  have h1 := K.missed w hM hkey hn
  simp [execOp, ha.ev hx, ha.ev hy, Instr.lookup, run_underlying (und_map h), MapKept.run_getObj_map (hw.map_get hb), K.check w _ hkey, h1, hz]
theorem setIf_same {w : World} {o : Obj} (hb : w.heap[b]? = some o) : { w with heap := w.heap.setIfInBounds b o } = w := by
  have hlt := (Array.getElem?_eq_some_iff.1 hb).1
  have : w.heap.setIfInBounds b o = w.heap := by
    apply Array.ext_getElem?
    intro i
    by_cases hi : b = i
    · subst hi
      rw [Array.getElem?_setIfInBounds_self_of_lt hlt, hb]
    · rw [Array.getElem?_setIfInBounds_ne hi]
  rw [this]
/-- an entry that is there: nothing changes -/
theorem E_entryT (K : KeyT P k) (h : tlook tb.l t = some ⟨.map k e, s1, b1, z1⟩) (hx : ev ov x = some (.map (some b))) (hy : ev ov y = some key) (hb : mapL b es clock ∈ H) (hM : MOk P k es clock) {e0 : MapEntry} (he : e0 ∈ es) (hk : e0.key = key) (hd : dOk d n = true) :
    OpE (ι := Unit) P n D w0 ov H ⟨d, .mapEntry t x y, T, pos, af, g⟩ (fun _ => .tuple #[e0.val, .int .i64 e0.born]) (fun _ => H) := by
  unfold OpE
  refine ⟨hd, fun a w ha hw => ?_⟩
  subst hk
  obtain ⟨j, h1, h2⟩ := K.found w hM he
  have hg := hw.map_get hb
  have hj : es.toArray[j]? = some e0 := by simpa using h2
  have hsame : es.modify j (fun e => { e with key := e0.key }) = es := by
    rw [ChangeMaps.modify_eq_set _ _ _ _ h2]
    exact WideElems.set_self _ _ _ h2
  refine ⟨(), w, ?_, hw⟩
  have hs := setIf_same hg
  simp [execOp, ha.ev hx, ha.ev hy, Instr.mapEntry, run_underlying (und_map h), MapKept.run_getObj_map hg, K.check w _ (hM.key e0 he), h1, hj, h2, K.stays w (hM.key e0 he), MapKept.run_setObj_map _ hg, goInt]
  rw [hsame] ; exact hs
/-- a new entry -/
theorem E_entryF {F : Asn → List Asn} (K : KeyT P k) (h : tlook tb.l t = some ⟨.map k e, s1, b1, z1⟩) (hx : ev ov x = some (.map (some b))) (hy : ev ov y = some key) (hu : Sel H (mapL b es clock) F) (hM : MOk P k es clock) (hkey : isKey P k key) (hn : ∀ e ∈ es, e.key ≠ key) (hz : ∀ w, (zeroValue e).run P w = .ok v w) (hd : dOk d n = true) :
    OpE (ι := Unit) P n D w0 ov H ⟨d, .mapEntry t x y, T, pos, af, g⟩ (fun _ => .tuple #[v, .int .i64 clock]) (fun _ => F (mapL b (es ++ [⟨key, v, clock⟩]) (clock + 1))) := by
  unfold OpE
  refine ⟨hd, fun a w ha hw => ?_⟩
  have h1 := K.missed w hM hkey hn
  have hg := hw.map_get hu.mem
  refine ⟨(), _, ?_, hw.map_put (es ++ [⟨key, v, clock⟩]) (clock + 1) hu⟩
  simp [execOp, ha.ev hx, ha.ev hy, Instr.mapEntry, run_underlying (und_map h), MapKept.run_getObj_map hg, K.check w _ hkey, h1, hz, MapKept.run_setObj_map _ hg, goInt]
/-- the value of an entry is set -/
theorem K_entryStore {F : Asn → List Asn} {A B : List MapEntry} {e0 : MapEntry} (hx : ev ov x = some (.map (some b))) (hy : ev ov y = some (.int .i64 e0.born)) (hv : ev ov y2 = some v) (hu : Sel H (mapL b (A ++ e0 :: B) clock) F) (hM : MOk P k (A ++ e0 :: B) clock) (hd : dOk d n = true) :
    OpK P n D w0 ov H ⟨d, .entryStore t x y y2, T, pos, af, g⟩ (F (mapL b (A ++ { e0 with val := v } :: B) clock)) := by
  unfold OpK
  refine ⟨hd, fun a w ha hw => ?_⟩
  have hg := hw.map_get hu.mem
  refine ⟨_, ?_, hw.map_put (A ++ { e0 with val := v } :: B) clock hu⟩
  have hj : (A ++ e0 :: B)[A.length]? = some e0 := by simp
  have hidx : (A ++ e0 :: B).toArray.findIdx? (fun e => ((e.born : Nat) : Int) == ((e0.born : Nat) : Int)) = some A.length := by
    rw [WideElems.findIdx_arr]
    exact WideElems.findIdx_born hM.born hj
  have hmod : (A ++ e0 :: B).toArray.modify A.length (fun e => { e with val := v }) = (A ++ { e0 with val := v } :: B).toArray := by
    apply Array.ext'
    rw [Array.toList_modify, ChangeMaps.modify_eq_set _ _ _ _ hj]
    simp
  simp [execOp, ha.ev hx, ha.ev hy, ha.ev hv, Instr.entryStore, MapKept.run_getObj_map hg, asInt, asIntOf, hidx, hmod, MapKept.run_setObj_map _ hg]
/-- m[key] = v, key there -/
theorem K_mapUpdateT {F : Asn → List Asn} {A B : List MapEntry} {e0 : MapEntry} (K : KeyT P k) (h : tlook tb.l t = some ⟨.map k e, s1, b1, z1⟩) (hx : ev ov x = some (.map (some b))) (hy : ev ov y = some e0.key) (hv : ev ov y2 = some v) (hu : Sel H (mapL b (A ++ e0 :: B) clock) F) (hM : MOk P k (A ++ e0 :: B) clock) (hd : dOk d n = true) :
    OpK P n D w0 ov H ⟨d, .mapUpdate t x y y2, T, pos, af, g⟩ (F (mapL b (A ++ { e0 with val := v } :: B) clock)) := by
  unfold OpK
  refine ⟨hd, fun a w ha hw => ?_⟩
  have hg := hw.map_get hu.mem
  have he : e0 ∈ A ++ e0 :: B := by simp
  obtain ⟨j, h1, h2⟩ := K.found w hM he
  refine ⟨_, ?_, hw.map_put (A ++ { e0 with val := v } :: B) clock hu⟩
  have hj : (A ++ e0 :: B).toArray[j]? = some e0 := by simpa using h2
  have hjA : j = A.length := by
    have hn := hM.born
    have hA : (A ++ e0 :: B)[A.length]? = some e0 := by simp
    have i1 := WideElems.findIdx_born hn h2
    have i2 := WideElems.findIdx_born hn hA
    rw [i1] at i2
    simpa using i2
  have hmod : (A ++ e0 :: B).modify j (fun e => { e with key := e0.key, val := v }) = A ++ { e0 with val := v } :: B := by
    rw [ChangeMaps.modify_eq_set _ _ _ _ h2, hjA]
    simp
  have hj' : (A ++ e0 :: B)[j]? = some e0 := h2
  simp [-List.append_toArray, -List.push_append_toArray, execOp, ha.ev hx, ha.ev hy, ha.ev hv, Instr.mapUpdate, run_underlying (und_map h), MapKept.run_getObj_map hg, K.check w _ (hM.key e0 he), h1, hj', K.stays w (hM.key e0 he), MapKept.run_setObj_map _ hg]
  rw [hmod]
theorem K_mapUpdateF {F : Asn → List Asn} (K : KeyT P k) (h : tlook tb.l t = some ⟨.map k e, s1, b1, z1⟩) (hx : ev ov x = some (.map (some b))) (hy : ev ov y = some key) (hv : ev ov y2 = some v) (hu : Sel H (mapL b es clock) F) (hM : MOk P k es clock) (hkey : isKey P k key) (hn : ∀ e ∈ es, e.key ≠ key) (hd : dOk d n = true) :
    OpK P n D w0 ov H ⟨d, .mapUpdate t x y y2, T, pos, af, g⟩ (F (mapL b (es ++ [⟨key, v, clock⟩]) (clock + 1))) := by
  unfold OpK
  refine ⟨hd, fun a w ha hw => ?_⟩
  have h1 := K.missed w hM hkey hn
  have hg := hw.map_get hu.mem
  refine ⟨_, ?_, hw.map_put (es ++ [⟨key, v, clock⟩]) (clock + 1) hu⟩
  simp [execOp, ha.ev hx, ha.ev hy, ha.ev hv, Instr.mapUpdate, run_underlying (und_map h), MapKept.run_getObj_map hg, K.check w _ hkey, h1, MapKept.run_setObj_map _ hg]
/-- a slice's cells as an array behind a pointer -/
theorem V_arrayAt {a : Option Addr} {m c q e : Nat} (hx : ev ov x = some (.slice a m c)) (h : tlook tb.l t = some ⟨.arr q e, s1, b1, z1⟩) (hq : q ≤ m) (hd : dOk d n = true) :
    OpV P n D w0 ov H ⟨d, .sliceToArrayPointer t x, T, pos, af, g⟩ (.pointer a) := by
  unfold OpV
  refine ⟨hd, fun A w ha hw => ?_⟩
  simp [execOp, ha.ev hx, Instr.arrayAt, run_underlying (und_arr h), Nat.not_lt.2 hq]
end
/-! many assertions as one -/
@[irreducible] def bigA (l : List Asn) : Asn where
  holds w fp := All l w fp ∧ fp.Nodup
  frame w w' fp h hk := ⟨h.1.frame hk, h.2⟩
  live w fp h := h.1.live
theorem bigA_holds {l w fp} : (bigA l).holds w fp ↔ All l w fp ∧ fp.Nodup := by unfold bigA; exact Iff.rfl
theorem All_append {w : World} : ∀ {A B : List Asn} {fp}, All (A ++ B) w fp ↔ ∃ f1 f2, fp = f1 ++ f2 ∧ All A w f1 ∧ All B w f2
  | [], B, fp => by
    constructor
    · intro h; exact ⟨[], fp, rfl, rfl, h⟩
    · rintro ⟨f1, f2, rfl, h1, h2⟩; simp [All] at h1; subst h1; exact h2
  | a :: A, B, fp => by
    constructor
    · rintro ⟨f1, f2, rfl, h1, h2⟩
      obtain ⟨g1, g2, rfl, h3, h4⟩ := All_append.1 h2
      exact ⟨f1 ++ g1, g2, by simp, ⟨f1, g1, rfl, h1, h3⟩, h4⟩
    · rintro ⟨f1, f2, rfl, ⟨g1, g2, rfl, h1, h2⟩, h3⟩
      exact ⟨g1, g2 ++ f2, by simp, h1, All_append.2 ⟨g2, f2, rfl, h2, h3⟩⟩
theorem St.unbig {w0 : World} {l H : List Asn} {w : World} (h : St w0 (bigA l :: H) w) : St w0 (l ++ H) w := by
  refine h.step («as» := [bigA l]) (bs := l) rfl rfl rfl (Nat.le_refl _) fun f1 hf hn _ => ?_
  obtain ⟨g1, g2, rfl, hg, hnil⟩ := hf
  simp [All] at hnil
  subst hnil
  rw [List.append_nil] at hn ⊢
  exact ⟨fun _ _ _ => rfl, g1, hn, fun _ hb => .inl hb, (bigA_holds.1 hg).1⟩
theorem St.big {w0 : World} {l H : List Asn} {w : World} (h : St w0 (l ++ H) w) : St w0 (bigA l :: H) w := by
  refine h.step («as» := l) (bs := [bigA l]) rfl rfl rfl (Nat.le_refl _) fun f1 hf hn _ => ?_
  exact ⟨fun _ _ _ => rfl, f1, hn, fun _ hb => .inl hb, f1, [], by simp, bigA_holds.2 ⟨hf, hn⟩, rfl⟩
/-- one of many is taken out, and put back -/
theorem St.big_out {w0 : World} {A B H : List Asn} {a : Asn} {w : World} (h : St w0 (bigA (A ++ a :: B) :: H) w) : St w0 (a :: bigA (A ++ B) :: H) w := by
  have h1 := h.unbig
  have h2 : St w0 ((A ++ B) ++ (a :: H)) w := h1.perm (by
    simp only [List.append_assoc, List.cons_append]
    exact List.Perm.append_left A (List.perm_middle.symm))
  exact h2.big.perm (List.Perm.swap _ _ _)
theorem St.big_in {w0 : World} {A B H : List Asn} {a : Asn} {w : World} (h : St w0 (a :: bigA (A ++ B) :: H) w) : St w0 (bigA (A ++ a :: B) :: H) w := by
  have h1 : St w0 (bigA (A ++ B) :: a :: H) w := h.perm (List.Perm.swap _ _ _)
  have h2 := h1.unbig
  refine St.big (h2.perm ?_)
  simp only [List.append_assoc, List.cons_append]
  exact List.Perm.append_left A (List.perm_middle)
theorem St.big_nil {w0 : World} {H : List Asn} {w : World} (h : St w0 H w) : St w0 (bigA [] :: H) w := St.big (l := []) h
end Sx
namespace Sx
open Go
section
variable {P : Program} {n : Nat} {D : List Deferred} {w0 : World} {ov : Ov} {H : List Asn}
  {d : Option Nat} {T : Nat} {pos : String} {af : Array Edge} {g : Option (Nat × Bool)} {x y : Operand} {tb : Tb P} {op : Op} {v : Value}
theorem OpE_ofV (h : OpV P n D w0 ov H ⟨d, op, T, pos, af, g⟩ v) : OpE (ι := Unit) P n D w0 ov H ⟨d, op, T, pos, af, g⟩ (fun _ => v) (fun _ => H) :=
  by
  unfold OpV at h
  unfold OpE
  exact ⟨h.1, fun a w ha hw => ⟨(), w, h.2 a w ha hw, hw⟩⟩
/-- an array that lies within a slice -/
theorem V_loadSub {t m c lo q sz sz1 by' : Nat} {ty : Ty} {z : Option (List Value)} {p : Option Addr} {cs vs : List Value} (hx : ev ov x = some (.pointer (subB p lo c sz1))) (hr : Rd w0 H (.slice p m c) m cs) (h : tlook tb.l t = some ⟨ty, sz, by', z⟩) (ha : aggT ty = true)
    (hq : lo + q ≤ m) (hsz : q * sz1 = sz) (hp : 0 < sz) (hl : vs.length = sz) (hv : (cs.drop (lo * sz1)).take sz = vs) (hd : dOk d n = true) : OpV P n D w0 ov H ⟨d, .load t x, T, pos, af, g⟩ (.agg vs.toArray) :=
  by
    unfold OpV
    refine ⟨hd, fun A w haa hw => ?_⟩
    have hs := Rd_sub (lo := lo) (hi := lo + q) (sz := sz1) hr (by omega) hq
    rw [Nat.add_sub_cancel_left, hsz, hv] at hs
    have hq0 : 0 < q := by
      rcases Nat.eq_zero_or_pos q with h | h
      · rw [h, Nat.zero_mul] at hsz; omega
      · exact h
    have hx' : ev ov x = some (cellPtr (.slice (subB p lo c sz1) q (c - lo)) 0) := by
      rw [hx]
      have hc := (hr.lcap hw).1
      cases p with
      | none => have := Rd.nil hr hw rfl; omega
      | some a =>
        rw [cellPtr_sub (by omega), subB, if_neg (by omega), Option.map_some, Nat.add_zero]
    have hv := V_loadCA (tb := tb) (T := T) (pos := pos) (af := af) (g := g) (n := n) (D := D) hx' hs h ha hl hp (by rw [List.drop_zero, ← hl, List.take_length]) hd
    unfold OpV at hv
    exact hv.2 A w haa hw
end
end Sx
namespace Sx
open Go
/-- a walk stops in front of a region -/
def Hold (p : Prop) : Prop := p
theorem Hold.go {p : Prop} (h : p) : Hold p := h
theorem hIx {P : Program} {f n : Nat} {R : Ending → World → Prop} {D : List Deferred} {w0 : World} {k : List Item} {ov : Ov} {H : List Asn} (i : Nat) {l : Array Oper} {b : Bool} {y : Code} (h : Hold (JS P f n R D w0 (.code (.seq (.region i l b) y) :: k) ov H)) : JS P f n R D w0 (.code (.seq (.region i l b) y) :: k) ov H := h
theorem hIx' {P : Program} {f n : Nat} {R : Ending → World → Prop} {D : List Deferred} {w0 : World} {k : List Item} {ov : Ov} {H : List Asn} (i : Nat) {l : Array Oper} {b : Bool} (h : Hold (JS P f n R D w0 (.code (.region i l b) :: k) ov H)) : JS P f n R D w0 (.code (.region i l b) :: k) ov H := h
attribute [irreducible] Hold
end Sx

set_option linter.unusedVariables false
set_option linter.unusedSimpArgs false
namespace Go.Proofs.Ytbiocgenbgbfpaa
open Sx Go
section
variable {w0 : World} {H : List Asn}
set_option maxRecDepth 10000 in
set_option maxHeartbeats 2000000 in
/-- how many bytes are the same from two places on -/
theorem Same_c (b : Nat) (u : Value) (p : Option Addr) (c m : Nat) (B : List Int) (hr : Rd w0 H (.slice p m c) m (ints .u8 B)) (hb : blk b [.slice p m c, u] ∈ H) (hm : B.length = m) (i k : Nat) (hik : i < k) (hk : k ≤ m) (h4 : m ≤ 100000) (w : World) (hw : St w0 H w) :
    Calls Try.prog 117 #[.pointer (some ⟨b, 0, none⟩), .int .i64 i, .int .i64 k] w fun e w' => e = .returned (.int .i64 (sam B i k 258)) ∧ St w0 H w' := by
  refine enter (vs := [.pointer (some ⟨b, 0, none⟩), .int .i64 i, .int .i64 k]) Try.func117 rfl rfl rfl hw ?_
  repeat (first | (refine sx ?_; try intro _))
  refine JS_loop1 (fun (n : Nat) => [(0, .pointer (some ⟨b, 0, none⟩)), (1, .int .i64 i), (2, .int .i64 k), (7, .int .i64 n)]) (fun _ => H) (fun n => n ≤ 258 ∧ k + n ≤ m ∧ sam B i k 258 = n + sam B (i + n) (k + n) (258 - n)) (fun n => 258 - n) 0 ⟨by omega, by omega, by simp⟩ (by repeat (first | exact trivial | refine ⟨rfl, ?_⟩ | refine ⟨lookI rfl (by omega), ?_⟩)) (fun _ h => h) ?_
  intro n ⟨hn, hkn, he⟩ again
  by_cases h258 : n = 258
  case' pos =>
    clear again
    repeat (first | (apply gQO; refine QO_v rfl (oL (V_load (tb := tb) rfl hb rfl rfl rfl rfl)) ?_) | (first | (refine sx ?_; try intro _)))
    have hfin : sam B i k 258 = n := by rw [he, h258]; rfl
  case' neg =>
    by_cases hkm : k + n = m
    case' pos =>
      clear again
      repeat (first | (apply gQO; refine QO_v rfl (oL (V_load (tb := tb) rfl hb rfl rfl rfl rfl)) ?_) | (first | (refine sx ?_; try intro _)))
      have hfin : sam B i k 258 = n := by
        rw [he, show 258 - n = (257 - n) + 1 by omega, sam, if_neg (by omega)]; rfl
    case' neg =>
      have g1 : (ints .u8 B)[i + n]? = some (.int .u8 (B.getD (i + n) 0)) := ints_get (by omega)
      have g2 : (ints .u8 B)[k + n]? = some (.int .u8 (B.getD (k + n) 0)) := ints_get (by omega)
      by_cases heq : B.getD (i + n) 0 = B.getD (k + n) 0
      case' neg =>
        clear again
        repeat (first | (apply gQO; refine QO_v rfl (oL (V_load (tb := tb) rfl hb rfl rfl rfl rfl)) ?_) | (apply gQO; refine QO_v rfl (oL (V_loadC (tb := tb) rfl hr rfl rfl g1 rfl)) ?_) | (apply gQO; refine QO_v rfl (oL (V_loadC (tb := tb) rfl hr rfl rfl g2 rfl)) ?_) | (first | (refine sx ?_; try intro _)))
        have hfin : sam B i k 258 = n := by
          rw [he, show 258 - n = (257 - n) + 1 by omega, sam, if_neg (fun h => heq h.2)]; rfl
      case' pos =>
        repeat (first | (apply gQO; refine QO_v rfl (oL (V_load (tb := tb) rfl hb rfl rfl rfl rfl)) ?_) | (apply gQO; refine QO_v rfl (oL (V_loadC (tb := tb) rfl hr rfl rfl g1 rfl)) ?_) | (apply gQO; refine QO_v rfl (oL (V_loadC (tb := tb) rfl hr rfl rfl g2 rfl)) ?_) | (first | (refine sx ?_; try intro _)))
        exact JS_again1 again (n + 1) ⟨by omega, by omega, by rw [he, show 258 - n = (258 - (n + 1)) + 1 by omega, sam, if_pos ⟨by omega, heq⟩, show i + n + 1 = i + (n + 1) by omega, show k + n + 1 = k + (n + 1) by omega]; omega⟩ (by omega) (by repeat (first | exact trivial | refine ⟨rfl, ?_⟩ | refine ⟨lookI rfl (by omega), ?_⟩)) (fun w hw => hw)
  all_goals
    refine JS_ret Try.func117 rfl rfl fun w hw => ⟨?_, hw⟩
    rw [hfin]
    rfl
end
/-! the places: entries of the map with the slices that they hold -/
abbrev PX := MapEntry × List Nat
def vx (x : PX) : Asn := vec 3 1 x.1.val x.2.length (ints .i64 (x.2.map Int.ofNat))
def kv (x : K3) : Value := .agg #[.int .u8 x.1, .int .u8 x.2.1, .int .u8 x.2.2]
theorem kv_inj {x y : K3} (h : kv x = kv y) : x = y := by
  obtain ⟨x1, x2, x3⟩ := x
  obtain ⟨y1, y2, y3⟩ := y
  simp [kv] at h
  simp [h]
abbrev plA (bp bm : Nat) (p : Option Addr) (c m : Nat) (X : List PX) (clock : Nat) (H : List Asn) : List Asn := blk bp [.slice p m c, .map (some bm)] :: mapL bm (X.map Prod.fst) clock :: bigA (X.map vx) :: H
structure PI (B : List Int) (at_ : Nat) (X : List PX) (clock : Nat) : Prop where
  ok : MOk Try.prog 152 (X.map Prod.fst) clock
  key : ∀ x ∈ X, ∃ i, i + 3 ≤ B.length ∧ i < at_ ∧ x.1.key = kv (k3 B i) ∧ x.2 = plc B at_ (k3 B i) ∧ ∃ q d, x.1.val = .slice q x.2.length d
  all : ∀ i, i < at_ → i + 3 ≤ B.length → ∃ x ∈ X, x.1.key = kv (k3 B i)
theorem PI.nil (B : List Int) (clock : Nat) : PI B 0 [] clock := ⟨MOk.nil, by simp, by simp⟩
theorem kund : Try.prog.underlying 152 = some (.array 3 5) := by kernel_rfl
theorem kundb : Try.prog.underlying 5 = some (.int .u8) := by kernel_rfl
theorem kcell : Try.prog.cellsOf 152 = 3 := by kernel_rfl
theorem kcellb : Try.prog.cellsOf 5 = 1 := by kernel_rfl
theorem ktype : Try.prog.keyType 152 = true := by kernel_rfl
theorem klaw : WideMaps.KeyLaw Try.prog 152 := deep_law_laid (by kernel_rfl) (m := 2) (by omega) (by decide +kernel) (by kernel_rfl) (by kernel_rfl)
theorem kkt : KeyT Try.prog 152 := KeyT.of (Maps.Keyed.of_law klaw)
theorem okb_wf {a : Int} (h : 0 ≤ a ∧ a < 256) : (Lit.int .u8 a).wf = true := by
  simp [Lit.wf, IntKind.min, IntKind.max, IntKind.bits, IntKind.signed]; omega
theorem kv_key {x : K3} (h1 : 0 ≤ x.1 ∧ x.1 < 256) (h2 : 0 ≤ x.2.1 ∧ x.2.1 < 256) (h3 : 0 ≤ x.2.2 ∧ x.2.2 < 256) : isKey Try.prog 152 (kv x) := by
  unfold isKey keyOf
  obtain ⟨n, hn⟩ : ∃ n, Try.prog.types.size = n := ⟨_, rfl⟩
  have w1 := okb_wf h1
  have w2 := okb_wf h2
  have w3 := okb_wf h3
  have hk := ktype
  have hf : (kv x).formed Try.prog 152 = true := by
    unfold kv Value.formed
    simp [kund, kcell]
  have hc : (kv x).cells.toList = [.int .u8 x.1, .int .u8 x.2.1, .int .u8 x.2.2] := rfl
  have hn1 : 1 ≤ n := by rw [← hn]; decide +kernel
  obtain ⟨n', rfl⟩ : ∃ n', n = n' + 1 := ⟨n - 1, by omega⟩
  simp only [kund]
  rw [hk, hf, hn, hc]
  have kl' : ∀ a : Int, (Lit.int .u8 a).wf = true → Try.prog.keyLits (n' + 1) 5 [.int .u8 a] = some [.int .u8 a] := fun a h => by
    simp [Program.keyLits, kundb, h]
  have kl3' : Try.prog.keyLits (n' + 1 + 1) 152 [.int .u8 x.1, .int .u8 x.2.1, .int .u8 x.2.2] = some [.int .u8 x.1, .int .u8 x.2.1, .int .u8 x.2.2] := by
    rw [Program.keyLits.eq_def]
    simp only [kund, kcell, kcellb]
    simp [kl' _ w1, kl' _ w2, kl' _ w3, List.range, List.range.loop]
  rw [kl3']
  exact ⟨_, rfl⟩
end Go.Proofs.Ytbiocgenbgbfpaa

set_option linter.unusedVariables false
set_option linter.unusedSimpArgs false
namespace Go.Proofs.Ytbiocgenbgbfpaa
open Sx Go
theorem kzero (w : World) : (zeroValue 63).run Try.prog w = .ok (.slice none 0 0) w := by
  have h : (Try.prog.info? 63).bind (·.zero) = some (.slice none 0 0) := by kernel_rfl
  obtain ⟨x, h1, h2⟩ := Option.bind_eq_some_iff.1 h
  simp [zeroValue, typeInfo, h1, h2]
theorem ints_i64 (l : List Nat) (j : Nat) (h : j < l.length) : (ints .i64 (l.map Int.ofNat))[j]? = some (.int .i64 (l.getD j 0 : Nat)) := by
  unfold ints
  rw [List.getElem?_map, List.getElem?_map, List.getElem?_eq_getElem h]
  simp [List.getD_eq_getElem?_getD, h]
theorem drop3 (B : List Int) (i : Nat) (h : i + 3 ≤ B.length) : ((ints .u8 B).drop (i * 1)).take 3 = [.int .u8 (k3 B i).1, .int .u8 (k3 B i).2.1, .int .u8 (k3 B i).2.2] := by
  unfold k3
  have e : B.drop i = B.getD i 0 :: B.getD (i + 1) 0 :: B.getD (i + 2) 0 :: B.drop (i + 3) := by
    rw [List.drop_eq_getElem_cons (by omega), List.drop_eq_getElem_cons (by omega), List.drop_eq_getElem_cons (by omega)]
    simp [List.getD_eq_getElem?_getD, List.getElem?_eq_getElem (show i < B.length by omega), List.getElem?_eq_getElem (show i + 1 < B.length by omega), List.getElem?_eq_getElem (show i + 2 < B.length by omega)]
  unfold ints
  rw [Nat.mul_one, ← List.map_drop, e]
  rfl
/-- the byte of a token's cells -/
def tkx (B : List Int) (at_ n : Nat) : Int := if n = 0 then B.getD at_ 0 else 0
section
variable {w0 : World} {H : List Asn}
attribute [local irreducible] pst plc sam
set_option maxRecDepth 10000 in
set_option maxHeartbeats 4000000 in
/-- the places, from the newest on -/
theorem Best_t {R : Ending → World → Prop} (bp bt br : Nat) (u : Value) (p : Option Addr) (c m : Nat) (B : List Int) (i : Nat) (L : List Nat) (q : Option Addr) (dd : Nat)
    (hr : Rd w0 H (.slice p m c) m (ints .u8 B)) (hb : blk bp [.slice p m c, u] ∈ H) (hm : B.length = m) (hl : Rd w0 H (.slice q L.length dd) L.length (ints .i64 (L.map Int.ofNat))) (hi : i < m) (hL : ∀ j, j < L.length → L.getD j 0 < i) (h4 : m ≤ 100000) (hLl : L.length ≤ 100000)
    (hR : ∀ w s, s = pst B i L.reverse (0, 0) → (s = (0, 0) ∨ 0 < s.1) → St w0 H w → R (.returned (.agg #[.int .u8 (tkx B i s.1), .int .i64 s.1, .int .i64 s.2])) w) :
    JS Try.prog 69 Try.f69.ntmps R [] w0 (todo Try.f69 [.b, .b, .b, .b, .a]) [(0, .pointer (some ⟨bp, 0, none⟩)), (1, .int .i64 i), (4, .pointer (some ⟨br, 0, none⟩)), (5, .pointer (some ⟨bt, 0, none⟩)), (6, .slice q L.length dd)]
      (blk bt [.int .u8 (B.getD i 0), .int .i64 0, .int .i64 0] :: blk br [.int .u8 0, .int .i64 0, .int .i64 0] :: H) := by
  refine JS_at rfl ?_
  repeat (first | (refine sx ?_; try intro _))
  refine JS_loop3 (fun (k n d : Nat) => [(0, .pointer (some ⟨bp, 0, none⟩)), (1, .int .i64 i), (4, .pointer (some ⟨br, 0, none⟩)), (5, .pointer (some ⟨bt, 0, none⟩)), (6, .slice q L.length dd), (7, .int .i64 (k - 1 : Int))])
    (fun k n d => blk bt [.int .u8 (tkx B i n), .int .i64 n, .int .i64 d] :: blk br [.int .u8 0, .int .i64 0, .int .i64 0] :: H)
    (fun k n d => k ≤ L.length ∧ n ≠ 258 ∧ ((n, d) = (0, 0) ∨ 0 < n) ∧ pst B i L.reverse (0, 0) = pst B i (L.take k).reverse (n, d)) (fun k _ _ => k) L.length 0 0 ⟨Nat.le_refl _, by omega, .inl rfl, by rw [List.take_length]⟩ (by repeat (first | exact trivial | refine ⟨rfl, ?_⟩ | refine ⟨lookI rfl (by omega), ?_⟩)) (fun w h => by rw [show tkx B i 0 = B.getD i 0 from rfl]; exact h) ?_
  intro k n d ⟨hk, hn, hnd, he⟩ again
  have hfinal : ∀ (n d : Nat), pst B i L.reverse (0, 0) = (n, d) → ((n, d) = (0, 0) ∨ 0 < n) → ∀ w, St w0 (blk bt [.int .u8 (tkx B i n), .int .i64 n, .int .i64 d] :: blk br [.int .u8 (tkx B i n), .int .i64 n, .int .i64 d] :: H) w → R (.returned (.agg #[.int .u8 (tkx B i n), .int .i64 n, .int .i64 d])) w :=
    fun n d h1 h2 w hw => hR w (n, d) h1.symm h2 hw.drop.drop
  cases k with
  | zero =>
    clear again
    rw [show ((0 : Nat) : Int) - 1 = -1 from rfl]
    have hf := hfinal n d (by rw [he]; unfold pst; rfl) hnd
    repeat (first | (refine sx ?_; try intro _))
    refine JS_retC (tb := tb) (vs := [.agg #[.int .u8 (tkx B i n), .int .i64 n, .int .i64 d]]) Try.func69 rfl (by first | exact ResV.agg (tb := tb) rfl (by repeat (first | apply List.Mem.head | apply List.Mem.tail)) rfl rfl rfl ResV.nil | exact ResV.agg (tb := tb) rfl (by repeat (first | apply List.Mem.head | apply List.Mem.tail)) rfl rfl rfl (ResV.tmp rfl ResV.nil) | exact ResV.agg (tb := tb) rfl (by repeat (first | apply List.Mem.head | apply List.Mem.tail)) rfl rfl rfl (ResV.tmp rfl (ResV.tmp rfl ResV.nil)) | exact ResV.one (tb := tb) rfl (by repeat (first | apply List.Mem.head | apply List.Mem.tail)) rfl rfl rfl ResV.nil | exact ResV.one (tb := tb) rfl (by repeat (first | apply List.Mem.head | apply List.Mem.tail)) rfl rfl rfl (ResV.tmp rfl ResV.nil) | exact ResV.one (tb := tb) rfl (by repeat (first | apply List.Mem.head | apply List.Mem.tail)) rfl rfl rfl (ResV.one (tb := tb) rfl (by repeat (first | apply List.Mem.head | apply List.Mem.tail)) rfl rfl rfl ResV.nil) | exact ResV.tmp rfl (ResV.agg (tb := tb) rfl (by repeat (first | apply List.Mem.head | apply List.Mem.tail)) rfl rfl rfl ResV.nil) | exact ResV.tmp rfl (ResV.one (tb := tb) rfl (by repeat (first | apply List.Mem.head | apply List.Mem.tail)) rfl rfl rfl ResV.nil)) hf
  | succ k =>
    rw [show ((k + 1 : Nat) : Int) - 1 = (k : Int) by omega]
    have gL := ints_i64 L k (by omega)
    have hjl := hL k (by omega)
    obtain ⟨j, hj⟩ : ∃ j, L.getD k 0 = j := ⟨_, rfl⟩
    rw [hj] at gL hjl
    have htk : (L.take (k + 1)).reverse = j :: (L.take k).reverse := by
      rw [List.take_add_one, List.reverse_append, List.getElem?_eq_getElem (by omega)]
      rw [List.getD_eq_getElem?_getD, List.getElem?_eq_getElem (by omega)] at hj
      simp only [Option.getD_some] at hj
      rw [hj]; rfl
    rw [htk] at he
    by_cases hfar : 32768 < i - j
    · clear again
      have hf := hfinal n d (by rw [he]; unfold pst; rw [if_pos hfar]) hnd
      repeat (first | (apply gJO; refine JO_v (oL (V_loadC (tb := tb) rfl (Rd_weak hl fun w hw => St.sub (by repeat (first | exact List.Sublist.refl _ | apply List.Sublist.cons_cons | apply List.Sublist.cons)) hw) rfl rfl gL rfl)) ?_) | (first | (refine sx ?_; try intro _)))
      refine JS_retC (tb := tb) (vs := [.agg #[.int .u8 (tkx B i n), .int .i64 n, .int .i64 d]]) Try.func69 rfl (by first | exact ResV.agg (tb := tb) rfl (by repeat (first | apply List.Mem.head | apply List.Mem.tail)) rfl rfl rfl ResV.nil | exact ResV.agg (tb := tb) rfl (by repeat (first | apply List.Mem.head | apply List.Mem.tail)) rfl rfl rfl (ResV.tmp rfl ResV.nil) | exact ResV.agg (tb := tb) rfl (by repeat (first | apply List.Mem.head | apply List.Mem.tail)) rfl rfl rfl (ResV.tmp rfl (ResV.tmp rfl ResV.nil)) | exact ResV.one (tb := tb) rfl (by repeat (first | apply List.Mem.head | apply List.Mem.tail)) rfl rfl rfl ResV.nil | exact ResV.one (tb := tb) rfl (by repeat (first | apply List.Mem.head | apply List.Mem.tail)) rfl rfl rfl (ResV.tmp rfl ResV.nil) | exact ResV.one (tb := tb) rfl (by repeat (first | apply List.Mem.head | apply List.Mem.tail)) rfl rfl rfl (ResV.one (tb := tb) rfl (by repeat (first | apply List.Mem.head | apply List.Mem.tail)) rfl rfl rfl ResV.nil) | exact ResV.tmp rfl (ResV.agg (tb := tb) rfl (by repeat (first | apply List.Mem.head | apply List.Mem.tail)) rfl rfl rfl ResV.nil) | exact ResV.tmp rfl (ResV.one (tb := tb) rfl (by repeat (first | apply List.Mem.head | apply List.Mem.tail)) rfl rfl rfl ResV.nil)) hf
    · have hs := sam_le B 258 j i
      repeat (first | (apply gJO; refine JO_v (oL (V_loadC (tb := tb) rfl (Rd_weak hl fun w hw => St.sub (by repeat (first | exact List.Sublist.refl _ | apply List.Sublist.cons_cons | apply List.Sublist.cons)) hw) rfl rfl gL rfl)) ?_) | (first | (refine sx ?_; try intro _)))
      refine JO_call Try.call117 rfl rfl fun w hw => (Same_c bp u p c m B (Rd_weak hr fun w hw => St.sub (by repeat (first | exact List.Sublist.refl _ | apply List.Sublist.cons_cons | apply List.Sublist.cons)) hw) (List.Mem.tail _ (List.Mem.tail _ hb)) hm j i hjl (by omega) (by omega) w hw).mono ?_
      rintro e w' ⟨rfl, hw'⟩
      refine ⟨_, rfl, _, hw', ?_⟩
      clear hw' hw w w'
      have hpst : pst B i (j :: (L.take k).reverse) (n, d) = if (if n < sam B j i 258 then (sam B j i 258, i - j) else (n, d)).1 = 258 then (if n < sam B j i 258 then (sam B j i 258, i - j) else (n, d)) else pst B i (L.take k).reverse (if n < sam B j i 258 then (sam B j i 258, i - j) else (n, d)) := by
        rw [pst.eq_def]; simp only []; rw [if_neg hfar]
      rw [hpst] at he
      clear hpst htk
      obtain ⟨s, hse⟩ : ∃ s, sam B j i 258 = s := ⟨_, rfl⟩
      rw [hse] at he hs ⊢
      have hij : ((i : Int) - (j : Int)) = ((i - j : Nat) : Int) := by omega
      by_cases hlt : n < s
      · rw [if_pos hlt] at he
        have hx0 : tkx B i s = 0 := by unfold tkx; rw [if_neg (by omega)]
        repeat (first | (apply gJO; refine JO_v (oL (V_loadC (tb := tb) rfl (Rd_weak hl fun w hw => St.sub (by repeat (first | exact List.Sublist.refl _ | apply List.Sublist.cons_cons | apply List.Sublist.cons)) hw) rfl rfl gL rfl)) ?_) | (first | (refine sx ?_; try intro _)))
        rw [hij, show (Value.int .u8 0) = .int .u8 (tkx B i s) by rw [hx0]]
        by_cases h258 : s = 258
        · rw [if_pos h258] at he
          have hf := hfinal s (i - j) he (.inr (by omega))
          clear again
          repeat (first | (refine sx ?_; try intro _))
          refine JS_retC (tb := tb) (vs := [.agg #[.int .u8 (tkx B i s), .int .i64 s, .int .i64 (i - j : Nat)]]) Try.func69 rfl (by first | exact ResV.agg (tb := tb) rfl (by repeat (first | apply List.Mem.head | apply List.Mem.tail)) rfl rfl rfl ResV.nil | exact ResV.agg (tb := tb) rfl (by repeat (first | apply List.Mem.head | apply List.Mem.tail)) rfl rfl rfl (ResV.tmp rfl ResV.nil) | exact ResV.agg (tb := tb) rfl (by repeat (first | apply List.Mem.head | apply List.Mem.tail)) rfl rfl rfl (ResV.tmp rfl (ResV.tmp rfl ResV.nil)) | exact ResV.one (tb := tb) rfl (by repeat (first | apply List.Mem.head | apply List.Mem.tail)) rfl rfl rfl ResV.nil | exact ResV.one (tb := tb) rfl (by repeat (first | apply List.Mem.head | apply List.Mem.tail)) rfl rfl rfl (ResV.tmp rfl ResV.nil) | exact ResV.one (tb := tb) rfl (by repeat (first | apply List.Mem.head | apply List.Mem.tail)) rfl rfl rfl (ResV.one (tb := tb) rfl (by repeat (first | apply List.Mem.head | apply List.Mem.tail)) rfl rfl rfl ResV.nil) | exact ResV.tmp rfl (ResV.agg (tb := tb) rfl (by repeat (first | apply List.Mem.head | apply List.Mem.tail)) rfl rfl rfl ResV.nil) | exact ResV.tmp rfl (ResV.one (tb := tb) rfl (by repeat (first | apply List.Mem.head | apply List.Mem.tail)) rfl rfl rfl ResV.nil)) hf
        · rw [if_neg h258] at he
          repeat (first | (refine sx ?_; try intro _))
          exact JS_again3 again k s (i - j) ⟨by omega, h258, .inr (by omega), he⟩ (by omega) (by repeat (first | exact trivial | refine ⟨rfl, ?_⟩ | refine ⟨lookI rfl (by omega), ?_⟩)) (fun w hw => by rw [hx0] at hw ⊢; exact hw)
      · rw [if_neg hlt] at he
        rw [if_neg hn] at he
        repeat (first | (refine sx ?_; try intro _))
        exact JS_again3 again k n d ⟨by omega, hn, hnd, he⟩ (by omega) (by repeat (first | exact trivial | refine ⟨rfl, ?_⟩ | refine ⟨lookI rfl (by omega), ?_⟩)) (fun w hw => hw)
attribute [local irreducible] tok k3
theorem kk3 {B : List Int} (hB : OKB B) (i : Nat) : isKey Try.prog 152 (kv (k3 B i)) := by
  unfold k3
  exact kv_key (hB i) (hB (i + 1)) (hB (i + 2))
theorem tok_pst {B : List Int} {i : Nat} (h3 : i + 3 ≤ B.length) {s : Nat × Nat} (hs : s = pst B i (plc B i (k3 B i)).reverse (0, 0)) (h0 : s = (0, 0) ∨ 0 < s.1) : tok B i = (tkx B i s.1, s.1, s.2) := by
  rw [tok_far B i h3, ← hs]
  unfold tkx
  rcases h0 with rfl | h0
  · rfl
  · rw [if_neg (fun h => by rw [h] at h0; simp at h0), if_neg (by omega)]
theorem plc_getD {B : List Int} {i : Nat} {x : K3} : ∀ j, j < (plc B i x).length → (plc B i x).getD j 0 < i := fun j hj => by
  rw [List.getD_eq_getElem?_getD, List.getElem?_eq_getElem hj]
  exact plc_lt (List.getElem_mem hj)
theorem plc_len {B : List Int} {i : Nat} {x : K3} : (plc B i x).length ≤ i := by
  have := List.length_filter_le (fun i => decide (i + 3 ≤ B.length ∧ k3 B i = x)) (List.range i)
  rw [List.length_range] at this
  unfold plc; exact this
theorem Rd_nil : Rd w0 H (.slice none 0 0) 0 [] := by
  unfold Rd
  exact fun w hw => ⟨⟨_, _, rfl, fun _ => rfl, Nat.le_refl _⟩, fun j v hv => by simp at hv⟩
/-- one entry's slice taken out -/
abbrev plO (bp bm : Nat) (p : Option Addr) (c m : Nat) (es : List MapEntry) (A C : List PX) (x : PX) (clock : Nat) (H : List Asn) : List Asn := vx x :: blk bp [.slice p m c, .map (some bm)] :: mapL bm es clock :: bigA (A.map vx ++ C.map vx) :: H
theorem plA_out0 {bp bm : Nat} {p : Option Addr} {c m : Nat} {X A C : List PX} {x : PX} {clock : Nat} (hAC : X = A ++ x :: C) {w : World} (h : St w0 (plA bp bm p c m X clock H) w) : St w0 (plO bp bm p c m (X.map Prod.fst) A C x clock H) w := by
  have hbig : X.map vx = A.map vx ++ vx x :: C.map vx := by rw [hAC, List.map_append, List.map_cons]
  unfold plA at h
  rw [hbig] at h
  have h1 := (h.perm (List.perm_middle (l₁ := [_, _]))).big_out
  exact h1.perm (List.Perm.cons _ (List.perm_middle (l₁ := [_, _])).symm)
theorem plA_in {bp bm : Nat} {p : Option Addr} {c m : Nat} {X A C : List PX} {x : PX} {clock : Nat} (hAC : X = A ++ x :: C) {w : World} (h : St w0 (plO bp bm p c m (X.map Prod.fst) A C x clock H) w) : St w0 (plA bp bm p c m X clock H) w := by
  have hbig : X.map vx = A.map vx ++ vx x :: C.map vx := by rw [hAC, List.map_append, List.map_cons]
  unfold plA
  rw [hbig]
  have h1 : St w0 (vx x :: bigA (A.map vx ++ C.map vx) :: ([blk bp [.slice p m c, .map (some bm)], mapL bm (X.map Prod.fst) clock] ++ H)) w := h.perm (List.Perm.cons _ (List.perm_middle (l₁ := [_, _])))
  exact h1.big_in.perm (List.perm_middle (l₁ := [_, _])).symm
theorem plA_out {a1 a2 : Asn} {bp bm : Nat} {p : Option Addr} {c m : Nat} {X A C : List PX} {x : PX} {clock : Nat} (hAC : X = A ++ x :: C) {w : World} (h : St w0 (a1 :: a2 :: plA bp bm p c m X clock H) w) : St w0 (a1 :: a2 :: plO bp bm p c m (X.map Prod.fst) A C x clock H) w := by
  have h1 : St w0 (plA bp bm p c m X clock (a1 :: a2 :: H)) w := h.perm ((List.perm_append_comm (l₁ := [a1, a2]) (l₂ := [_, _, _])).append_right H)
  exact (plA_out0 hAC h1).perm ((List.perm_append_comm (l₁ := [_, _, _, _]) (l₂ := [a1, a2])).append_right H)
set_option maxRecDepth 10000 in
set_option maxHeartbeats 4000000 in
/-- the token at a place -/
theorem Best_c (bp bm : Nat) (p : Option Addr) (c m : Nat) (X : List PX) (clock : Nat) (B : List Int) (i : Nat) (hr : Rd w0 H (.slice p m c) m (ints .u8 B)) (hm : B.length = m) (hB : OKB B) (hX : PI B i X clock) (hi : i < m) (h4 : m ≤ 100000) (w : World) (hw : St w0 (plA bp bm p c m X clock H) w) :
    Calls Try.prog 69 #[.pointer (some ⟨bp, 0, none⟩), .int .i64 i] w fun e w' => e = .returned (.agg #[.int .u8 (tok B i).1, .int .i64 (tok B i).2.1, .int .i64 (tok B i).2.2]) ∧ St w0 (plA bp bm p c m X clock H) w' := by
  refine enter (vs := [.pointer (some ⟨bp, 0, none⟩), .int .i64 i]) Try.func69 rfl rfl rfl hw ?_
  have gB : (ints .u8 B)[i]? = some (.int .u8 (B.getD i 0)) := ints_get (by omega)
  have hmc : m ≤ c := (hr.lcap hw.drop.drop.drop).1
  clear hw w
  by_cases h3 : m < i + 3
  · rw [tok_near B i (by omega)]
    repeat (first | (apply gJO; refine JO_v (oL (V_loadC (tb := tb) rfl (Rd_weak hr fun w hw => St.sub (by repeat (first | exact List.Sublist.refl _ | apply List.Sublist.cons_cons | apply List.Sublist.cons)) hw) rfl rfl gB rfl)) ?_) | (first | (refine sx ?_; try intro _)))
    refine JS_retC (tb := tb) (vs := [.agg #[.int .u8 (B.getD i 0), .int .i64 0, .int .i64 0]]) Try.func69 rfl (by first | exact ResV.agg (tb := tb) rfl (by repeat (first | apply List.Mem.head | apply List.Mem.tail)) rfl rfl rfl ResV.nil | exact ResV.agg (tb := tb) rfl (by repeat (first | apply List.Mem.head | apply List.Mem.tail)) rfl rfl rfl (ResV.tmp rfl ResV.nil) | exact ResV.agg (tb := tb) rfl (by repeat (first | apply List.Mem.head | apply List.Mem.tail)) rfl rfl rfl (ResV.tmp rfl (ResV.tmp rfl ResV.nil)) | exact ResV.one (tb := tb) rfl (by repeat (first | apply List.Mem.head | apply List.Mem.tail)) rfl rfl rfl ResV.nil | exact ResV.one (tb := tb) rfl (by repeat (first | apply List.Mem.head | apply List.Mem.tail)) rfl rfl rfl (ResV.tmp rfl ResV.nil) | exact ResV.one (tb := tb) rfl (by repeat (first | apply List.Mem.head | apply List.Mem.tail)) rfl rfl rfl (ResV.one (tb := tb) rfl (by repeat (first | apply List.Mem.head | apply List.Mem.tail)) rfl rfl rfl ResV.nil) | exact ResV.tmp rfl (ResV.agg (tb := tb) rfl (by repeat (first | apply List.Mem.head | apply List.Mem.tail)) rfl rfl rfl ResV.nil) | exact ResV.tmp rfl (ResV.one (tb := tb) rfl (by repeat (first | apply List.Mem.head | apply List.Mem.tail)) rfl rfl rfl ResV.nil)) ?_
    intro w hw
    exact ⟨rfl, hw.drop.drop⟩
  · have hd3 := drop3 B i (by omega)
    have hkey := kk3 hB i
    repeat (first | (apply gJO; refine JO_v (oL (V_loadC (tb := tb) rfl (Rd_weak hr fun w hw => St.sub (by repeat (first | exact List.Sublist.refl _ | apply List.Sublist.cons_cons | apply List.Sublist.cons)) hw) rfl rfl gB rfl)) ?_) | (apply gJS; apply JS_seq) | (apply gJS; apply JS_region) | (apply gJS; refine JS_cond_F rfl (by omega) ?_) | (apply gJS; apply JS_skip) | (apply gJS; apply JS_block) | (apply gJO; first | (refine sx ?_; try intro _)) | (apply gJR; first | (refine sx ?_; try intro _)))
    by_cases hf : ∃ x ∈ X, x.1.key = kv (k3 B i)
    · obtain ⟨x, hx, hxk⟩ := hf
      obtain ⟨i', _, _, hk', hp', q, dd, hv⟩ := hX.key x hx
      have : k3 B i' = k3 B i := kv_inj (hk'.symm.trans hxk)
      rw [this] at hp'
      rw [hp'] at hv
      have hxm : x.1 ∈ X.map Prod.fst := List.mem_map.2 ⟨x, hx, rfl⟩
      obtain ⟨A, C, hAC⟩ := List.append_of_mem hx
      have hrx : Rd w0 (plO bp bm p c m (X.map Prod.fst) A C x clock H) (.slice q (plc B i (k3 B i)).length dd) (plc B i (k3 B i)).length (ints .i64 ((plc B i (k3 B i)).map Int.ofNat)) := by
        have := vec_rd (w0 := w0) (H := plO bp bm p c m (X.map Prod.fst) A C x clock H) (v := x.1.val) (n := x.2.length) (cs := ints .i64 (x.2.map Int.ofNat)) (e := 3) (size := 1) (List.Mem.head _)
        rw [hv, hp'] at this
        exact this
      repeat (first | (apply gQO; refine QO_v rfl (V_loadSub (tb := tb) (lo := i) (q := 3) rfl (Rd_weak hr fun w hw => St.sub (by repeat (first | exact List.Sublist.refl _ | apply List.Sublist.cons_cons | apply List.Sublist.cons)) hw) rfl rfl (by omega) rfl (by decide) rfl hd3 rfl) ?_) | (apply gQO; refine QO_v rfl (V_slice (tb := tb) (lo := i) (hi := i + 3) rfl rfl rfl rfl rfl rfl (by omega) (fun w hw => ⟨by omega, by omega⟩) rfl) ?_) | (apply gQO; refine QO_v rfl (V_arrayAt (tb := tb) rfl rfl (by omega) rfl) ?_) | (apply gQO; refine QO_e (OpE_ofV (V_lookupT (tb := tb) kkt rfl rfl rfl (by repeat (first | apply List.Mem.head | apply List.Mem.tail)) hX.ok hxm hxk rfl)) rfl (.inr fun _ w hw => hw) ?_; intro _) | (apply hIx 5) | (first | (refine sx ?_; try intro _)))
      refine Hold.go ?_
      rw [hv]
      refine JS_H (fun w hw => plA_out hAC hw) ?_
      exact JS_of_at (fn := Try.f69) (p := [.b, .b, .b, .b, .a]) (JS_ov (by repeat (first | exact trivial | refine ⟨rfl, ?_⟩ | refine ⟨lookI rfl (by omega), ?_⟩)) (Best_t bp _ _ _ p c m B i (plc B i (k3 B i)) q dd (Rd_weak hr fun w hw => St.sub (by repeat (first | exact List.Sublist.refl _ | apply List.Sublist.cons_cons | apply List.Sublist.cons)) hw) (by repeat (first | apply List.Mem.head | apply List.Mem.tail)) hm hrx hi plc_getD h4 (Nat.le_trans plc_len (by omega)) fun w s h1 h2 hw => ⟨by rw [tok_pst (by omega) h1 h2], plA_in hAC hw⟩)) rfl
    · have hnil : plc B i (k3 B i) = [] := by
        cases hp : plc B i (k3 B i) with
        | nil => rfl
        | cons j r =>
          have hj : j ∈ plc B i (k3 B i) := by rw [hp]; simp
          have hlt := plc_lt hj
          have hjk : j + 3 ≤ B.length ∧ k3 B j = k3 B i := by
            have : j ∈ (List.range i).filter fun i' => decide (i' + 3 ≤ B.length ∧ k3 B i' = k3 B i) := by unfold plc at hj; exact hj
            simpa using (List.mem_filter.1 this).2
          obtain ⟨x, hx, hxk⟩ := hX.all j hlt hjk.1
          exact absurd ⟨x, hx, by rw [hxk, hjk.2]⟩ hf
      have hmiss : ∀ e ∈ X.map Prod.fst, e.key ≠ kv (k3 B i) := fun e he hk => by
        obtain ⟨x, hx, rfl⟩ := List.mem_map.1 he
        exact hf ⟨x, hx, hk⟩
      have hrn : Rd w0 (plA bp bm p c m X clock H) (.slice none ([] : List Nat).length 0) ([] : List Nat).length (ints .i64 (([] : List Nat).map Int.ofNat)) := Rd_nil
      repeat (first | (apply gQO; refine QO_v rfl (V_loadSub (tb := tb) (lo := i) (q := 3) rfl (Rd_weak hr fun w hw => St.sub (by repeat (first | exact List.Sublist.refl _ | apply List.Sublist.cons_cons | apply List.Sublist.cons)) hw) rfl rfl (by omega) rfl (by decide) rfl hd3 rfl) ?_) | (apply gQO; refine QO_v rfl (V_slice (tb := tb) (lo := i) (hi := i + 3) rfl rfl rfl rfl rfl rfl (by omega) (fun w hw => ⟨by omega, by omega⟩) rfl) ?_) | (apply gQO; refine QO_v rfl (V_arrayAt (tb := tb) rfl rfl (by omega) rfl) ?_) | (apply gQO; refine QO_e (OpE_ofV (V_lookupF (tb := tb) kkt rfl rfl rfl (by repeat (first | apply List.Mem.head | apply List.Mem.tail)) hX.ok hkey hmiss kzero rfl)) rfl (.inr fun _ w hw => hw) ?_; intro _) | (apply hIx 5) | (first | (refine sx ?_; try intro _)))
      refine Hold.go ?_
      exact JS_of_at (fn := Try.f69) (p := [.b, .b, .b, .b, .a]) (JS_ov (by repeat (first | exact trivial | refine ⟨rfl, ?_⟩ | refine ⟨lookI rfl (by omega), ?_⟩)) (Best_t bp _ _ _ p c m B i [] none 0 (Rd_weak hr fun w hw => St.sub (by repeat (first | exact List.Sublist.refl _ | apply List.Sublist.cons_cons | apply List.Sublist.cons)) hw) (by repeat (first | apply List.Mem.head | apply List.Mem.tail)) hm hrn hi (fun j hj => absurd hj (by simp)) h4 (by simp) fun w s h1 h2 hw => ⟨by rw [tok_pst (by omega) (by rw [hnil]; exact h1) h2], hw⟩)) rfl
end
end Go.Proofs.Ytbiocgenbgbfpaa

set_option linter.unusedVariables false
set_option linter.unusedSimpArgs false
namespace Go.Proofs.Ytbiocgenbgbfpaa
open Sx Go
section
variable {w0 : World} {H : List Asn}
attribute [local irreducible] pst plc sam k3
theorem plc_id {B : List Int} {i : Nat} {x : K3} (h : k3 B i ≠ x) : plc B (i + 1) x = plc B i x := by rw [plc_s, if_neg (fun h' => h h'.2)]
theorem PI.near {B : List Int} {i : Nat} {X : List PX} {clock : Nat} (h : PI B i X clock) (h3 : B.length < i + 3) : PI B (i + 1) X clock := by
  refine ⟨h.ok, fun x hx => ?_, fun j hj hj3 => h.all j (by omega) hj3⟩
  obtain ⟨i', h1, h2, h3', h4, h5⟩ := h.key x hx
  exact ⟨i', h1, by omega, h3', by rw [h4, plc_s, if_neg (by omega)], h5⟩
theorem PI.more {B : List Int} {i : Nat} {A C : List PX} {x : PX} {clock : Nat} (h : PI B i (A ++ x :: C) clock) (h3 : i + 3 ≤ B.length) (hk : x.1.key = kv (k3 B i)) (p : Option Addr) (c : Nat) :
    PI B (i + 1) (A ++ ({ x.1 with val := .slice p (x.2.length + 1) c }, x.2 ++ [i]) :: C) clock := by
  have hother : ∀ y ∈ A ++ C, ∃ j, j + 3 ≤ B.length ∧ j < i + 1 ∧ y.1.key = kv (k3 B j) ∧ y.2 = plc B (i + 1) (k3 B j) ∧ ∃ q d, y.1.val = .slice q y.2.length d := fun y hy => by
    have hyX : y ∈ A ++ x :: C := by
      rcases List.mem_append.1 hy with hy | hy
      · exact List.mem_append_left _ hy
      · exact List.mem_append_right _ (List.mem_cons_of_mem _ hy)
    obtain ⟨j, h1, h2, h4, h5, h6⟩ := h.key y hyX
    have hne : y.1.key ≠ x.1.key := by
      have hn := h.ok.nodup
      rw [List.map_map, List.map_append, List.map_cons] at hn
      have hn2 := (List.perm_middle.nodup_iff).1 hn
      rw [List.nodup_cons, ← List.map_append] at hn2
      exact fun e => hn2.1 (List.mem_map.2 ⟨y, hy, e⟩)
    exact ⟨j, h1, by omega, h4, by rw [h5, plc_id (fun e => hne (by rw [h4, hk, e]))], h6⟩
  refine ⟨?_, fun y hy => ?_, fun j hj hj3 => ?_⟩
  · have := h.ok
    rw [List.map_append, List.map_cons] at this ⊢
    exact this.setv _
  · rcases List.mem_append.1 hy with hy | hy
    · exact hother y (List.mem_append_left _ hy)
    · rcases List.mem_cons.1 hy with rfl | hy
      · obtain ⟨j, h1, h2, h4, h5, h6⟩ := h.key x (by simp)
        refine ⟨i, h3, by omega, hk, ?_, p, c, ?_⟩
        · have : k3 B j = k3 B i := kv_inj (h4.symm.trans hk)
          show x.2 ++ [i] = _
          rw [plc_s, if_pos ⟨h3, rfl⟩, h5, this]
        · simp
      · exact hother y (List.mem_append_right _ hy)
  · rcases Nat.lt_or_ge j i with hji | hji
    · obtain ⟨y, hy, hyk⟩ := h.all j hji hj3
      rcases List.mem_append.1 hy with hy | hy
      · exact ⟨y, List.mem_append_left _ hy, hyk⟩
      · rcases List.mem_cons.1 hy with rfl | hy
        · exact ⟨_, List.mem_append_right _ (List.mem_cons_self ..), hyk⟩
        · exact ⟨y, List.mem_append_right _ (List.mem_cons_of_mem _ hy), hyk⟩
    · obtain rfl : j = i := by omega
      exact ⟨_, List.mem_append_right _ (List.mem_cons_self ..), hk⟩
theorem PI.new {B : List Int} {i : Nat} {X : List PX} {clock : Nat} (h : PI B i X clock) (hB : OKB B) (h3 : i + 3 ≤ B.length) (hn : ¬ ∃ x ∈ X, x.1.key = kv (k3 B i)) (hp : plc B i (k3 B i) = []) (p : Option Addr) (c : Nat) :
    PI B (i + 1) (X ++ (⟨kv (k3 B i), .slice p 1 c, clock⟩, [i]) :: []) (clock + 1) := by
  refine ⟨?_, fun y hy => ?_, fun j hj hj3 => ?_⟩
  · rw [List.map_append, List.map_cons, List.map_nil]
    refine h.ok.push (kk3 hB i) fun e he hk => ?_
    obtain ⟨x, hx, rfl⟩ := List.mem_map.1 he
    exact hn ⟨x, hx, hk⟩
  · rcases List.mem_append.1 hy with hy | hy
    · obtain ⟨j, h1, h2, h4, h5, h6⟩ := h.key y hy
      exact ⟨j, h1, by omega, h4, by rw [h5, plc_id (fun e => hn ⟨y, hy, by rw [h4, e]⟩)], h6⟩
    · simp at hy
      subst hy
      exact ⟨i, h3, by omega, rfl, by rw [plc_s, if_pos ⟨h3, rfl⟩, hp]; rfl, p, c, rfl⟩
  · rcases Nat.lt_or_ge j i with hji | hji
    · obtain ⟨y, hy, hyk⟩ := h.all j hji hj3
      exact ⟨y, List.mem_append_left _ hy, hyk⟩
    · obtain rfl : j = i := by omega
      exact ⟨_, List.mem_append_right _ (List.mem_cons_self ..), rfl⟩
theorem plc_nil {B : List Int} {i : Nat} {X : List PX} {clock : Nat} (hX : PI B i X clock) (hf : ¬ ∃ x ∈ X, x.1.key = kv (k3 B i)) : plc B i (k3 B i) = [] := by
  cases hp : plc B i (k3 B i) with
  | nil => rfl
  | cons j r =>
    have hj : j ∈ plc B i (k3 B i) := by rw [hp]; simp
    have hlt := plc_lt hj
    have hjk : j + 3 ≤ B.length ∧ k3 B j = k3 B i := by
      have : j ∈ (List.range i).filter fun i' => decide (i' + 3 ≤ B.length ∧ k3 B i' = k3 B i) := by unfold plc at hj; exact hj
      simpa using (List.mem_filter.1 this).2
    obtain ⟨x, hx, hxk⟩ := hX.all j hlt hjk.1
    exact absurd ⟨x, hx, by rw [hxk, hjk.2]⟩ hf
set_option maxRecDepth 10000 in
set_option maxHeartbeats 4000000 in
/-- a place is noted -/
theorem Note_c (bp bm : Nat) (p : Option Addr) (c m : Nat) (X : List PX) (clock : Nat) (B : List Int) (i : Nat) (hr : Rd w0 H (.slice p m c) m (ints .u8 B)) (hm : B.length = m) (hB : OKB B) (hX : PI B i X clock) (hi : i < m) (h4 : m ≤ 100000) (w : World) (hw : St w0 (plA bp bm p c m X clock H) w) :
    Calls Try.prog 70 #[.pointer (some ⟨bp, 0, none⟩), .int .i64 i] w fun e w' => e = .returned (.tuple #[]) ∧ ∃ X clock, PI B (i + 1) X clock ∧ St w0 (plA bp bm p c m X clock H) w' := by
  refine enter (vs := [.pointer (some ⟨bp, 0, none⟩), .int .i64 i]) Try.func70 rfl rfl rfl hw ?_
  have hmc : m ≤ c := (hr.lcap hw.drop.drop.drop).1
  clear hw w
  by_cases h3 : m < i + 3
  · repeat (first | (refine sx ?_; try intro _))
    refine JS_fin Try.func70 rfl rfl (vs := []) ?_
    intro w hw
    exact ⟨rfl, X, clock, hX.near (by omega), hw⟩
  · have hd3 := drop3 B i (by omega)
    have hkey := kk3 hB i
    repeat (first | (apply gJO; refine JO_v (V_loadSub (tb := tb) (lo := i) (q := 3) rfl (Rd_weak hr fun w hw => St.sub (by repeat (first | exact List.Sublist.refl _ | apply List.Sublist.cons_cons | apply List.Sublist.cons)) hw) rfl rfl (by omega) rfl (by decide) rfl hd3 rfl) ?_) | (apply gJO; refine JO_v (V_slice (tb := tb) (lo := i) (hi := i + 3) rfl rfl rfl rfl rfl rfl (by omega) (fun w hw => ⟨by omega, by omega⟩) rfl) ?_) | (apply gJO; refine JO_v (V_arrayAt (tb := tb) rfl rfl (by omega) rfl) ?_) | (apply hIx' 2) | (first | (refine sx ?_; try intro _)))
    refine Hold.go ?_
    rename_i b4
    by_cases hf : ∃ x ∈ X, x.1.key = kv (k3 B i)
    · obtain ⟨x, hx, hxk⟩ := hf
      obtain ⟨i', _, _, hk', hp', q, dd, hv⟩ := hX.key x hx
      obtain ⟨A, C, hAC⟩ := List.append_of_mem hx
      have hX2 : X.map Prod.fst = A.map Prod.fst ++ x.1 :: C.map Prod.fst := by rw [hAC, List.map_append, List.map_cons]
      have hok := hX.ok
      rw [hX2] at hok
      have hvx : vx x = vec 3 1 (.slice q x.2.length dd) x.2.length (ints .i64 (x.2.map Int.ofNat)) := by unfold vx; rw [hv]
      have hln : x.2.length ≤ i := by rw [hp']; exact plc_len
      refine JS_H (H' := blk b4 [.int .u8 (k3 B i).1, .int .u8 (k3 B i).2.1, .int .u8 (k3 B i).2.2] :: vec 3 1 (.slice q x.2.length dd) x.2.length (ints .i64 (x.2.map Int.ofNat)) :: blk bp [.slice p m c, .map (some bm)] :: mapL bm (A.map Prod.fst ++ x.1 :: C.map Prod.fst) clock :: bigA (A.map vx ++ C.map vx) :: H) (fun w hw => by
        rw [← hX2, ← hvx]
        exact (plA_out0 hAC (hw.perm ((List.perm_append_comm (l₁ := [_]) (l₂ := [_, _, _])).append_right H))).perm ((List.perm_append_comm (l₁ := [_, _, _, _]) (l₂ := [_])).append_right H)) ?_
      have hxm : x.1 ∈ A.map Prod.fst ++ x.1 :: C.map Prod.fst := by simp
      obtain ⟨l, hl⟩ : ∃ l, x.2 = l := ⟨_, rfl⟩
      rw [hl] at hln hv ⊢
      refine JS_order [0, 1, 2, 3, 4, 5, 6, 7, 8, 10, 9, 11] [4, 0] (Picks.cons rfl (Picks.cons rfl (Picks.cons rfl (Picks.cons rfl (Picks.cons rfl (Picks.cons rfl (Picks.cons rfl (Picks.cons rfl (Picks.cons rfl (Picks.cons rfl (Picks.cons rfl (Picks.cons rfl (Picks.nil))))))))))))) (by kernel_rfl) (by kernel_rfl) rfl (by decide +kernel) ?_
      repeat (first | (apply gQO; (refine QO_e (E_buildSlice (tb := tb) rfl rfl rfl rfl rfl rfl rfl rfl rfl) rfl (.inr fun _ _ hw => St.sub (by repeat (first | exact List.Sublist.refl _ | apply List.Sublist.cons_cons | apply List.Sublist.cons)) hw) ?_; intro _)) | (apply gQO; refine QO_e (E_entryT (tb := tb) kkt rfl rfl rfl (by repeat (first | apply List.Mem.head | apply List.Mem.tail)) hok hxm hxk rfl) rfl (.inr fun _ w hw => hw) ?_; intro _) | (apply gQO; (refine QO_e (E_appendB (tb := tb) rfl rfl rfl rfl rfl rfl (by repeat (first | exact Sel.here _ _ | apply Sel.there)) (by first | exact vec_rd (by repeat (first | apply List.Mem.head | apply List.Mem.tail)) | assumption | exact ArgRd.rd (by assumption) _ | (apply Rd_weak; assumption; intro _ hx; exact St.sub (by repeat (first | exact List.Sublist.refl _ | apply List.Sublist.cons_cons | apply List.Sublist.cons)) hx)) (by simp only [ints_len, List.length_cons, List.length_nil]; first | omega | rfl) (by first | exact ints_one | (repeat (first | exact trivial | refine ⟨rfl, ?_⟩))) (by omega) (by omega) rfl) rfl (.inr fun _ _ hw => vecB_back (by repeat (first | exact Sel.here _ _ | apply Sel.there)) hw) ?_; intro _)) | (apply gQO; refine QO_k rfl (K_entryStore rfl rfl rfl (by repeat (first | exact Sel.here _ _ | apply Sel.there)) hok rfl) rfl ?_) | (first | (refine sx ?_; try intro _)))
      rw [hv]
      repeat (first | (apply gQO; (refine QO_e (E_appendB (tb := tb) rfl rfl rfl rfl rfl rfl (by repeat (first | exact Sel.here _ _ | apply Sel.there)) (by first | exact vec_rd (by repeat (first | apply List.Mem.head | apply List.Mem.tail)) | assumption | exact ArgRd.rd (by assumption) _ | (apply Rd_weak; assumption; intro _ hx; exact St.sub (by repeat (first | exact List.Sublist.refl _ | apply List.Sublist.cons_cons | apply List.Sublist.cons)) hx)) (by simp only [ints_len, List.length_cons, List.length_nil]; first | omega | rfl) (by first | exact ints_one | (repeat (first | exact trivial | refine ⟨rfl, ?_⟩))) (by omega) (by omega) rfl) rfl (.inr fun _ _ hw => vecB_back (by repeat (first | exact Sel.here _ _ | apply Sel.there)) hw) ?_; intro _)) | (apply gQO; refine QO_k rfl (K_entryStore rfl rfl rfl (by repeat (first | exact Sel.here _ _ | apply Sel.there)) hok rfl) rfl ?_) | (first | (refine sx ?_; try intro _)))
      rename_i pc
      refine JS_fin Try.func70 rfl rfl (vs := []) ?_
      intro w hw
      have hmore := (by rw [← hAC]; exact hX : PI B i (A ++ x :: C) clock).more (by omega) hxk pc.1 pc.2
      rw [hl] at hmore
      refine ⟨rfl, _, _, hmore, plA_in rfl ?_⟩
      rw [List.map_append, List.map_cons]
      have hv2 : vx ({ x.1 with val := .slice pc.1 (l.length + 1) pc.2 }, l ++ [i]) = vec 3 1 (.slice pc.1 (l.length + 1) pc.2) (l.length + 1) (ints .i64 (l.map Int.ofNat) ++ [.int .i64 i]) := by
        unfold vx
        simp only [List.map_append, List.map_cons, List.map_nil, List.length_append, List.length_cons, List.length_nil]
        rw [← ints_app]
        rfl
      unfold plO
      rw [hv2]
      exact vecB_fwd (Sel.here _ _) (hw.drop.drop)
    · have hnil := plc_nil hX hf
      have hmiss : ∀ e ∈ X.map Prod.fst, e.key ≠ kv (k3 B i) := fun e he hk => by
        obtain ⟨x, hx, rfl⟩ := List.mem_map.1 he
        exact hf ⟨x, hx, hk⟩
      have hok : MOk Try.prog 152 (X.map Prod.fst ++ (⟨kv (k3 B i), .slice none 0 0, clock⟩ : MapEntry) :: []) (clock + 1) := hX.ok.push hkey hmiss
      refine JS_H (H' := vec 3 1 (.slice none 0 0) 0 [] :: blk b4 [.int .u8 (k3 B i).1, .int .u8 (k3 B i).2.1, .int .u8 (k3 B i).2.2] :: plA bp bm p c m X clock H) (fun w hw => St.nilvec hw) ?_
      refine JS_order [0, 1, 2, 3, 4, 5, 6, 7, 8, 10, 9, 11] [4, 0] (Picks.cons rfl (Picks.cons rfl (Picks.cons rfl (Picks.cons rfl (Picks.cons rfl (Picks.cons rfl (Picks.cons rfl (Picks.cons rfl (Picks.cons rfl (Picks.cons rfl (Picks.cons rfl (Picks.cons rfl (Picks.nil))))))))))))) (by kernel_rfl) (by kernel_rfl) rfl (by decide +kernel) ?_
      repeat (first | (apply gQO; (refine QO_e (E_buildSlice (tb := tb) rfl rfl rfl rfl rfl rfl rfl rfl rfl) rfl (.inr fun _ _ hw => St.sub (by repeat (first | exact List.Sublist.refl _ | apply List.Sublist.cons_cons | apply List.Sublist.cons)) hw) ?_; intro _)) | (apply gQO; refine QO_e (E_entryF (tb := tb) kkt rfl rfl rfl (by repeat (first | exact Sel.here _ _ | apply Sel.there)) hX.ok hkey hmiss kzero rfl) rfl (.inl rfl) ?_; intro _) | (apply gQO; (refine QO_e (E_appendB (tb := tb) rfl rfl rfl rfl rfl rfl (by repeat (first | exact Sel.here _ _ | apply Sel.there)) (by first | exact vec_rd (by repeat (first | apply List.Mem.head | apply List.Mem.tail)) | assumption | exact ArgRd.rd (by assumption) _ | (apply Rd_weak; assumption; intro _ hx; exact St.sub (by repeat (first | exact List.Sublist.refl _ | apply List.Sublist.cons_cons | apply List.Sublist.cons)) hx)) (by simp only [ints_len, List.length_cons, List.length_nil]; first | omega | rfl) (by first | exact ints_one | (repeat (first | exact trivial | refine ⟨rfl, ?_⟩))) (by omega) (by omega) rfl) rfl (.inr fun _ _ hw => vecB_back (by repeat (first | exact Sel.here _ _ | apply Sel.there)) hw) ?_; intro _)) | (apply gQO; refine QO_k rfl (K_entryStore rfl rfl rfl (by repeat (first | exact Sel.here _ _ | apply Sel.there)) hok rfl) rfl ?_) | (first | (refine sx ?_; try intro _)))
      rename_i pc
      refine JS_fin Try.func70 rfl rfl (vs := []) ?_
      intro w hw
      refine ⟨rfl, _, _, hX.new hB (by omega) hf hnil pc.1 pc.2, plA_in rfl ?_⟩
      rw [List.map_append, List.map_cons]
      have hv2 : vx (⟨kv (k3 B i), .slice pc.1 1 pc.2, clock⟩, [i]) = vec 3 1 (.slice pc.1 (0 + 1) pc.2) (0 + 1) ([] ++ [.int .i64 i]) := by
        unfold vx; rfl
      unfold plO
      rw [hv2, List.map_nil, List.map_nil, List.append_nil]
      exact St.sub (by repeat (first | exact List.Sublist.refl _ | apply List.Sublist.cons_cons | apply List.Sublist.cons)) (vecB_fwd (Sel.there _ _ _ _ (Sel.here _ _)) hw)
end
end Go.Proofs.Ytbiocgenbgbfpaa

set_option linter.unusedVariables false
set_option linter.unusedSimpArgs false
namespace Go.Proofs.Ytbiocgenbgbfpaa
open Sx Go
section
variable {w0 : World} {H : List Asn}
attribute [local irreducible] pst plc sam k3 tok toks tkv
theorem toks_s {B : List Int} {i : Nat} (h : i < B.length) : toks B (B.length - i) i = tok B i :: toks B (B.length - (i + max 1 (tok B i).2.1)) (i + max 1 (tok B i).2.1) := by
  obtain ⟨f, hf⟩ : ∃ f, B.length - i = f + 1 := ⟨B.length - i - 1, by omega⟩
  rw [hf]
  have e : toks B (f + 1) i = tok B i :: toks B f (i + max 1 (tok B i).2.1) := by rw [toks.eq_def]; simp only []; rw [if_pos h]
  rw [e, toks_fuel B f (B.length - (i + max 1 (tok B i).2.1)) _ (by omega) (by omega)]
theorem toks_end {B : List Int} : toks B (B.length - B.length) B.length = [] := by
  rw [Nat.sub_self]; unfold toks; rfl
theorem toks_len {B : List Int} : ∀ f i, (toks B f i).length ≤ f
  | 0, i => by unfold toks; simp
  | f + 1, i => by
    unfold toks
    split
    · have := toks_len (B := B) f (i + max 1 (tok B i).2.1); simp; omega
    · simp
set_option maxRecDepth 10000 in
set_option maxHeartbeats 4000000 in
/-- all tokens of a text -/
theorem Find_c (p : Option Addr) (c m : Nat) (B : List Int) (hr : Rd w0 H (.slice p m c) m (ints .u8 B)) (hm : B.length = m) (hB : OKB B) (h4 : m ≤ 100000) (w : World) (hw : St w0 H w) :
    Calls Try.prog 43 #[.slice p m c] w fun e w' => ∃ q d, e = .returned (.slice q (toks B m 0).length d) ∧ St w0 (vec 79 3 (.slice q (toks B m 0).length d) (toks B m 0).length (tkv (toks B m 0)) :: H) w' := by
  have hmc : m ≤ c := (hr.lcap hw).1
  refine enter (vs := [.slice p m c]) Try.func43 rfl rfl rfl hw ?_
  clear hw w
  repeat (first | (apply gJO; apply kMm; refine JO_makeMap rfl ?_; intro _) | (first | (refine sx ?_; try intro _)))
  rename_i bm bp
  refine JS_loop6 (fun (i : Nat) (X : List PX) (clock : Nat) (q : Option Addr) (d : Nat) (L : List (Int × Nat × Nat)) => [(0, .slice p m c), (3, .pointer (some ⟨bp, 0, none⟩)), (4, .slice q L.length d), (5, .int .i64 i)])
    (fun i X clock q d L => vec 79 3 (.slice q L.length d) L.length (tkv L) :: plA bp bm p c m X clock H) (fun i X clock q d L => i ≤ m ∧ PI B i X clock ∧ L.length ≤ i ∧ toks B m 0 = L ++ toks B (m - i) i) (fun i _ _ _ _ _ => m - i) 0 [] 0 none 0 [] ⟨Nat.zero_le _, PI.nil B 0, Nat.le_refl _, by rw [Nat.sub_zero, List.nil_append]⟩ (by repeat (first | exact trivial | refine ⟨rfl, ?_⟩ | refine ⟨lookI rfl (by omega), ?_⟩))
    (fun w h => by
      have h1 := St.big_nil h
      have h2 := h1.perm (List.perm_append_comm (l₁ := [_]) (l₂ := [_, _]) |>.append_right H)
      have : tkv [] = [] := by unfold tkv; rfl
      rw [this]
      exact St.nilvec h2) ?_
  intro i X clock q d L ⟨hi, hX, hLl, hL⟩ again
  by_cases him : i < m
  · have hts := toks_s (B := B) (i := i) (by omega)
    have hbd := tok_bd B i (by omega)
    repeat (first | (refine sx ?_; try intro _))
    refine JO_call Try.call69 rfl rfl fun w hw => (Best_c (H := vec 79 3 (.slice q L.length d) L.length (tkv L) :: H) bp bm p c m X clock B i (Rd_weak hr fun w hw => St.sub (by repeat (first | exact List.Sublist.refl _ | apply List.Sublist.cons_cons | apply List.Sublist.cons)) hw) hm hB hX him h4 w (hw.perm (List.perm_append_comm (l₁ := [_]) (l₂ := [_, _, _]) |>.append_right H))).mono ?_
    rintro e w' ⟨rfl, hw'⟩
    refine ⟨_, rfl, vec 79 3 (.slice q L.length d) L.length (tkv L) :: plA bp bm p c m X clock H, hw'.perm (List.perm_append_comm (l₁ := [_, _, _]) (l₂ := [_]) |>.append_right H), ?_⟩
    clear hw' hw w w'
    rw [hm] at hts
    obtain ⟨⟨x, n, k⟩, ht⟩ : ∃ t, tok B i = t := ⟨_, rfl⟩
    rw [ht] at hts hbd ⊢
    simp only [] at hts ⊢
    have hn258 : i + max 1 n ≤ m := by
      rcases hbd with h | ⟨n', d', h, _⟩
      · have : n = 0 := (Prod.mk.inj (Prod.mk.inj h).2).1
        omega
      · have : n = n' := (Prod.mk.inj (Prod.mk.inj h).2).1
        omega
    clear hbd
    have hmx : max (1 : Int) (n : Int) = ((max 1 n : Nat) : Int) := by omega
    have htv := tkv_app L (x, n, k)
    have hll : (L ++ [(x, n, k)]).length = L.length + 1 := by simp
    repeat (first | (apply gJO; (refine JO_app (tb := tb) rfl rfl rfl rfl rfl rfl (by repeat (first | exact Sel.here _ _ | apply Sel.there)) (by first | exact vec_rd (by repeat (first | apply List.Mem.head | apply List.Mem.tail)) | assumption | exact ArgRd.rd (by assumption) _ | (apply Rd_weak; assumption; intro _ hx; exact St.sub (by repeat (first | exact List.Sublist.refl _ | apply List.Sublist.cons_cons | apply List.Sublist.cons)) hx)) (by simp only [ints_len, List.length_cons, List.length_nil]; first | omega | rfl) (by first | exact ints_one | (repeat (first | exact trivial | refine ⟨rfl, ?_⟩))) (by omega) rfl ?_; intro _ _)) | (apply gJO; refine JO_v (oc_max (V_max rfl rfl hmx rfl)) ?_) | (apply gJO; refine JO_v (V_max rfl rfl hmx rfl) ?_) | (first | (refine sx ?_; try intro _)))
    rename_i bt ps q2 d2
    refine JS_loop3 (fun (j : Nat) (X : List PX) (clock : Nat) => [(0, .slice p m c), (3, .pointer (some ⟨bp, 0, none⟩)), (4, .slice q2 (L.length + 1) d2), (5, .int .i64 ((i + j : Nat) : Int)), (24, .int .i64 ((max 1 n : Nat) : Int)), (25, .int .i64 j)])
      (fun j X clock => plA bp bm p c m X clock (vec 79 3 (.slice q2 (L ++ [(x, n, k)]).length d2) (L ++ [(x, n, k)]).length (tkv (L ++ [(x, n, k)])) :: H)) (fun j X clock => j ≤ max 1 n ∧ PI B (i + j) X clock) (fun j _ _ => max 1 n - j) 0 X clock ⟨Nat.zero_le _, hX⟩ (by repeat (first | exact trivial | refine ⟨rfl, ?_⟩ | refine ⟨lookI rfl (by omega), ?_⟩))
      (fun w hw => by
        rw [htv, hll]
        have h1 := (fun h => St.sub (H' := vec 79 3 (.slice q2 (L.length + 1) d2) (L.length + 1) (tkv L ++ [.int .u8 x, .int .i64 n, .int .i64 k]) :: plA bp bm p c m X clock H) ((List.Sublist.refl _).cons _ |>.cons _) h) hw
        exact h1.perm (List.perm_append_comm (l₁ := [_]) (l₂ := [_, _, _]) |>.append_right H)) ?_
    intro j X2 clock2 ⟨hj, hX2⟩ again2
    by_cases hjn : j < max 1 n
    · repeat (first | (refine sx ?_; try intro _))
      refine JO_call Try.call70 rfl rfl fun w hw => (Note_c bp bm p c m X2 clock2 B (i + j) (Rd_weak hr fun w hw => St.sub (by repeat (first | exact List.Sublist.refl _ | apply List.Sublist.cons_cons | apply List.Sublist.cons)) hw) hm hB hX2 (by omega) h4 w hw).mono ?_
      rintro e w' ⟨rfl, X3, clock3, hX3, hw'⟩
      refine ⟨_, rfl, _, hw', ?_⟩
      clear hw' hw w w'
      repeat (first | (refine sx ?_; try intro _))
      exact JS_again3 again2 (j + 1) X3 clock3 ⟨by omega, hX3⟩ (by omega) (by repeat (first | exact trivial | refine ⟨rfl, ?_⟩ | refine ⟨lookI rfl (by omega), ?_⟩)) (fun w hw => hw)
    · obtain rfl : j = max 1 n := by omega
      clear again2
      repeat (first | (refine sx ?_; try intro _))
      exact JS_again6 again (i + max 1 n) X2 clock2 q2 d2 (L ++ [(x, n, k)]) ⟨hn258, hX2, by rw [hll]; omega, by rw [hL, hts, List.append_assoc]; rfl⟩ (by omega) (by rw [hll]; exact (by repeat (first | exact trivial | refine ⟨rfl, ?_⟩ | refine ⟨lookI rfl (by omega), ?_⟩))) (fun w hw => hw.perm (List.perm_append_comm (l₁ := [_, _, _]) (l₂ := [_]) |>.append_right H))
  · obtain rfl : i = m := by omega
    clear again
    have hend : toks B i 0 = L := by rw [hL, ← hm, toks_end, List.append_nil]
    rw [hend]
    repeat (first | (refine sx ?_; try intro _))
    refine JS_ret Try.func43 rfl rfl fun w hw => ⟨q, d, rfl, St.sub (by repeat (first | exact List.Sublist.refl _ | apply List.Sublist.cons_cons | apply List.Sublist.cons)) hw⟩
end
end Go.Proofs.Ytbiocgenbgbfpaa

set_option linter.unusedVariables false
set_option linter.unusedSimpArgs false
namespace Go.Proofs.Ytbiocgenbgbfpaa
open Sx Go
/-! lengths' and distances' symbols: bounds -/
theorem pk_next (f : Int → Int × Int) (a n : Int) : ∀ k : Nat, ∀ i : Nat, i < k → pk f a n k < a + i → n < (f (a + i)).1
  | 0, i, h, _ => absurd h (by omega)
  | k + 1, i, h, hp => by
    unfold pk at hp
    split at hp
    · omega
    · rename_i hn
      rcases Nat.lt_or_ge i k with hik | hik
      · exact pk_next f a n k i hik hp
      · obtain rfl : i = k := by omega
        omega
theorem lbase_next : ∀ j : Fin 28, (lbase (257 + (j.val : Int) + 1)).1 ≤ (lbase (257 + (j.val : Int))).1 + 2 ^ (lbase (257 + (j.val : Int))).2.toNat := by decide +kernel
theorem lfar_next : ∀ j : Fin 29, (lfar (0 + (j.val : Int) + 1)).1 ≤ (lfar (0 + (j.val : Int))).1 + 2 ^ (lfar (0 + (j.val : Int))).2.toNat := by decide +kernel
theorem lbase_tab : ∀ j : Fin 29, 0 ≤ (lbase (257 + (j.val : Int))).2 ∧ (lbase (257 + (j.val : Int))).2 ≤ 5 ∧ (j.val = 28 → lbase (257 + (j.val : Int)) = (258, 0)) := by decide +kernel
theorem lfar_tab : ∀ j : Fin 30, 0 ≤ (lfar (0 + (j.val : Int))).2 ∧ (lfar (0 + (j.val : Int))).2 ≤ 13 ∧ (j.val = 29 → lfar (0 + (j.val : Int)) = (24577, 13)) := by decide +kernel
theorem lenS_bd (n : Int) (h3 : 3 ≤ n) (h258 : n ≤ 258) : ∃ s b : Nat, ∃ r : Int, lenS n = ((s : Int), (b : Int), r) ∧ 257 ≤ s ∧ s ≤ 285 ∧ b ≤ 5 ∧ 0 ≤ r ∧ r < 2 ^ b ∧ lbase s = (n - r, (b : Int)) := by
  have e := grt_pk lbase 257 n (by show (3 : Int) ≤ n; omega) 28
  have hb := pk_bd lbase 257 n 29
  have hle := pk_le lbase 257 n (by show (3 : Int) ≤ n; omega) 29
  have hnx := pk_next lbase 257 n 29
  unfold lenS
  rw [if_neg (by omega), e]
  obtain ⟨x, hx⟩ : ∃ x, pk lbase 257 n 29 = x := ⟨_, rfl⟩
  rw [hx] at hb hle hnx
  rw [show pk lbase 257 n (28 + 1) = x from hx]
  obtain ⟨j, rfl⟩ : ∃ j : Nat, x = 257 + (j : Int) := ⟨(x - 257).toNat, by omega⟩
  have hj : j < 29 := by omega
  obtain ⟨t1, t2, t3⟩ := lbase_tab ⟨j, hj⟩
  simp only [] at t1 t2 t3
  refine ⟨257 + j, (lbase (257 + (j : Int))).2.toNat, n - (lbase (257 + (j : Int))).1, ?_, by omega, by omega, by omega, by omega, ?_, ?_⟩
  · rw [Int.toNat_of_nonneg t1]; rfl
  · rcases Nat.lt_or_ge j 28 with h | h
    · have h1 := hnx (j + 1) (by omega) (by omega)
      have h2 := lbase_next ⟨j, h⟩
      simp only [] at h2
      have e2 : (257 : Int) + ((j + 1 : Nat) : Int) = 257 + (j : Int) + 1 := by omega
      rw [e2] at h1
      omega
    · rw [t3 (by omega)]; show n - 258 < 2 ^ 0; omega
  · rw [Int.toNat_of_nonneg t1, show (((257 + j : Nat) : Int)) = 257 + (j : Int) by omega]
    have : n - (n - (lbase (257 + (j : Int))).1) = (lbase (257 + (j : Int))).1 := by omega
    rw [this]
theorem spanS_bd (n : Int) (h1 : 1 ≤ n) (h32 : n ≤ 32768) : ∃ s b : Nat, ∃ r : Int, spanS n = ((s : Int), (b : Int), r) ∧ s ≤ 29 ∧ b ≤ 13 ∧ 0 ≤ r ∧ r < 2 ^ b ∧ lfar s = (n - r, (b : Int)) := by
  have e := grt_pk lfar 0 n (by show (1 : Int) ≤ n; omega) 29
  have hb := pk_bd lfar 0 n 30
  have hle := pk_le lfar 0 n (by show (1 : Int) ≤ n; omega) 30
  have hnx := pk_next lfar 0 n 30
  unfold spanS
  rw [if_neg (by omega), e]
  obtain ⟨x, hx⟩ : ∃ x, pk lfar 0 n 30 = x := ⟨_, rfl⟩
  rw [hx] at hb hle hnx
  rw [show pk lfar 0 n (29 + 1) = x from hx]
  obtain ⟨j, rfl⟩ : ∃ j : Nat, x = 0 + (j : Int) := ⟨x.toNat, by omega⟩
  have hj : j < 30 := by omega
  obtain ⟨t1, t2, t3⟩ := lfar_tab ⟨j, hj⟩
  simp only [] at t1 t2 t3
  refine ⟨j, (lfar (0 + (j : Int))).2.toNat, n - (lfar (0 + (j : Int))).1, ?_, by omega, by omega, by omega, ?_, ?_⟩
  · rw [Int.toNat_of_nonneg t1, Int.zero_add]
  · rcases Nat.lt_or_ge j 29 with h | h
    · have h1 := hnx (j + 1) (by omega) (by omega)
      have h2 := lfar_next ⟨j, h⟩
      simp only [] at h2
      have e2 : (0 : Int) + ((j + 1 : Nat) : Int) = 0 + (j : Int) + 1 := by omega
      rw [e2] at h1
      omega
    · rw [t3 (by omega)]; show n - 24577 < 2 ^ 13; omega
  · rw [Int.toNat_of_nonneg t1, Int.zero_add]
    have : n - (n - (lfar (j : Int)).1) = (lfar (j : Int)).1 := by omega
    rw [this]
/-- a token's bits -/
def tkb (t : Int × Nat × Nat) : List Int :=
  if t.2.2 = 0 then fxS t.1.toNat
  else fxS (lenS t.2.1).1.toNat ++ grp (lenS t.2.1).2.2 (lenS t.2.1).2.1.toNat ++ spS (spanS t.2.2).1.toNat ++ grp (spanS t.2.2).2.2 (spanS t.2.2).2.1.toNat
/-- a token as it may be -/
def TOK (t : Int × Nat × Nat) : Prop := (0 ≤ t.1 ∧ t.1 < 256 ∧ t.2.1 = 0 ∧ t.2.2 = 0) ∨ (t.1 = 0 ∧ 3 ≤ t.2.1 ∧ t.2.1 ≤ 258 ∧ 1 ≤ t.2.2 ∧ t.2.2 ≤ 32768)
theorem bms_ln (x : Int) (k : Nat) : (bms x k).length = k := by unfold bms; rw [List.length_map, List.length_range]
theorem bms_01' (x : Int) (k j : Nat) : (bms x k).getD j 0 = 0 ∨ (bms x k).getD j 0 = 1 := bms_01 x k j
theorem fxS_01 (k j : Nat) : (fxS k).getD j 0 = 0 ∨ (fxS k).getD j 0 = 1 := bms_01 _ _ j
theorem spS_01 (k j : Nat) : (spS k).getD j 0 = 0 ∨ (spS k).getD j 0 = 1 := bms_01 _ _ j
theorem spS_len (k : Nat) : (spS k).length = 5 := bms_ln _ _
theorem tkb_01 (t : Int × Nat × Nat) (j : Nat) : (tkb t).getD j 0 = 0 ∨ (tkb t).getD j 0 = 1 := by
  unfold tkb
  split
  · exact fxS_01 _ j
  · exact app_01 (app_01 (app_01 (fxS_01 _) (grp_01 _ _)) (spS_01 _)) (grp_01 _ _) j
theorem tkb_len {t : Int × Nat × Nat} (h : TOK t) : (tkb t).length ≤ 32 := by
  unfold tkb
  rcases h with ⟨h1, h2, h3, h4⟩ | ⟨h1, h2, h3, h4, h5⟩
  · rw [if_pos h4]
    have := fxS_len t.1.toNat (by omega); omega
  · rw [if_neg (by omega)]
    obtain ⟨s, b, r, e, a1, a2, a3, _⟩ := lenS_bd t.2.1 (by omega) (by omega)
    obtain ⟨s', b', r', e', a1', a3', _⟩ := spanS_bd t.2.2 (by omega) (by omega)
    rw [e, e']
    have := fxS_len s (by omega)
    simp only [List.length_append, Int.toNat_natCast, grp_len, spS_len]
    omega
section
attribute [local irreducible] grp fxS spS lenS spanS
variable {w0 : World} {H : List Asn} {b : Nat} {L : List Int} {q : Option Addr} {d : Nat} {pl ps pa pb : Option Addr} {cl cs ca cb : Nat}
set_option maxRecDepth 10000 in
set_option maxHeartbeats 4000000 in
/-- a token is written -/
theorem Tok_c (t : Int × Nat × Nat) (ht : TOK t) (hL : ∀ j, L.getD j 0 = 0 ∨ L.getD j 0 = 1) (hl : L.length ≤ 70368744177000) (w : World) (hw : St w0 (fwL b L q d pl ps pa pb cl cs ca cb H) w) :
    Calls Try.prog 83 #[.pointer (some ⟨b, 0, none⟩), .agg #[.int .u8 t.1, .int .i64 t.2.1, .int .i64 t.2.2]] w fun e w' => e = .returned (.tuple #[]) ∧ ∃ q d, St w0 (fwL b (L ++ tkb t) q d pl ps pa pb cl cs ca cb H) w' := by
  have hlen := tkb_len ht
  obtain ⟨x, n, k⟩ := t
  rcases ht with ⟨h1, h2, h3, h4⟩ | ⟨h1, h2, h3, h4, h5⟩
  · simp only [] at h1 h2 h3 h4
    subst h3; subst h4
    obtain ⟨x', rfl⟩ : ∃ x' : Nat, x = x' := ⟨x.toNat, by omega⟩
    exact Tok0_c x' (by omega) hL (by omega) w hw
  · simp only [] at h1 h2 h3 h4 h5 hlen ⊢
    obtain ⟨s, nb, r, e1, a1, a2, a3, a4, a5, _⟩ := lenS_bd n (by omega) (by omega)
    obtain ⟨s', nb', r', e2, c1, c3, c4, c5, _⟩ := spanS_bd k (by omega) (by omega)
    have htk : tkb (x, n, k) = fxS s ++ grp r nb ++ spS s' ++ grp r' nb' := by
      unfold tkb
      simp only []
      rw [if_neg (by omega), e1, e2]
      simp only [Int.toNat_natCast]
    rw [htk] at hlen ⊢
    simp only [List.length_append] at hlen
    have p5 : ∀ k : Fin 14, (2 : Int) ^ k.val ≤ 8192 := by decide
    have q1 := p5 ⟨nb, by omega⟩
    have q2 := p5 ⟨nb', by omega⟩
    simp only [] at q1 q2
    have f1 : nb ≤ 32 := by omega
    have f2 : r < 4294967296 := by omega
    have f3 : (L ++ fxS s).length ≤ 70368744177600 := by rw [List.length_append]; omega
    have f4 := app_01 hL (fxS_01 s)
    have f5 := app_01 f4 (grp_01 r nb)
    have f6 : (L ++ fxS s ++ grp r nb).length ≤ 70368744177600 := by rw [List.length_append, List.length_append]; omega
    have f7 := app_01 f5 (spS_01 s')
    have f8 : (L ++ fxS s ++ grp r nb ++ spS s').length ≤ 70368744177600 := by rw [List.length_append, List.length_append, List.length_append]; omega
    have f9 : nb' ≤ 32 := by omega
    have f10 : r' < 4294967296 := by omega
    have f11 : s < 288 := by omega
    have f12 : s' < 32 := by omega
    have f13 : L.length ≤ 70368744177600 := by omega
    refine enter (vs := [.pointer (some ⟨b, 0, none⟩), .agg #[.int .u8 x, .int .i64 n, .int .i64 k]]) Try.func83 rfl rfl rfl hw ?_
    clear hw w
    repeat (first | apply hIx 3 | (first | (refine sx ?_; try intro _)))
    refine Hold.go ?_
    rename_i bx
    refine JS_H (H' := fwL b L q d pl ps pa pb cl cs ca cb (blk bx [.int .u8 x, .int .i64 n, .int .i64 k] :: H)) (fun w hw => hw.perm (by (repeat (first | exact List.Perm.refl _ | refine List.Perm.cons _ ?_ | refine (List.perm_middle (l₁ := [_])).trans (List.Perm.cons _ ?_) | refine (List.perm_middle (l₁ := [_, _])).trans (List.Perm.cons _ ?_) | refine (List.perm_middle (l₁ := [_, _, _])).trans (List.Perm.cons _ ?_) | refine (List.perm_middle (l₁ := [_, _, _, _])).trans (List.Perm.cons _ ?_) | refine (List.perm_middle (l₁ := [_, _, _, _, _])).trans (List.Perm.cons _ ?_) | refine (List.perm_middle (l₁ := [_, _, _, _, _, _])).trans (List.Perm.cons _ ?_) | refine (List.perm_middle (l₁ := [_, _, _, _, _, _, _])).trans (List.Perm.cons _ ?_) | refine (List.perm_middle (l₁ := [_, _, _, _, _, _, _, _])).trans (List.Perm.cons _ ?_))))) ?_
    repeat (first | (refine sx ?_; try intro _))
    refine JO_call Try.call71 rfl rfl fun w hw => (TLength_c n w hw).mono ?_
    rintro e w' ⟨rfl, hw'⟩
    rw [e1]; dsimp only
    refine ⟨_, rfl, _, hw', ?_⟩
    clear hw' hw w w'
    repeat (first | (refine sx ?_; try intro _))
    refine JO_call Try.call84 rfl rfl fun w hw => (FLit_c (H := blk bx [.int .u8 x, .int .i64 n, .int .i64 k] :: H) s f11 hL f13 w hw).mono ?_
    rintro e w' ⟨rfl, q2, d2, hw'⟩
    refine ⟨_, rfl, _, hw', ?_⟩
    clear hw' hw w w'
    repeat (first | (refine sx ?_; try intro _))
    refine JO_call Try.call47 rfl rfl fun w hw => (WGroupT_c b (L ++ fxS s) q2 d2 r nb f1 ⟨a4, a5⟩ f2 f4 f3 w hw).mono ?_
    rintro e w' ⟨rfl, q3, d3, hw'⟩
    refine ⟨_, rfl, _, hw', ?_⟩
    clear hw' hw w w'
    repeat (first | (refine sx ?_; try intro _))
    refine JO_call Try.call72 rfl rfl fun w hw => (Span_c k w hw).mono ?_
    rintro e w' ⟨rfl, hw'⟩
    rw [e2]; dsimp only
    refine ⟨_, rfl, _, hw', ?_⟩
    clear hw' hw w w'
    repeat (first | (refine sx ?_; try intro _))
    refine JO_call Try.call125 rfl rfl fun w hw => (FSpan_c (L := L ++ fxS s ++ grp r nb) (q := q3) (d := d3) (H := blk bx [.int .u8 x, .int .i64 n, .int .i64 k] :: H) s' f12 f5 f6 w hw).mono ?_
    rintro e w' ⟨rfl, q4, d4, hw'⟩
    refine ⟨_, rfl, _, hw', ?_⟩
    clear hw' hw w w'
    repeat (first | (refine sx ?_; try intro _))
    refine JO_call Try.call47 rfl rfl fun w hw => (WGroupT_c b (L ++ fxS s ++ grp r nb ++ spS s') q4 d4 r' nb' f9 ⟨c4, c5⟩ f10 f7 f8 w hw).mono ?_
    rintro e w' ⟨rfl, q5, d5, hw'⟩
    refine ⟨_, rfl, _, hw', ?_⟩
    clear hw' hw w w'
    repeat (first | (refine sx ?_; try intro _))
    refine JS_fin Try.func83 rfl rfl (vs := []) ?_
    intro w hw
    refine ⟨rfl, q5, d5, ?_⟩
    have : L ++ (fxS s ++ grp r nb ++ spS s' ++ grp r' nb') = L ++ fxS s ++ grp r nb ++ spS s' ++ grp r' nb' := by simp only [List.append_assoc]
    rw [this]
    exact St.sub (by repeat (first | exact List.Sublist.refl _ | apply List.Sublist.cons_cons | apply List.Sublist.cons)) hw
end
end Go.Proofs.Ytbiocgenbgbfpaa

namespace Go.Proofs.Ytbiocgenbgbfpaa
open Sx Go
set_option linter.unusedVariables false
set_option linter.unusedSimpArgs false
/-! zeros cut off behind -/
def cutm (B : List Nat) (least : Nat) : Nat → Nat
  | 0 => 0
  | m + 1 => if least < m + 1 ∧ B.getD m 0 = 0 then cutm B least m else m + 1
def cutN (B : List Nat) (least : Nat) : List Nat := B.take (cutm B least B.length)
theorem cutm_le (B : List Nat) (least : Nat) : ∀ m, cutm B least m ≤ m
  | 0 => Nat.le_refl _
  | m + 1 => by
    rw [cutm]
    split
    · have := cutm_le B least m; omega
    · omega
theorem cutm_ge (B : List Nat) (least : Nat) : ∀ m, least ≤ m → least ≤ cutm B least m
  | 0, h => h
  | m + 1, h => by
    rw [cutm]
    split
    · rename_i hc; exact cutm_ge B least m (by omega)
    · exact h
theorem cutm_zero (B : List Nat) (least : Nat) : ∀ m, ∀ j, cutm B least m ≤ j → j < m → B.getD j 0 = 0
  | 0, j, _, h => absurd h (by omega)
  | m + 1, j, h1, h2 => by
    rw [cutm] at h1
    split at h1
    · rename_i hc
      rcases Nat.lt_or_ge j m with h | h
      · exact cutm_zero B least m j h1 h
      · rw [show j = m by omega]; exact hc.2
    · omega
theorem nats_take (B : List Nat) (k : Nat) : nats (B.take k) = (nats B).take k := by unfold nats; rw [List.map_take]
section
variable {w0 : World} {H : List Asn}
set_option maxHeartbeats 1000000 in
theorem SqCut_c (p : Option Addr) (c m : Nat) (B : List Nat) (least : Nat) (hr : Rd w0 H (.slice p m c) m (ints .u8 (nats B))) (hm : B.length = m) (hm1 : m ≤ 1000) (hl : least ≤ 1000) (w : World) (hw : St w0 H w) :
    Calls Try.prog 45 #[.slice p m c, .int .i64 least] w fun e w' => ∃ q d, e = .returned (.slice q (cutN B least).length d) ∧ Rd w0 H (.slice q (cutN B least).length d) (cutN B least).length (ints .u8 (nats (cutN B least))) ∧ St w0 H w' := by
  refine enter (vs := [.slice p m c, .int .i64 least]) Try.func45 rfl rfl rfl hw ?_
  clear hw w
  repeat (first | (apply gJR; first | (refine sx ?_; try intro _)) | (apply gJO; first | (refine sx ?_; try intro _)) | apply JS_seq | apply JS_region)
  refine JS_block ?_
  refine JS_loop3 (fun (k : Nat) (q : Option Addr) (d : Nat) => [(0, .slice q k d), (1, .int .i64 least)]) (fun _ _ _ => H)
    (fun k q d => k ≤ m ∧ cutm B least k = cutm B least m ∧ Rd w0 H (.slice q k d) k (ints .u8 (nats (B.take k)))) (fun k _ _ => k) m p c ⟨Nat.le_refl _, rfl, by rw [List.take_of_length_le (by omega)]; exact hr⟩ (by repeat (first | exact trivial | refine ⟨rfl, ?_⟩ | refine ⟨lookI rfl (by omega), ?_⟩)) (fun w hw => hw) ?_
  intro k q d ⟨hk, hc, hrd⟩ again
  have hend : cutm B least k = k → ∀ w, St w0 H w → ∃ q' d', (Ending.returned (.slice q k d) = Ending.returned (.slice q' (cutN B least).length d')) ∧ Rd w0 H (.slice q' (cutN B least).length d') (cutN B least).length (ints .u8 (nats (cutN B least))) ∧ St w0 H w := fun h w hw => by
    have e : cutN B least = B.take k := by unfold cutN; rw [hm, ← hc, h]
    have e2 : (B.take k).length = k := by rw [List.length_take]; omega
    rw [e, e2]
    exact ⟨q, d, rfl, hrd, hw⟩
  by_cases hlt : least < k
  · obtain ⟨k, rfl⟩ : ∃ k', k = k' + 1 := ⟨k - 1, by omega⟩
    have g : (ints .u8 (nats (B.take (k + 1))))[k]? = some (.int .u8 (B.getD k 0 : Nat)) := by
      rw [nats_get8 (by rw [List.length_take]; omega)]
      rw [List.getD_eq_getElem?_getD, List.getElem?_take, if_pos (by omega), ← List.getD_eq_getElem?_getD]
    have e1 : IntKind.i64.wrap (((k + 1 : Nat) : Int) - 1) = (k : Int) := (wi64 (by omega)).trans (by omega)
    have hstep : cutm B least (k + 1) = if least < k + 1 ∧ B.getD k 0 = 0 then cutm B least k else k + 1 := rfl
    by_cases h0 : B.getD k 0 = 0
    · rw [if_pos ⟨hlt, h0⟩] at hstep
      have hrs := Rd_sub (lo := 0) (hi := k) (sz := 1) hrd (Nat.zero_le _) (by omega)
      rw [Nat.zero_mul, List.drop_zero, Nat.sub_zero, Nat.mul_one, ints_take, ← nats_take, List.take_take, show min k (k + 1) = k by omega] at hrs
      rw [h0] at g
      repeat (first | (apply gJO; first | refine JO_v (V_sub rfl rfl e1 rfl) ?_ | refine JO_v (V_loadC (tb := tb) rfl hrd rfl rfl g rfl) ?_ | refine JO_v (V_index (tb := tb) rfl rfl rfl rfl (Rd.sl hrd) (by omega) (by (try simp only [tn, tna, tn1, tn2, tn3, tn4, tnd16, tnd8, Int.reduceToNat]); first | exact Nat.mul_one _ | exact rfl) rfl) ?_ | refine JO_v (V_slice (tb := tb) (lo := 0) (hi := k) rfl rfl rfl rfl rfl rfl rfl (fun w hw => ⟨Nat.zero_le _, by have := Rd.capU hrd hw; omega⟩) rfl) ?_) | (first | (refine sx ?_; try intro _)))
      exact JS_again3 again k _ _ ⟨by omega, by rw [← hc, hstep], hrs⟩ (by omega) (by repeat (first | exact trivial | refine ⟨rfl, ?_⟩ | refine ⟨lookI rfl (by omega), ?_⟩)) (fun w hw => hw)
    · rw [if_neg (fun h => h0 h.2)] at hstep
      have hend := hend hstep
      clear again
      generalize B.getD k 0 = a at g h0
      repeat (first | (apply gJO; first | refine JO_v (V_sub rfl rfl e1 rfl) ?_ | refine JO_v (V_loadC (tb := tb) rfl hrd rfl rfl g rfl) ?_ | refine JO_v (V_index (tb := tb) rfl rfl rfl rfl (Rd.sl hrd) (by omega) (by (try simp only [tn, tna, tn1, tn2, tn3, tn4, tnd16, tnd8, Int.reduceToNat]); first | exact Nat.mul_one _ | exact rfl) rfl) ?_) | (first | (refine sx ?_; try intro _)))
      exact JS_ret Try.func45 rfl rfl fun w hw => hend w hw
  · have hend := hend (by
      cases k with
      | zero => rfl
      | succ k => rw [cutm, if_neg (fun h => hlt h.1)])
    clear again
    repeat (first | (refine sx ?_; try intro _))
    exact JS_ret Try.func45 rfl rfl fun w hw => hend w hw
/-- the lengths, where there are some -/
theorem SqBest_c (p : Option Addr) (c n : Nat) (W : List Nat) (hr : Rd w0 H (.slice p n c) n (ints .u64 (nats W))) (hn : W.length = n) (hW : ∀ j, W.getD j 0 < 18446744073709551616) (L : Nat) (hA : AskOK W L) (w : World) (hw : St w0 H w) :
    Calls Try.prog 46 #[.slice p n c, .int .i64 L] w fun e w' => ∃ (q : Option Addr) (d : Nat), e = .returned (.slice q n d) ∧ St w0 (vec 5 1 (.slice q n d) n (ints .u8 (tab n fun s => (Pm.LL W L s : Nat))) :: H) w' := by
  refine enter (vs := [.slice p n c, .int .i64 L]) Try.func46 rfl rfl rfl hw ?_
  have h320 := hA.1
  repeat (first | (refine sx ?_; try intro _))
  refine JO_call Try.call14 rfl rfl fun w hw => (Lengths_c p c n W hr hn (by omega) hW L w hw).mono ?_
  rintro e w' (⟨h, _⟩ | ⟨_, q, d, rfl, hw'⟩)
  · exact absurd hA h
  rw [Int.toNat_natCast] at hw'
  refine ⟨_, rfl, _, hw', ?_⟩
  clear hw' hw w w'
  repeat (first | (refine sx ?_; try intro _))
  exact JS_ret Try.func46 rfl rfl fun w hw => ⟨q, d, rfl, hw⟩
def ordV : List Value := [.int .i64 16, .int .i64 17, .int .i64 18, .int .i64 0, .int .i64 8, .int .i64 7, .int .i64 9, .int .i64 6, .int .i64 10, .int .i64 5, .int .i64 11, .int .i64 4, .int .i64 12, .int .i64 3, .int .i64 13, .int .i64 2, .int .i64 14, .int .i64 1, .int .i64 15]
theorem Order_c (w : World) (hw : St w0 H w) : Calls Try.prog 76 #[] w fun e w' => e = .returned (.agg ordV.toArray) ∧ St w0 H w' := by
  refine enter (vs := []) Try.func76 rfl rfl rfl hw ?_
  repeat (first | (apply gJO; refine JO_v (V_buildA (tb := tb) rfl rfl rfl rfl rfl) ?_) | (first | (refine sx ?_; try intro _)))
  rename_i b
  refine JS_retC (tb := tb) (vs := [.agg ordV.toArray]) Try.func76 rfl (.agg (b := b) (off := 0) rfl (List.Mem.head _) rfl rfl rfl .nil) ?_
  intro w hw
  exact ⟨rfl, St.sub (by repeat (first | exact List.Sublist.refl _ | apply List.Sublist.cons_cons | apply List.Sublist.cons)) hw⟩
/-- a token's symbols, with what follows -/
def splitR (t : Int × Nat × Nat) : List Sq.Run :=
  if t.2.2 = 0 then [(t.1.toNat, 0, 0)] else [((lenS t.2.1).1.toNat, (lenS t.2.1).2.2.toNat, (lenS t.2.1).2.1.toNat), ((spanS t.2.2).1.toNat, (spanS t.2.2).2.2.toNat, (spanS t.2.2).2.1.toNat)]
set_option maxRecDepth 10000 in
theorem Split_c (t : Int × Nat × Nat) (ht : TOK t) (w : World) (hw : St w0 H w) :
    Calls Try.prog 44 #[.agg #[.int .u8 t.1, .int .i64 t.2.1, .int .i64 t.2.2]] w fun e w' => ∃ q d, e = .returned (.slice q (splitR t).length d) ∧ St w0 (vec 83 3 (.slice q (splitR t).length d) (splitR t).length (rv (splitR t)) :: H) w' := by
  obtain ⟨x, n, k⟩ := t
  refine enter (vs := [.agg #[.int .u8 x, .int .i64 n, .int .i64 k]]) Try.func44 rfl rfl rfl hw ?_
  clear hw w
  rcases ht with ⟨h1, h2, h3, h4⟩ | ⟨h1, h2, h3, h4, h5⟩
  · simp only [] at h1 h2 h3 h4
    subst h3; subst h4
    obtain ⟨x', rfl⟩ : ∃ x' : Nat, x = x' := ⟨x.toNat, by omega⟩
    have e : splitR ((x' : Int), 0, 0) = [(x', 0, 0)] := rfl
    rw [e]
    have e2 : IntKind.i64.wrap (x' : Int) = (x' : Int) := wi64 (by omega)
    repeat (first | (apply gJO; refine JO_v (oCv (V_conv (tb := tb) rfl rfl rfl e2 rfl)) ?_) | (first | (refine sx ?_; try intro _)))
    rename_i b p
    exact JS_ret Try.func44 rfl rfl fun w hw => ⟨some p, 1, rfl, St.sub (by repeat (first | exact List.Sublist.refl _ | apply List.Sublist.cons_cons | apply List.Sublist.cons)) hw⟩
  · simp only [] at h1 h2 h3 h4 h5
    obtain ⟨s, nb, r, e1, a1, a2, a3, a4, a5, _⟩ := lenS_bd n (by omega) (by omega)
    obtain ⟨s', nb', r', e2, c1, c3, c4, c5, _⟩ := spanS_bd k (by omega) (by omega)
    obtain ⟨r, rfl⟩ := Int.eq_ofNat_of_zero_le a4
    obtain ⟨r', rfl⟩ := Int.eq_ofNat_of_zero_le c4
    have e : splitR (x, n, k) = [(s, r, nb), (s', r', nb')] := by
      unfold splitR
      simp only []
      rw [if_neg (by omega), e1, e2]
      simp only [Int.toNat_natCast]
    rw [e]
    repeat (first | (refine sx ?_; try intro _))
    refine JO_call Try.call71 rfl rfl fun w hw => (TLength_c n w hw).mono ?_
    rintro e w' ⟨rfl, hw'⟩
    rw [e1]; dsimp only
    refine ⟨_, rfl, _, hw', ?_⟩
    clear hw' hw w w'
    repeat (first | (refine sx ?_; try intro _))
    refine JO_call Try.call72 rfl rfl fun w hw => (Span_c k w hw).mono ?_
    rintro e w' ⟨rfl, hw'⟩
    rw [e2]; dsimp only
    refine ⟨_, rfl, _, hw', ?_⟩
    clear hw' hw w w'
    repeat (first | (refine sx ?_; try intro _))
    rename_i b p
    exact JS_ret Try.func44 rfl rfl fun w hw => ⟨some p, 2, rfl, St.sub (by repeat (first | exact List.Sublist.refl _ | apply List.Sublist.cons_cons | apply List.Sublist.cons)) hw⟩
end
end Go.Proofs.Ytbiocgenbgbfpaa

namespace Go.Proofs.Ytbiocgenbgbfpaa
open Sx Go Pm
set_option linter.unusedVariables false
set_option linter.unusedSimpArgs false
/-! costs, and what may be asked -/
/-- a cost, one by one -/
def costN (W : List Nat) (g : Nat → Nat) (k : Nat) : Nat := rs k fun i => W.getD i 0 * g i
section
variable {w0 : World} {H : List Asn}
theorem mulu (x b : Nat) : IntKind.u64.wrap ((x : Int) * (b : Int)) = ((x * b % 18446744073709551616 : Nat) : Int) := by
  rw [mu64, ← Int.natCast_mul]; rfl
theorem addu (S y : Nat) : IntKind.u64.wrap (((S % 18446744073709551616 : Nat) : Int) + ((y % 18446744073709551616 : Nat) : Int)) = (((S + y) % 18446744073709551616 : Nat) : Int) := by
  rw [mu64]; omega
set_option maxHeartbeats 1000000 in
theorem SCost_c (p q : Option Addr) (c d n m : Nat) (W : List Nat) (B : List Int) (hr : Rd w0 H (.slice p n c) n (ints .u64 (nats W))) (hn : W.length = n) (hr2 : Rd w0 H (.slice q m d) m (ints .u8 B)) (hm : B.length = m) (hB : OKB B) (hn1 : n ≤ 140737488355328) (hm1 : m ≤ 140737488355328) (w : World) (hw : St w0 H w) :
    Calls Try.prog 18 #[.slice p n c, .slice q m d] w fun e w' => e = .returned (.int .u64 (costN W (fun i => (B.getD i 0).toNat) (min n m) % 18446744073709551616 : Nat)) ∧ St w0 H w' := by
  refine enter (vs := [.slice p n c, .slice q m d]) Try.func18 rfl rfl rfl hw ?_
  have hmin : min (n : Int) (m : Int) = ((min n m : Nat) : Int) := by omega
  repeat (first | (apply gJO; refine JO_v (oc_min (V_min rfl rfl hmin rfl)) ?_) | (apply gJR; first | (refine sx ?_; try intro _)) | (apply gJO; first | (refine sx ?_; try intro _)) | apply JS_seq | apply JS_region)
  refine JS_block ?_
  refine JS_loop1 (fun (i : Nat) => [(0, .slice p n c), (1, .slice q m d), (5, .int .u64 (costN W (fun i => (B.getD i 0).toNat) i % 18446744073709551616 : Nat)), (11, .int .i64 (min n m : Nat)), (12, .int .i64 i)]) (fun _ => H) (fun i => i ≤ min n m) (fun i => min n m - i) 0 (Nat.zero_le _) (by repeat (first | exact trivial | refine ⟨rfl, ?_⟩ | refine ⟨lookI rfl (by omega), ?_⟩)) (fun _ h => h) ?_
  intro i hi again
  by_cases hlt : i < min n m
  · have g1 := nats_get (W := W) (j := i) (by omega)
    have g2 : (ints .u8 B)[i]? = some (.int .u8 (B.getD i 0)) := ints_get (by omega)
    have hb := hB i
    have hS : costN W (fun i => (B.getD i 0).toNat) (i + 1) = costN W (fun i => (B.getD i 0).toNat) i + W.getD i 0 * (B.getD i 0).toNat := rfl
    generalize costN W (fun i => (B.getD i 0).toNat) i = S at *
    obtain ⟨b, hbb⟩ := Int.eq_ofNat_of_zero_le hb.1
    rw [hbb] at g2 hb hS
    rw [Int.toNat_natCast] at hS
    have c1 : IntKind.u64.wrap (b : Int) = (b : Int) := wu64 (by omega)
    have c2 := mulu (W.getD i 0) b
    have c3 := addu S (W.getD i 0 * b)
    repeat (first | (apply gQO; first | refine QO_v rfl (V_loadC (tb := tb) rfl hr rfl rfl g1 rfl) ?_ | refine QO_v rfl (V_loadC (tb := tb) rfl hr2 rfl rfl g2 rfl) ?_ | refine QO_v rfl (oCv (V_conv (tb := tb) rfl rfl rfl c1 rfl)) ?_ | refine QO_v rfl (V_mul rfl rfl c2 rfl) ?_ | refine QO_v rfl (V_add rfl rfl c3 rfl) ?_) | (first | (refine sx ?_; try intro _)))
    rw [← hS]
    exact JS_again1 again (i + 1) (by omega) (by omega) ⟨rfl, rfl, rfl, rfl, lookI rfl (by omega), trivial⟩ (fun w hw => hw)
  · obtain rfl : i = min n m := by omega
    clear again
    repeat (first | (refine sx ?_; try intro _))
    exact JS_ret Try.func18 rfl rfl fun w hw => ⟨rfl, hw⟩
set_option maxHeartbeats 1000000 in
theorem RCost_c (p q : Option Addr) (c d n m : Nat) (W : List Nat) (B : List Int) (hr : Rd w0 H (.slice p n c) n (ints .u64 (nats W))) (hn : W.length = n) (hr2 : Rd w0 H (.slice q m d) m (ints .u8 B)) (hm : B.length = m) (hB : OKB B) (hn1 : n ≤ 140737488355328) (hm1 : m ≤ 140737488355328) (w : World) (hw : St w0 H w) :
    Calls Try.prog 16 #[.slice p n c, .slice q m d] w fun e w' => e = .returned (.int .u64 (costN W (fun i => (B.getD i 0).toNat) (min n m) % 18446744073709551616 : Nat)) ∧ St w0 H w' := by
  refine enter (vs := [.slice p n c, .slice q m d]) Try.func16 rfl rfl rfl hw ?_
  repeat (first | (apply gJR; first | (refine sx ?_; try intro _)) | (apply gJO; first | (refine sx ?_; try intro _)) | apply JS_seq | apply JS_region)
  refine JS_block ?_
  refine JS_loop1 (fun (i : Nat) => [(0, .slice p n c), (1, .slice q m d), (5, .int .u64 (costN W (fun i => (B.getD i 0).toNat) i % 18446744073709551616 : Nat)), (6, .int .i64 i)]) (fun _ => H) (fun i => i ≤ min n m) (fun i => min n m - i) 0 (Nat.zero_le _) (by repeat (first | exact trivial | refine ⟨rfl, ?_⟩ | refine ⟨lookI rfl (by omega), ?_⟩)) (fun _ h => h) ?_
  intro i hi again
  by_cases hlt : i < m
  · by_cases hlt2 : i < n
    · have g1 := nats_get (W := W) (j := i) (by omega)
      have g2 : (ints .u8 B)[i]? = some (.int .u8 (B.getD i 0)) := ints_get (by omega)
      have hb := hB i
      have hS : costN W (fun i => (B.getD i 0).toNat) (i + 1) = costN W (fun i => (B.getD i 0).toNat) i + W.getD i 0 * (B.getD i 0).toNat := rfl
      generalize costN W (fun i => (B.getD i 0).toNat) i = S at *
      obtain ⟨b, hbb⟩ := Int.eq_ofNat_of_zero_le hb.1
      rw [hbb] at g2 hb hS
      rw [Int.toNat_natCast] at hS
      have c1 : IntKind.u64.wrap (b : Int) = (b : Int) := wu64 (by omega)
      have c2 := mulu (W.getD i 0) b
      have c3 := addu S (W.getD i 0 * b)
      repeat (first | (apply gQO; first | refine QO_v rfl (V_loadC (tb := tb) rfl hr rfl rfl g1 rfl) ?_ | refine QO_v rfl (V_loadC (tb := tb) rfl hr2 rfl rfl g2 rfl) ?_ | refine QO_v rfl (oCv (V_conv (tb := tb) rfl rfl rfl c1 rfl)) ?_ | refine QO_v rfl (V_mul rfl rfl c2 rfl) ?_ | refine QO_v rfl (V_add rfl rfl c3 rfl) ?_) | (first | (refine sx ?_; try intro _)))
      rw [← hS]
      exact JS_again1 again (i + 1) (by omega) (by omega) ⟨rfl, rfl, rfl, lookI rfl (by omega), trivial⟩ (fun w hw => hw)
    · have hmn : min n m = i := by omega
      clear again
      rw [hmn]
      repeat (first | (refine sx ?_; try intro _))
      exact JS_ret Try.func16 rfl rfl fun w hw => ⟨rfl, hw⟩
  · have hmn : min n m = i := by omega
    clear again
    rw [hmn]
    repeat (first | (refine sx ?_; try intro _))
    exact JS_ret Try.func16 rfl rfl fun w hw => ⟨rfl, hw⟩
end
end Go.Proofs.Ytbiocgenbgbfpaa

namespace Go.Proofs.Ytbiocgenbgbfpaa
open Sx Go Pm
set_option linter.unusedVariables false
set_option linter.unusedSimpArgs false
section
variable {w0 : World} {H : List Asn}
theorem sum_step (W : List Nat) {i : Nat} (h : i < W.length) : (W.take (i + 1)).sum = (W.take i).sum + W.getD i 0 := by
  rw [take_snoc W h, List.sum_append]; simp
theorem lvf_step (W : List Nat) {i : Nat} (h : i < W.length) : lvf 0 (W.take (i + 1)) = lvf 0 (W.take i) ++ (if 0 < W.getD i 0 then [.leaf (W.getD i 0) i] else []) := by
  rw [take_snoc W h, lvf_app, Nat.zero_add, show (W.take i).length = i by rw [List.length_take]; omega, lvf]
  split <;> rfl
set_option maxHeartbeats 2000000 in
/-- may lengths be asked for? -/
theorem Asked_c (p : Option Addr) (c n : Nat) (W : List Nat) (hr : Rd w0 H (.slice p n c) n (ints .u64 (nats W))) (hn : W.length = n) (hn1 : n ≤ 140737488355328) (hW : ∀ j, W.getD j 0 < 18446744073709551616) (L : Int) (w : World) (hw : St w0 H w) :
    Calls Try.prog 13 #[.slice p n c, .int .i64 L] w fun e w' => ∃ (s : Int) (o : Bool), e = .returned (.tuple #[.int .i64 s, .bool o]) ∧ (o = true ↔ AskOK W L) ∧ (o = true → s = ((oneW W).length : Nat)) ∧ St w0 H w' := by
  refine enter (vs := [.slice p n c, .int .i64 L]) Try.func13 rfl rfl rfl hw ?_
  clear hw w
  by_cases h1 : 320 < n
  · repeat (first | (refine sx ?_; try intro _))
    refine JS_ret Try.func13 rfl rfl fun w hw => ⟨0, false, rfl, ⟨fun h => (by cases h), fun h => by have := h.1; omega⟩, fun h => (by cases h), hw⟩
  by_cases h2 : L < 1
  · repeat (first | (refine sx ?_; try intro _))
    refine JS_ret Try.func13 rfl rfl fun w hw => ⟨0, false, rfl, ⟨fun h => (by cases h), fun h => by have := h.2.1; omega⟩, fun h => (by cases h), hw⟩
  by_cases h3 : 15 < L
  · repeat (first | (refine sx ?_; try intro _))
    refine JS_ret Try.func13 rfl rfl fun w hw => ⟨0, false, rfl, ⟨fun h => (by cases h), fun h => by have := h.2.2.1; omega⟩, fun h => (by cases h), hw⟩
  obtain ⟨L, rfl⟩ := Int.eq_ofNat_of_zero_le (show 0 ≤ L by omega)
  repeat (first | (apply gJR; first | (refine sx ?_; try intro _)) | (apply gJO; first | (refine sx ?_; try intro _)) | apply JS_seq | apply JS_region | apply JS_skip | (apply gJS; refine JS_condF rfl ?_) | (apply gJS; refine JS_cond_F rfl (by omega) ?_))
  refine JS_block ?_
  refine JS_loop1 (fun (i : Nat) => [(0, .slice p n c), (1, .int .i64 L), (6, .int .i64 (lvf 0 (W.take i)).length), (7, .int .u64 (W.take i).sum), (8, .int .i64 i)]) (fun _ => H) (fun i => i ≤ n ∧ (W.take i).sum ≤ 4294967296) (fun i => n - i) 0 ⟨Nat.zero_le _, by simp⟩ (by repeat (first | exact trivial | refine ⟨rfl, ?_⟩ | refine ⟨lookI rfl (by omega), ?_⟩)) (fun _ h => h) ?_
  intro i ⟨hi, hs⟩ again
  by_cases hlt : i < n
  · have g := nats_get (W := W) (j := i) (by omega)
    have hwi := hW i
    have s1 := sum_step W (i := i) (by omega)
    have s2 := lvf_step W (i := i) (by omega)
    have hle := sum_take_le W (i + 1)
    have hml : (lvf 0 (W.take i)).length ≤ i := Nat.le_trans (lvf_len_le _ _) (by rw [List.length_take]; omega)
    generalize W.getD i 0 = x at g hwi s1 s2
    have s3 := congrArg List.length s2
    rw [List.length_append] at s3
    generalize (lvf 0 (W.take i)).length = k at s3 hml ⊢
    generalize (W.take i).sum = S at s1 hs ⊢
    by_cases hbig : 4294967296 - S < x
    · repeat (first | (apply gJO; refine JO_v (V_loadC (tb := tb) rfl hr rfl rfl g rfl) ?_) | (first | (refine sx ?_; try intro _)))
      refine JS_ret Try.func13 rfl rfl fun w hw => ⟨0, false, rfl, ⟨fun h => (by cases h), fun h => by have := h.2.2.2.1; omega⟩, fun h => (by cases h), hw⟩
    · by_cases h0 : 0 < x
      · rw [if_pos h0] at s3
        simp only [List.length_singleton] at s3
        repeat (first | (apply gJO; refine JO_v (V_loadC (tb := tb) rfl hr rfl rfl g rfl) ?_) | (first | (refine sx ?_; try intro _)))
        exact JS_again1 again (i + 1) ⟨by omega, by omega⟩ (by omega) ⟨rfl, rfl, lookI rfl (by omega), lookI rfl (by omega), lookI rfl (by omega), trivial⟩ (fun w hw => hw)
      · rw [if_neg h0] at s3
        simp only [List.length_nil] at s3
        repeat (first | (apply gJO; refine JO_v (V_loadC (tb := tb) rfl hr rfl rfl g rfl) ?_) | (first | (refine sx ?_; try intro _)))
        exact JS_again1 again (i + 1) ⟨by omega, by omega⟩ (by omega) ⟨rfl, rfl, lookI rfl (by omega), lookI rfl (by omega), lookI rfl (by omega), trivial⟩ (fun w hw => hw)
  obtain rfl : i = n := by omega
  clear again
  have hWt : W.take i = W := List.take_of_length_le (by omega)
  have hml : (lvf 0 W).length ≤ i := hn ▸ lvf_len_le _ _
  rw [hWt] at hs ⊢
  rw [← oneW_len W] at hml ⊢
  repeat (first | (apply gJR; first | (refine sx ?_; try intro _)) | (apply gJO; first | (refine sx ?_; try intro _)) | apply JS_seq | apply JS_region | apply JS_skip | (apply gJS; refine JS_condF rfl ?_) | (apply gJS; refine JS_cond_F rfl (by omega) ?_) | (apply gJS; refine JS_exit rfl ?_))
  refine JS_block ?_
  refine JS_loop1 (fun (k : Nat) => [(1, .int .i64 L), (6, .int .i64 (oneW W).length), (9, .int .i64 (2 ^ k : Nat)), (10, .int .i64 k)]) (fun _ => H) (fun k => k ≤ L) (fun k => L - k) 0 (Nat.zero_le _) (by repeat (first | exact trivial | refine ⟨rfl, ?_⟩ | refine ⟨lookI rfl (by omega), ?_⟩)) (fun _ h => h) ?_
  intro k hk again
  by_cases hlt : k < L
  · obtain ⟨q1, q2, q3⟩ := pw15b k (by omega)
    have e1 : IntKind.i64.wrap (2 * ((2 ^ k : Nat) : Int)) = ((2 ^ (k + 1) : Nat) : Int) := by rw [Nat.pow_succ]; exact (wi64 (by omega)).trans (by omega)
    repeat (first | (apply gJO; refine JO_v (V_mul rfl rfl e1 rfl) ?_) | (first | (refine sx ?_; try intro _)))
    exact JS_again1 again (k + 1) (by omega) (by omega) ⟨rfl, rfl, rfl, lookI rfl (by omega), trivial⟩ (fun w hw => hw)
  · obtain rfl : k = L := by omega
    clear again
    by_cases h4 : (oneW W).length ≤ 2 ^ k
    · have h4' : ((oneW W).length : Int) ≤ ((2 ^ k : Nat) : Int) := by omega
      repeat (first | (refine sx ?_; try intro _))
      refine JS_ret Try.func13 rfl rfl fun w hw => ⟨_, true, rfl, ⟨fun _ => ⟨by omega, by omega, by omega, hs, by rw [Int.toNat_natCast]; exact h4⟩, fun _ => rfl⟩, fun _ => rfl, hw⟩
    · have h4' : ¬ ((oneW W).length : Int) ≤ ((2 ^ k : Nat) : Int) := by omega
      repeat (first | (refine sx ?_; try intro _))
      refine JS_ret Try.func13 rfl rfl fun w hw => ⟨_, false, rfl, ⟨fun h => (by cases h), fun h => absurd (by have := h.2.2.2.2; rwa [Int.toNat_natCast] at this) h4⟩, fun h => (by cases h), hw⟩
/-- may these lengths be? -/
def FitP (W : List Nat) (B : List Int) (L : Int) : Prop :=
  B.length = W.length ∧ (∀ s, s < W.length → B.getD s 0 ≤ L ∧ (0 < B.getD s 0 ↔ 0 < W.getD s 0)) ∧
  ((lvf 0 W).length = 0 ∨ ((lvf 0 W).length = 1 ∧ tkn W (fun s => (B.getD s 0).toNat) = 16384) ∨ (2 ≤ (lvf 0 W).length ∧ tkn W (fun s => (B.getD s 0).toNat) = 32768))
theorem tkn_step (W : List Nat) (g : Nat → Nat) {i : Nat} (h : i < W.length) : tkn (W.take (i + 1)) g = tkn (W.take i) g + (if 0 < W.getD i 0 then 32768 / 2 ^ g i else 0) := by
  unfold tkn
  rw [lvf_step W h, List.map_append, List.sum_append]
  congr 1
  split <;> simp [Pm.sy]
set_option maxHeartbeats 8000000 in
theorem SqFits_c (p q : Option Addr) (c d n m : Nat) (W : List Nat) (B : List Int) (hr : Rd w0 H (.slice p n c) n (ints .u64 (nats W))) (hn : W.length = n) (hr2 : Rd w0 H (.slice q m d) m (ints .u8 B)) (hm : B.length = m) (hB : OKB B) (hn1 : n ≤ 1000) (hW : ∀ j, W.getD j 0 < 18446744073709551616) (hm1 : m ≤ 140737488355328) (L : Int) (hL : -9223372036854775808 ≤ L ∧ L < 9223372036854775808) (w : World) (hw : St w0 H w) :
    Calls Try.prog 15 #[.slice p n c, .slice q m d, .int .i64 L] w fun e w' => ∃ o : Bool, e = .returned (.bool o) ∧ (o = true ↔ FitP W B L) ∧ St w0 H w' := by
  refine enter (vs := [.slice p n c, .slice q m d, .int .i64 L]) Try.func15 rfl rfl rfl hw ?_
  clear hw w
  by_cases hmn : m = n
  case neg =>
    repeat (first | (refine sx ?_; try intro _))
    exact JS_ret Try.func15 rfl rfl fun w hw => ⟨false, rfl, ⟨fun h => (by cases h), fun h => by have := h.1; omega⟩, hw⟩
  subst hmn
  repeat (first | (apply gJR; first | (refine sx ?_; try intro _)) | (apply gJO; first | (refine sx ?_; try intro _)) | apply JS_seq | apply JS_region | apply JS_skip | (apply gJS; refine JS_condF rfl ?_) | (apply gJS; refine JS_cond_F rfl (by omega) ?_))
  refine JS_block ?_
  have hlt1 : ∀ i, (lvf 0 (W.take i)).length ≤ i := fun i => Nat.le_trans (lvf_len_le _ _) (by rw [List.length_take]; omega)
  refine JS_loop1 (fun (i : Nat) => [(0, .slice p m c), (1, .slice q m d), (2, .int .i64 L), (7, .int .i64 (lvf 0 (W.take i)).length), (8, .int .i64 (tkn (W.take i) fun s => (B.getD s 0).toNat : Nat)), (9, .int .i64 i)]) (fun _ => H)
    (fun i => i ≤ m ∧ (∀ s, s < i → B.getD s 0 ≤ L ∧ (0 < B.getD s 0 ↔ 0 < W.getD s 0)) ∧ tkn (W.take i) (fun s => (B.getD s 0).toNat) ≤ 32768 * i) (fun i => m - i) 0 ⟨Nat.zero_le _, fun s h => absurd h (by omega), Nat.zero_le _⟩ (by repeat (first | exact trivial | refine ⟨rfl, ?_⟩ | refine ⟨lookI rfl (by omega), ?_⟩)) (fun _ h => h) ?_
  intro i ⟨hi, hok, htk⟩ again
  by_cases hlt : i < m
  · have g1 := nats_get (W := W) (j := i) (by omega)
    have g2 : (ints .u8 B)[i]? = some (.int .u8 (B.getD i 0)) := ints_get (by omega)
    have hb := hB i
    have hwi := hW i
    have bad : ¬ (B.getD i 0 ≤ L ∧ (0 < B.getD i 0 ↔ 0 < W.getD i 0)) → ¬ FitP W B L := fun hno h => hno (h.2.1 i (by omega))
    have s2 := lvf_step W (i := i) (by omega)
    have s3 := tkn_step W (fun s => (B.getD s 0).toNat) (i := i) (by omega)
    have s4 := congrArg List.length s2
    rw [List.length_append] at s4
    have hk1 := hlt1 i
    have nxt : (B.getD i 0 ≤ L ∧ (0 < B.getD i 0 ↔ 0 < W.getD i 0)) → ∀ s, s < i + 1 → B.getD s 0 ≤ L ∧ (0 < B.getD s 0 ↔ 0 < W.getD s 0) := fun h s hs => by
      by_cases e : s = i
      · subst e; exact h
      · exact hok s (by omega)
    obtain ⟨b, hbb⟩ := Int.eq_ofNat_of_zero_le hb.1
    rw [hbb] at g2 hb bad nxt
    simp only [hbb, Int.toNat_natCast] at s3
    obtain ⟨x, hx⟩ : ∃ x, W.getD i 0 = x := ⟨_, rfl⟩
    rw [hx] at g1 bad nxt s3 s4 hwi
    generalize (lvf 0 (W.take i)).length = k at s4 hk1 ⊢
    generalize tkn (W.take i) (fun s => (B.getD s 0).toNat) = t at s3 htk ⊢
    have c1 : IntKind.i64.wrap (b : Int) = (b : Int) := wi64 (by omega)
    by_cases hx0 : 0 < x
    · by_cases hb0 : 0 < b
      · by_cases hbL : L < (b : Int)
        · repeat (first | (apply gJO; first | refine JO_v (V_loadC (tb := tb) rfl hr rfl rfl g1 rfl) ?_ | refine JO_v (V_loadC (tb := tb) rfl hr2 rfl rfl g2 rfl) ?_ | refine JO_v (oCv (V_conv (tb := tb) rfl rfl rfl c1 rfl)) ?_) | (first | (refine sx ?_; try intro _)))
          exact JS_ret Try.func15 rfl rfl fun w hw => ⟨false, rfl, ⟨fun h => (by cases h), fun h => absurd h (bad (by omega))⟩, hw⟩
        · rw [if_pos hx0] at s3 s4
          simp only [List.length_singleton] at s4
          repeat (first | (apply gJO; first | refine JO_v (V_loadC (tb := tb) rfl hr rfl rfl g1 rfl) ?_ | refine JO_v (V_loadC (tb := tb) rfl hr2 rfl rfl g2 rfl) ?_ | refine JO_v (oCv (V_conv (tb := tb) rfl rfl rfl c1 rfl)) ?_) | (apply gJR; first | (refine sx ?_; try intro _)) | (apply gJO; first | (refine sx ?_; try intro _)) | apply JS_seq | apply JS_region | apply JS_skip | (apply gJS; refine JS_condF rfl ?_) | (apply gJS; refine JS_condT rfl ?_) | (apply gJS; refine JS_cond_F rfl (by omega) ?_) | (apply gJS; refine JS_cond_T rfl (by omega) ?_))
          refine JS_block ?_
          repeat (first | (apply gJO; first | refine JO_v (V_loadC (tb := tb) rfl hr rfl rfl g1 rfl) ?_ | refine JO_v (V_loadC (tb := tb) rfl hr2 rfl rfl g2 rfl) ?_ | refine JO_v (oCv (V_conv (tb := tb) rfl rfl rfl c1 rfl)) ?_) | (apply gJR; first | (refine sx ?_; try intro _)) | (apply gJO; first | (refine sx ?_; try intro _)) | apply JS_seq | apply JS_region | apply JS_skip | (apply gJS; refine JS_condF rfl ?_) | (apply gJS; refine JS_condT rfl ?_) | (apply gJS; refine JS_cond_F rfl (by omega) ?_) | (apply gJS; refine JS_cond_T rfl (by omega) ?_))
          refine JS_block ?_
          refine JS_loop1 (fun (j : Nat) => [(0, .slice p m c), (1, .slice q m d), (2, .int .i64 L), (7, .int .i64 (k + 1 : Nat)), (8, .int .i64 t), (9, .int .i64 i), (10, .int .i64 (32768 / 2 ^ j : Nat)), (11, .int .u8 j)]) (fun _ => H) (fun j => j ≤ b) (fun j => b - j) 0 (Nat.zero_le _) ⟨rfl, rfl, rfl, lookI rfl (by omega), rfl, rfl, rfl, rfl, trivial⟩ (fun _ h => h) ?_
          intro j hj again2
          by_cases hjb : j < b
          · have e1 : ((32768 / 2 ^ j : Nat) : Int) / 2 = ((32768 / 2 ^ (j + 1) : Nat) : Int) := by
              rw [Nat.pow_succ, ← Nat.div_div_eq_div_mul]; omega
            have hpos : (0 : Int) ≤ ((32768 / 2 ^ j : Nat) : Int) := Int.natCast_nonneg _
            have hpo2 : ((32768 / 2 ^ j : Nat) : Int) ≤ 32768 := by
              have hz := Nat.div_le_self 32768 (2 ^ j)
              generalize 32768 / 2 ^ j = z at hz ⊢
              omega
            generalize ((32768 / 2 ^ j : Nat) : Int) = v at e1 hpos hpo2 ⊢
            repeat (first | (apply gJO; first | refine JO_v (V_loadC (tb := tb) rfl hr2 rfl rfl g2 rfl) ?_) | (first | (refine sx ?_; try intro _)))
            exact JS_again1 again2 (j + 1) (by omega) (by omega) ⟨rfl, rfl, rfl, rfl, rfl, rfl, lookI rfl e1, lookI rfl (by omega), trivial⟩ (fun w hw => hw)
          · obtain rfl : j = b := by omega
            clear again2
            have hv : 32768 / 2 ^ j ≤ 32768 := Nat.div_le_self _ _
            have nx := nxt ⟨by omega, ⟨fun _ => hx0, fun _ => by omega⟩⟩
            generalize 32768 / 2 ^ j = v at s3 hv ⊢
            repeat (first | (apply gJO; first | refine JO_v (V_loadC (tb := tb) rfl hr2 rfl rfl g2 rfl) ?_) | (first | (refine sx ?_; try intro _)))
            exact JS_again1 again (i + 1) ⟨by omega, nx, by omega⟩ (by omega) ⟨rfl, rfl, rfl, lookI rfl (by omega), lookI rfl (by omega), lookI rfl (by omega), trivial⟩ (fun w hw => hw)
      · repeat (first | (apply gJO; first | refine JO_v (V_loadC (tb := tb) rfl hr rfl rfl g1 rfl) ?_ | refine JO_v (V_loadC (tb := tb) rfl hr2 rfl rfl g2 rfl) ?_ | refine JO_v (oCv (V_conv (tb := tb) rfl rfl rfl c1 rfl)) ?_) | (first | (refine sx ?_; try intro _)))
        exact JS_ret Try.func15 rfl rfl fun w hw => ⟨false, rfl, ⟨fun h => (by cases h), fun h => absurd h (bad (by omega))⟩, hw⟩
    · by_cases hb0 : 0 < b
      · repeat (first | (apply gJO; first | refine JO_v (V_loadC (tb := tb) rfl hr rfl rfl g1 rfl) ?_ | refine JO_v (V_loadC (tb := tb) rfl hr2 rfl rfl g2 rfl) ?_ | refine JO_v (oCv (V_conv (tb := tb) rfl rfl rfl c1 rfl)) ?_) | (first | (refine sx ?_; try intro _)))
        exact JS_ret Try.func15 rfl rfl fun w hw => ⟨false, rfl, ⟨fun h => (by cases h), fun h => absurd h (bad (by omega))⟩, hw⟩
      · by_cases hbL : L < (b : Int)
        · repeat (first | (apply gJO; first | refine JO_v (V_loadC (tb := tb) rfl hr rfl rfl g1 rfl) ?_ | refine JO_v (V_loadC (tb := tb) rfl hr2 rfl rfl g2 rfl) ?_ | refine JO_v (oCv (V_conv (tb := tb) rfl rfl rfl c1 rfl)) ?_) | (first | (refine sx ?_; try intro _)))
          exact JS_ret Try.func15 rfl rfl fun w hw => ⟨false, rfl, ⟨fun h => (by cases h), fun h => absurd h (bad (by omega))⟩, hw⟩
        · rw [if_neg hx0] at s3 s4
          simp only [List.length_nil] at s4
          have nx := nxt (by omega)
          repeat (first | (apply gJO; first | refine JO_v (V_loadC (tb := tb) rfl hr rfl rfl g1 rfl) ?_ | refine JO_v (V_loadC (tb := tb) rfl hr2 rfl rfl g2 rfl) ?_ | refine JO_v (oCv (V_conv (tb := tb) rfl rfl rfl c1 rfl)) ?_) | (first | (refine sx ?_; try intro _)))
          exact JS_again1 again (i + 1) ⟨by omega, nx, by omega⟩ (by omega) ⟨rfl, rfl, rfl, lookI rfl (by omega), lookI rfl (by omega), lookI rfl (by omega), trivial⟩ (fun w hw => hw)
  · obtain rfl : i = m := by omega
    clear again
    have hWt : W.take i = W := List.take_of_length_le (by omega)
    have fin : FitP W B L ↔ ((lvf 0 W).length = 0 ∨ ((lvf 0 W).length = 1 ∧ tkn W (fun s => (B.getD s 0).toNat) = 16384) ∨ (2 ≤ (lvf 0 W).length ∧ tkn W (fun s => (B.getD s 0).toNat) = 32768)) := ⟨fun h => h.2.2, fun h => ⟨by omega, fun s hs => hok s (by omega), h⟩⟩
    have hk1 := hlt1 i
    rw [hWt] at hk1 htk ⊢
    generalize (lvf 0 W).length = k at fin hk1 ⊢
    generalize tkn W (fun s => (B.getD s 0).toNat) = t at fin htk ⊢
    by_cases k0 : k = 0
    · repeat (first | (refine sx ?_; try intro _))
      exact JS_ret Try.func15 rfl rfl fun w hw => ⟨true, rfl, ⟨fun _ => fin.2 (.inl k0), fun _ => rfl⟩, hw⟩
    by_cases k1 : k = 1
    · by_cases ht : t = 16384
      · repeat (first | (refine sx ?_; try intro _))
        exact JS_ret Try.func15 rfl rfl fun w hw => ⟨true, rfl, ⟨fun _ => fin.2 (.inr (.inl ⟨k1, ht⟩)), fun _ => rfl⟩, hw⟩
      · repeat (first | (refine sx ?_; try intro _))
        exact JS_ret Try.func15 rfl rfl fun w hw => ⟨false, rfl, ⟨fun h => (by cases h), fun h => by have := fin.1 h; omega⟩, hw⟩
    · by_cases ht : t = 32768
      · repeat (first | (refine sx ?_; try intro _))
        exact JS_ret Try.func15 rfl rfl fun w hw => ⟨true, rfl, ⟨fun _ => fin.2 (.inr (.inr ⟨by omega, ht⟩)), fun _ => rfl⟩, hw⟩
      · repeat (first | (refine sx ?_; try intro _))
        exact JS_ret Try.func15 rfl rfl fun w hw => ⟨false, rfl, ⟨fun h => (by cases h), fun h => by have := fin.1 h; omega⟩, hw⟩
end
end Go.Proofs.Ytbiocgenbgbfpaa

namespace Go.Proofs.Ytbiocgenbgbfpaa
open Sx Go Go.ChangeShapes Go.WideShapes
set_option linter.unusedVariables false
set_option linter.unusedSimpArgs false
theorem cell_lt {w : World} {a : Addr} {v : Value} (h : w.cell? a = some v) : a.block < w.heap.size := by
  rcases Nat.lt_or_ge a.block w.heap.size with h1 | h1
  · exact h1
  · simp [World.cell?, Array.getElem?_eq_none h1] at h
theorem wf64 {a : Int} (h : (Lit.int .i64 a).wf = true) : -9223372036854775808 ≤ a ∧ a < 9223372036854775808 := by
  simp only [Lit.wf, Bool.and_eq_true, decide_eq_true_eq] at h
  have h1 : IntKind.i64.min = -9223372036854775808 := by decide
  have h2 : IntKind.i64.max = 9223372036854775808 - 1 := by decide
  omega
theorem wfu64 {a : Int} (h : (Lit.int .u64 a).wf = true) : 0 ≤ a ∧ a < 18446744073709551616 := by
  simp only [Lit.wf, Bool.and_eq_true, decide_eq_true_eq] at h
  have h1 : IntKind.u64.min = 0 := by decide
  have h2 : IntKind.u64.max = 18446744073709551616 - 1 := by decide
  omega
theorem argRd_mk {w0 : World} {u : Value} {m : Nat} {cs : List Value} (h1 : isSl u m) (h2 : ∀ j v, cs[j]? = some v → ∃ a, cellPtr u j = .pointer (some a) ∧ a.block < w0.heap.size ∧ w0.cell? a = some v) : ArgRd w0 u m cs := by
  unfold ArgRd; exact ⟨h1, h2⟩
def iv : Value → Int
  | .int _ n => n
  | _ => 0
theorem wfu8 {a : Int} (h : (Lit.int .u8 a).wf = true) : 0 ≤ a ∧ a < 256 := by
  simp only [Lit.wf, Bool.and_eq_true, decide_eq_true_eq] at h
  have h1 : IntKind.u8.min = 0 := by decide
  have h2 : IntKind.u8.max = 256 - 1 := by decide
  omega
end Go.Proofs.Ytbiocgenbgbfpaa

namespace Go.Proofs.Ytbiocgenbgbfpaa
open Sx Go Go.ChangeShapes Go.WideShapes
set_option linter.unusedVariables false
set_option linter.unusedSimpArgs false
theorem cells3 : Try.prog.cellsOf 3 = 1 := by kernel_rfl
def OKI (B : List Int) : Prop := ∀ j, -9223372036854775808 ≤ B.getD j 0 ∧ B.getD j 0 < 9223372036854775808
set_option maxRecDepth 100000 in
/-- a slice of numbers that came in -/
theorem open_ints {H : Type} {enc : TypeId × Value → H} {W : World} {base : Nat} {v : Value} {d : DataW H} {p : List MemPlace} (hval : Value.okWide Try.prog W .any base 63 v) (h : DataW.Trod enc Try.prog W 0 (fun _ => true) true 63 v d p) :
    ∃ (b : Option Addr) (c m : Nat) (B : List Int), v = .slice b m c ∧ ArgRd W (.slice b m c) m (ints .i64 B) ∧ B.length = m ∧ (OKI B ∧ (b = none → m = 0)) ∧ (m = 0 ∨ ∃ E S, d = .slice E S ∧ E.length = m) := by
  obtain ⟨b, m, c, rfl⟩ := okWide_slice Try.underlying63 hval
  obtain ⟨fuel, hf⟩ := h
  rcases Go.ChangeShapes.open_ints Try.underlying63 Try.underlying3 cells3 hf with ⟨hcs, _⟩ | ⟨a, len', cap', zs, hcs, _, hl, hm, hz, hx, hcell, hwz⟩
  · simp [Value.cells] at hcs
    obtain ⟨rfl, rfl, rfl⟩ := hcs
    exact ⟨none, 0, 0, [], rfl, argRd_mk ⟨none, 0, rfl, fun _ => rfl, Nat.le_refl _⟩ (fun j v h => by simp [ints] at h), rfl, ⟨fun j => by simp, fun _ => rfl⟩, .inl rfl⟩
  · simp [Value.cells] at hcs
    obtain ⟨rfl, rfl, rfl⟩ := hcs
    simp only [if_true] at hz
    refine ⟨some a, c, m, zs.take m, rfl, argRd_mk ⟨some a, c, rfl, (fun h => by cases h), hl⟩ (fun j v hv => ?_), by simp; omega, ⟨fun j => ?_, fun h => (by cases h)⟩, .inr ⟨_, _, congrArg Prod.fst hx, by simp [lits]; omega⟩⟩
    · have hj : j < m := by
        have := (List.getElem?_eq_some_iff.1 hv).1
        simp [ints] at this; omega
      have e : (ints .i64 (zs.take m))[j]? = some (.int .i64 (zs.getD j 0)) := by
        have := ints_get (K := .i64) (l := zs.take m) (j := j) (by simp; omega)
        rw [this]
        congr 2
        simp [List.getD_eq_getElem?_getD, List.getElem?_take, hj]
      rw [e] at hv
      obtain rfl := Option.some.inj hv
      exact ⟨a.add j, cellPtr_eq a m c j, by simpa using cell_lt (hcell j (by omega)), hcell j (by omega)⟩
    · rcases Nat.lt_or_ge j m with hj | hj
      · have : (zs.take m).getD j 0 = zs[j]'(by omega) := by simp [List.getD_eq_getElem?_getD, List.getElem?_take, hj, show j < zs.length by omega]
        rw [this]
        exact wf64 (hwz _ (List.getElem_mem _))
      · have : (zs.take m).getD j 0 = 0 := by
          rw [List.getD_eq_getElem?_getD, List.getElem?_eq_none (by simp; omega)]; rfl
        rw [this]; decide
end Go.Proofs.Ytbiocgenbgbfpaa

namespace Go.Proofs.Ytbiocgenbgbfpaa
open Sx Go Pm
set_option linter.unusedVariables false
set_option linter.unusedSimpArgs false
theorem getD_lt {W : List Nat} {b : Nat} (hb : 0 < b) (h : W.all (fun x => decide (x < b)) = true) (j : Nat) : W.getD j 0 < b := by
  rw [List.getD_eq_getElem?_getD]
  cases e : W[j]? with
  | none => exact hb
  | some x =>
    rw [List.all_eq_true] at h
    exact of_decide_eq_true (h x (List.mem_of_getElem? e))
/-- numbers brought to where all together are not too many -/
def fewW (W : List Nat) : List Nat := (W.take 320).map fun x => x % 1000000
theorem nats_snoc (W : List Nat) (x : Nat) : nats (W ++ [x]) = nats W ++ [(x : Int)] := by simp [nats]
theorem few_step (W : List Nat) {i : Nat} (h : i < W.length) : nats ((W.take (i + 1)).map fun x => x % 1000000) = nats ((W.take i).map fun x => x % 1000000) ++ [((W.getD i 0 % 1000000 : Nat) : Int)] := by
  rw [take_snoc W h, List.map_append, List.map_cons, List.map_nil, nats_snoc]
theorem fewW_lt (W : List Nat) : ∀ j, (fewW W).getD j 0 < 1000000 := fun j => getD_lt (by omega) (by
  rw [List.all_eq_true]
  intro x hx
  obtain ⟨y, _, rfl⟩ := List.mem_map.1 hx
  exact decide_eq_true (Nat.mod_lt _ (by omega))) j
section
variable {w0 : World} {H : List Asn}
set_option maxHeartbeats 1000000 in
theorem Few_c (p : Option Addr) (c n : Nat) (W : List Nat) (hr : Rd w0 H (.slice p n c) n (ints .u64 (nats W))) (hn : W.length = n) (hn1 : n ≤ 140737488355328) (hW : ∀ j, W.getD j 0 < 18446744073709551616) (w : World) (hw : St w0 H w) :
    Calls Try.prog 12 #[.slice p n c] w fun e w' => ∃ q d, e = .returned (.slice q (fewW W).length d) ∧ St w0 (vec 31 1 (.slice q (fewW W).length d) (fewW W).length (ints .u64 (nats (fewW W))) :: H) w' := by
  refine enter (vs := [.slice p n c]) Try.func12 rfl rfl rfl hw ?_
  repeat (first | (apply gJR; first | (refine sx ?_; try intro _)) | (apply gJO; first | (refine sx ?_; try intro _)) | apply JS_seq | apply JS_region)
  refine JS_block ?_
  refine JS_loop3 (fun (i : Nat) (q : Option Addr) (d : Nat) => [(0, .slice p n c), (3, .slice q i d), (4, .int .i64 i)]) (fun i q d => vec 31 1 (.slice q i d) i (ints .u64 (nats ((W.take i).map fun x => x % 1000000))) :: H) (fun i _ _ => i ≤ n ∧ i ≤ 320) (fun i _ _ => n - i) 0 none 0 ⟨Nat.zero_le _, Nat.zero_le _⟩ (by repeat (first | exact trivial | refine ⟨rfl, ?_⟩ | refine ⟨lookI rfl (by omega), ?_⟩)) (fun w hw => St.nilvec hw) ?_
  intro i q d ⟨hi, hi3⟩ again
  have hend : (fewW W).length = i → nats ((W.take i).map fun x => x % 1000000) = nats (fewW W) := fun h => by
    unfold fewW at h ⊢
    rw [List.length_map, List.length_take] at h
    rcases Nat.lt_or_ge 320 W.length with h' | h'
    · rw [show i = 320 by omega]
    · rw [List.take_of_length_le (l := W) (i := 320) h', List.take_of_length_le (by omega)]
  have hfl : (fewW W).length = min 320 n := by unfold fewW; rw [List.length_map, List.length_take, hn]
  by_cases hlt : i < n
  · by_cases h3 : i < 320
    · have g := nats_get (W := W) (j := i) (by omega)
      have hwi := hW i
      have s := few_step W (i := i) (by omega)
      have hl : (nats ((W.take i).map fun x => x % 1000000)).length = i := by rw [nats_len, List.length_map, List.length_take]; omega
      generalize W.getD i 0 = x at g hwi s
      repeat (first | (apply gJO; first | refine JO_v (V_loadC (tb := tb) rfl (Rd_weak hr fun w hw => hw.drop) rfl rfl g rfl) ?_) | (apply gJO; (refine JO_app (tb := tb) rfl rfl rfl rfl rfl rfl (by repeat (first | exact Sel.here _ _ | apply Sel.there)) (by first | exact vec_rd (by repeat (first | apply List.Mem.head | apply List.Mem.tail)) | assumption | exact ArgRd.rd (by assumption) _ | (apply Rd_weak; assumption; intro _ hx; exact St.sub (by repeat (first | exact List.Sublist.refl _ | apply List.Sublist.cons_cons | apply List.Sublist.cons)) hx)) (by simp only [ints_len, List.length_cons, List.length_nil]; first | omega | rfl) (by first | exact ints_one | (repeat (first | exact trivial | refine ⟨rfl, ?_⟩))) (by omega) rfl ?_; intro _ _)) | (first | (refine sx ?_; try intro _)))
      refine JS_again3 again (i + 1) _ _ ⟨by omega, by omega⟩ (by omega) (by repeat (first | exact trivial | refine ⟨rfl, ?_⟩ | refine ⟨lookI rfl (by omega), ?_⟩)) (fun w hw => ?_)
      rw [s, ← ints_app]
      exact St.sub (by repeat (first | exact List.Sublist.refl _ | apply List.Sublist.cons_cons | apply List.Sublist.cons)) hw
    · clear again
      repeat (first | (refine sx ?_; try intro _))
      refine JS_ret Try.func12 rfl rfl fun w hw => ?_
      have e : (fewW W).length = i := by omega
      rw [hend e] at hw
      rw [e]
      exact ⟨q, d, rfl, hw⟩
  · clear again
    repeat (first | (refine sx ?_; try intro _))
    refine JS_ret Try.func12 rfl rfl fun w hw => ?_
    have e : (fewW W).length = i := by omega
    rw [hend e] at hw
    rw [e]
    exact ⟨q, d, rfl, hw⟩
theorem V_eqStrU {n : Nat} {D : List Deferred} {ov : Ov} {d : Option Nat} {T T1 T2 : Nat} {pos : String} {af : Array Edge} {g : Option (Nat × Bool)} {x y : Operand} {s : ByteArray}
    (hx : ev ov x = some (.string s)) (hy : ev ov y = some (.string s)) (hd : dOk d n = true) : OpV Try.prog n D w0 ov H ⟨d, .binOp .eql T1 x y T2, T, pos, af, g⟩ (.bool true) := by
  unfold OpV
  exact ⟨hd, fun a w ha _ => by simp [execOp, ha.ev hx, ha.ev hy, eqGuard, binOp, Op.stringOp]⟩
theorem exb1 : AskOK [5, 1, 1, 0] 15 ∧ tab 4 (fun s => ((LL [5, 1, 1, 0] 15 s : Nat) : Int)) = [1, 2, 2, 0] := ⟨⟨by decide, by decide, by decide, by decide, by decide +kernel⟩, by decide +kernel⟩
theorem exb2 : AskOK [8, 4, 2, 1] 2 ∧ tab 4 (fun s => ((LL [8, 4, 2, 1] 2 s : Nat) : Int)) = [2, 2, 2, 2] := ⟨⟨by decide, by decide, by decide, by decide, by decide +kernel⟩, by decide +kernel⟩
theorem exb3 : AskOK [3] 1 ∧ tab 1 (fun s => ((LL [3] 1 s : Nat) : Int)) = [1] := ⟨⟨by decide, by decide, by decide, by decide, by decide +kernel⟩, by decide +kernel⟩
theorem exb4 : costN [5, 1, 1] (fun i => (([1, 2, 2] : List Int).getD i 0).toNat) (min 3 3) % 18446744073709551616 = 9 := by decide +kernel
/-- lengths where they are known -/
theorem Lengths_at (p : Option Addr) (c n : Nat) (W : List Nat) (hr : Rd w0 H (.slice p n c) n (ints .u64 (nats W))) (hn : W.length = n) (hn1 : n ≤ 140737488355328) (hW : ∀ j, W.getD j 0 < 18446744073709551616) (L : Int) (B : List Int) (hA : AskOK W L ∧ tab n (fun s => ((LL W L.toNat s : Nat) : Int)) = B) (w : World) (hw : St w0 H w) :
    Calls Try.prog 14 #[.slice p n c, .int .i64 L] w fun e w' => ∃ (q : Option Addr) (d : Nat), e = .returned (.tuple #[.slice q n d, .int .i64 0]) ∧ St w0 (vec 5 1 (.slice q n d) n (ints .u8 B) :: H) w' := by
  refine (Lengths_c p c n W hr hn hn1 hW L w hw).mono ?_
  rintro e w' (⟨h, _⟩ | ⟨_, q, d, h1, h2⟩)
  · exact absurd hA.1 h
  · rw [hA.2] at h2
    exact ⟨q, d, h1, h2⟩
set_option maxRecDepth 10000 in
set_option maxHeartbeats 2000000 in
theorem alive29_c (w : World) (hw : St w0 H w) : Calls Try.prog 11 #[] w fun e w' => e = .returned (.bool true) ∧ St w0 H w' := by
  refine enter (vs := []) Try.func11 rfl rfl rfl hw ?_
  repeat (first | (refine sx ?_; try intro _))
  rename_i p1
  refine JO_call Try.call14 rfl rfl fun w hw => (Lengths_at (some p1) 4 4 [5, 1, 1, 0] (vec_rd (by repeat (first | apply List.Mem.head | apply List.Mem.tail))) rfl (by omega) (getD_lt (by omega) (by decide)) 15 _ exb1 w hw).mono ?_
  rintro e w' ⟨q1, d1, rfl, hw'⟩
  refine ⟨_, rfl, _, hw', ?_⟩
  clear hw' hw w w'
  repeat (first | (refine sx ?_; try intro _))
  rename_i p2
  refine JO_call Try.call14 rfl rfl fun w hw => (Lengths_at (some p2) 4 4 [8, 4, 2, 1] (vec_rd (by repeat (first | apply List.Mem.head | apply List.Mem.tail))) rfl (by omega) (getD_lt (by omega) (by decide)) 2 _ exb2 w hw).mono ?_
  rintro e w' ⟨q2, d2, rfl, hw'⟩
  refine ⟨_, rfl, _, hw', ?_⟩
  clear hw' hw w w'
  repeat (first | (refine sx ?_; try intro _))
  rename_i p3
  refine JO_call Try.call14 rfl rfl fun w hw => (Lengths_at (some p3) 1 1 [3] (vec_rd (by repeat (first | apply List.Mem.head | apply List.Mem.tail))) rfl (by omega) (getD_lt (by omega) (by decide)) 1 _ exb3 w hw).mono ?_
  rintro e w' ⟨q3, d3, rfl, hw'⟩
  refine ⟨_, rfl, _, hw', ?_⟩
  clear hw' hw w w'
  repeat (first | (apply gJO; first | refine JO_v (V_eqStrU (s := bstr [1, 2, 2, 0]) rfl rfl rfl) ?_ | refine JO_v (V_eqStrU (s := bstr [2, 2, 2, 2]) rfl rfl rfl) ?_ | refine JO_v (V_eqStrU (s := bstr [1]) rfl rfl rfl) ?_) | (first | (refine sx ?_; try intro _)))
  rename_i p4 p5
  refine JO_call Try.call18 rfl rfl fun w hw => (SCost_c (some p4) (some p5) 3 3 3 3 [5, 1, 1] [1, 2, 2] (vec_rd (by repeat (first | apply List.Mem.head | apply List.Mem.tail))) rfl (vec_rd (by repeat (first | apply List.Mem.head | apply List.Mem.tail))) rfl (by intro j; match j with | 0 | 1 | 2 => decide | j + 3 => simp) (by omega) (by omega) w hw).mono ?_
  rw [exb4]
  rintro e w' ⟨rfl, hw'⟩
  refine ⟨_, rfl, _, hw', ?_⟩
  clear hw' hw w w'
  repeat (first | (refine sx ?_; try intro _))
  exact JS_ret Try.func11 rfl rfl fun w hw => ⟨rfl, St.sub (by repeat (first | exact List.Sublist.refl _ | apply List.Sublist.cons_cons | apply List.Sublist.cons)) hw⟩
end
end Go.Proofs.Ytbiocgenbgbfpaa

namespace Go.Proofs.Ytbiocgenbgbfpaa
open Sx Go Go.ChangeShapes Go.WideShapes
set_option linter.unusedVariables false
set_option linter.unusedSimpArgs false
attribute [local irreducible] syA
theorem cells31 : Try.prog.cellsOf 31 = 1 := by kernel_rfl
def OKU (B : List Int) : Prop := ∀ j, 0 ≤ B.getD j 0 ∧ B.getD j 0 < 18446744073709551616
set_option maxRecDepth 100000 in
/-- a slice of numbers without a sign that came in -/
theorem open_u64s {H : Type} {enc : TypeId × Value → H} {W : World} {base : Nat} {v : Value} {d : DataW H} {p : List MemPlace} (hval : Value.okWide Try.prog W .any base 22 v) (h : DataW.Trod enc Try.prog W 0 (fun _ => true) true 22 v d p) :
    ∃ (b : Option Addr) (c m : Nat) (B : List Int), v = .slice b m c ∧ ArgRd W (.slice b m c) m (ints .u64 B) ∧ B.length = m ∧ (OKU B ∧ (b = none → m = 0)) ∧ (m = 0 ∨ ∃ E S, d = .slice E S ∧ E.length = m) := by
  obtain ⟨b, m, c, rfl⟩ := okWide_slice Try.underlying22 hval
  obtain ⟨fuel, hf⟩ := h
  rcases Go.ChangeShapes.open_ints Try.underlying22 Try.underlying31 cells31 hf with ⟨hcs, _⟩ | ⟨a, len', cap', zs, hcs, _, hl, hm, hz, hx, hcell, hwz⟩
  · simp [Value.cells] at hcs
    obtain ⟨rfl, rfl, rfl⟩ := hcs
    exact ⟨none, 0, 0, [], rfl, argRd_mk ⟨none, 0, rfl, fun _ => rfl, Nat.le_refl _⟩ (fun j v h => by simp [ints] at h), rfl, ⟨fun j => by simp, fun _ => rfl⟩, .inl rfl⟩
  · simp [Value.cells] at hcs
    obtain ⟨rfl, rfl, rfl⟩ := hcs
    simp only [if_true] at hz
    refine ⟨some a, c, m, zs.take m, rfl, argRd_mk ⟨some a, c, rfl, (fun h => by cases h), hl⟩ (fun j v hv => ?_), by simp; omega, ⟨fun j => ?_, fun h => (by cases h)⟩, .inr ⟨_, _, congrArg Prod.fst hx, by simp [lits]; omega⟩⟩
    · have hj : j < m := by
        have := (List.getElem?_eq_some_iff.1 hv).1
        simp [ints] at this; omega
      have e : (ints .u64 (zs.take m))[j]? = some (.int .u64 (zs.getD j 0)) := by
        have := ints_get (K := .u64) (l := zs.take m) (j := j) (by simp; omega)
        rw [this]
        congr 2
        simp [List.getD_eq_getElem?_getD, List.getElem?_take, hj]
      rw [e] at hv
      obtain rfl := Option.some.inj hv
      exact ⟨a.add j, cellPtr_eq a m c j, by simpa using cell_lt (hcell j (by omega)), hcell j (by omega)⟩
    · rcases Nat.lt_or_ge j m with hj | hj
      · have : (zs.take m).getD j 0 = zs[j]'(by omega) := by simp [List.getD_eq_getElem?_getD, List.getElem?_take, hj, show j < zs.length by omega]
        rw [this]
        exact wfu64 (hwz _ (List.getElem_mem _))
      · have : (zs.take m).getD j 0 = 0 := by
          rw [List.getD_eq_getElem?_getD, List.getElem?_eq_none (by simp; omega)]; rfl
        rw [this]; decide
/-- numbers without a sign -/
theorem OKU_nats {B : List Int} (h : OKU B) : ∃ W : List Nat, B = nats W ∧ W.length = B.length ∧ ∀ j, W.getD j 0 < 18446744073709551616 := by
  have e : nats (B.map Int.toNat) = B := by
    unfold nats
    rw [List.map_map]
    refine (List.map_congr_left fun x hx => ?_).trans (List.map_id _)
    obtain ⟨j, hj, rfl⟩ := List.mem_iff_getElem.1 hx
    have := h j
    rw [List.getD_eq_getElem?_getD, List.getElem?_eq_getElem hj] at this
    simp at this
    simp; omega
  refine ⟨B.map Int.toNat, e.symm, by simp, fun j => ?_⟩
  have h1 := nats_getD (B.map Int.toNat) j
  rw [e] at h1
  have h2 := h j
  omega
/-! the lengths are a set's -/
section
variable {W : List Nat} {L : Nat}
theorem lensTab (f : Nat → Nat) (n : Nat) (j : Nat) : (tab n fun s => ((f s : Nat) : Int)).getD j 0 = if j < n then ((f j : Nat) : Int) else 0 := by
  split
  · rename_i h; exact tab_get h
  · rename_i h; exact tab_out (by omega)
theorem tk_tab (g : Nat → Nat) (hg : ∀ s, s < W.length → g s ≤ 15 ∧ (0 < g s ↔ 0 < W.getD s 0)) : ∀ i, i ≤ W.length → tk (tab i fun s => ((g s : Nat) : Int)) = ((Pm.tkn (W.take i) g : Nat) : Int)
  | 0, _ => rfl
  | i + 1, h => by
    have ih := tk_tab g hg i (by omega)
    obtain ⟨h1, h2⟩ := hg i (by omega)
    rw [tab_succ, tk_app, ih, tkn_step W g (by omega)]
    have e : tk [((g i : Nat) : Int)] = if 0 < g i then 2 ^ (15 - g i) else 0 := by
      simp only [tk, Int.add_zero, Int.toNat_natCast]
      by_cases h0 : 0 < g i
      · rw [if_pos (by omega), if_pos h0]
      · rw [if_neg (by omega), if_neg h0]
    rw [e]
    by_cases h0 : 0 < g i
    · rw [if_pos h0, if_pos (h2.1 h0)]
      have : 32768 / 2 ^ g i = 2 ^ (15 - g i) := by
        have := Pm.pw15 (L := 15) (by omega) h1
        rw [this]; simp
      rw [this]; simp
    · rw [if_neg h0, if_neg (fun h => h0 (h2.2 h))]; rfl
theorem sm_app (A B : List Int) : sm (A ++ B) = sm A + sm B := by unfold sm; rw [List.countP_append]
theorem sm_tab (g : Nat → Nat) (hg : ∀ s, s < W.length → (0 < g s ↔ 0 < W.getD s 0)) : ∀ i, i ≤ W.length → sm (tab i fun s => ((g s : Nat) : Int)) = (Pm.lvf 0 (W.take i)).length
  | 0, _ => rfl
  | i + 1, h => by
    have ih := sm_tab g hg i (by omega)
    have h2 := hg i (by omega)
    rw [tab_succ, sm_app, ih, lvf_step W (by omega), List.length_append]
    congr 1
    unfold sm
    by_cases h0 : 0 < g i
    · rw [if_pos (h2.1 h0)]; simp [h0]
    · rw [if_neg (fun h => h0 (h2.2 h))]
      have : g i = 0 := by omega
      simp [this]
theorem cn_tab (k : Nat) : ∀ i, cn (tab i fun s => (((if k = s then 1 else 0 : Nat) : Nat) : Int)) 1 = if k < i then 1 else 0
  | 0 => by simp [cn, tab]
  | i + 1 => by
    rw [tab_succ, cn_app, cn_tab k i]
    by_cases h : k = i
    · subst h; simp
    · rcases Nat.lt_or_ge k i with h' | h'
      · rw [if_pos h', if_neg (by simp [h]), if_pos (by omega)]; rfl
      · rw [if_neg (by omega), if_neg (by simp [h]), if_neg (by omega)]; rfl
theorem LL_set (hA : AskOK W L) : OKB (tab W.length fun s => ((Pm.LL W L s : Nat) : Int)) ∧ OKL (tab W.length fun s => ((Pm.LL W L s : Nat) : Int)) ∧ ∀ s, s < W.length → Pm.LL W L s ≤ L ∧ (0 < Pm.LL W L s ↔ 0 < W.getD s 0) := by
  obtain ⟨a1, a2, a3, a4, a5⟩ := hA
  rw [Int.toNat_natCast] at a5
  have hb : ∀ s, s < W.length → Pm.LL W L s ≤ L ∧ (0 < Pm.LL W L s ↔ 0 < W.getD s 0) := fun s hs => Pm.LL_bd (by omega) a5 hs
  have h15 : ∀ j, 0 ≤ (tab W.length fun s => ((Pm.LL W L s : Nat) : Int)).getD j 0 ∧ (tab W.length fun s => ((Pm.LL W L s : Nat) : Int)).getD j 0 ≤ 15 := fun j => by
    rw [lensTab]
    split
    · rename_i h; have := (hb j h).1; omega
    · omega
  refine ⟨fun j => by have := h15 j; omega, ⟨by rw [tab_len]; exact a1, fun j => (h15 j).2, ?_⟩, hb⟩
  have ht := tk_tab (W := W) (Pm.LL W L) (fun s hs => ⟨by have := (hb s hs).1; omega, (hb s hs).2⟩) W.length (Nat.le_refl _)
  have hs := sm_tab (W := W) (Pm.LL W L) (fun s hs => (hb s hs).2) W.length (Nat.le_refl _)
  rw [List.take_length] at ht hs
  rw [← Pm.oneW_len W] at hs
  obtain ⟨t1, t2⟩ := Pm.LL_tkn (W := W) (L := L) (by omega) (by omega) a5
  unfold FINE
  rcases Nat.lt_or_ge (Pm.oneW W).length 2 with h | h
  · rcases Nat.eq_zero_or_pos (Pm.oneW W).length with h0 | h0
    · exact .inr (.inl (by omega))
    · have h1 : (Pm.oneW W).length = 1 := by omega
      obtain ⟨k, k1, k2, k3⟩ := Pm.one_leaf h1
      refine .inr (.inr ⟨by omega, ?_⟩)
      have e : (tab W.length fun s => ((Pm.LL W L s : Nat) : Int)) = tab W.length fun s => (((if k = s then 1 else 0 : Nat) : Nat) : Int) := tab_congr fun s _ => by rw [Pm.LL_one s h1, Pm.sc_leaf k2]
      rw [e, cn_tab, if_pos k1]
  · exact .inl (by rw [ht, t2 h]; rfl)
end
end Go.Proofs.Ytbiocgenbgbfpaa

set_option linter.unusedVariables false
set_option linter.unusedSimpArgs false
namespace Go.Proofs.Ytbiocgenbgbfpaa
open Sx Go
/-- the bits of a fixed block -/
def fixL (B : List Int) : List Int := grp 1 1 ++ grp 1 2 ++ (toks B B.length 0).flatMap tkb ++ fxS 256
theorem tok_TOK {B : List Int} (hB : OKB B) (i : Nat) (hi : i < B.length) : TOK (tok B i) := by
  rcases tok_bd B i hi with h | ⟨n, d, h, h1, h2, h3, h4, h5, h6⟩
  · rw [h]; exact .inl ⟨(hB i).1, (hB i).2, rfl, rfl⟩
  · rw [h]; exact .inr ⟨rfl, h1, h2, h4, h6⟩
theorem toks_TOK {B : List Int} (hB : OKB B) : ∀ f i, ∀ t ∈ toks B f i, TOK t
  | 0, i, t, h => by rw [toks] at h; simp at h
  | f + 1, i, t, h => by
    rw [toks] at h
    split at h
    · rename_i hi
      rcases List.mem_cons.1 h with rfl | h
      · exact tok_TOK hB i hi
      · exact toks_TOK hB f _ t h
    · simp at h
theorem tkbs_len {l : List (Int × Nat × Nat)} (h : ∀ t ∈ l, TOK t) : (l.flatMap tkb).length ≤ 32 * l.length := by
  induction l with
  | nil => simp
  | cons t l ih =>
    rw [List.flatMap_cons, List.length_append, List.length_cons]
    have := tkb_len (h t (by simp))
    have := ih fun t ht => h t (by simp [ht])
    omega
theorem tkbs_01 : ∀ (l : List (Int × Nat × Nat)) (j : Nat), (l.flatMap tkb).getD j 0 = 0 ∨ (l.flatMap tkb).getD j 0 = 1
  | [], j => .inl (by simp)
  | t :: l, j => by rw [List.flatMap_cons]; exact app_01 (tkb_01 t) (tkbs_01 l) j
theorem tkbs_take {l : List (Int × Nat × Nat)} {i : Nat} (h : i < l.length) : (l.take (i + 1)).flatMap tkb = (l.take i).flatMap tkb ++ tkb (l[i]'h) := by
  rw [List.take_add_one, List.getElem?_eq_getElem h, List.flatMap_append]; simp
theorem tkv_at {l : List (Int × Nat × Nat)} {i : Nat} (h : i < l.length) : ((tkv l).drop (i * 3)).take 3 = [.int .u8 (l[i]'h).1, .int .i64 (l[i]'h).2.1, .int .i64 (l[i]'h).2.2] := by
  have e : l = l.take i ++ l[i] :: l.drop (i + 1) := by rw [List.getElem_cons_drop, List.take_append_drop]
  have e2 : tkv l = tkv (l.take i) ++ ([.int .u8 (l[i]'h).1, .int .i64 (l[i]'h).2.1, .int .i64 (l[i]'h).2.2] ++ tkv (l.drop (i + 1))) := by
    conv => lhs; rw [e]
    unfold tkv
    rw [List.flatMap_append, List.flatMap_cons]
  rw [e2, List.drop_append_of_le_length (by rw [tkv_len, List.length_take]; omega), List.drop_of_length_le (by rw [tkv_len, List.length_take]; omega)]
  rfl
theorem nil_01' (j : Nat) : ([] : List Int).getD j 0 = 0 ∨ ([] : List Int).getD j 0 = 1 := .inl (by simp)
theorem fixL_01 (B : List Int) (j : Nat) : (fixL B).getD j 0 = 0 ∨ (fixL B).getD j 0 = 1 :=
  app_01 (app_01 (app_01 (grp_01 1 1) (grp_01 1 2)) (tkbs_01 _)) (fxS_01 256) j
theorem fixL_len {B : List Int} (hB : OKB B) : (fixL B).length ≤ 32 * B.length + 12 := by
  unfold fixL
  have h1 := tkbs_len (toks_TOK hB B.length 0)
  have h2 := toks_len (B := B) B.length 0
  have h3 := fxS_len 256 (by omega)
  simp only [List.length_append, grp_len]
  omega
theorem fxB_okb : OKB fxB := by unfold fxB; exact fix_okb
theorem fxB_okl : OKL fxB := by unfold fxB; exact fix_okl
theorem spB_okb : OKB spB := by unfold spB; exact spans_okb
theorem spB_okl : OKL spB := by unfold spB; exact spans_okl
theorem fxB_eq : tab 288 fixF = fxB := by unfold fxB; rfl
theorem spB_eq : List.replicate 32 5 = spB := by unfold spB; rfl
theorem fxC_eq : cds fxB 16 0 = fxC := by unfold fxC; rfl
theorem spC_eq : cds spB 16 0 = spC := by unfold spC; rfl
section
attribute [local irreducible] grp fxS spS lenS spanS toks tkv tkb cds pack
variable {w0 : World} {H : List Asn}
set_option maxRecDepth 10000 in
set_option maxHeartbeats 4000000 in
/-- the fixed block of a text -/
theorem DFixed_c (p : Option Addr) (c m : Nat) (B : List Int) (hr : Rd w0 H (.slice p m c) m (ints .u8 B)) (hm : B.length = m) (hB : OKB B) (h4 : m ≤ 100000) (w : World) (hw : St w0 H w) :
    Calls Try.prog 51 #[.slice p m c] w fun e w' => ∃ q d, e = .returned (.slice q (pack (fixL B)).length d) ∧ St w0 (vec 5 1 (.slice q (pack (fixL B)).length d) (pack (fixL B)).length (ints .u8 (pack (fixL B))) :: H) w' := by
  refine enter (vs := [.slice p m c]) Try.func51 rfl rfl rfl hw ?_
  clear hw w
  repeat (first | (refine sx ?_; try intro _))
  refine JO_call Try.call80 rfl rfl fun w hw => (Fixed_c w hw).mono ?_
  rintro e w' ⟨pl, cl, rfl, hw'⟩
  rw [fxB_eq] at hw'
  refine ⟨_, rfl, _, hw', ?_⟩
  clear hw' hw w w'
  repeat (first | (refine sx ?_; try intro _))
  refine JO_call Try.call81 rfl rfl fun w hw => (Spans_c w hw).mono ?_
  rintro e w' ⟨ps, cs, rfl, hw'⟩
  rw [spB_eq] at hw'
  refine ⟨_, rfl, _, hw', ?_⟩
  clear hw' hw w w'
  repeat (first | apply hIx 2 | (first | (refine sx ?_; try intro _)))
  refine Hold.go ?_
  rename_i b
  refine JS_H (H' := blk b [.slice none 0 0, .int .i64 0, .slice pl 288 cl, .slice ps 32 cs, .slice none 0 0, .slice none 0 0] :: vec 5 1 (.slice ps 32 cs) 32 (ints .u8 spB) :: vec 5 1 (.slice pl 288 cl) 288 (ints .u8 fxB) :: H) (fun w hw => hw) ?_
  refine JS_seq ?_
  refine JS_order [0, 1, 2, 3, 4, 5, 7, 8, 9, 10, 6, 11, 12, 13, 14, 15, 16, 17] [3, 0] (Picks.cons rfl (Picks.cons rfl (Picks.cons rfl (Picks.cons rfl (Picks.cons rfl (Picks.cons rfl (Picks.cons rfl (Picks.cons rfl (Picks.cons rfl (Picks.cons rfl (Picks.cons rfl (Picks.cons rfl (Picks.cons rfl (Picks.cons rfl (Picks.cons rfl (Picks.cons rfl (Picks.cons rfl (Picks.cons rfl (Picks.nil))))))))))))))))))) (by kernel_rfl) (by kernel_rfl) rfl (by decide +kernel) ?_
  repeat (first | (refine sx ?_; try intro _))
  refine QO_call Try.call82 rfl rfl fun w hw => (FCodes_c pl cl 288 fxB (vec_rd (e := 5) (size := 1) (by repeat (first | apply List.Mem.head | apply List.Mem.tail))) fxB_len fxB_okb fxB_okl (Rd.nil (vec_rd (e := 5) (size := 1) (n := 288) (cs := ints .u8 fxB) (by repeat (first | apply List.Mem.head | apply List.Mem.tail))) hw) w hw).mono ?_
  rintro e w' ⟨pa, ca, rfl, hw'⟩
  rw [fxC_eq] at hw'
  refine ⟨_, rfl, _, hw', .inl fun w hw => St.sub (by repeat (first | exact List.Sublist.refl _ | apply List.Sublist.cons_cons | apply List.Sublist.cons)) hw, ?_⟩
  clear hw' hw w w'
  repeat (first | (refine sx ?_; try intro _))
  refine QO_call Try.call82 rfl rfl fun w hw => (FCodes_c ps cs 32 spB (vec_rd (e := 5) (size := 1) (by repeat (first | apply List.Mem.head | apply List.Mem.tail))) spB_len spB_okb spB_okl (Rd.nil (vec_rd (e := 5) (size := 1) (n := 32) (cs := ints .u8 spB) (by repeat (first | apply List.Mem.head | apply List.Mem.tail))) hw) w hw).mono ?_
  rintro e w' ⟨pb, cb, rfl, hw'⟩
  rw [spC_eq] at hw'
  refine ⟨_, rfl, _, hw', .inl fun w hw => St.sub (by repeat (first | exact List.Sublist.refl _ | apply List.Sublist.cons_cons | apply List.Sublist.cons)) hw, ?_⟩
  clear hw' hw w w'
  repeat (first | apply hIx 3 | (first | (refine sx ?_; try intro _)))
  refine Hold.go ?_
  refine JS_H (H' := fwL b [] none 0 pl ps pa pb cl cs ca cb H) (fun w hw => by
    have h1 := St.nilvec (e := 5) (sz := 1) (base := none) hw
    show St w0 (blk b [.slice none 0 0, .int .i64 0, .slice pl 288 cl, .slice ps 32 cs, .slice pa 288 ca, .slice pb 32 cb] :: vec 5 1 (.slice none 0 0) 0 (ints .u8 (pack [])) :: vec 5 1 (.slice pl 288 cl) 288 (ints .u8 fxB) :: vec 5 1 (.slice ps 32 cs) 32 (ints .u8 spB) ::
      vec 91 1 (.slice pa 288 ca) 288 (ints .u32 fxC) :: vec 91 1 (.slice pb 32 cb) 32 (ints .u32 spC) :: H) w
    have hp : pack [] = [] := by unfold pack; rfl
    rw [hp]
    exact h1.perm (by (repeat (first | exact List.Perm.refl _ | refine List.Perm.cons _ ?_ | refine (List.perm_middle (l₁ := [_])).trans (List.Perm.cons _ ?_) | refine (List.perm_middle (l₁ := [_, _])).trans (List.Perm.cons _ ?_) | refine (List.perm_middle (l₁ := [_, _, _])).trans (List.Perm.cons _ ?_) | refine (List.perm_middle (l₁ := [_, _, _, _])).trans (List.Perm.cons _ ?_) | refine (List.perm_middle (l₁ := [_, _, _, _, _])).trans (List.Perm.cons _ ?_) | refine (List.perm_middle (l₁ := [_, _, _, _, _, _])).trans (List.Perm.cons _ ?_) | refine (List.perm_middle (l₁ := [_, _, _, _, _, _, _])).trans (List.Perm.cons _ ?_) | refine (List.perm_middle (l₁ := [_, _, _, _, _, _, _, _])).trans (List.Perm.cons _ ?_))))) ?_
  repeat (first | (refine sx ?_; try intro _))
  refine JO_call Try.call47 rfl rfl fun w hw => (WGroupT_c b [] none 0 1 1 (by omega) ⟨by decide, by decide⟩ (by decide) nil_01' (by simp) w hw).mono ?_
  rintro e w' ⟨rfl, q1, d1, hw'⟩
  refine ⟨_, rfl, _, hw', ?_⟩
  clear hw' hw w w'
  repeat (first | (refine sx ?_; try intro _))
  have o1 := app_01 nil_01' (grp_01 1 1)
  have l1 : (([] : List Int) ++ grp 1 1).length = 1 := by rw [List.nil_append, grp_len]
  refine JO_call Try.call47 rfl rfl fun w hw => (WGroupT_c b _ q1 d1 1 2 (by omega) ⟨by decide, by decide⟩ (by decide) o1 (by rw [l1]; omega) w hw).mono ?_
  rintro e w' ⟨rfl, q2, d2, hw'⟩
  rw [show ([] : List Int) ++ grp 1 1 ++ grp 1 2 = grp 1 1 ++ grp 1 2 by rw [List.nil_append]] at hw'
  refine ⟨_, rfl, _, hw', ?_⟩
  clear hw' hw w w' o1 l1
  repeat (first | (refine sx ?_; try intro _))
  refine JO_call Try.call43 rfl rfl fun w hw => (Find_c p c m B (Rd_weak hr fun w hw => St.sub (by repeat (first | exact List.Sublist.refl _ | apply List.Sublist.cons_cons | apply List.Sublist.cons)) hw) hm hB h4 w hw).mono ?_
  rintro e w' ⟨qt, dt, rfl, hw'⟩
  have hT := toks_TOK hB m 0
  have hTl := toks_len (B := B) m 0
  have hfix : fixL B = grp 1 1 ++ grp 1 2 ++ (toks B m 0).flatMap tkb ++ fxS 256 := by unfold fixL; rw [hm]
  obtain ⟨l, hl⟩ : ∃ l, toks B m 0 = l := ⟨_, rfl⟩
  rw [hl] at hT hTl hfix hw' ⊢
  refine ⟨_, rfl, _, hw', ?_⟩
  clear hw' hw w w'
  repeat (first | (refine sx ?_; try intro _))
  have h0 : grp 1 1 ++ grp 1 2 ++ (l.take 0).flatMap tkb = grp 1 1 ++ grp 1 2 := by rw [List.take_zero, List.flatMap_nil, List.append_nil]
  refine JS_loop3 (fun (i : Nat) (q : Option Addr) (d : Nat) => [(0, .slice p m c), (3, .pointer (some ⟨b, 0, none⟩)), (35, .slice qt l.length dt), (36, .int .i64 l.length), (37, .int .i64 i)])
    (fun i q d => fwL b (grp 1 1 ++ grp 1 2 ++ (l.take i).flatMap tkb) q d pl ps pa pb cl cs ca cb (vec 79 3 (.slice qt l.length dt) l.length (tkv l) :: H)) (fun i _ _ => i ≤ l.length) (fun i _ _ => l.length - i) 0 q2 d2 (Nat.zero_le _) (by repeat (first | exact trivial | refine ⟨rfl, ?_⟩ | refine ⟨lookI rfl (by omega), ?_⟩))
    (fun w hw => by rw [h0]; exact hw.perm (by (repeat (first | exact List.Perm.refl _ | refine List.Perm.cons _ ?_ | refine (List.perm_middle (l₁ := [_])).trans (List.Perm.cons _ ?_) | refine (List.perm_middle (l₁ := [_, _])).trans (List.Perm.cons _ ?_) | refine (List.perm_middle (l₁ := [_, _, _])).trans (List.Perm.cons _ ?_) | refine (List.perm_middle (l₁ := [_, _, _, _])).trans (List.Perm.cons _ ?_) | refine (List.perm_middle (l₁ := [_, _, _, _, _])).trans (List.Perm.cons _ ?_) | refine (List.perm_middle (l₁ := [_, _, _, _, _, _])).trans (List.Perm.cons _ ?_) | refine (List.perm_middle (l₁ := [_, _, _, _, _, _, _])).trans (List.Perm.cons _ ?_) | refine (List.perm_middle (l₁ := [_, _, _, _, _, _, _, _])).trans (List.Perm.cons _ ?_))))) ?_
  intro i q d hi again
  have o3 := app_01 (app_01 (grp_01 1 1) (grp_01 1 2)) (tkbs_01 (l.take i))
  have hl3 : (grp 1 1 ++ grp 1 2 ++ (l.take i).flatMap tkb).length ≤ 32 * l.length + 3 := by
    have := tkbs_len (l := l.take i) fun t ht => hT t (List.mem_of_mem_take ht)
    rw [List.length_take] at this
    simp only [List.length_append, grp_len]
    omega
  by_cases hil : i < l.length
  · have hat := tkv_at hil
    have htk := tkbs_take hil
    have hTi := hT _ (List.getElem_mem hil)
    obtain ⟨t, ht⟩ : ∃ t, l[i] = t := ⟨_, rfl⟩
    rw [ht] at hat htk hTi
    repeat (first | (apply gJO; refine JO_v (oL (V_loadCA (tb := tb) rfl (vec_rd (by repeat (first | apply List.Mem.head | apply List.Mem.tail))) rfl rfl rfl (by decide) hat rfl)) ?_) | (first | (refine sx ?_; try intro _)))
    rename_i bt
    have e8 : (.agg [.int .u8 t.1, .int .i64 t.2.1, .int .i64 t.2.2].toArray : Value) = .agg #[.int .u8 t.1, .int .i64 t.2.1, .int .i64 t.2.2] := rfl
    have hlx : (grp 1 1 ++ grp 1 2 ++ (l.take i).flatMap tkb).length ≤ 70368744177000 := by omega
    refine JO_call Try.call83 rfl rfl fun w hw => (Tok_c (H := blk bt [.int .u8 t.1, .int .i64 t.2.1, .int .i64 t.2.2] :: vec 79 3 (.slice qt l.length dt) l.length (tkv l) :: H) (L := grp 1 1 ++ grp 1 2 ++ (l.take i).flatMap tkb) (q := q) (d := d) t hTi o3 hlx w (hw.perm (by (repeat (first | exact List.Perm.refl _ | refine List.Perm.cons _ ?_ | refine (List.perm_middle (l₁ := [_])).trans (List.Perm.cons _ ?_) | refine (List.perm_middle (l₁ := [_, _])).trans (List.Perm.cons _ ?_) | refine (List.perm_middle (l₁ := [_, _, _])).trans (List.Perm.cons _ ?_) | refine (List.perm_middle (l₁ := [_, _, _, _])).trans (List.Perm.cons _ ?_) | refine (List.perm_middle (l₁ := [_, _, _, _, _])).trans (List.Perm.cons _ ?_) | refine (List.perm_middle (l₁ := [_, _, _, _, _, _])).trans (List.Perm.cons _ ?_) | refine (List.perm_middle (l₁ := [_, _, _, _, _, _, _])).trans (List.Perm.cons _ ?_) | refine (List.perm_middle (l₁ := [_, _, _, _, _, _, _, _])).trans (List.Perm.cons _ ?_)))))).mono ?_
    rintro e w' ⟨rfl, q3, d3, hw'⟩
    refine ⟨_, rfl, _, hw', ?_⟩
    clear hw' hw w w'
    repeat (first | (refine sx ?_; try intro _))
    refine JS_again3 again (i + 1) q3 d3 (by omega) (by omega) (by repeat (first | exact trivial | refine ⟨rfl, ?_⟩ | refine ⟨lookI rfl (by omega), ?_⟩)) (fun w hw => ?_)
    rw [htk, ← List.append_assoc]
    exact St.sub (by repeat (first | exact List.Sublist.refl _ | apply List.Sublist.cons_cons | apply List.Sublist.cons)) hw
  · obtain rfl : i = l.length := by omega
    clear again
    rw [List.take_length] at o3 hl3 ⊢
    have hl9 := fxS_len 256 (by omega)
    have hlx : (grp 1 1 ++ grp 1 2 ++ l.flatMap tkb).length ≤ 70368744177600 := by omega
    repeat (first | (refine sx ?_; try intro _))
    refine JO_call Try.call84 rfl rfl fun w hw => (FLit_c (H := vec 79 3 (.slice qt l.length dt) l.length (tkv l) :: H) (L := grp 1 1 ++ grp 1 2 ++ l.flatMap tkb) (q := q) (d := d) 256 (by omega) o3 hlx w hw).mono ?_
    rintro e w' ⟨rfl, q3, d3, hw'⟩
    rw [← hfix] at hw'
    refine ⟨_, rfl, _, hw', ?_⟩
    clear hw' hw w w'
    repeat (first | (refine sx ?_; try intro _))
    have o4 := fixL_01 B
    have hl4 : (fixL B).length ≤ 70368744177664 := by rw [hfix, List.length_append]; omega
    refine JO_call Try.call50 rfl rfl fun w hw => (WBytesT_c b (pack (fixL B)).length (fixL B) q3 d3 o4 hl4 (pack_len _).symm w hw).mono ?_
    rintro e w' ⟨q4, d4, rfl, hw'⟩
    refine ⟨_, rfl, _, hw', ?_⟩
    clear hw' hw w w'
    repeat (first | (refine sx ?_; try intro _))
    refine JS_ret Try.func51 rfl rfl fun w hw => ⟨q4, d4, rfl, St.sub (by repeat (first | exact List.Sublist.refl _ | apply List.Sublist.cons_cons | apply List.Sublist.cons)) hw⟩
end
end Go.Proofs.Ytbiocgenbgbfpaa

namespace Go.Proofs.Ytbiocgenbgbfpaa
open Sx Go
set_option linter.unusedVariables false
set_option linter.unusedSimpArgs false
attribute [local irreducible] syA fc tk cds
/-! what a described block's bits are -/
/-- a symbol's code by lengths -/
def cw (B : List Int) (k : Nat) : List Int := bms (cd B k) (B.getD k 0).toNat
theorem cw_01 (B : List Int) (k j : Nat) : (cw B k).getD j 0 = 0 ∨ (cw B k).getD j 0 = 1 := bms_01 _ _ j
theorem cw_len (B : List Int) (k : Nat) : (cw B k).length = (B.getD k 0).toNat := bms_ln _ _
def cnt (R : List Sq.Run) (s : Nat) : Nat := R.countP fun r => r.1 == s
theorem cnt_app (A B : List Sq.Run) (s : Nat) : cnt (A ++ B) s = cnt A s + cnt B s := by unfold cnt; rw [List.countP_append]
theorem cnt_le (R : List Sq.Run) (s : Nat) : cnt R s ≤ R.length := List.countP_le_length
/-- how often each symbol of the lengths comes -/
def w19 (R : List Sq.Run) : List Nat := (List.range 19).map fun s => if s = 18 then max (cnt R 18) 1 else cnt R s
theorem w19_len (R : List Sq.Run) : (w19 R).length = 19 := by simp [w19]
theorem w19_get (R : List Sq.Run) {s : Nat} (h : s < 19) : (w19 R).getD s 0 = if s = 18 then max (cnt R 18) 1 else cnt R s := by
  unfold w19
  rw [List.getD_eq_getElem?_getD, List.getElem?_map, List.getElem?_range h]; rfl
theorem nats_map (n : Nat) (f : Nat → Nat) : nats ((List.range n).map f) = tab n fun s => ((f s : Nat) : Int) := by
  unfold nats tab
  rw [List.map_map]; rfl
/-- the lengths of the lengths' symbols -/
def c19 (R : List Sq.Run) : List Int := tab 19 fun s => ((Pm.LL (w19 R) 7 s : Nat) : Int)
theorem sum_map_le (f : Nat → Nat) (c : Nat) (hf : ∀ s, f s ≤ c) : ∀ n, ((List.range n).map f).sum ≤ n * c
  | 0 => by simp
  | n + 1 => by
    have := sum_map_le f c hf n
    have := hf n
    rw [List.range_succ, List.map_append, List.sum_append, Nat.add_mul]
    simp; omega
theorem ask19 (R : List Sq.Run) (hR : R.length ≤ 1000) : AskOK (w19 R) (7 : Nat) := by
  refine ⟨by rw [w19_len]; omega, by omega, by omega, ?_, ?_⟩
  · have := sum_map_le (fun s => if s = 18 then max (cnt R 18) 1 else cnt R s) 1001 (fun s => by
      have h1 := cnt_le R s
      have h2 := cnt_le R 18
      show (if s = 18 then max (cnt R 18) 1 else cnt R s) ≤ 1001
      split <;> omega) 19
    exact Nat.le_trans this (by omega)
  · rw [Pm.oneW_len]
    have := Pm.lvf_len_le (w19 R) 0
    rw [w19_len] at this
    exact Nat.le_trans this (by decide)
theorem w19_lt (R : List Sq.Run) (hR : R.length ≤ 1000) (j : Nat) : (w19 R).getD j 0 < 18446744073709551616 := by
  rcases Nat.lt_or_ge j 19 with h | h
  · rw [w19_get R h]
    have h1 := cnt_le R j
    have h2 := cnt_le R 18
    split <;> omega
  · rw [List.getD_eq_getElem?_getD, List.getElem?_eq_none (by rw [w19_len]; exact h)]; decide
/-- each symbol that comes has a code -/
theorem c19_has (R : List Sq.Run) (hR : R.length ≤ 1000) (r : Sq.Run) (hr : r ∈ R) (h18 : r.1 ≤ 18) : HAS (c19 R) r.1 ((c19 R).getD r.1 0).toNat ∧ ((c19 R).getD r.1 0).toNat ≤ 7 := by
  have hA := ask19 R hR
  obtain ⟨b1, b2, b3⟩ := LL_set hA
  rw [w19_len] at b1 b2 b3
  have hp : 0 < (w19 R).getD r.1 0 := by
    rw [w19_get R (by omega)]
    have : 0 < cnt R r.1 := List.countP_pos_iff.2 ⟨r, hr, by simp⟩
    split <;> omega
  have := b3 r.1 (by omega)
  have hg : (c19 R).getD r.1 0 = ((Pm.LL (w19 R) 7 r.1 : Nat) : Int) := tab_get (by omega)
  unfold HAS
  rw [Int.toNat_natCast, hg, Int.toNat_natCast]
  have hl : (c19 R).length = 19 := tab_len _ _
  refine ⟨⟨by omega, by omega, this.2.2 hp, rfl⟩, this.1⟩
def ordN : List Nat := [16, 17, 18, 0, 8, 7, 9, 6, 10, 5, 11, 4, 12, 3, 13, 2, 14, 1, 15]
/-- how many of the lengths' lengths are told -/
def mny (C : List Int) : Nat → Nat
  | 0 => 0
  | m + 1 => if 4 < m + 1 ∧ C.getD (ordN.getD m 0) 0 = 0 then mny C m else m + 1
theorem mny_le (C : List Int) : ∀ m, mny C m ≤ m
  | 0 => Nat.le_refl _
  | m + 1 => by
    rw [mny]
    split
    · have := mny_le C m; omega
    · omega
theorem mny_ge (C : List Int) : ∀ m, 4 ≤ m → 4 ≤ mny C m
  | 0, h => absurd h (by omega)
  | m + 1, h => by
    rw [mny]
    split
    · exact mny_ge C m (by omega)
    · exact h
def rbits (C : List Int) (r : Sq.Run) : List Int := cw C r.1 ++ grp r.2.1 r.2.2
/-- the bits of both sets' lengths -/
def descB (X Y : List Nat) : List Int :=
  grp ((X.length - 257 : Nat) : Int) 5 ++ grp ((Y.length - 1 : Nat) : Int) 5 ++ grp ((mny (c19 (Sq.runs (X ++ Y))) 19 - 4 : Nat) : Int) 4 ++
    (ordN.take (mny (c19 (Sq.runs (X ++ Y))) 19)).flatMap (fun k => grp ((c19 (Sq.runs (X ++ Y))).getD k 0) 3) ++ (Sq.runs (X ++ Y)).flatMap (rbits (c19 (Sq.runs (X ++ Y))))
theorem flat_01 {α : Type} (f : α → List Int) (hf : ∀ x j, (f x).getD j 0 = 0 ∨ (f x).getD j 0 = 1) : ∀ (l : List α) (j : Nat), (l.flatMap f).getD j 0 = 0 ∨ (l.flatMap f).getD j 0 = 1
  | [], j => .inl (by simp)
  | t :: l, j => by rw [List.flatMap_cons]; exact app_01 (hf t) (flat_01 f hf l) j
theorem flatb_len {α : Type} (f : α → List Int) (c : Nat) : ∀ (l : List α), (∀ x ∈ l, (f x).length ≤ c) → (l.flatMap f).length ≤ l.length * c
  | [], _ => by simp
  | t :: l, h => by
    have h1 := flatb_len f c l fun x hx => h x (by simp [hx])
    have h2 := h t (by simp)
    rw [List.flatMap_cons, List.length_append, List.length_cons, Nat.add_mul]
    omega
theorem flat_take {α : Type} (f : α → List Int) {l : List α} {i : Nat} (h : i < l.length) : (l.take (i + 1)).flatMap f = (l.take i).flatMap f ++ f (l[i]'h) := by
  rw [List.take_add_one, List.getElem?_eq_getElem h, List.flatMap_append]; simp
theorem rbits_01 (C : List Int) (r : Sq.Run) : ∀ j, (rbits C r).getD j 0 = 0 ∨ (rbits C r).getD j 0 = 1 := app_01 (cw_01 C r.1) (grp_01 _ _)
theorem rv_at {l : List Sq.Run} {i : Nat} (h : i < l.length) : ((rv l).drop (i * 3)).take 3 = [.int .i64 (l[i]'h).1, .int .i64 (l[i]'h).2.1, .int .i64 (l[i]'h).2.2] := by
  have e : l = l.take i ++ l[i] :: l.drop (i + 1) := by rw [List.getElem_cons_drop, List.take_append_drop]
  have e2 : rv l = rv (l.take i) ++ ([.int .i64 (l[i]'h).1, .int .i64 (l[i]'h).2.1, .int .i64 (l[i]'h).2.2] ++ rv (l.drop (i + 1))) := by
    conv => lhs; rw [e]
    unfold rv
    rw [List.flatMap_append, List.flatMap_cons]
  rw [e2, List.drop_append_of_le_length (by rw [rv_len, List.length_take]; omega), List.drop_of_length_le (by rw [rv_len, List.length_take]; omega)]
  rfl
section
variable {w0 : World} {H : List Asn}
set_option maxHeartbeats 2000000 in
/-- a symbol that has a code is written, by a writer that is the first field of a greater block -/
theorem WriteT_c {z : Value} {tl : List Value} (b b2 : Nat) (B L : List Int) (q : Option Addr) (d : Nat) (hs : IsSet w0 H b B) (k n : Nat) (hH : HAS B k n) (hL : ∀ j, L.getD j 0 = 0 ∨ L.getD j 0 = 1) (hl : L.length ≤ 70368744177600) (w : World) (hw : St w0 (wtA b2 L q d (z :: tl) :: wrV L q d :: H) w) :
    Calls Try.prog 49 #[.pointer (some ⟨b, 0, none⟩), .pointer (some ⟨b2, 0, none⟩), .int .i64 k] w fun e w' => e = .returned (.int .i64 0) ∧ ∃ q d, St w0 (wtA b2 (L ++ cw B k) q d (z :: tl) :: wrV (L ++ cw B k) q d :: H) w' := by
  obtain ⟨h1, h2, h3, h4⟩ := hH
  rw [Int.toNat_natCast] at h4
  have hB := hs.hB
  have hkl := hs.hl
  have h15 := hkl.2.1 k
  have h320 := hkl.1
  refine enter (vs := [.pointer (some ⟨b, 0, none⟩), .pointer (some ⟨b2, 0, none⟩), .int .i64 k]) Try.func49 rfl rfl rfl hw ?_
  repeat (first | (refine sx ?_; try intro _))
  refine JO_call Try.call77 rfl rfl fun w hw => (Length2_c b B (hs.sub (by repeat (first | exact List.Sublist.refl _ | apply List.Sublist.cons))) k (by omega) w hw).mono ?_
  rintro e w' ⟨r, rfl, hw', h⟩
  obtain rfl : r = (n : Int) := by
    rcases h with ⟨h, _⟩ | ⟨_, _, h⟩
    · omega
    · rw [h, Int.toNat_natCast, h4]
  refine ⟨_, rfl, _, hw', ?_⟩
  clear hw' hw w w'
  have hcl := cds_len B 16 0
  have hcg := cds_get B hkl.2.1 k (by omega)
  rw [if_pos (by omega)] at hcg
  have gc : (ints .u32 (cds B 16 0))[k]? = some (.int .u32 (cd B k)) := by rw [← hcg]; exact ints_get (by omega)
  have hcd := cd_lt B hB hkl k n (by omega) (by omega) h4
  have hcb := cd_bd B k
  have hcw : cw B k = bms (cd B k) n := by unfold cw; rw [h4, Int.toNat_natCast]
  repeat (first | (refine sx ?_; try intro _))
  refine JO_call Try.call79 rfl rfl fun w hw => (Codes2_c b B.length B rfl (hs.sub (by repeat (first | exact List.Sublist.refl _ | apply List.Sublist.cons))) w hw).mono ?_
  rintro e w' ⟨p1, c1, rfl, hw'⟩
  refine ⟨_, rfl, _, hw', ?_⟩
  clear hw' hw w w'
  repeat (first | (apply gJO; refine JO_v (V_loadC (tb := tb) rfl (vec_rd (List.Mem.head _)) rfl rfl gc rfl) ?_) | (first | (refine sx ?_; try intro _)))
  refine JO_call Try.call78 rfl rfl fun w hw => (WCodeT_c b2 L q d (cd B k) n (by omega) hcd hcb.2 hL hl w (hw.perm ((List.Perm.swap _ _ _).trans (List.Perm.cons _ (List.Perm.swap _ _ _))))).mono ?_
  rintro e w' ⟨rfl, q2, d2, hw'⟩
  rw [← hcw] at hw'
  refine ⟨_, rfl, _, hw', ?_⟩
  clear hw' hw w w'
  repeat (first | (refine sx ?_; try intro _))
  refine JS_ret Try.func49 rfl rfl ?_
  intro w hw
  exact ⟨rfl, q2, d2, St.sub (by repeat (first | exact List.Sublist.refl _ | apply List.Sublist.cons_cons | apply List.Sublist.cons)) hw⟩
end
end Go.Proofs.Ytbiocgenbgbfpaa

namespace Go.Proofs.Ytbiocgenbgbfpaa
open Sx Go
set_option linter.unusedVariables false
set_option linter.unusedSimpArgs false
attribute [local irreducible] syA fc tk cds grp cw pack c19 rv
theorem ordV_eq : ordV = ordN.map fun k => Value.int .i64 ((k : Nat) : Int) := rfl
theorem ordV_get {k : Nat} (h : k < 19) : ordV[k]? = some (.int .i64 ((ordN.getD k 0 : Nat) : Int)) := by
  have hl : k < ordN.length := h
  rw [ordV_eq, List.getElem?_map, List.getD_eq_getElem?_getD, List.getElem?_eq_getElem hl]; rfl
theorem ordN_lt : ∀ k : Fin 19, ordN.getD k.val 0 < 19 := by decide +kernel
section
variable {w0 : World} {H : List Asn}
theorem rd2 {a b : Asn} {G : List Asn} {u : Value} {m : Nat} {cs : List Value} (h : Rd w0 G u m cs) : Rd w0 (a :: b :: G) u m cs := Rd_weak h fun w hw => hw.drop.drop
set_option maxRecDepth 10000 in
set_option maxHeartbeats 8000000 in
/-- the lengths of both sets are described -/
theorem Describe_c {z : Value} {tl : List Value} (b : Nat) (L : List Int) (q : Option Addr) (d : Nat) (px py : Option Addr) (cx cy mx my : Nat) (X Y : List Nat) (hrx : Rd w0 H (.slice px mx cx) mx (ints .u8 (nats X))) (hry : Rd w0 H (.slice py my cy) my (ints .u8 (nats Y))) (hx : X.length = mx) (hy : Y.length = my)
    (hxb : 257 ≤ mx ∧ mx ≤ 286) (hyb : 1 ≤ my ∧ my ≤ 30) (hX : ∀ j, X.getD j 0 < 16) (hY : ∀ j, Y.getD j 0 < 16) (hL : ∀ j, L.getD j 0 = 0 ∨ L.getD j 0 = 1) (hl : L.length ≤ 1000000) (w : World) (hw : St w0 (wtA b L q d (z :: tl) :: wrV L q d :: H) w) :
    Calls Try.prog 48 #[.pointer (some ⟨b, 0, none⟩), .slice px mx cx, .slice py my cy] w fun e w' => e = .returned (.tuple #[]) ∧ ∃ q d, St w0 (wtA b (L ++ descB X Y) q d (z :: tl) :: wrV (L ++ descB X Y) q d :: H) w' := by
  have hXY : ∀ j, (X ++ Y).getD j 0 < 16 := fun j => by
    rw [List.getD_eq_getElem?_getD]
    rcases Nat.lt_or_ge j X.length with h | h
    · rw [List.getElem?_append_left h, ← List.getD_eq_getElem?_getD]; exact hX j
    · rw [List.getElem?_append_right h, ← List.getD_eq_getElem?_getD]; exact hY _
  have hmem : ∀ x ∈ X ++ Y, x < 16 := fun x hx => by
    obtain ⟨j, hj, rfl⟩ := List.mem_iff_getElem.1 hx
    have := hXY j
    rwa [List.getD_eq_getElem?_getD, List.getElem?_eq_getElem hj] at this
  have hXYl : (X ++ Y).length = mx + my := by rw [List.length_append]; omega
  have hrl := Sq.runs_len (X ++ Y) hmem
  have hrx1 := (Sq.runs_ex (X ++ Y).length (X ++ Y) [] (Nat.le_refl _) hmem).2.bd
  have hdesc : descB X Y = descB X Y := rfl
  conv at hdesc => rhs; unfold descB
  refine enter (vs := [.pointer (some ⟨b, 0, none⟩), .slice px mx cx, .slice py my cy]) Try.func48 rfl rfl rfl hw ?_
  clear hw w
  repeat (first | (apply gJR; first | (refine sx ?_; try intro _)) | (apply gJO; first | (refine sx ?_; try intro _)) | apply JS_seq | apply JS_region)
  rename_i p0
  refine JO_app (tb := tb) rfl rfl rfl rfl rfl rfl (by repeat (first | exact Sel.here _ _ | apply Sel.there)) (Rd_weak hrx fun w hw => St.sub (by exact ((List.Sublist.refl _).cons _).cons _ |>.cons _) hw) (by rw [ints_len, nats_len]; omega) ints_one (by omega) rfl ?_
  intro p1 c1
  repeat (first | (refine sx ?_; try intro _))
  refine JO_app (tb := tb) rfl rfl rfl rfl rfl rfl (by repeat (first | exact Sel.here _ _ | apply Sel.there)) (Rd_weak hry fun w hw => St.sub (by exact ((List.Sublist.refl _).cons _).cons _ |>.cons _) hw) (by rw [ints_len, nats_len]; omega) ints_one (by omega) rfl ?_
  intro p2 c2
  have hall : [] ++ ints .u8 (nats X) ++ ints .u8 (nats Y) = ints .u8 (nats (X ++ Y)) := by
    rw [List.nil_append, ints_app]; unfold nats; rw [List.map_append]
  rw [show rep 0 [Value.int IntKind.u8 0] ++ ints .u8 (nats X) ++ ints .u8 (nats Y) = ints .u8 (nats (X ++ Y)) from hall, show 0 + mx + my = mx + my by omega]
  clear hall hmem
  repeat (first | (refine sx ?_; try intro _))
  refine JO_call Try.call75 rfl rfl fun w hw => (Runs_c p2 c2 (mx + my) (X ++ Y) (vec_rd (List.Mem.head _)) hXYl hXY (by omega) w hw).mono ?_
  rintro e w' ⟨qr, dr, rfl, hw'⟩
  obtain ⟨R, hR⟩ : ∃ R, Sq.runs (X ++ Y) = R := ⟨_, rfl⟩
  rw [hR] at hdesc hrl hrx1 hw' ⊢
  have hRl : R.length ≤ 1000 := by omega
  refine ⟨_, rfl, _, hw', ?_⟩
  clear hw' hw w w'
  repeat (first | (apply gJR; first | (refine sx ?_; try intro _)) | (apply gJO; first | (refine sx ?_; try intro _)) | apply JS_seq | apply JS_region)
  rename_i po
  rw [show (19 : Int).toNat = 19 from rfl, ints_rep, tab_const]
  refine JS_block ?_
  refine JS_loop1 (fun (i : Nat) => [(0, .pointer (some ⟨b, 0, none⟩)), (1, .slice px mx cx), (2, .slice py my cy), (6, .slice qr R.length dr), (7, .slice (some po) 19 19), (26, .slice qr R.length dr), (27, .int .i64 R.length), (28, .int .i64 i)])
    (fun i => vec 31 1 (.slice (some po) 19 19) 19 (ints .u64 (tab 19 fun s => ((cnt (R.take i) s : Nat) : Int))) :: vec 83 3 (.slice qr R.length dr) R.length (rv R) :: vec 5 1 (.slice p2 (mx + my) c2) (mx + my) (ints .u8 (nats (X ++ Y))) :: wtA b L q d (z :: tl) :: wrV L q d :: H)
    (fun i => i ≤ R.length) (fun i => R.length - i) 0 (Nat.zero_le _) (by repeat (first | exact trivial | refine ⟨rfl, ?_⟩ | refine ⟨lookI rfl (by omega), ?_⟩)) (fun w hw => hw) ?_
  intro i hi again
  by_cases hil : i < R.length
  · have hat := rv_at hil
    have hbd := hrx1 _ (List.getElem_mem hil)
    have hcs : ∀ j, cnt (R.take (i + 1)) j = cnt (R.take i) j + if R[i].1 = j then 1 else 0 := fun j => by
      rw [List.take_add_one, List.getElem?_eq_getElem hil, cnt_app]
      congr 1
      show List.countP _ [R[i]] = _
      rw [List.countP_singleton]
      simp only [beq_iff_eq]
    have hcl := fun j => cnt_le (R.take i) j
    have hti : (R.take i).length = i := by rw [List.length_take]; omega
    obtain ⟨r, hr⟩ : ∃ r, R[i] = r := ⟨_, rfl⟩
    rw [hr] at hat hbd
    simp only [hr] at hcs
    obtain ⟨rs, rr, rb⟩ := r
    have hb1 : rs ≤ 18 := hbd.1
    simp only [] at hat hcs
    have hlt := tab_len 19 fun s => ((cnt (R.take i) s : Nat) : Int)
    have go : (ints .u64 (tab 19 fun s => ((cnt (R.take i) s : Nat) : Int)))[rs]? = some (.int .u64 ((cnt (R.take i) rs : Nat) : Int)) := by rw [ints_get (by omega), tab_get (by omega)]
    have hc := hcl rs
    repeat (first | (apply gJO; first | refine JO_v (oL (V_loadCA (tb := tb) rfl (vec_rd (by repeat (first | apply List.Mem.head | apply List.Mem.tail))) rfl rfl rfl (by decide) hat rfl)) ?_ | refine JO_v (V_loadC (tb := tb) rfl (vec_rd (e := 31) (by repeat (first | apply List.Mem.head | apply List.Mem.tail))) rfl rfl go rfl) ?_) | (first | (refine sx ?_; try intro _)))
    refine JS_again1 again (i + 1) (by omega) (by omega) (by repeat (first | exact trivial | refine ⟨rfl, ?_⟩ | refine ⟨lookI rfl (by omega), ?_⟩)) (fun w hw => ?_)
    rw [tab_set] at hw
    rw [tab_congr (g := fun j => if j = rs then ((cnt (R.take i) rs : Nat) : Int) + 1 else ((cnt (R.take i) j : Nat) : Int)) fun j _ => ?_]
    · exact St.sub (by repeat (first | exact List.Sublist.refl _ | apply List.Sublist.cons_cons | apply List.Sublist.cons)) hw
    · rw [hcs j]
      by_cases e : j = rs
      · subst e; rw [if_pos rfl, if_pos rfl]; rfl
      · rw [if_neg e, if_neg (Ne.symm e)]; rfl
  obtain rfl : i = R.length := by omega
  clear again
  rw [List.take_length]
  have hlt := tab_len 19 fun s => ((cnt R s : Nat) : Int)
  have g18 : (ints .u64 (tab 19 fun s => ((cnt R s : Nat) : Int)))[18]? = some (.int .u64 ((cnt R 18 : Nat) : Int)) := by rw [ints_get (by omega), tab_get (by omega)]
  have hmax : max ((cnt R 18 : Nat) : Int) 1 = ((max (cnt R 18) 1 : Nat) : Int) := by omega
  have h18 := cnt_le R 18
  repeat ((fail_if_success refine gIdR 8 ?_); first | (apply gJO; first | refine JO_v (V_loadC (tb := tb) rfl (vec_rd (e := 31) (by repeat (first | apply List.Mem.head | apply List.Mem.tail))) rfl rfl g18 rfl) ?_ | refine JO_v (oc_max (V_max rfl rfl hmax rfl)) ?_) | (first | (refine sx ?_; try intro _)))
  have hw19 : (tab 19 fun s => ((cnt R s : Nat) : Int)).set 18 ((max (cnt R 18) 1 : Nat) : Int) = nats (w19 R) := by
    rw [tab_set]
    unfold w19
    rw [nats_map]
    refine tab_congr fun j _ => ?_
    by_cases e : j = 18
    · rw [if_pos e, if_pos e]
    · rw [if_neg e, if_neg e]
  rw [hw19]
  clear hw19 hlt g18 hmax h18
  have hA := ask19 R hRl
  obtain ⟨b1, b2, _⟩ := LL_set hA
  rw [w19_len] at b1 b2
  have hc19 : (tab 19 fun s => ((Pm.LL (w19 R) 7 s : Nat) : Int)) = c19 R := by unfold c19; rfl
  rw [hc19] at b1 b2
  have hcl : (c19 R).length = 19 := by rw [← hc19]; exact tab_len _ _
  repeat (first | (refine sx ?_; try intro _))
  refine JO_call Try.call46 rfl rfl fun w hw => (SqBest_c (some po) 19 19 (w19 R) (vec_rd (List.Mem.head _)) (w19_len R) (w19_lt R hRl) 7 hA w hw).mono ?_
  rintro e w' ⟨q7, d7, rfl, hw'⟩
  rw [hc19] at hw'
  refine ⟨_, rfl, _, hw', ?_⟩
  clear hw' hw w w'
  repeat (first | (refine sx ?_; try intro _))
  refine JO_call Try.call17 rfl rfl fun w hw => (MakeS_c q7 d7 19 (c19 R) (vec_rd (List.Mem.head _)) hcl b1 (by omega) (Rd.nil (vec_rd (List.Mem.head _)) hw) w hw).mono ?_
  rintro e w' ⟨u, r, rfl, ⟨h, _⟩ | ⟨_, rfl, b7, a1, a2, a3, rfl, hset, hw'⟩⟩
  · exact absurd b2 h.not
  refine ⟨_, rfl, _, hw', ?_⟩
  clear hw' hw w w'
  repeat (first | (refine sx ?_; try intro _))
  refine JO_call Try.call76 rfl rfl fun w hw => (Order_c w hw).mono ?_
  rintro e w' ⟨rfl, hw'⟩
  refine ⟨_, rfl, _, hw', ?_⟩
  clear hw' hw w w'
  repeat (first | (apply gJR; first | (refine sx ?_; try intro _)) | (apply gJO; first | (refine sx ?_; try intro _)) | apply JS_seq | apply JS_region)
  rename_i bo
  refine JS_block ?_
  obtain ⟨HH, hHH⟩ : ∃ HH, blk bo ordV :: a1 :: a2 :: a3 :: vec 5 1 (.slice q7 19 d7) 19 (ints .u8 (c19 R)) :: vec 31 1 (.slice (some po) 19 19) 19 (ints .u64 (nats (w19 R))) :: vec 83 3 (.slice qr R.length dr) R.length (rv R) :: vec 5 1 (.slice p2 (mx + my) c2) (mx + my) (ints .u8 (nats (X ++ Y))) :: wtA b L q d (z :: tl) :: wrV L q d :: H = HH := ⟨_, rfl⟩
  have hbo : blk bo ordV ∈ HH := by rw [← hHH]; exact List.Mem.head _
  have hrC : Rd w0 HH (.slice q7 19 d7) 19 (ints .u8 (c19 R)) := vec_rd (e := 5) (size := 1) (by rw [← hHH]; exact List.Mem.tail _ (List.Mem.tail _ (List.Mem.tail _ (List.Mem.tail _ (List.Mem.head _)))))
  refine JS_loop1 (fun (m : Nat) => [(0, .pointer (some ⟨b, 0, none⟩)), (1, .slice px mx cx), (2, .slice py my cy), (6, .slice qr R.length dr), (10, .slice q7 19 d7), (11, .pointer (some ⟨b7, 0, none⟩)), (13, .pointer (some ⟨bo, 0, none⟩)), (14, .int .i64 m)])
    (fun _ => HH) (fun m => 4 ≤ m ∧ m ≤ 19 ∧ mny (c19 R) m = mny (c19 R) 19) (fun m => m) 19 ⟨by omega, Nat.le_refl _, rfl⟩ (by repeat (first | exact trivial | refine ⟨rfl, ?_⟩ | refine ⟨lookI rfl (by omega), ?_⟩)) (fun w hw => by rw [← hHH]; exact hw) ?_
  intro m ⟨hm4, hm19, hmy⟩ again
  have hmain : mny (c19 R) 19 = m → JS Try.prog 48 Try.f48.ntmps (fun e w' => e = .returned (.tuple #[]) ∧ ∃ q d, St w0 (wtA b (L ++ descB X Y) q d (z :: tl) :: wrV (L ++ descB X Y) q d :: H) w') [] w0 (todo Try.f48 [.b, .b, .b, .b, .b, .b, .b, .b, .b])
      [(0, .pointer (some ⟨b, 0, none⟩)), (1, .slice px mx cx), (2, .slice py my cy), (6, .slice qr R.length dr), (10, .slice q7 19 d7), (11, .pointer (some ⟨b7, 0, none⟩)), (13, .pointer (some ⟨bo, 0, none⟩)), (14, .int .i64 m)] HH := by
    intro hmm
    clear hmy again hrC hbo
    rw [hmm, hx, hy] at hdesc
    refine JS_at rfl ?_
    refine JS_H (H' := wtA b L q d (z :: tl) :: wrV L q d :: blk bo ordV :: a1 :: a2 :: a3 :: vec 5 1 (.slice q7 19 d7) 19 (ints .u8 (c19 R)) :: vec 83 3 (.slice qr R.length dr) R.length (rv R) :: H) (fun w hw => by
      rw [← hHH] at hw
      exact St.sub (by repeat (first | exact List.Sublist.refl _ | apply List.Sublist.cons_cons | apply List.Sublist.cons)) (hw.perm (show List.Perm _ (wtA b L q d (z :: tl) :: wrV L q d :: blk bo ordV :: a1 :: a2 :: a3 :: vec 5 1 (.slice q7 19 d7) 19 (ints .u8 (c19 R)) :: vec 31 1 (.slice (some po) 19 19) 19 (ints .u64 (nats (w19 R))) :: vec 83 3 (.slice qr R.length dr) R.length (rv R) :: vec 5 1 (.slice p2 (mx + my) c2) (mx + my) (ints .u8 (nats (X ++ Y))) :: H) by (repeat (first | exact List.Perm.refl _ | refine List.Perm.cons _ ?_ | refine (List.perm_middle (l₁ := [_])).trans (List.Perm.cons _ ?_) | refine (List.perm_middle (l₁ := [_, _])).trans (List.Perm.cons _ ?_) | refine (List.perm_middle (l₁ := [_, _, _])).trans (List.Perm.cons _ ?_) | refine (List.perm_middle (l₁ := [_, _, _, _])).trans (List.Perm.cons _ ?_) | refine (List.perm_middle (l₁ := [_, _, _, _, _])).trans (List.Perm.cons _ ?_) | refine (List.perm_middle (l₁ := [_, _, _, _, _, _])).trans (List.Perm.cons _ ?_) | refine (List.perm_middle (l₁ := [_, _, _, _, _, _, _])).trans (List.Perm.cons _ ?_) | refine (List.perm_middle (l₁ := [_, _, _, _, _, _, _, _])).trans (List.Perm.cons _ ?_)))))) ?_
    clear hHH
    clear HH
    have e1 : IntKind.i64.wrap ((mx : Int) - 257) = ((mx - 257 : Nat) : Int) := (wi64 (by omega)).trans (by omega)
    have e1' : IntKind.u32.wrap ((mx - 257 : Nat) : Int) = ((mx - 257 : Nat) : Int) := wu32 (by omega)
    have e2 : IntKind.i64.wrap ((my : Int) - 1) = ((my - 1 : Nat) : Int) := (wi64 (by omega)).trans (by omega)
    have e2' : IntKind.u32.wrap ((my - 1 : Nat) : Int) = ((my - 1 : Nat) : Int) := wu32 (by omega)
    have e3 : IntKind.i64.wrap ((m : Int) - 4) = ((m - 4 : Nat) : Int) := (wi64 (by omega)).trans (by omega)
    have e3' : IntKind.u32.wrap ((m - 4 : Nat) : Int) = ((m - 4 : Nat) : Int) := wu32 (by omega)
    have f1 : 0 ≤ ((mx - 257 : Nat) : Int) ∧ ((mx - 257 : Nat) : Int) < 2 ^ 5 := by omega
    have f2 : 0 ≤ ((my - 1 : Nat) : Int) ∧ ((my - 1 : Nat) : Int) < 2 ^ 5 := by omega
    have f3 : 0 ≤ ((m - 4 : Nat) : Int) ∧ ((m - 4 : Nat) : Int) < 2 ^ 4 := by omega
    have o1 := app_01 hL (grp_01 ((mx - 257 : Nat) : Int) 5)
    have o2 := app_01 o1 (grp_01 ((my - 1 : Nat) : Int) 5)
    have o3 := app_01 o2 (grp_01 ((m - 4 : Nat) : Int) 4)
    have l1 : (L ++ grp ((mx - 257 : Nat) : Int) 5).length = L.length + 5 := by rw [List.length_append, grp_len]
    have l2 : (L ++ grp ((mx - 257 : Nat) : Int) 5 ++ grp ((my - 1 : Nat) : Int) 5).length = L.length + 10 := by rw [List.length_append, l1, grp_len]
    have l3 : (L ++ grp ((mx - 257 : Nat) : Int) 5 ++ grp ((my - 1 : Nat) : Int) 5 ++ grp ((m - 4 : Nat) : Int) 4).length = L.length + 14 := by rw [List.length_append, l2, grp_len]
    have hfin : L ++ descB X Y = L ++ grp ((mx - 257 : Nat) : Int) 5 ++ grp ((my - 1 : Nat) : Int) 5 ++ grp ((m - 4 : Nat) : Int) 4 ++ (ordN.take m).flatMap (fun k => grp ((c19 R).getD k 0) 3) ++ R.flatMap (rbits (c19 R)) := by
      rw [hdesc]; simp only [List.append_assoc]
    repeat (first | (apply gJO; first | refine JO_v (V_sub rfl rfl e1 rfl) ?_ | refine JO_v (oCv (V_conv (tb := tb) rfl rfl rfl e1' rfl)) ?_) | (first | (refine sx ?_; try intro _)))
    refine JO_call Try.call47 rfl rfl fun w hw => (WGroupT_c b L q d _ 5 (by omega) f1 (by omega) hL (by omega) w hw).mono ?_
    rintro e w' ⟨rfl, qa, da, hw'⟩
    refine ⟨_, rfl, _, hw', ?_⟩
    clear hw' hw w w'
    repeat (first | (apply gJO; first | refine JO_v (V_sub rfl rfl e2 rfl) ?_ | refine JO_v (oCv (V_conv (tb := tb) rfl rfl rfl e2' rfl)) ?_) | (first | (refine sx ?_; try intro _)))
    refine JO_call Try.call47 rfl rfl fun w hw => (WGroupT_c b _ qa da _ 5 (by omega) f2 (by omega) o1 (by omega) w hw).mono ?_
    rintro e w' ⟨rfl, qb, db, hw'⟩
    refine ⟨_, rfl, _, hw', ?_⟩
    clear hw' hw w w'
    repeat (first | (apply gJO; first | refine JO_v (V_sub rfl rfl e3 rfl) ?_ | refine JO_v (oCv (V_conv (tb := tb) rfl rfl rfl e3' rfl)) ?_) | (first | (refine sx ?_; try intro _)))
    refine JO_call Try.call47 rfl rfl fun w hw => (WGroupT_c b _ qb db _ 4 (by omega) f3 (by omega) o2 (by omega) w hw).mono ?_
    rintro e w' ⟨rfl, qc, dc, hw'⟩
    refine ⟨_, rfl, _, hw', ?_⟩
    clear hw' hw w w' e1 e1' e2 e2' e3 e3' f1 f2 f3 o1 o2 l1 l2
    generalize L ++ grp ((mx - 257 : Nat) : Int) 5 ++ grp ((my - 1 : Nat) : Int) 5 ++ grp ((m - 4 : Nat) : Int) 4 = L3 at *
    repeat (first | (apply gJR; first | (refine sx ?_; try intro _)) | (apply gJO; first | refine JO_v (V_sliceP (tb := tb) (lo := 0) (hi := m) rfl rfl rfl rfl rfl rfl rfl (by omega) rfl) ?_ | first | (refine sx ?_; try intro _)) | apply JS_seq | apply JS_region)
    refine JS_block ?_
    rw [show Sx.subB (some ⟨bo, 0, none⟩) 0 19 1 = some ⟨bo, 0, none⟩ from rfl, Nat.sub_zero, Nat.sub_zero]
    obtain ⟨G, hG⟩ : ∃ G, blk bo ordV :: a1 :: a2 :: a3 :: vec 5 1 (.slice q7 19 d7) 19 (ints .u8 (c19 R)) :: vec 83 3 (.slice qr R.length dr) R.length (rv R) :: H = G := ⟨_, rfl⟩
    rw [hG]
    have gO : Rd w0 G (.slice (some ⟨bo, 0, none⟩) m 19) m ordV := blk_rd (by rw [← hG]; exact List.Mem.head _) hm19
    have gC : Rd w0 G (.slice q7 19 d7) 19 (ints .u8 (c19 R)) := vec_rd (e := 5) (size := 1) (by rw [← hG]; exact List.Mem.tail _ (List.Mem.tail _ (List.Mem.tail _ (List.Mem.tail _ (List.Mem.head _)))))
    have gR : Rd w0 G (.slice qr R.length dr) R.length (rv R) := vec_rd (e := 83) (size := 3) (by rw [← hG]; exact List.Mem.tail _ (List.Mem.tail _ (List.Mem.tail _ (List.Mem.tail _ (List.Mem.tail _ (List.Mem.head _))))))
    have gS : IsSet w0 G b7 (c19 R) := hset.sub (by rw [← hG]; exact (((List.nil_sublist _).cons_cons a3).cons_cons a2).cons_cons a1 |>.cons _)
    have gH : ∀ q d L, ∀ w, St w0 (wtA b L q d (z :: tl) :: wrV L q d :: G) w → St w0 (wtA b L q d (z :: tl) :: wrV L q d :: H) w := fun q d L w hw => by
      rw [← hG] at hw
      exact St.sub (by repeat (first | exact List.Sublist.refl _ | apply List.Sublist.cons_cons | apply List.Sublist.cons)) hw
    clear hG hset
    have hb7 : ∀ k, k < 19 → 0 ≤ (c19 R).getD k 0 ∧ (c19 R).getD k 0 < 2 ^ 3 := fun k hk => by
      have h1 := (b1 k).1
      have h2 : (c19 R).getD k 0 = ((Pm.LL (w19 R) 7 k : Nat) : Int) := by rw [← hc19]; exact tab_get hk
      have h3 := (Pm.LL_bd (W := w19 R) (L := 7) (s := k) (by omega) hA.2.2.2.2 (by rw [w19_len]; exact hk)).1
      omega
    refine JS_loop3 (fun (i : Nat) (q : Option Addr) (d : Nat) => [(0, .pointer (some ⟨b, 0, none⟩)), (6, .slice qr R.length dr), (10, .slice q7 19 d7), (11, .pointer (some ⟨b7, 0, none⟩)), (92, .slice (some ⟨bo, 0, none⟩) m 19), (93, .int .i64 m), (94, .int .i64 i)])
      (fun i q d => wtA b (L3 ++ (ordN.take i).flatMap (fun k => grp ((c19 R).getD k 0) 3)) q d (z :: tl) :: wrV (L3 ++ (ordN.take i).flatMap (fun k => grp ((c19 R).getD k 0) 3)) q d :: G) (fun i _ _ => i ≤ m) (fun i _ _ => m - i) 0 qc dc (Nat.zero_le _) (by repeat (first | exact trivial | refine ⟨rfl, ?_⟩ | refine ⟨lookI rfl (by omega), ?_⟩))
      (fun w hw => by rw [List.take_zero, List.flatMap_nil, List.append_nil]; exact hw) ?_
    intro i q d hi again
    have hol : ordN.length = 19 := rfl
    have o4 := app_01 o3 (flat_01 (fun k => grp ((c19 R).getD k 0) 3) (fun k => grp_01 _ 3) (ordN.take i))
    have l4 := flatb_len (fun k => grp ((c19 R).getD k 0) 3) 3 (ordN.take i) (fun x _ => by rw [grp_len]; exact Nat.le_refl _)
    rw [List.length_take] at l4
    have l5 : (L3 ++ (ordN.take i).flatMap (fun k => grp ((c19 R).getD k 0) 3)).length ≤ L.length + 71 := by rw [List.length_append]; omega
    by_cases him : i < m
    · have gi := ordV_get (k := i) (by omega)
      have hok := ordN_lt ⟨i, by omega⟩
      simp only [] at hok
      have htk := flat_take (fun k => grp ((c19 R).getD k 0) 3) (l := ordN) (i := i) (by omega)
      have hgo : ordN[i]'(by omega) = ordN.getD i 0 := by rw [List.getD_eq_getElem?_getD, List.getElem?_eq_getElem (by omega)]; rfl
      rw [hgo] at htk
      generalize ordN.getD i 0 = k at gi hok htk
      have gk : (ints .u8 (c19 R))[k]? = some (.int .u8 ((c19 R).getD k 0)) := ints_get (by omega)
      have hbk := hb7 k hok
      have e1 : IntKind.u32.wrap ((c19 R).getD k 0) = (c19 R).getD k 0 := wu32 (by omega)
      repeat (first | (apply gJO; first | refine JO_v (V_loadC (tb := tb) rfl (rd2 gO) rfl rfl gi rfl) ?_ | refine JO_v (V_index (tb := tb) rfl rfl rfl rfl (Rd.sl (rd2 gO)) (by omega) (by (try simp only [tn, tna, tn1, tn2, tn3, tn4, tnd16, tnd8, Int.reduceToNat]); first | exact Nat.mul_one _ | exact rfl) rfl) ?_) | (apply gQO; first | refine QO_v rfl (V_loadC (tb := tb) rfl (rd2 gC) rfl rfl gk rfl) ?_ | refine QO_v rfl (V_index (tb := tb) rfl rfl rfl rfl (Rd.sl (rd2 gC)) (by omega) (by (try simp only [tn, tna, tn1, tn2, tn3, tn4, tnd16, tnd8, Int.reduceToNat]); first | exact Nat.mul_one _ | exact rfl) rfl) ?_ | refine QO_v rfl (oCv (V_conv (tb := tb) rfl rfl rfl e1 rfl)) ?_) | (first | (refine sx ?_; try intro _)))
      refine QO_call Try.call47 rfl rfl fun w hw => (WGroupT_c b _ q d _ 3 (by omega) hbk (by omega) o4 (by omega) w hw).mono ?_
      rintro e w' ⟨rfl, qe, de, hw'⟩
      refine ⟨_, rfl, _, hw', .inr rfl, ?_⟩
      clear hw' hw w w'
      repeat (first | (refine sx ?_; try intro _))
      refine JS_again3 again (i + 1) qe de (by omega) (by omega) (by repeat (first | exact trivial | refine ⟨rfl, ?_⟩ | refine ⟨lookI rfl (by omega), ?_⟩)) (fun w hw => ?_)
      rw [htk, ← List.append_assoc]
      exact hw
    obtain rfl : i = m := by omega
    clear again him
    generalize L3 ++ (ordN.take i).flatMap (fun k => grp ((c19 R).getD k 0) 3) = L4 at *
    repeat (first | (apply gJR; first | (refine sx ?_; try intro _)) | (apply gJO; first | (refine sx ?_; try intro _)) | apply JS_seq | apply JS_region | (apply gJS; refine JS_condF rfl ?_) | (apply gJS; refine JS_cond_F rfl (by omega) ?_) | (apply gJS; refine JS_exit rfl ?_))
    refine JS_block ?_
    refine JS_loop3 (fun (i : Nat) (q : Option Addr) (d : Nat) => [(0, .pointer (some ⟨b, 0, none⟩)), (11, .pointer (some ⟨b7, 0, none⟩)), (108, .slice qr R.length dr), (109, .int .i64 R.length), (110, .int .i64 i)])
      (fun i q d => wtA b (L4 ++ (R.take i).flatMap (rbits (c19 R))) q d (z :: tl) :: wrV (L4 ++ (R.take i).flatMap (rbits (c19 R))) q d :: G) (fun i _ _ => i ≤ R.length) (fun i _ _ => R.length - i) 0 q d (Nat.zero_le _) (by repeat (first | exact trivial | refine ⟨rfl, ?_⟩ | refine ⟨lookI rfl (by omega), ?_⟩))
      (fun w hw => by rw [List.take_zero, List.flatMap_nil, List.append_nil]; exact hw) ?_
    intro i q d hi again
    have o6 := app_01 o4 (flat_01 (rbits (c19 R)) (rbits_01 _) (R.take i))
    have hrb : ∀ r ∈ R, (rbits (c19 R) r).length ≤ 14 := fun r hr => by
      have h1 := c19_has R hRl r hr (hrx1 r hr).1
      have h2 := (hrx1 r hr).2.1
      unfold rbits
      rw [List.length_append, cw_len, grp_len]
      omega
    have l6 := flatb_len (rbits (c19 R)) 14 (R.take i) fun r hr => hrb r (List.mem_of_mem_take hr)
    rw [List.length_take] at l6
    have l7 : (L4 ++ (R.take i).flatMap (rbits (c19 R))).length ≤ L.length + 71 + 14000 := by rw [List.length_append]; omega
    by_cases hil : i < R.length
    · have hat := rv_at hil
      have htk := flat_take (rbits (c19 R)) hil
      have hbd := hrx1 _ (List.getElem_mem hil)
      have hhas := (c19_has R hRl _ (List.getElem_mem hil) hbd.1)
      have hrb1 := hrb _ (List.getElem_mem hil)
      obtain ⟨r, hr⟩ : ∃ r, R[i] = r := ⟨_, rfl⟩
      rw [hr] at hat hbd htk hhas hrb1
      obtain ⟨rs, rr, rb⟩ := r
      obtain ⟨k1, k2, k3⟩ := hbd
      obtain ⟨k4, k5⟩ := hhas
      simp only [] at hat k1 k2 k3 k4 k5
      have hrbe : rbits (c19 R) (rs, rr, rb) = cw (c19 R) rs ++ grp rr rb := rfl
      rw [hrbe] at htk hrb1
      rw [List.length_append] at hrb1
      have hpw : (2 : Nat) ^ rb ≤ 2 ^ 7 := Nat.pow_le_pow_right (by omega) k2
      have hpc : ((2 ^ rb : Nat) : Int) = 2 ^ rb := by simp
      have n1 : 0 ≤ (rr : Int) ∧ (rr : Int) < 2 ^ rb := by rw [← hpc]; omega
      have e1 : IntKind.u32.wrap (rr : Int) = (rr : Int) := wu32 (by omega)
      repeat ((fail_if_success refine gIdR 25 ?_); first | (apply gJO; first | refine JO_v (oL (V_loadCA (tb := tb) rfl (rd2 gR) rfl rfl rfl (by decide) hat rfl)) ?_ | refine JO_v (V_index (tb := tb) rfl rfl rfl rfl (Rd.sl (rd2 gR)) (by omega) (by (try simp only [tn, tna, tn1, tn2, tn3, tn4, tnd16, tnd8, Int.reduceToNat]); first | exact Nat.mul_one _ | exact rfl) rfl) ?_) | (first | (refine sx ?_; try intro _)))
      rename_i bt
      refine JS_H (H' := wtA b (L4 ++ (R.take i).flatMap (rbits (c19 R))) q d (z :: tl) :: wrV (L4 ++ (R.take i).flatMap (rbits (c19 R))) q d :: blk bt [.int .i64 rs, .int .i64 rr, .int .i64 rb] :: G) (fun w hw => hw.perm (by (repeat (first | exact List.Perm.refl _ | refine List.Perm.cons _ ?_ | refine (List.perm_middle (l₁ := [_])).trans (List.Perm.cons _ ?_) | refine (List.perm_middle (l₁ := [_, _])).trans (List.Perm.cons _ ?_) | refine (List.perm_middle (l₁ := [_, _, _])).trans (List.Perm.cons _ ?_) | refine (List.perm_middle (l₁ := [_, _, _, _])).trans (List.Perm.cons _ ?_) | refine (List.perm_middle (l₁ := [_, _, _, _, _])).trans (List.Perm.cons _ ?_) | refine (List.perm_middle (l₁ := [_, _, _, _, _, _])).trans (List.Perm.cons _ ?_) | refine (List.perm_middle (l₁ := [_, _, _, _, _, _, _])).trans (List.Perm.cons _ ?_) | refine (List.perm_middle (l₁ := [_, _, _, _, _, _, _, _])).trans (List.Perm.cons _ ?_))))) ?_
      repeat (first | (refine sx ?_; try intro _))
      refine QO_call Try.call49 rfl rfl fun w hw => (WriteT_c b7 b (c19 R) _ q d (gS.sub (by repeat (first | exact List.Sublist.refl _ | apply List.Sublist.cons))) rs _ k4 o6 (by omega) w hw).mono ?_
      rintro e w' ⟨rfl, qe, de, hw'⟩
      refine ⟨_, rfl, _, hw', .inr rfl, ?_⟩
      clear hw' hw w w'
      have o7 := app_01 o6 (cw_01 (c19 R) rs)
      repeat (first | (apply gQO; refine QO_v rfl (oCv (V_conv (tb := tb) rfl rfl rfl e1 rfl)) ?_) | (first | (refine sx ?_; try intro _)))
      refine QO_call Try.call47 rfl rfl fun w hw => (WGroupT_c b _ qe de _ rb (by omega) n1 (by omega) o7 (by rw [List.length_append, cw_len]; omega) w hw).mono ?_
      rintro e w' ⟨rfl, qf, df, hw'⟩
      refine ⟨_, rfl, _, hw', .inr rfl, ?_⟩
      clear hw' hw w w'
      repeat (first | (refine sx ?_; try intro _))
      refine JS_again3 again (i + 1) qf df (by omega) (by omega) (by repeat (first | exact trivial | refine ⟨rfl, ?_⟩ | refine ⟨lookI rfl (by omega), ?_⟩)) (fun w hw => ?_)
      rw [htk, ← List.append_assoc, ← List.append_assoc]
      exact St.sub (by repeat (first | exact List.Sublist.refl _ | apply List.Sublist.cons_cons | apply List.Sublist.cons)) hw
    obtain rfl : i = R.length := by omega
    clear again
    rw [List.take_length, ← hfin]
    repeat (first | (refine sx ?_; try intro _))
    refine JS_fin Try.func48 rfl rfl (vs := []) fun w hw => ⟨rfl, q, d, gH _ _ _ _ hw⟩
  have hm1 : m = (m - 1) + 1 := by omega
  by_cases h4 : 4 < m
  · obtain ⟨k, rfl⟩ : ∃ k, m = k + 1 := ⟨m - 1, by omega⟩
    have e1 : IntKind.i64.wrap (((k + 1 : Nat) : Int) - 1) = (k : Int) := (wi64 (by omega)).trans (by omega)
    have gord : nth ordV (0 + ((k : Nat) : Int).toNat * 1) = some (.int .i64 ((ordN.getD k 0 : Nat) : Int)) := by rw [nth_eq, Int.toNat_natCast, Nat.mul_one, Nat.zero_add]; exact ordV_get (by omega)
    have hok := ordN_lt ⟨k, by omega⟩
    simp only [] at hok
    have hstep : mny (c19 R) (k + 1) = if 4 < k + 1 ∧ (c19 R).getD (ordN.getD k 0) 0 = 0 then mny (c19 R) k else k + 1 := rfl
    generalize ordN.getD k 0 = o at gord hok hstep
    have gk : (ints .u8 (c19 R))[o]? = some (.int .u8 ((c19 R).getD o 0)) := ints_get (by omega)
    have hbo2 := b1 o
    by_cases h0 : (c19 R).getD o 0 = 0
    · rw [if_pos ⟨h4, h0⟩] at hstep
      rw [h0] at gk
      clear hmain
      repeat (first | (apply gJO; first | refine JO_v (V_sub rfl rfl e1 rfl) ?_ | refine JO_v (V_load (tb := tb) rfl hbo rfl rfl gord rfl) ?_ | refine JO_v (V_loadC (tb := tb) rfl hrC rfl rfl gk rfl) ?_ | refine JO_v (V_index (tb := tb) rfl rfl rfl rfl (Rd.sl hrC) (by omega) (by (try simp only [tn, tna, tn1, tn2, tn3, tn4, tnd16, tnd8, Int.reduceToNat]); first | exact Nat.mul_one _ | exact rfl) rfl) ?_) | (first | (refine sx ?_; try intro _)))
      exact JS_again1 again k ⟨by omega, by omega, by rw [← hmy, hstep]⟩ (by omega) (by repeat (first | exact trivial | refine ⟨rfl, ?_⟩ | refine ⟨lookI rfl (by omega), ?_⟩)) (fun w hw => hw)
    · rw [if_neg (fun h => h0 h.2)] at hstep
      clear again
      generalize (c19 R).getD o 0 = cv at gk h0 hbo2
      have hm := hmain (by rw [← hmy, hstep])
      repeat (first | exact JS_of_at (fn := Try.f48) (p := [.b, .b, .b, .b, .b, .b, .b, .b, .b]) (JS_ov (by repeat (first | exact trivial | refine ⟨rfl, ?_⟩ | refine ⟨lookI rfl (by omega), ?_⟩)) hm) rfl | (apply gJO; first | refine JO_v (V_sub rfl rfl e1 rfl) ?_ | refine JO_v (V_load (tb := tb) rfl hbo rfl rfl gord rfl) ?_ | refine JO_v (V_loadC (tb := tb) rfl hrC rfl rfl gk rfl) ?_ | refine JO_v (V_index (tb := tb) rfl rfl rfl rfl (Rd.sl hrC) (by omega) (by (try simp only [tn, tna, tn1, tn2, tn3, tn4, tnd16, tnd8, Int.reduceToNat]); first | exact Nat.mul_one _ | exact rfl) rfl) ?_) | (first | (refine sx ?_; try intro _)))
  · obtain rfl : m = 4 := by omega
    clear again
    have hm := hmain (by rw [← hmy]; simp [mny])
    repeat (first | exact JS_of_at (fn := Try.f48) (p := [.b, .b, .b, .b, .b, .b, .b, .b, .b]) (JS_ov (by repeat (first | exact trivial | refine ⟨rfl, ?_⟩ | refine ⟨lookI rfl (by omega), ?_⟩)) hm) rfl | (first | (refine sx ?_; try intro _)))
end
end Go.Proofs.Ytbiocgenbgbfpaa

namespace Go.Proofs.Ytbiocgenbgbfpaa
open Sx Go
set_option linter.unusedVariables false
set_option linter.unusedSimpArgs false
attribute [local irreducible] syA fc cds
/-! how often a text's symbols come, and their lengths (plain) -/
abbrev Tk := Int × Nat × Nat
def tsy1 (t : Tk) : Nat := ((splitR t).getD 0 (0, 0, 0)).1
def tsy2 (t : Tk) : Nat := ((splitR t).getD 1 (0, 0, 0)).1
theorem splitR_one {t : Tk} (h : t.2.2 = 0) : splitR t = [(t.1.toNat, 0, 0)] := by unfold splitR; rw [if_pos h]
theorem splitR_len (t : Tk) : (splitR t).length = if t.2.2 = 0 then 1 else 2 := by unfold splitR; split <;> rfl
theorem splitR_bd {t : Tk} (h : TOK t) : ∀ i, i < (splitR t).length → ((splitR t).getD i (0, 0, 0)).1 < (if i = 0 then 286 else 30) ∧ ((splitR t).getD i (0, 0, 0)).2.2 ≤ 13 ∧ ((splitR t).getD i (0, 0, 0)).2.1 < 2 ^ ((splitR t).getD i (0, 0, 0)).2.2 := by
  intro i hi
  obtain ⟨x, n, k⟩ := t
  rcases h with ⟨h1, h2, h3, h4⟩ | ⟨h1, h2, h3, h4, h5⟩
  · simp only [] at h1 h2 h3 h4
    rw [splitR_one h4] at hi ⊢
    obtain rfl : i = 0 := by simpa using hi
    show x.toNat < 286 ∧ 0 ≤ 13 ∧ 0 < 2 ^ 0
    omega
  · simp only [] at h1 h2 h3 h4 h5
    obtain ⟨s, nb, r, e1, a1, a2, a3, a4, a5, _⟩ := lenS_bd n (by omega) (by omega)
    obtain ⟨s', nb', r', e2, c1, c3, c4, c5, _⟩ := spanS_bd k (by omega) (by omega)
    obtain ⟨r, rfl⟩ := Int.eq_ofNat_of_zero_le a4
    obtain ⟨r', rfl⟩ := Int.eq_ofNat_of_zero_le c4
    have e : splitR (x, n, k) = [(s, r, nb), (s', r', nb')] := by
      unfold splitR
      simp only []
      rw [if_neg (by omega), e1, e2]
      simp only [Int.toNat_natCast]
    rw [e] at hi ⊢
    have p1 : ((2 ^ nb : Nat) : Int) = 2 ^ nb := by simp
    have p2 : ((2 ^ nb' : Nat) : Int) = 2 ^ nb' := by simp
    match i, hi with
    | 0, _ => exact ⟨by show s < 286; omega, by show nb ≤ 13; omega, by show r < 2 ^ nb; omega⟩
    | 1, _ => exact ⟨by show s' < 30; omega, c3, by show r' < 2 ^ nb'; omega⟩
    | i + 2, hi => exact absurd hi (by simp)
def cX (T : List Tk) (k : Nat) : Nat := T.countP fun t => tsy1 t == k
def cY (T : List Tk) (k : Nat) : Nat := T.countP fun t => (splitR t).length == 2 && tsy2 t == k
def wX (T : List Tk) : List Nat := (List.range 286).map fun k => cX T k + if k = 256 then 1 else 0
def wY (T : List Tk) : List Nat := (List.range 30).map fun k => cY T k
theorem cX_le (T : List Tk) (k : Nat) : cX T k ≤ T.length := List.countP_le_length
theorem cY_le (T : List Tk) (k : Nat) : cY T k ≤ T.length := List.countP_le_length
theorem wX_len (T : List Tk) : (wX T).length = 286 := by simp [wX]
theorem wY_len (T : List Tk) : (wY T).length = 30 := by simp [wY]
theorem wX_get (T : List Tk) {s : Nat} (h : s < 286) : (wX T).getD s 0 = cX T s + if s = 256 then 1 else 0 := by
  unfold wX
  rw [List.getD_eq_getElem?_getD, List.getElem?_map, List.getElem?_range h]; rfl
theorem wY_get (T : List Tk) {s : Nat} (h : s < 30) : (wY T).getD s 0 = cY T s := by
  unfold wY
  rw [List.getD_eq_getElem?_getD, List.getElem?_map, List.getElem?_range h]; rfl
theorem getD_lt64 {W : List Nat} {n : Nat} (hl : W.length = n) (h : ∀ s, s < n → W.getD s 0 ≤ 100001) (j : Nat) : W.getD j 0 < 18446744073709551616 := by
  rcases Nat.lt_or_ge j n with h' | h'
  · have := h j h'; omega
  · rw [List.getD_eq_getElem?_getD, List.getElem?_eq_none (by omega)]; decide
theorem wX_lt (T : List Tk) (hT : T.length ≤ 100000) : ∀ j, (wX T).getD j 0 < 18446744073709551616 := getD_lt64 (wX_len T) fun s hs => by
  rw [wX_get T hs]
  have := cX_le T s
  split <;> omega
theorem wY_lt (T : List Tk) (hT : T.length ≤ 100000) : ∀ j, (wY T).getD j 0 < 18446744073709551616 := getD_lt64 (wY_len T) fun s hs => by
  rw [wY_get T hs]
  have := cY_le T s
  omega
theorem askX (T : List Tk) (hT : T.length ≤ 100000) : AskOK (wX T) (15 : Nat) := by
  refine ⟨by rw [wX_len]; omega, by omega, by omega, ?_, ?_⟩
  · have := sum_map_le (fun k => cX T k + if k = 256 then 1 else 0) 100001 (fun s => by
      have h1 := cX_le T s
      show cX T s + (if s = 256 then 1 else 0) ≤ 100001
      split <;> omega) 286
    exact Nat.le_trans this (by omega)
  · rw [Pm.oneW_len]
    have := Pm.lvf_len_le (wX T) 0
    rw [wX_len] at this
    exact Nat.le_trans this (by decide)
theorem askY (T : List Tk) (hT : T.length ≤ 100000) : AskOK (wY T) (15 : Nat) := by
  refine ⟨by rw [wY_len]; omega, by omega, by omega, ?_, ?_⟩
  · have := sum_map_le (fun k => cY T k) 100001 (fun s => by
      have h1 := cY_le T s
      show cY T s ≤ 100001
      omega) 30
    exact Nat.le_trans this (by omega)
  · rw [Pm.oneW_len]
    have := Pm.lvf_len_le (wY T) 0
    rw [wY_len] at this
    exact Nat.le_trans this (by decide)
/-- lengths as numbers -/
def lln (W : List Nat) : List Nat := (List.range W.length).map fun s => Pm.LL W 15 s
theorem lln_len (W : List Nat) : (lln W).length = W.length := by simp [lln]
theorem lln_nats (W : List Nat) : nats (lln W) = tab W.length fun s => ((Pm.LL W 15 s : Nat) : Int) := nats_map _ _
theorem lln_get (W : List Nat) {s : Nat} (h : s < W.length) : (lln W).getD s 0 = Pm.LL W 15 s := by
  unfold lln
  rw [List.getD_eq_getElem?_getD, List.getElem?_map, List.getElem?_range h]; rfl
def pX (T : List Tk) : List Nat := cutN (lln (wX T)) 257
def pY (T : List Tk) : List Nat := cutN (lln (wY T)) 1
/-! what is cut off makes no difference -/
theorem tk_zeros : ∀ (Z : List Int), (∀ x ∈ Z, x = 0) → tk Z = 0
  | [], _ => rfl
  | x :: r, h => by
    have h0 := h x (by simp)
    have ih := tk_zeros r fun y hy => h y (by simp [hy])
    simp [tk, h0, ih]
theorem sm_zeros (Z : List Int) (h : ∀ x ∈ Z, x = 0) : sm Z = 0 := by
  unfold sm
  rw [List.countP_eq_zero]
  intro x hx
  rw [h x hx]; decide
theorem cn_zeros (A Z : List Int) (h : ∀ x ∈ Z, x = 0) : cn (A ++ Z) 1 = cn A 1 := by
  unfold cn
  rw [if_neg (by decide), if_neg (by decide), List.countP_append]
  have : Z.countP (fun x => x == ((1 : Nat) : Int)) = 0 := by
    rw [List.countP_eq_zero]
    intro x hx
    rw [h x hx]; decide
  rw [this, Nat.add_zero]
theorem cut_okl {B : List Nat} {least : Nat} (h1 : OKB (nats B)) (h2 : OKL (nats B)) : OKB (nats (cutN B least)) ∧ OKL (nats (cutN B least)) ∧ ∀ k, (nats (cutN B least)).getD k 0 = (nats B).getD k 0 := by
  have hz : ∀ x ∈ (nats B).drop (cutm B least B.length), x = 0 := fun x hx => by
    obtain ⟨j, hj, rfl⟩ := List.mem_iff_getElem.1 hx
    rw [List.length_drop, nats_len] at hj
    rw [List.getElem_drop]
    have := cutm_zero B least B.length (cutm B least B.length + j) (by omega) (by omega)
    have h3 := nats_getD B (cutm B least B.length + j)
    rw [this, List.getD_eq_getElem?_getD, List.getElem?_eq_getElem (by rw [nats_len]; omega)] at h3
    simpa using h3
  have he : nats (cutN B least) ++ (nats B).drop (cutm B least B.length) = nats B := by
    unfold cutN
    rw [nats_take, List.take_append_drop]
  have hg : ∀ k, (nats (cutN B least)).getD k 0 = (nats B).getD k 0 := fun k => by
    rw [← he, List.getD_eq_getElem?_getD, List.getD_eq_getElem?_getD]
    rcases Nat.lt_or_ge k (nats (cutN B least)).length with h | h
    · rw [List.getElem?_append_left h]
    · rw [List.getElem?_append_right h, List.getElem?_eq_none h]
      cases e : ((nats B).drop (cutm B least B.length))[k - (nats (cutN B least)).length]? with
      | none => rfl
      | some x => rw [hz x (List.mem_of_getElem? e)]; rfl
  refine ⟨fun j => by rw [hg]; exact h1 j, ⟨?_, fun j => by rw [hg]; exact h2.2.1 j, ?_⟩, hg⟩
  · have := congrArg List.length he
    rw [List.length_append] at this
    have := h2.1
    omega
  · have h3 := h2.2.2
    unfold FINE at h3 ⊢
    rw [← he, tk_app, tk_zeros _ hz, Int.add_zero, sm_app, sm_zeros _ hz, Nat.add_zero, cn_zeros _ _ hz] at h3
    exact h3
theorem cutN_len (B : List Nat) (least : Nat) : (cutN B least).length = cutm B least B.length := by
  unfold cutN
  rw [List.length_take]
  have := cutm_le B least B.length
  omega
theorem llset {W : List Nat} (hA : AskOK W (15 : Nat)) : OKB (nats (lln W)) ∧ OKL (nats (lln W)) ∧ ∀ s, s < W.length → Pm.LL W 15 s ≤ 15 ∧ (0 < Pm.LL W 15 s ↔ 0 < W.getD s 0) := by
  rw [lln_nats]
  exact LL_set hA
/-- a symbol that comes has a code -/
theorem cut_has {W : List Nat} {least : Nat} (hA : AskOK W (15 : Nat)) {k : Nat} (hk : k < W.length) (h0 : 0 < W.getD k 0) : HAS (nats (cutN (lln W) least)) k ((nats (cutN (lln W) least)).getD k 0).toNat ∧ ((nats (cutN (lln W) least)).getD k 0).toNat ≤ 15 := by
  obtain ⟨b1, b2, b3⟩ := llset hA
  obtain ⟨c1, c2, c3⟩ := cut_okl (least := least) b1 b2
  have h1 := b3 k hk
  have hg : (nats (cutN (lln W) least)).getD k 0 = ((Pm.LL W 15 k : Nat) : Int) := by rw [c3, nats_getD, lln_get W hk]
  have hlt : k < (nats (cutN (lln W) least)).length := by
    rcases Nat.lt_or_ge k (nats (cutN (lln W) least)).length with h | h
    · exact h
    · rw [List.getD_eq_getElem?_getD, List.getElem?_eq_none h] at hg
      have : ((Pm.LL W 15 k : Nat) : Int) = 0 := hg.symm
      have := h1.2.2 h0
      omega
  unfold HAS
  rw [Int.toNat_natCast, hg, Int.toNat_natCast]
  exact ⟨⟨by omega, by omega, h1.2.2 h0, rfl⟩, h1.1⟩
/-- a token's bits -/
def wrS (p q : List Int) (i : Nat) (r : Sq.Run) : List Int := (if i = 0 then cw p r.1 else cw q r.1) ++ grp r.2.1 r.2.2
def tkS (p q : List Int) (t : Tk) : List Int := (List.range (splitR t).length).flatMap fun i => wrS p q i ((splitR t).getD i (0, 0, 0))
/-- the bits of the described block -/
def dscL (B : List Int) : List Int :=
  grp 1 1 ++ grp 2 2 ++ descB (pX (toks B B.length 0)) (pY (toks B B.length 0)) ++ (toks B B.length 0).flatMap (tkS (nats (pX (toks B B.length 0))) (nats (pY (toks B B.length 0)))) ++ cw (nats (pX (toks B B.length 0))) 256
theorem wrS_01 (p q : List Int) (i : Nat) (r : Sq.Run) : ∀ j, (wrS p q i r).getD j 0 = 0 ∨ (wrS p q i r).getD j 0 = 1 := by
  unfold wrS
  refine app_01 ?_ (grp_01 _ _)
  split
  · exact cw_01 _ _
  · exact cw_01 _ _
theorem tkS_01 (p q : List Int) (t : Tk) : ∀ j, (tkS p q t).getD j 0 = 0 ∨ (tkS p q t).getD j 0 = 1 := flat_01 _ (fun i => wrS_01 p q i _) _
theorem range_succ_flat {α : Type} (f : Nat → List α) (n : Nat) : (List.range (n + 1)).flatMap f = (List.range n).flatMap f ++ f n := by
  rw [List.range_succ, List.flatMap_append]; simp
theorem descB_01 (X Y : List Nat) : ∀ j, (descB X Y).getD j 0 = 0 ∨ (descB X Y).getD j 0 = 1 := by
  unfold descB
  exact app_01 (app_01 (app_01 (app_01 (grp_01 _ _) (grp_01 _ _)) (grp_01 _ _)) (flat_01 _ (fun k => grp_01 _ 3) _)) (flat_01 _ (rbits_01 _) _)
theorem descB_len {X Y : List Nat} (hX : ∀ x ∈ X ++ Y, x < 16) (hl : (X ++ Y).length ≤ 1000) : (descB X Y).length ≤ 20000 := by
  have hrl := Sq.runs_len (X ++ Y) hX
  have hrx1 := (Sq.runs_ex (X ++ Y).length (X ++ Y) [] (Nat.le_refl _) hX).2.bd
  unfold descB
  simp only [List.length_append, grp_len]
  have l4 := flatb_len (fun k => grp ((c19 (Sq.runs (X ++ Y))).getD k 0) 3) 3 (ordN.take (mny (c19 (Sq.runs (X ++ Y))) 19)) (fun x _ => by rw [grp_len]; exact Nat.le_refl _)
  have l6 := flatb_len (rbits (c19 (Sq.runs (X ++ Y)))) 14 (Sq.runs (X ++ Y)) fun r hr => by
    have h1 := c19_has (Sq.runs (X ++ Y)) (by omega) r hr (hrx1 r hr).1
    have h2 := (hrx1 r hr).2.1
    unfold rbits
    rw [List.length_append, cw_len, grp_len]
    omega
  rw [List.length_take] at l4
  have hol : ordN.length = 19 := rfl
  omega
end Go.Proofs.Ytbiocgenbgbfpaa
