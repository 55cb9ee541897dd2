import Derived.Test.YtakgoflfcgofdaaM3
namespace Go.Proofs.Ytakgoflfcgofdaa
open Sx Go
set_option linter.unusedVariables false
set_option linter.unusedSimpArgs false
attribute [local irreducible] syA fc tk cds
/-! ## what a compressed stream tells, on bits -/
/-- so many bits as a number, the first one the lowest -/
def nbt (bt : Nat → Int) (a : Nat) : Nat → Int
  | 0 => 0
  | c + 1 => nbt bt a c + bt (a + c) * 2 ^ c
theorem nbt_bd (bt : Nat → Int) (hb : ∀ j, bt j = 0 ∨ bt j = 1) (a : Nat) : ∀ c, 0 ≤ nbt bt a c ∧ nbt bt a c < 2 ^ c
  | 0 => ⟨Int.le_refl _, by show (0 : Int) < 1; decide⟩
  | c + 1 => by
    have h := nbt_bd bt hb a c
    simp only [nbt, Int.pow_succ]
    rcases hb (a + c) with h1 | h1 <;> rw [h1] <;> omega
theorem nbt_congr {bt bt' : Nat → Int} {a a' : Nat} : ∀ {c : Nat}, (∀ j, j < c → bt (a + j) = bt' (a' + j)) → nbt bt a c = nbt bt' a' c
  | 0, _ => rfl
  | c + 1, h => by
    simp only [nbt]
    rw [nbt_congr (c := c) (fun j hj => h j (by omega)), h c (by omega)]
inductive Stp where
  | err (e : Int)
  | stop (a : Nat) (o : List Int)
  | go (a : Nat) (o : List Int)
inductive Res where
  | err (e : Int)
  | ok (a : Nat) (o : List Int)
/-- a step done over and over -/
inductive It (f : Nat → List Int → Stp) : Nat → List Int → Res → Prop where
  | err {a : Nat} {o : List Int} {e : Int} (h : f a o = .err e) : It f a o (.err e)
  | stop {a : Nat} {o : List Int} {a' : Nat} {o' : List Int} (h : f a o = .stop a' o') : It f a o (.ok a' o')
  | go {a : Nat} {o : List Int} {a' : Nat} {o' : List Int} {r : Res} (h : f a o = .go a' o') (t : It f a' o' r) : It f a o r
theorem It.one {f : Nat → List Int → Stp} {a : Nat} {o : List Int} {r r' : Res} (h : It f a o r) : It f a o r' → r = r' := by
  induction h with
  | err h => intro h'; cases h' with
    | err h2 => rw [h] at h2; cases h2; rfl
    | stop h2 => rw [h] at h2; cases h2
    | go h2 _ => rw [h] at h2; cases h2
  | stop h => intro h'; cases h' with
    | err h2 => rw [h] at h2; cases h2
    | stop h2 => rw [h] at h2; cases h2; rfl
    | go h2 _ => rw [h] at h2; cases h2
  | go h _ ih => intro h'; cases h' with
    | err h2 => rw [h] at h2; cases h2
    | stop h2 => rw [h] at h2; cases h2
    | go h2 t => rw [h] at h2; cases h2; exact ih t
open Classical in
noncomputable def itF (f : Nat → List Int → Stp) (a : Nat) (o : List Int) : Res := if h : ∃ r, It f a o r then h.choose else .err 0
theorem itF_of {f : Nat → List Int → Stp} {a : Nat} {o : List Int} {r : Res} (h : It f a o r) : itF f a o = r := by
  have hex : ∃ r, It f a o r := ⟨r, h⟩
  unfold itF
  rw [dif_pos hex]
  exact hex.choose_spec.one h
inductive Sy where
  | err (e : Int)
  | ok (i : Int) (a : Nat)
open Classical in
/-- a symbol by lengths -/
noncomputable def symS (bt : Nat → Int) (N : Nat) (L : List Int) (a : Nat) : Sy :=
  if h : ∃ x : Int × Nat × Int, RD L (fun j => bt (a + j)) (N - a) x.1 x.2.1 x.2.2 then (if h.choose.2.2 = 0 then .ok h.choose.1 (a + h.choose.2.1) else .err h.choose.2.2) else .err 0
theorem symS_of {bt : Nat → Int} {N a : Nat} {L : List Int} (hB : OKB L) (hk : OKL L) (hb : ∀ j, bt j = 0 ∨ bt j = 1) {i : Int} {u : Nat} {r : Int} (h : RD L (fun j => bt (a + j)) (N - a) i u r) :
    symS bt N L a = if r = 0 then .ok i (a + u) else .err r := by
  have hex : ∃ x : Int × Nat × Int, RD L (fun j => bt (a + j)) (N - a) x.1 x.2.1 x.2.2 := ⟨(i, u, r), h⟩
  unfold symS
  rw [dif_pos hex]
  obtain ⟨h1, h2, h3⟩ := RD_fun hB hk (fun j => hb _) hex.choose_spec h
  rw [h1, h2, h3]
/-- bytes from so far back -/
def cpy (o : List Int) (back : Nat) : Nat → List Int
  | 0 => o
  | n + 1 => cpy o back n ++ [(cpy o back n).getD ((cpy o back n).length - back) 0]
theorem cpy_len (o : List Int) (back : Nat) : ∀ n, (cpy o back n).length = o.length + n
  | 0 => rfl
  | n + 1 => by simp only [cpy, List.length_append, List.length_cons, List.length_nil, cpy_len o back n]; omega
/-- behind a length's symbol -/
noncomputable def blk2 (bt : Nat → Int) (N lim : Nat) (D : List Int) (o : List Int) (len : Int) (a : Nat) : Stp :=
  match symS bt N D a with
  | .err e => .err e
  | .ok d a2 =>
    if (lfar d).1 = 0 then .err 62
    else if N < a2 + (lfar d).2.toNat then .err 20
    else if (o.length : Int) < (lfar d).1 + nbt bt a2 (lfar d).2.toNat then .err 63
    else if (lim : Int) - o.length < len then .err 64
    else .go (a2 + (lfar d).2.toNat) (cpy o ((lfar d).1 + nbt bt a2 (lfar d).2.toNat).toNat len.toNat)
/-- a symbol of a block -/
noncomputable def blkF (bt : Nat → Int) (N lim : Nat) (L D : List Int) (a : Nat) (o : List Int) : Stp :=
  match symS bt N L a with
  | .err e => .err e
  | .ok i a1 =>
    if i = 256 then .stop a1 o
    else if i < 256 then (if (lim : Int) - o.length < 1 then .err 64 else .go a1 (o ++ [i]))
    else if (lbase i).1 = 0 then .err 62
    else if N < a1 + (lbase i).2.toNat then .err 20
    else blk2 bt N lim D o ((lbase i).1 + nbt bt a1 (lbase i).2.toNat) (a1 + (lbase i).2.toNat)
/-- some lengths more -/
def lenP (many : Nat) (l : List Int) (x : Int) (t : Int) (a : Nat) : Stp :=
  if (many : Int) < l.length + t then .err 62 else .go a (l ++ List.replicate t.toNat x)
/-- a symbol of the lengths -/
noncomputable def lenF (bt : Nat → Int) (N : Nat) (C : List Int) (many : Nat) (a : Nat) (l : List Int) : Stp :=
  if many ≤ l.length then .stop a l else
  match symS bt N C a with
  | .err e => .err e
  | .ok i a1 =>
    if i = 16 then (if l.length = 0 then .err 62 else if N < a1 + 2 then .err 20 else lenP many l (l.getD (l.length - 1) 0) (3 + nbt bt a1 2) (a1 + 2))
    else if i = 17 then (if N < a1 + 3 then .err 20 else lenP many l 0 (3 + nbt bt a1 3) (a1 + 3))
    else if i = 18 then (if N < a1 + 7 then .err 20 else lenP many l 0 (11 + nbt bt a1 7) (a1 + 7))
    else lenP many l i 1 a1
/-- bytes of bits -/
def byts (bt : Nat → Int) (a n : Nat) : List Int := (List.range n).map fun j => nbt bt (a + 8 * j) 8
theorem byts_len (bt : Nat → Int) (a n : Nat) : (byts bt a n).length = n := by simp [byts]
/-- the next place where a byte begins -/
def upto8 (a : Nat) : Nat := (a + 7) / 8 * 8
/-- a stored block -/
def stoF (bt : Nat → Int) (N lim : Nat) (a : Nat) (o : List Int) : Res :=
  if N < upto8 a + 16 then .err 20
  else if N < upto8 a + 32 then .err 20
  else if nbt bt (upto8 a) 16 + nbt bt (upto8 a + 16) 16 ≠ 65535 then .err 61
  else if (lim : Int) - o.length < nbt bt (upto8 a) 16 then .err 64
  else if (N : Int) < upto8 a + 32 + 8 * nbt bt (upto8 a) 16 then .err 20
  else .ok (upto8 a + 32 + 8 * (nbt bt (upto8 a) 16).toNat) (o ++ byts bt (upto8 a + 32) (nbt bt (upto8 a) 16).toNat)
/-- the order of the lengths' lengths -/
def ordL : List Nat := [16, 17, 18, 0, 8, 7, 9, 6, 10, 5, 11, 4, 12, 3, 13, 2, 14, 1, 15]
def ccl (bt : Nat → Int) (a : Nat) : Nat → List Int
  | 0 => List.replicate 19 0
  | i + 1 => (ccl bt a i).set (ordL.getD i 0) (nbt bt (a + 3 * i) 3)
theorem ccl_len (bt : Nat → Int) (a : Nat) : ∀ n, (ccl bt a n).length = 19
  | 0 => by simp [ccl]
  | n + 1 => by simp [ccl, ccl_len bt a n]
open Classical in
/-- behind the lengths of both sets -/
noncomputable def des2 (bt : Nat → Int) (N lim lit : Nat) (l : List Int) (a : Nat) (o : List Int) : Res :=
  if l.getD 256 0 = 0 then .err 62
  else if ¬ OKL (l.take lit) then .err 62
  else if ¬ OKL (l.drop lit) then .err 62
  else itF (blkF bt N lim (l.take lit) (l.drop lit)) a o
open Classical in
/-- behind the numbers of lengths -/
noncomputable def des1 (bt : Nat → Int) (N lim lit sp ln : Nat) (a : Nat) (o : List Int) : Res :=
  if 286 < lit ∨ 30 < sp then .err 62
  else if N < a + 3 * ln then .err 20
  else if ¬ OKL (ccl bt a ln) ∨ ¬ tk (ccl bt a ln) = 32768 then .err 62
  else match itF (lenF bt N (ccl bt a ln) (lit + sp)) (a + 3 * ln) [] with
    | .err e => .err e
    | .ok a' l => des2 bt N lim lit l a' o
/-- a described block -/
noncomputable def desF (bt : Nat → Int) (N lim : Nat) (a : Nat) (o : List Int) : Res :=
  if N < a + 5 then .err 20
  else if N < a + 10 then .err 20
  else if N < a + 14 then .err 20
  else des1 bt N lim (nbt bt a 5 + 257).toNat (nbt bt (a + 5) 5 + 1).toNat (nbt bt (a + 10) 4 + 4).toNat (a + 14) o
/-- a block of a kind -/
noncomputable def kndF (bt : Nat → Int) (N lim : Nat) (k : Int) (a : Nat) (o : List Int) : Res :=
  if k = 0 then stoF bt N lim a o
  else if k = 1 then itF (blkF bt N lim (tab 288 fixF) (List.replicate 32 5)) a o
  else if k = 2 then desF bt N lim a o
  else .err 60
/-- a block -/
noncomputable def rdF (bt : Nat → Int) (N lim : Nat) (a : Nat) (o : List Int) : Stp :=
  if N < a + 1 then .err 20
  else if N < a + 3 then .err 20
  else match kndF bt N lim (nbt bt (a + 1) 2) (a + 3) o with
    | .err e => .err e
    | .ok a' o' => if nbt bt a 1 = 0 then .go a' o' else .stop a' o'
/-- all of it: how many bits, which bytes -/
def ALLR (B : List Int) (lim : Nat) (r : Res) : Prop := It (rdF (bitB B 0) (8 * B.length) lim) 0 [] r
theorem bitB_add (B : List Int) (a j : Nat) : bitB B 0 (a + j) = bitB B a j := by
  unfold bitB; simp only [Nat.zero_add]
theorem bitB_fun (B : List Int) (a : Nat) : (fun j => bitB B 0 (a + j)) = bitB B a := funext fun j => bitB_add B a j
end Go.Proofs.Ytakgoflfcgofdaa

namespace Go.Proofs.Ytakgoflfcgofdaa
open Sx Go
set_option linter.unusedVariables false
set_option linter.unusedSimpArgs false
attribute [local irreducible] syA fc tk cds
theorem or_add_u32 {a y : Int} {s : Nat} (hs : s < 32) (ha : 0 ≤ a ∧ a < 2 ^ s) (hy : y = 0 ∨ y = 1) : IntKind.u32.wrap ((BitVec.ofInt IntKind.u32.bits a ||| BitVec.ofInt IntKind.u32.bits (y * 2 ^ s)).toNat) = a + y * 2 ^ s := by
  have hp : (2 : Int) ^ s ≤ 2147483648 := by
    have : ∀ k : Fin 32, (2 : Int) ^ k.val ≤ 2147483648 := by decide
    exact this ⟨s, hs⟩
  have hyb : 0 ≤ y * 2 ^ s ∧ y * 2 ^ s ≤ 2147483648 := by rcases hy with rfl | rfl <;> omega
  rw [or_nat .u32 ⟨ha.1, by show a < 4294967296; omega⟩ ⟨hyb.1, by show y * 2 ^ s < 4294967296; omega⟩]
  obtain ⟨m, rfl⟩ := Int.eq_ofNat_of_zero_le ha.1
  have hpn : ((2 ^ s : Nat) : Int) = 2 ^ s := by simp
  rcases hy with rfl | rfl
  · simp only [Int.zero_mul, Int.toNat_natCast, Int.toNat_zero, Nat.or_zero, Int.add_zero]
    exact wu32 (by omega)
  · have h := Nat.two_pow_add_eq_or_of_lt (i := s) (b := m) (by have := ha.2; rw [← hpn] at this; omega) 1
    rw [Nat.mul_one] at h
    rw [Int.one_mul, Int.toNat_natCast, show ((2 : Int) ^ s).toNat = 2 ^ s by rw [← hpn]; rfl, Nat.or_comm, ← h]
    refine (wu32 (by omega)).trans (by omega)
theorem pw32 (i : Nat) (h : i < 32) : (1 : Int) ≤ 2 ^ i ∧ (2 : Int) ^ i ≤ 2147483648 := by
  have : ∀ k : Fin 32, (1 : Int) ≤ 2 ^ k.val ∧ (2 : Int) ^ k.val ≤ 2147483648 := by decide
  exact this ⟨i, h⟩
set_option maxHeartbeats 4000000 in
/-- so many bits are read -/
theorem RGrp_c {w0 : World} {H : List Asn} (b : Nat) (q : Option Addr) (d m : Nat) (B : List Int) (hr : Rd w0 H (.slice q m d) m (ints .u8 B)) (hm : B.length = m) (hB : OKB B) (hm1 : m ≤ 140737488355328) (a c : Nat) (hc : c ≤ 32) (ha : a ≤ 8 * m) (w : World) (hw : St w0 (blk b [.slice q m d, .int .i64 a] :: H) w) :
    Calls Try.prog 82 #[.pointer (some ⟨b, 0, none⟩), .int .i64 c] w fun e w' =>
      (8 * m < a + c ∧ e = .returned (.tuple #[.int .u32 0, .int .i64 20]) ∧ St w0 (blk b [.slice q m d, .int .i64 a] :: H) w') ∨
      (a + c ≤ 8 * m ∧ e = .returned (.tuple #[.int .u32 (nbt (bitB B 0) a c), .int .i64 0]) ∧ St w0 (blk b [.slice q m d, .int .i64 (a + c : Nat)] :: H) w') := by
  refine enter (vs := [.pointer (some ⟨b, 0, none⟩), .int .i64 c]) Try.func82 rfl rfl rfl hw ?_
  repeat (first | (apply gJO; first | (apply kS; refine aK ?_) | (apply kX; refine JO_box rfl rfl rfl ?_; intro _) | (apply kA; refine JO_alloc (tb := tb) rfl rfl ?_; intro _) | (apply kBs; refine JO_buildSlice (tb := tb) rfl rfl rfl rfl rfl rfl rfl rfl rfl ?_; intro _) | (apply kM; refine JO_make (tb := tb) rfl rfl rfl rfl rfl rfl (by omega) rfl ?_; intro _) | refine aO ?_) | (apply gJR; first | apply JR_un | apply JR_nil | refine JR_yes rfl rfl ?_ | refine JR_no rfl rfl rfl rfl ?_ | refine JR_noU rfl rfl rfl ?_) | (apply gJS; first | apply JS_seq | apply JS_region | apply JS_skip | apply JS_block | apply JS_inBlock | apply JS_label | refine JS_exit rfl ?_ | refine JS_condT rfl ?_ | refine JS_condF rfl ?_ | refine JS_draw [0] (by kernel_rfl) (by kernel_rfl) (by decide +kernel) ?_ | refine JS_draw [] (by kernel_rfl) (by kernel_rfl) (by decide +kernel) ?_ | refine JS_cond_T rfl (by omega) ?_ | refine JS_cond_F rfl (by omega) ?_) | (apply gQR; first | apply QR_un | apply QR_nil | refine QR_yes rfl rfl ?_ | refine QR_no rfl rfl rfl rfl ?_ | refine QR_noU rfl rfl rfl ?_) | (apply gQO; first | refine aQ ?_ | refine aQK rfl ?_))
  refine JO_call Try.call94 rfl rfl fun w hw => (Left_c b q d m a (List.Mem.head _) hm1 (by omega) w hw).mono ?_
  rintro e w' ⟨rfl, hw'⟩
  refine ⟨_, rfl, _, hw', ?_⟩
  clear hw' hw w w'
  by_cases hend : 8 * m < a + c
  · repeat (first | (apply gJO; first | (apply kS; refine aK ?_) | (apply kX; refine JO_box rfl rfl rfl ?_; intro _) | (apply kA; refine JO_alloc (tb := tb) rfl rfl ?_; intro _) | (apply kBs; refine JO_buildSlice (tb := tb) rfl rfl rfl rfl rfl rfl rfl rfl rfl ?_; intro _) | (apply kM; refine JO_make (tb := tb) rfl rfl rfl rfl rfl rfl (by omega) rfl ?_; intro _) | refine aO ?_) | (apply gJR; first | apply JR_un | apply JR_nil | refine JR_yes rfl rfl ?_ | refine JR_no rfl rfl rfl rfl ?_ | refine JR_noU rfl rfl rfl ?_) | (apply gJS; first | apply JS_seq | apply JS_region | apply JS_skip | apply JS_block | apply JS_inBlock | apply JS_label | refine JS_exit rfl ?_ | refine JS_condT rfl ?_ | refine JS_condF rfl ?_ | refine JS_draw [0] (by kernel_rfl) (by kernel_rfl) (by decide +kernel) ?_ | refine JS_draw [] (by kernel_rfl) (by kernel_rfl) (by decide +kernel) ?_ | refine JS_cond_T rfl (by omega) ?_ | refine JS_cond_F rfl (by omega) ?_) | (apply gQR; first | apply QR_un | apply QR_nil | refine QR_yes rfl rfl ?_ | refine QR_no rfl rfl rfl rfl ?_ | refine QR_noU rfl rfl rfl ?_) | (apply gQO; first | refine aQ ?_ | refine aQK rfl ?_))
    refine JS_ret Try.func82 rfl rfl ?_
    intro w hw
    exact .inl ⟨hend, rfl, hw⟩
  repeat (first | (apply gJR; first | (apply gJO; first | (apply kS; refine aK ?_) | (apply kX; refine JO_box rfl rfl rfl ?_; intro _) | (apply kA; refine JO_alloc (tb := tb) rfl rfl ?_; intro _) | (apply kBs; refine JO_buildSlice (tb := tb) rfl rfl rfl rfl rfl rfl rfl rfl rfl ?_; intro _) | (apply kM; refine JO_make (tb := tb) rfl rfl rfl rfl rfl rfl (by omega) rfl ?_; intro _) | refine aO ?_) | (apply gJR; first | apply JR_un | apply JR_nil | refine JR_yes rfl rfl ?_ | refine JR_no rfl rfl rfl rfl ?_ | refine JR_noU rfl rfl rfl ?_) | (apply gJS; first | apply JS_seq | apply JS_region | apply JS_skip | apply JS_block | apply JS_inBlock | apply JS_label | refine JS_exit rfl ?_ | refine JS_condT rfl ?_ | refine JS_condF rfl ?_ | refine JS_draw [0] (by kernel_rfl) (by kernel_rfl) (by decide +kernel) ?_ | refine JS_draw [] (by kernel_rfl) (by kernel_rfl) (by decide +kernel) ?_ | refine JS_cond_T rfl (by omega) ?_ | refine JS_cond_F rfl (by omega) ?_) | (apply gQR; first | apply QR_un | apply QR_nil | refine QR_yes rfl rfl ?_ | refine QR_no rfl rfl rfl rfl ?_ | refine QR_noU rfl rfl rfl ?_) | (apply gQO; first | refine aQ ?_ | refine aQK rfl ?_)) | (apply gJO; first | (apply gJO; first | (apply kS; refine aK ?_) | (apply kX; refine JO_box rfl rfl rfl ?_; intro _) | (apply kA; refine JO_alloc (tb := tb) rfl rfl ?_; intro _) | (apply kBs; refine JO_buildSlice (tb := tb) rfl rfl rfl rfl rfl rfl rfl rfl rfl ?_; intro _) | (apply kM; refine JO_make (tb := tb) rfl rfl rfl rfl rfl rfl (by omega) rfl ?_; intro _) | refine aO ?_) | (apply gJR; first | apply JR_un | apply JR_nil | refine JR_yes rfl rfl ?_ | refine JR_no rfl rfl rfl rfl ?_ | refine JR_noU rfl rfl rfl ?_) | (apply gJS; first | apply JS_seq | apply JS_region | apply JS_skip | apply JS_block | apply JS_inBlock | apply JS_label | refine JS_exit rfl ?_ | refine JS_condT rfl ?_ | refine JS_condF rfl ?_ | refine JS_draw [0] (by kernel_rfl) (by kernel_rfl) (by decide +kernel) ?_ | refine JS_draw [] (by kernel_rfl) (by kernel_rfl) (by decide +kernel) ?_ | refine JS_cond_T rfl (by omega) ?_ | refine JS_cond_F rfl (by omega) ?_) | (apply gQR; first | apply QR_un | apply QR_nil | refine QR_yes rfl rfl ?_ | refine QR_no rfl rfl rfl rfl ?_ | refine QR_noU rfl rfl rfl ?_) | (apply gQO; first | refine aQ ?_ | refine aQK rfl ?_)) | apply JS_seq | apply JS_region | refine JS_condF rfl ?_ | refine JS_cond_F rfl (by omega) ?_ | apply JS_skip)
  refine JS_block ?_
  refine JS_loop1 (fun (i : Nat) => [(0, .pointer (some ⟨b, 0, none⟩)), (6, .int .u32 (nbt (bitB B 0) a i)), (18, .int .i64 c), (19, .int .i64 i)]) (fun i => blk b [.slice q m d, .int .i64 (a + i : Nat)] :: H)
    (fun i => i ≤ c) (fun i => c - i) 0 (Nat.zero_le _) (by repeat (first | exact trivial | refine ⟨rfl, ?_⟩ | refine ⟨lookI rfl (by omega), ?_⟩)) (fun _ h => h) ?_
  intro i hi again
  by_cases hic : i < c
  · have hr' : Rd w0 (blk b [.slice q m d, .int .i64 (a + i : Nat)] :: H) (.slice q m d) m (ints .u8 B) := Rd_weak hr fun w hw => St.sub (by repeat (first | exact List.Sublist.refl _ | apply List.Sublist.cons_cons | apply List.Sublist.cons)) hw
    have hb := hB ((a + i) / 8)
    have gi : (ints .u8 B)[(a + i) / 8]? = some (.int .u8 (B.getD ((a + i) / 8) 0)) := ints_get (by omega)
    have hs : min (((a + i : Nat) : Int) % 8).toNat IntKind.u8.bits = (a + i) % 8 := by show min _ 8 = _; omega
    obtain ⟨y, hy⟩ : ∃ y, B.getD ((a + i) / 8) 0 / 2 ^ ((a + i) % 8) = y := ⟨_, rfl⟩
    have hpos : (0 : Int) < 2 ^ ((a + i) % 8) := Int.pow_pos (by decide)
    have hy0 : 0 ≤ y := by rw [← hy]; exact Int.ediv_nonneg hb.1 (Int.le_of_lt hpos)
    have hy1 : y < 256 := by
      rw [← hy]
      exact Int.lt_of_le_of_lt (Int.ediv_le_self _ hb.1) hb.2
    have hz : y % 2 = 0 ∨ y % 2 = 1 := by omega
    have hbt : bitB B 0 (a + i) = y % 2 := by unfold bitB; rw [Nat.zero_add, hy]
    obtain ⟨hn0, hn1⟩ := nbt_bd (bitB B 0) (bitB_01 B 0) a i
    obtain ⟨hp0, hp1⟩ := pw32 i (by omega)
    have hs2 : min ((i : Int)).toNat IntKind.u32.bits = i := by show min _ 32 = _; omega
    have hwr : IntKind.u32.wrap (y % 2 * 2 ^ i) = y % 2 * 2 ^ i := wu32 (by rcases hz with h | h <;> rw [h] <;> omega)
    have hor := or_add_u32 (s := i) (by omega) ⟨hn0, hn1⟩ hz
    repeat (first | (apply gQO; refine QO_v rfl (V_loadC (tb := tb) rfl hr' rfl rfl gi rfl) ?_) | (apply gQO; refine QO_v rfl (V_shr (m := (a + i) % 8) rfl rfl (by omega) hs hy rfl) ?_) | (apply gQO; refine QO_v rfl (V_and rfl rfl (mask1_u8 ⟨hy0, hy1⟩) rfl) ?_) | (apply gQO; refine QO_v rfl (V_shl (m := i) (c := y % 2 * 2 ^ i) rfl rfl (by omega) hs2 hwr rfl) ?_) | (apply gQO; refine QO_v rfl (V_or rfl rfl hor rfl) ?_) | (first | (apply gJO; first | (apply kS; refine aK ?_) | (apply kX; refine JO_box rfl rfl rfl ?_; intro _) | (apply kA; refine JO_alloc (tb := tb) rfl rfl ?_; intro _) | (apply kBs; refine JO_buildSlice (tb := tb) rfl rfl rfl rfl rfl rfl rfl rfl rfl ?_; intro _) | (apply kM; refine JO_make (tb := tb) rfl rfl rfl rfl rfl rfl (by omega) rfl ?_; intro _) | refine aO ?_) | (apply gJR; first | apply JR_un | apply JR_nil | refine JR_yes rfl rfl ?_ | refine JR_no rfl rfl rfl rfl ?_ | refine JR_noU rfl rfl rfl ?_) | (apply gJS; first | apply JS_seq | apply JS_region | apply JS_skip | apply JS_block | apply JS_inBlock | apply JS_label | refine JS_exit rfl ?_ | refine JS_condT rfl ?_ | refine JS_condF rfl ?_ | refine JS_draw [0] (by kernel_rfl) (by kernel_rfl) (by decide +kernel) ?_ | refine JS_draw [] (by kernel_rfl) (by kernel_rfl) (by decide +kernel) ?_ | refine JS_cond_T rfl (by omega) ?_ | refine JS_cond_F rfl (by omega) ?_) | (apply gQR; first | apply QR_un | apply QR_nil | refine QR_yes rfl rfl ?_ | refine QR_no rfl rfl rfl rfl ?_ | refine QR_noU rfl rfl rfl ?_) | (apply gQO; first | refine aQ ?_ | refine aQK rfl ?_)))
    refine JS_again1 again (i + 1) (by omega) (by omega) ?_ (fun w hw => hw)
    refine ⟨rfl, ?_, rfl, rfl, trivial⟩
    simp only [nbt, hbt]; rfl
  · obtain rfl : i = c := by omega
    clear again
    repeat (first | (apply gJO; first | (apply kS; refine aK ?_) | (apply kX; refine JO_box rfl rfl rfl ?_; intro _) | (apply kA; refine JO_alloc (tb := tb) rfl rfl ?_; intro _) | (apply kBs; refine JO_buildSlice (tb := tb) rfl rfl rfl rfl rfl rfl rfl rfl rfl ?_; intro _) | (apply kM; refine JO_make (tb := tb) rfl rfl rfl rfl rfl rfl (by omega) rfl ?_; intro _) | refine aO ?_) | (apply gJR; first | apply JR_un | apply JR_nil | refine JR_yes rfl rfl ?_ | refine JR_no rfl rfl rfl rfl ?_ | refine JR_noU rfl rfl rfl ?_) | (apply gJS; first | apply JS_seq | apply JS_region | apply JS_skip | apply JS_block | apply JS_inBlock | apply JS_label | refine JS_exit rfl ?_ | refine JS_condT rfl ?_ | refine JS_condF rfl ?_ | refine JS_draw [0] (by kernel_rfl) (by kernel_rfl) (by decide +kernel) ?_ | refine JS_draw [] (by kernel_rfl) (by kernel_rfl) (by decide +kernel) ?_ | refine JS_cond_T rfl (by omega) ?_ | refine JS_cond_F rfl (by omega) ?_) | (apply gQR; first | apply QR_un | apply QR_nil | refine QR_yes rfl rfl ?_ | refine QR_no rfl rfl rfl rfl ?_ | refine QR_noU rfl rfl rfl ?_) | (apply gQO; first | refine aQ ?_ | refine aQK rfl ?_))
    refine JS_ret Try.func82 rfl rfl ?_
    intro w hw
    exact .inr ⟨by omega, rfl, hw⟩
/-- up to the next byte -/
theorem Align_c {w0 : World} {H : List Asn} (b : Nat) (u : Value) (a : Nat) (ha : a ≤ 4611686018427387904) (w : World) (hw : St w0 (blk b [u, .int .i64 a] :: H) w) :
    Calls Try.prog 75 #[.pointer (some ⟨b, 0, none⟩)] w fun e w' => e = .returned (.tuple #[]) ∧ St w0 (blk b [u, .int .i64 (upto8 a : Nat)] :: H) w' := by
  refine enter (vs := [.pointer (some ⟨b, 0, none⟩)]) Try.func75 rfl rfl rfl hw ?_
  repeat (first | (apply gJO; first | (apply kS; refine aK ?_) | (apply kX; refine JO_box rfl rfl rfl ?_; intro _) | (apply kA; refine JO_alloc (tb := tb) rfl rfl ?_; intro _) | (apply kBs; refine JO_buildSlice (tb := tb) rfl rfl rfl rfl rfl rfl rfl rfl rfl ?_; intro _) | (apply kM; refine JO_make (tb := tb) rfl rfl rfl rfl rfl rfl (by omega) rfl ?_; intro _) | refine aO ?_) | (apply gJR; first | apply JR_un | apply JR_nil | refine JR_yes rfl rfl ?_ | refine JR_no rfl rfl rfl rfl ?_ | refine JR_noU rfl rfl rfl ?_) | (apply gJS; first | apply JS_seq | apply JS_region | apply JS_skip | apply JS_block | apply JS_inBlock | apply JS_label | refine JS_exit rfl ?_ | refine JS_condT rfl ?_ | refine JS_condF rfl ?_ | refine JS_draw [0] (by kernel_rfl) (by kernel_rfl) (by decide +kernel) ?_ | refine JS_draw [] (by kernel_rfl) (by kernel_rfl) (by decide +kernel) ?_ | refine JS_cond_T rfl (by omega) ?_ | refine JS_cond_F rfl (by omega) ?_) | (apply gQR; first | apply QR_un | apply QR_nil | refine QR_yes rfl rfl ?_ | refine QR_no rfl rfl rfl rfl ?_ | refine QR_noU rfl rfl rfl ?_) | (apply gQO; first | refine aQ ?_ | refine aQK rfl ?_))
  refine JS_fin Try.func75 rfl rfl ?_
  intro w hw
  refine ⟨rfl, ?_⟩
  rwa [show ((a : Int) + 7) / 8 * 8 = (upto8 a : Nat) by unfold upto8; omega] at hw
theorem upto8_le {a m : Nat} (h : a ≤ 8 * m) : upto8 a ≤ 8 * m := by unfold upto8; omega
theorem upto8_8 (a : Nat) : upto8 a % 8 = 0 := by unfold upto8; omega
theorem upto8_up (a : Nat) : upto8 (upto8 a) = upto8 a := by unfold upto8; omega
set_option maxHeartbeats 2000000 in
/-- bytes are read -/
theorem Text_c {w0 : World} {H : List Asn} (b : Nat) (q : Option Addr) (d m : Nat) (B : List Int) (hr : Rd w0 H (.slice q m d) m (ints .u8 B)) (hm : B.length = m) (hB : OKB B) (hm1 : m ≤ 140737488355328) (a n : Nat) (hn : n ≤ 140737488355328) (ha : a ≤ 8 * m) (w : World) (hw : St w0 (blk b [.slice q m d, .int .i64 a] :: H) w) :
    Calls Try.prog 76 #[.pointer (some ⟨b, 0, none⟩), .int .i64 n] w fun e w' =>
      (8 * m < upto8 a + 8 * n ∧ e = .returned (.tuple #[.slice none 0 0, .int .i64 20]) ∧ St w0 (blk b [.slice q m d, .int .i64 (upto8 a : Nat)] :: H) w') ∨
      (upto8 a + 8 * n ≤ 8 * m ∧ ∃ p c, e = .returned (.tuple #[.slice p n c, .int .i64 0]) ∧ St w0 (vec 5 1 (.slice p n c) n (ints .u8 ((B.drop (upto8 a / 8)).take n)) :: blk b [.slice q m d, .int .i64 (upto8 a + 8 * n : Nat)] :: H) w') := by
  have hu := upto8_le ha
  have hu8 := upto8_8 a
  refine enter (vs := [.pointer (some ⟨b, 0, none⟩), .int .i64 n]) Try.func76 rfl rfl rfl hw ?_
  repeat (first | (apply gJO; first | (apply kS; refine aK ?_) | (apply kX; refine JO_box rfl rfl rfl ?_; intro _) | (apply kA; refine JO_alloc (tb := tb) rfl rfl ?_; intro _) | (apply kBs; refine JO_buildSlice (tb := tb) rfl rfl rfl rfl rfl rfl rfl rfl rfl ?_; intro _) | (apply kM; refine JO_make (tb := tb) rfl rfl rfl rfl rfl rfl (by omega) rfl ?_; intro _) | refine aO ?_) | (apply gJR; first | apply JR_un | apply JR_nil | refine JR_yes rfl rfl ?_ | refine JR_no rfl rfl rfl rfl ?_ | refine JR_noU rfl rfl rfl ?_) | (apply gJS; first | apply JS_seq | apply JS_region | apply JS_skip | apply JS_block | apply JS_inBlock | apply JS_label | refine JS_exit rfl ?_ | refine JS_condT rfl ?_ | refine JS_condF rfl ?_ | refine JS_draw [0] (by kernel_rfl) (by kernel_rfl) (by decide +kernel) ?_ | refine JS_draw [] (by kernel_rfl) (by kernel_rfl) (by decide +kernel) ?_ | refine JS_cond_T rfl (by omega) ?_ | refine JS_cond_F rfl (by omega) ?_) | (apply gQR; first | apply QR_un | apply QR_nil | refine QR_yes rfl rfl ?_ | refine QR_no rfl rfl rfl rfl ?_ | refine QR_noU rfl rfl rfl ?_) | (apply gQO; first | refine aQ ?_ | refine aQK rfl ?_))
  refine JO_call Try.call75 rfl rfl fun w hw => (Align_c b _ a (by omega) w hw).mono ?_
  rintro e w' ⟨rfl, hw'⟩
  refine ⟨_, rfl, _, hw', ?_⟩
  clear hw' hw w w'
  generalize upto8 a = u at *
  repeat (first | (apply gJO; first | (apply kS; refine aK ?_) | (apply kX; refine JO_box rfl rfl rfl ?_; intro _) | (apply kA; refine JO_alloc (tb := tb) rfl rfl ?_; intro _) | (apply kBs; refine JO_buildSlice (tb := tb) rfl rfl rfl rfl rfl rfl rfl rfl rfl ?_; intro _) | (apply kM; refine JO_make (tb := tb) rfl rfl rfl rfl rfl rfl (by omega) rfl ?_; intro _) | refine aO ?_) | (apply gJR; first | apply JR_un | apply JR_nil | refine JR_yes rfl rfl ?_ | refine JR_no rfl rfl rfl rfl ?_ | refine JR_noU rfl rfl rfl ?_) | (apply gJS; first | apply JS_seq | apply JS_region | apply JS_skip | apply JS_block | apply JS_inBlock | apply JS_label | refine JS_exit rfl ?_ | refine JS_condT rfl ?_ | refine JS_condF rfl ?_ | refine JS_draw [0] (by kernel_rfl) (by kernel_rfl) (by decide +kernel) ?_ | refine JS_draw [] (by kernel_rfl) (by kernel_rfl) (by decide +kernel) ?_ | refine JS_cond_T rfl (by omega) ?_ | refine JS_cond_F rfl (by omega) ?_) | (apply gQR; first | apply QR_un | apply QR_nil | refine QR_yes rfl rfl ?_ | refine QR_no rfl rfl rfl rfl ?_ | refine QR_noU rfl rfl rfl ?_) | (apply gQO; first | refine aQ ?_ | refine aQK rfl ?_))
  refine JO_call Try.call94 rfl rfl fun w hw => (Left_c b q d m u (List.Mem.head _) hm1 (by omega) w hw).mono ?_
  rintro e w' ⟨rfl, hw'⟩
  refine ⟨_, rfl, _, hw', ?_⟩
  clear hw' hw w w'
  by_cases hend : 8 * m < u + 8 * n
  · repeat (first | (apply gJO; first | (apply kS; refine aK ?_) | (apply kX; refine JO_box rfl rfl rfl ?_; intro _) | (apply kA; refine JO_alloc (tb := tb) rfl rfl ?_; intro _) | (apply kBs; refine JO_buildSlice (tb := tb) rfl rfl rfl rfl rfl rfl rfl rfl rfl ?_; intro _) | (apply kM; refine JO_make (tb := tb) rfl rfl rfl rfl rfl rfl (by omega) rfl ?_; intro _) | refine aO ?_) | (apply gJR; first | apply JR_un | apply JR_nil | refine JR_yes rfl rfl ?_ | refine JR_no rfl rfl rfl rfl ?_ | refine JR_noU rfl rfl rfl ?_) | (apply gJS; first | apply JS_seq | apply JS_region | apply JS_skip | apply JS_block | apply JS_inBlock | apply JS_label | refine JS_exit rfl ?_ | refine JS_condT rfl ?_ | refine JS_condF rfl ?_ | refine JS_draw [0] (by kernel_rfl) (by kernel_rfl) (by decide +kernel) ?_ | refine JS_draw [] (by kernel_rfl) (by kernel_rfl) (by decide +kernel) ?_ | refine JS_cond_T rfl (by omega) ?_ | refine JS_cond_F rfl (by omega) ?_) | (apply gQR; first | apply QR_un | apply QR_nil | refine QR_yes rfl rfl ?_ | refine QR_no rfl rfl rfl rfl ?_ | refine QR_noU rfl rfl rfl ?_) | (apply gQO; first | refine aQ ?_ | refine aQK rfl ?_))
    refine JS_ret Try.func76 rfl rfl ?_
    intro w hw
    exact .inl ⟨hend, rfl, hw⟩
  have hr' : Rd w0 (blk b [.slice q m d, .int .i64 (u + 8 * n : Nat)] :: H) (.slice q m d) m (ints .u8 B) := Rd_weak hr fun w hw => St.sub (by repeat (first | exact List.Sublist.refl _ | apply List.Sublist.cons_cons | apply List.Sublist.cons)) hw
  have hrs := Rd_sub (lo := u / 8) (hi := u / 8 + n) (sz := 1) hr' (by omega) (by omega)
  have hsub : ((ints .u8 B).drop (u / 8 * 1)).take ((u / 8 + n - u / 8) * 1) = ints .u8 ((B.drop (u / 8)).take n) := by
    rw [show u / 8 + n - u / 8 = n by omega, Nat.mul_one, Nat.mul_one, ints_drop, ints_take]
  rw [hsub, show u / 8 + n - u / 8 = n by omega] at hrs
  have hcap : ∀ w, St w0 (blk b [.slice q m d, .int .i64 (u + 8 * n : Nat)] :: H) w → u / 8 + n ≤ d := fun w hw => by
    have := (hr'.lcap hw).1; omega
  have hst : ((u : Int) + 8 * n) = ((u + 8 * n : Nat) : Int) := by omega
  repeat (first | (apply gJO; refine JO_v (V_slice (tb := tb) (lo := u / 8) (hi := u / 8 + n) rfl rfl rfl rfl rfl (by omega) (by omega) (fun w hw => ⟨by omega, hcap w (by rw [← hst]; exact hw)⟩) rfl) ?_) | (first | (apply gJO; first | (apply kS; refine aK ?_) | (apply kX; refine JO_box rfl rfl rfl ?_; intro _) | (apply kA; refine JO_alloc (tb := tb) rfl rfl ?_; intro _) | (apply kBs; refine JO_buildSlice (tb := tb) rfl rfl rfl rfl rfl rfl rfl rfl rfl ?_; intro _) | (apply kM; refine JO_make (tb := tb) rfl rfl rfl rfl rfl rfl (by omega) rfl ?_; intro _) | refine aO ?_) | (apply gJR; first | apply JR_un | apply JR_nil | refine JR_yes rfl rfl ?_ | refine JR_no rfl rfl rfl rfl ?_ | refine JR_noU rfl rfl rfl ?_) | (apply gJS; first | apply JS_seq | apply JS_region | apply JS_skip | apply JS_block | apply JS_inBlock | apply JS_label | refine JS_exit rfl ?_ | refine JS_condT rfl ?_ | refine JS_condF rfl ?_ | refine JS_draw [0] (by kernel_rfl) (by kernel_rfl) (by decide +kernel) ?_ | refine JS_draw [] (by kernel_rfl) (by kernel_rfl) (by decide +kernel) ?_ | refine JS_cond_T rfl (by omega) ?_ | refine JS_cond_F rfl (by omega) ?_) | (apply gQR; first | apply QR_un | apply QR_nil | refine QR_yes rfl rfl ?_ | refine QR_no rfl rfl rfl rfl ?_ | refine QR_noU rfl rfl rfl ?_) | (apply gQO; first | refine aQ ?_ | refine aQK rfl ?_)))
  have e3 : u / 8 + n - u / 8 = n := by omega
  simp only [hst, e3]
  have hl : ((B.drop (u / 8)).take n).length = n := by rw [List.length_take, List.length_drop]; omega
  have hok : OKB ((B.drop (u / 8)).take n) := Byt_take (Byt_drop hB _) _
  refine JO_call Try.call72 rfl rfl fun w hw => (Clone_c _ _ n _ hrs hl hok (by omega) (hrs.nil hw) w hw).mono ?_
  rintro e w' ⟨p, c, rfl, hw'⟩
  refine ⟨_, rfl, _, hw', ?_⟩
  clear hw' hw w w'
  repeat (first | (apply gJO; first | (apply kS; refine aK ?_) | (apply kX; refine JO_box rfl rfl rfl ?_; intro _) | (apply kA; refine JO_alloc (tb := tb) rfl rfl ?_; intro _) | (apply kBs; refine JO_buildSlice (tb := tb) rfl rfl rfl rfl rfl rfl rfl rfl rfl ?_; intro _) | (apply kM; refine JO_make (tb := tb) rfl rfl rfl rfl rfl rfl (by omega) rfl ?_; intro _) | refine aO ?_) | (apply gJR; first | apply JR_un | apply JR_nil | refine JR_yes rfl rfl ?_ | refine JR_no rfl rfl rfl rfl ?_ | refine JR_noU rfl rfl rfl ?_) | (apply gJS; first | apply JS_seq | apply JS_region | apply JS_skip | apply JS_block | apply JS_inBlock | apply JS_label | refine JS_exit rfl ?_ | refine JS_condT rfl ?_ | refine JS_condF rfl ?_ | refine JS_draw [0] (by kernel_rfl) (by kernel_rfl) (by decide +kernel) ?_ | refine JS_draw [] (by kernel_rfl) (by kernel_rfl) (by decide +kernel) ?_ | refine JS_cond_T rfl (by omega) ?_ | refine JS_cond_F rfl (by omega) ?_) | (apply gQR; first | apply QR_un | apply QR_nil | refine QR_yes rfl rfl ?_ | refine QR_no rfl rfl rfl rfl ?_ | refine QR_noU rfl rfl rfl ?_) | (apply gQO; first | refine aQ ?_ | refine aQK rfl ?_))
  refine JS_ret Try.func76 rfl rfl ?_
  intro w hw
  exact .inr ⟨by omega, p, c, rfl, hw⟩
end Go.Proofs.Ytakgoflfcgofdaa

namespace Go.Proofs.Ytakgoflfcgofdaa
open Sx Go
set_option linter.unusedVariables false
set_option linter.unusedSimpArgs false
attribute [local irreducible] syA fc tk cds
/-- what is thrown when a reading is given up -/
def FLT (r : Int) : List PanicEntry := [{ v := .iface 98 (.int .i64 r), recovered := false }]
theorem Give_c {w0 : World} {H : List Asn} (r : Int) (w : World) (hw : St w0 H w) :
    Calls Try.prog 56 #[.int .i64 r] w fun e w' => (r = 0 ∧ e = .returned (.tuple #[]) ∧ St w0 H w') ∨ (r ≠ 0 ∧ e = .panicked (FLT r) ∧ St w0 H w') := by
  refine enter (vs := [.int .i64 r]) Try.func56 rfl rfl rfl hw ?_
  by_cases h : r = 0
  · repeat (first | (apply gJO; first | (apply kS; refine aK ?_) | (apply kX; refine JO_box rfl rfl rfl ?_; intro _) | (apply kA; refine JO_alloc (tb := tb) rfl rfl ?_; intro _) | (apply kBs; refine JO_buildSlice (tb := tb) rfl rfl rfl rfl rfl rfl rfl rfl rfl ?_; intro _) | (apply kM; refine JO_make (tb := tb) rfl rfl rfl rfl rfl rfl (by omega) rfl ?_; intro _) | refine aO ?_) | (apply gJR; first | apply JR_un | apply JR_nil | refine JR_yes rfl rfl ?_ | refine JR_no rfl rfl rfl rfl ?_ | refine JR_noU rfl rfl rfl ?_) | (apply gJS; first | apply JS_seq | apply JS_region | apply JS_skip | apply JS_block | apply JS_inBlock | apply JS_label | refine JS_exit rfl ?_ | refine JS_condT rfl ?_ | refine JS_condF rfl ?_ | refine JS_draw [0] (by kernel_rfl) (by kernel_rfl) (by decide +kernel) ?_ | refine JS_draw [] (by kernel_rfl) (by kernel_rfl) (by decide +kernel) ?_ | refine JS_cond_T rfl (by omega) ?_ | refine JS_cond_F rfl (by omega) ?_) | (apply gQR; first | apply QR_un | apply QR_nil | refine QR_yes rfl rfl ?_ | refine QR_no rfl rfl rfl rfl ?_ | refine QR_noU rfl rfl rfl ?_) | (apply gQO; first | refine aQ ?_ | refine aQK rfl ?_))
    refine JS_fin Try.func56 rfl rfl ?_
    intro w hw
    exact .inl ⟨h, rfl, hw⟩
  · repeat (first | (apply gJO; refine JO_v (V_mkI (tb := tb) rfl rfl (by simp) rfl) ?_) | first | (apply gJO; first | (apply kS; refine aK ?_) | (apply kX; refine JO_box rfl rfl rfl ?_; intro _) | (apply kA; refine JO_alloc (tb := tb) rfl rfl ?_; intro _) | (apply kBs; refine JO_buildSlice (tb := tb) rfl rfl rfl rfl rfl rfl rfl rfl rfl ?_; intro _) | (apply kM; refine JO_make (tb := tb) rfl rfl rfl rfl rfl rfl (by omega) rfl ?_; intro _) | refine aO ?_) | (apply gJR; first | apply JR_un | apply JR_nil | refine JR_yes rfl rfl ?_ | refine JR_no rfl rfl rfl rfl ?_ | refine JR_noU rfl rfl rfl ?_) | (apply gJS; first | apply JS_seq | apply JS_region | apply JS_skip | apply JS_block | apply JS_inBlock | apply JS_label | refine JS_exit rfl ?_ | refine JS_condT rfl ?_ | refine JS_condF rfl ?_ | refine JS_draw [0] (by kernel_rfl) (by kernel_rfl) (by decide +kernel) ?_ | refine JS_draw [] (by kernel_rfl) (by kernel_rfl) (by decide +kernel) ?_ | refine JS_cond_T rfl (by omega) ?_ | refine JS_cond_F rfl (by omega) ?_) | (apply gQR; first | apply QR_un | apply QR_nil | refine QR_yes rfl rfl ?_ | refine QR_no rfl rfl rfl rfl ?_ | refine QR_noU rfl rfl rfl ?_) | (apply gQO; first | refine aQ ?_ | refine aQK rfl ?_))
    refine JO_panic Try.func56 rfl ?_
    intro a w _ hw
    exact .inr ⟨h, rfl, hw⟩
/-- the reading's memory -/
abbrev infL (bf br : Nat) (q : Option Addr) (d m : Nat) (B : List Int) (lim : Int) (a : Nat) (po : Option Addr) (co : Nat) (o : List Int) (H : List Asn) : List Asn :=
  blk br [.slice q m d, .int .i64 a] :: blk bf [.pointer (some ⟨br, 0, none⟩), .slice po o.length co, .int .i64 lim] :: vec 5 1 (.slice po o.length co) o.length (ints .u8 o) :: vec 5 1 (.slice q m d) m (ints .u8 B) :: H
theorem infL_drop {w0 : World} {w : World} {bf br : Nat} {q : Option Addr} {d m : Nat} {B : List Int} {lim : Int} {a : Nat} {po : Option Addr} {co : Nat} {o : List Int} {H : List Asn} (h : St w0 (infL bf br q d m B lim a po co o H) w) : St w0 H w := h.drop.drop.drop.drop
theorem infL_in {w0 : World} {w : World} {bf br : Nat} {q : Option Addr} {d m : Nat} {B : List Int} {lim : Int} {a : Nat} {po : Option Addr} {co : Nat} {o : List Int} {H : List Asn} {x : Asn} (h : St w0 (x :: infL bf br q d m B lim a po co o H) w) : St w0 (infL bf br q d m B lim a po co o (x :: H)) w :=
  h.perm (List.Perm.trans (List.Perm.swap _ _ _) (List.Perm.cons _ (List.Perm.trans (List.Perm.swap _ _ _) (List.Perm.cons _ (List.Perm.trans (List.Perm.swap _ _ _) (List.Perm.cons _ (List.Perm.swap _ _ _)))))))
theorem infL_out {w0 : World} {w : World} {bf br : Nat} {q : Option Addr} {d m : Nat} {B : List Int} {lim : Int} {a : Nat} {po : Option Addr} {co : Nat} {o : List Int} {H : List Asn} {x : Asn} (h : St w0 (infL bf br q d m B lim a po co o (x :: H)) w) : St w0 (infL bf br q d m B lim a po co o H) w := St.sub (by repeat (first | exact List.Sublist.refl _ | apply List.Sublist.cons_cons | apply List.Sublist.cons)) h
/-- what stays the same all along -/
structure InfK (m : Nat) (B : List Int) (lim : Nat) : Prop where
  hm : B.length = m
  hB : OKB B
  hm1 : m ≤ 140737488355328
  hl : lim ≤ 1048576
theorem pw16 (i : Nat) (h : i ≤ 16) : (1 : Int) ≤ 2 ^ i ∧ (2 : Int) ^ i ≤ 65536 := by
  have : ∀ k : Fin 17, (1 : Int) ≤ 2 ^ k.val ∧ (2 : Int) ^ k.val ≤ 65536 := by decide
  exact this ⟨i, by omega⟩
section
variable {w0 : World} {H : List Asn} {bf br : Nat} {q : Option Addr} {d m : Nat} {B : List Int} {lim : Nat} {po : Option Addr} {co : Nat} {o : List Int}
theorem Grp_c (hK : InfK m B lim) (a c : Nat) (hc : c ≤ 16) (ha : a ≤ 8 * m) (w : World) (hw : St w0 (infL bf br q d m B lim a po co o H) w) :
    Calls Try.prog 55 #[.pointer (some ⟨bf, 0, none⟩), .int .i64 c] w fun e w' => (8 * m < a + c ∧ e = .panicked (FLT 20) ∧ St w0 H w') ∨
      (a + c ≤ 8 * m ∧ e = .returned (.int .i64 (nbt (bitB B 0) a c)) ∧ St w0 (infL bf br q d m B lim (a + c) po co o H) w') := by
  obtain ⟨hn0, hn1⟩ := nbt_bd (bitB B 0) (bitB_01 B 0) a c
  have hp := (pw16 c hc).2
  refine enter (vs := [.pointer (some ⟨bf, 0, none⟩), .int .i64 c]) Try.func55 rfl rfl rfl hw ?_
  repeat (first | (apply gJO; first | (apply kS; refine aK ?_) | (apply kX; refine JO_box rfl rfl rfl ?_; intro _) | (apply kA; refine JO_alloc (tb := tb) rfl rfl ?_; intro _) | (apply kBs; refine JO_buildSlice (tb := tb) rfl rfl rfl rfl rfl rfl rfl rfl rfl ?_; intro _) | (apply kM; refine JO_make (tb := tb) rfl rfl rfl rfl rfl rfl (by omega) rfl ?_; intro _) | refine aO ?_) | (apply gJR; first | apply JR_un | apply JR_nil | refine JR_yes rfl rfl ?_ | refine JR_no rfl rfl rfl rfl ?_ | refine JR_noU rfl rfl rfl ?_) | (apply gJS; first | apply JS_seq | apply JS_region | apply JS_skip | apply JS_block | apply JS_inBlock | apply JS_label | refine JS_exit rfl ?_ | refine JS_condT rfl ?_ | refine JS_condF rfl ?_ | refine JS_draw [0] (by kernel_rfl) (by kernel_rfl) (by decide +kernel) ?_ | refine JS_draw [] (by kernel_rfl) (by kernel_rfl) (by decide +kernel) ?_ | refine JS_cond_T rfl (by omega) ?_ | refine JS_cond_F rfl (by omega) ?_) | (apply gQR; first | apply QR_un | apply QR_nil | refine QR_yes rfl rfl ?_ | refine QR_no rfl rfl rfl rfl ?_ | refine QR_noU rfl rfl rfl ?_) | (apply gQO; first | refine aQ ?_ | refine aQK rfl ?_))
  refine JO_call Try.call82 rfl rfl fun w hw => (RGrp_c br q d m B (vec_rd (by repeat (first | apply List.Mem.head | apply List.Mem.tail))) hK.hm hK.hB hK.hm1 a c (by omega) ha w hw).mono ?_
  rintro e w' (⟨h, rfl, hw'⟩ | ⟨h, rfl, hw'⟩)
  · refine ⟨_, rfl, _, hw', ?_⟩
    clear hw' hw w w'
    repeat (first | (apply gJO; first | (apply kS; refine aK ?_) | (apply kX; refine JO_box rfl rfl rfl ?_; intro _) | (apply kA; refine JO_alloc (tb := tb) rfl rfl ?_; intro _) | (apply kBs; refine JO_buildSlice (tb := tb) rfl rfl rfl rfl rfl rfl rfl rfl rfl ?_; intro _) | (apply kM; refine JO_make (tb := tb) rfl rfl rfl rfl rfl rfl (by omega) rfl ?_; intro _) | refine aO ?_) | (apply gJR; first | apply JR_un | apply JR_nil | refine JR_yes rfl rfl ?_ | refine JR_no rfl rfl rfl rfl ?_ | refine JR_noU rfl rfl rfl ?_) | (apply gJS; first | apply JS_seq | apply JS_region | apply JS_skip | apply JS_block | apply JS_inBlock | apply JS_label | refine JS_exit rfl ?_ | refine JS_condT rfl ?_ | refine JS_condF rfl ?_ | refine JS_draw [0] (by kernel_rfl) (by kernel_rfl) (by decide +kernel) ?_ | refine JS_draw [] (by kernel_rfl) (by kernel_rfl) (by decide +kernel) ?_ | refine JS_cond_T rfl (by omega) ?_ | refine JS_cond_F rfl (by omega) ?_) | (apply gQR; first | apply QR_un | apply QR_nil | refine QR_yes rfl rfl ?_ | refine QR_no rfl rfl rfl rfl ?_ | refine QR_noU rfl rfl rfl ?_) | (apply gQO; first | refine aQ ?_ | refine aQK rfl ?_))
    refine JO_callE Try.func55 Try.call56 rfl rfl fun A hA w hw => (Give_c 20 w hw).mono ?_
    rintro e w' (⟨h, rfl, hw'⟩ | ⟨_, rfl, hw'⟩)
    · exact absurd h (by decide)
    · exact .inr ⟨_, rfl, .inl ⟨h, rfl, infL_drop hw'⟩⟩
  · refine ⟨_, rfl, _, hw', ?_⟩
    clear hw' hw w w'
    generalize nbt (bitB B 0) a c = x at *
    repeat (first | (apply gJO; first | (apply kS; refine aK ?_) | (apply kX; refine JO_box rfl rfl rfl ?_; intro _) | (apply kA; refine JO_alloc (tb := tb) rfl rfl ?_; intro _) | (apply kBs; refine JO_buildSlice (tb := tb) rfl rfl rfl rfl rfl rfl rfl rfl rfl ?_; intro _) | (apply kM; refine JO_make (tb := tb) rfl rfl rfl rfl rfl rfl (by omega) rfl ?_; intro _) | refine aO ?_) | (apply gJR; first | apply JR_un | apply JR_nil | refine JR_yes rfl rfl ?_ | refine JR_no rfl rfl rfl rfl ?_ | refine JR_noU rfl rfl rfl ?_) | (apply gJS; first | apply JS_seq | apply JS_region | apply JS_skip | apply JS_block | apply JS_inBlock | apply JS_label | refine JS_exit rfl ?_ | refine JS_condT rfl ?_ | refine JS_condF rfl ?_ | refine JS_draw [0] (by kernel_rfl) (by kernel_rfl) (by decide +kernel) ?_ | refine JS_draw [] (by kernel_rfl) (by kernel_rfl) (by decide +kernel) ?_ | refine JS_cond_T rfl (by omega) ?_ | refine JS_cond_F rfl (by omega) ?_) | (apply gQR; first | apply QR_un | apply QR_nil | refine QR_yes rfl rfl ?_ | refine QR_no rfl rfl rfl rfl ?_ | refine QR_noU rfl rfl rfl ?_) | (apply gQO; first | refine aQ ?_ | refine aQK rfl ?_))
    refine JO_callE Try.func55 Try.call56 rfl rfl fun A hA w hw => (Give_c 0 w hw).mono ?_
    rintro e w' (⟨_, rfl, hw'⟩ | ⟨h, rfl, hw'⟩)
    · refine .inl ⟨_, rfl, _, hw', ?_⟩
      clear hw' hw w w'
      repeat (first | (apply gJO; first | (apply kS; refine aK ?_) | (apply kX; refine JO_box rfl rfl rfl ?_; intro _) | (apply kA; refine JO_alloc (tb := tb) rfl rfl ?_; intro _) | (apply kBs; refine JO_buildSlice (tb := tb) rfl rfl rfl rfl rfl rfl rfl rfl rfl ?_; intro _) | (apply kM; refine JO_make (tb := tb) rfl rfl rfl rfl rfl rfl (by omega) rfl ?_; intro _) | refine aO ?_) | (apply gJR; first | apply JR_un | apply JR_nil | refine JR_yes rfl rfl ?_ | refine JR_no rfl rfl rfl rfl ?_ | refine JR_noU rfl rfl rfl ?_) | (apply gJS; first | apply JS_seq | apply JS_region | apply JS_skip | apply JS_block | apply JS_inBlock | apply JS_label | refine JS_exit rfl ?_ | refine JS_condT rfl ?_ | refine JS_condF rfl ?_ | refine JS_draw [0] (by kernel_rfl) (by kernel_rfl) (by decide +kernel) ?_ | refine JS_draw [] (by kernel_rfl) (by kernel_rfl) (by decide +kernel) ?_ | refine JS_cond_T rfl (by omega) ?_ | refine JS_cond_F rfl (by omega) ?_) | (apply gQR; first | apply QR_un | apply QR_nil | refine QR_yes rfl rfl ?_ | refine QR_no rfl rfl rfl rfl ?_ | refine QR_noU rfl rfl rfl ?_) | (apply gQO; first | refine aQ ?_ | refine aQK rfl ?_))
      refine JS_ret Try.func55 rfl rfl ?_
      intro w hw
      exact .inr ⟨h, rfl, hw⟩
    · exact absurd rfl h
/-- what a symbol's reading does -/
def symP (bt : Nat → Int) (m : Nat) (L : List Int) (a : Nat) (E : Int → Prop) (K : Int → Nat → Prop) : Prop :=
  match symS bt (8 * m) L a with
  | .err r => E r
  | .ok i a1 => 0 ≤ i ∧ i < L.length ∧ a < a1 ∧ a1 ≤ 8 * m ∧ K i a1
theorem Sym_c (hK : InfK m B lim) (a : Nat) (ha : a ≤ 8 * m) (b : Nat) (L : List Int) (hs : IsSet w0 H b L) (w : World) (hw : St w0 (infL bf br q d m B lim a po co o H) w) :
    Calls Try.prog 95 #[.pointer (some ⟨bf, 0, none⟩), .pointer (some ⟨b, 0, none⟩)] w fun e w' =>
      symP (bitB B 0) m L a (fun r => e = .panicked (FLT r) ∧ St w0 H w') (fun i a1 => e = .returned (.int .i64 i) ∧ St w0 (infL bf br q d m B lim a1 po co o H) w') := by
  refine enter (vs := [.pointer (some ⟨bf, 0, none⟩), .pointer (some ⟨b, 0, none⟩)]) Try.func95 rfl rfl rfl hw ?_
  repeat (first | (apply gJO; first | (apply kS; refine aK ?_) | (apply kX; refine JO_box rfl rfl rfl ?_; intro _) | (apply kA; refine JO_alloc (tb := tb) rfl rfl ?_; intro _) | (apply kBs; refine JO_buildSlice (tb := tb) rfl rfl rfl rfl rfl rfl rfl rfl rfl ?_; intro _) | (apply kM; refine JO_make (tb := tb) rfl rfl rfl rfl rfl rfl (by omega) rfl ?_; intro _) | refine aO ?_) | (apply gJR; first | apply JR_un | apply JR_nil | refine JR_yes rfl rfl ?_ | refine JR_no rfl rfl rfl rfl ?_ | refine JR_noU rfl rfl rfl ?_) | (apply gJS; first | apply JS_seq | apply JS_region | apply JS_skip | apply JS_block | apply JS_inBlock | apply JS_label | refine JS_exit rfl ?_ | refine JS_condT rfl ?_ | refine JS_condF rfl ?_ | refine JS_draw [0] (by kernel_rfl) (by kernel_rfl) (by decide +kernel) ?_ | refine JS_draw [] (by kernel_rfl) (by kernel_rfl) (by decide +kernel) ?_ | refine JS_cond_T rfl (by omega) ?_ | refine JS_cond_F rfl (by omega) ?_) | (apply gQR; first | apply QR_un | apply QR_nil | refine QR_yes rfl rfl ?_ | refine QR_no rfl rfl rfl rfl ?_ | refine QR_noU rfl rfl rfl ?_) | (apply gQO; first | refine aQ ?_ | refine aQK rfl ?_))
  refine JO_call Try.call102 rfl rfl fun w hw => (Read2_c b br L B (hs.sub (by repeat (first | exact List.Sublist.refl _ | apply List.Sublist.cons))) q d m (vec_rd (by repeat (first | apply List.Mem.head | apply List.Mem.tail))) hK.hm hK.hB hK.hm1 a ha w hw).mono ?_
  rintro e w' ⟨i, u, r, rfl, hw', hu, hrd⟩
  refine ⟨_, rfl, _, hw', ?_⟩
  clear hw' hw w w'
  rw [← bitB_fun] at hrd
  have hsy := symS_of hs.hB hs.hl (bitB_01 B 0) hrd
  by_cases hr : r = 0
  · subst hr
    rw [if_pos rfl] at hsy
    have hi : 0 ≤ i ∧ i < L.length ∧ 0 < u := by
      rcases hrd with ⟨j, rfl, _, ⟨n, hj, h0, hn, _⟩, hu⟩ | ⟨_, _, h | h | ⟨_, _, h | h⟩⟩
      · rw [hu] at hn; omega
      · omega
      · omega
      · omega
      · omega
    repeat (first | (apply gJO; first | (apply kS; refine aK ?_) | (apply kX; refine JO_box rfl rfl rfl ?_; intro _) | (apply kA; refine JO_alloc (tb := tb) rfl rfl ?_; intro _) | (apply kBs; refine JO_buildSlice (tb := tb) rfl rfl rfl rfl rfl rfl rfl rfl rfl ?_; intro _) | (apply kM; refine JO_make (tb := tb) rfl rfl rfl rfl rfl rfl (by omega) rfl ?_; intro _) | refine aO ?_) | (apply gJR; first | apply JR_un | apply JR_nil | refine JR_yes rfl rfl ?_ | refine JR_no rfl rfl rfl rfl ?_ | refine JR_noU rfl rfl rfl ?_) | (apply gJS; first | apply JS_seq | apply JS_region | apply JS_skip | apply JS_block | apply JS_inBlock | apply JS_label | refine JS_exit rfl ?_ | refine JS_condT rfl ?_ | refine JS_condF rfl ?_ | refine JS_draw [0] (by kernel_rfl) (by kernel_rfl) (by decide +kernel) ?_ | refine JS_draw [] (by kernel_rfl) (by kernel_rfl) (by decide +kernel) ?_ | refine JS_cond_T rfl (by omega) ?_ | refine JS_cond_F rfl (by omega) ?_) | (apply gQR; first | apply QR_un | apply QR_nil | refine QR_yes rfl rfl ?_ | refine QR_no rfl rfl rfl rfl ?_ | refine QR_noU rfl rfl rfl ?_) | (apply gQO; first | refine aQ ?_ | refine aQK rfl ?_))
    refine JO_callE Try.func95 Try.call56 rfl rfl fun A hA w hw => (Give_c 0 w hw).mono ?_
    rintro e w' (⟨_, rfl, hw'⟩ | ⟨h, rfl, hw'⟩)
    · refine .inl ⟨_, rfl, _, hw', ?_⟩
      clear hw' hw w w'
      repeat (first | (apply gJO; first | (apply kS; refine aK ?_) | (apply kX; refine JO_box rfl rfl rfl ?_; intro _) | (apply kA; refine JO_alloc (tb := tb) rfl rfl ?_; intro _) | (apply kBs; refine JO_buildSlice (tb := tb) rfl rfl rfl rfl rfl rfl rfl rfl rfl ?_; intro _) | (apply kM; refine JO_make (tb := tb) rfl rfl rfl rfl rfl rfl (by omega) rfl ?_; intro _) | refine aO ?_) | (apply gJR; first | apply JR_un | apply JR_nil | refine JR_yes rfl rfl ?_ | refine JR_no rfl rfl rfl rfl ?_ | refine JR_noU rfl rfl rfl ?_) | (apply gJS; first | apply JS_seq | apply JS_region | apply JS_skip | apply JS_block | apply JS_inBlock | apply JS_label | refine JS_exit rfl ?_ | refine JS_condT rfl ?_ | refine JS_condF rfl ?_ | refine JS_draw [0] (by kernel_rfl) (by kernel_rfl) (by decide +kernel) ?_ | refine JS_draw [] (by kernel_rfl) (by kernel_rfl) (by decide +kernel) ?_ | refine JS_cond_T rfl (by omega) ?_ | refine JS_cond_F rfl (by omega) ?_) | (apply gQR; first | apply QR_un | apply QR_nil | refine QR_yes rfl rfl ?_ | refine QR_no rfl rfl rfl rfl ?_ | refine QR_noU rfl rfl rfl ?_) | (apply gQO; first | refine aQ ?_ | refine aQK rfl ?_))
      refine JS_ret Try.func95 rfl rfl ?_
      intro w hw
      unfold symP
      rw [hsy]
      exact ⟨hi.1, hi.2.1, by omega, hu, rfl, hw⟩
    · exact absurd rfl h
  · rw [if_neg hr] at hsy
    repeat (first | (apply gJO; first | (apply kS; refine aK ?_) | (apply kX; refine JO_box rfl rfl rfl ?_; intro _) | (apply kA; refine JO_alloc (tb := tb) rfl rfl ?_; intro _) | (apply kBs; refine JO_buildSlice (tb := tb) rfl rfl rfl rfl rfl rfl rfl rfl rfl ?_; intro _) | (apply kM; refine JO_make (tb := tb) rfl rfl rfl rfl rfl rfl (by omega) rfl ?_; intro _) | refine aO ?_) | (apply gJR; first | apply JR_un | apply JR_nil | refine JR_yes rfl rfl ?_ | refine JR_no rfl rfl rfl rfl ?_ | refine JR_noU rfl rfl rfl ?_) | (apply gJS; first | apply JS_seq | apply JS_region | apply JS_skip | apply JS_block | apply JS_inBlock | apply JS_label | refine JS_exit rfl ?_ | refine JS_condT rfl ?_ | refine JS_condF rfl ?_ | refine JS_draw [0] (by kernel_rfl) (by kernel_rfl) (by decide +kernel) ?_ | refine JS_draw [] (by kernel_rfl) (by kernel_rfl) (by decide +kernel) ?_ | refine JS_cond_T rfl (by omega) ?_ | refine JS_cond_F rfl (by omega) ?_) | (apply gQR; first | apply QR_un | apply QR_nil | refine QR_yes rfl rfl ?_ | refine QR_no rfl rfl rfl rfl ?_ | refine QR_noU rfl rfl rfl ?_) | (apply gQO; first | refine aQ ?_ | refine aQK rfl ?_))
    refine JO_callE Try.func95 Try.call56 rfl rfl fun A hA w hw => (Give_c r w hw).mono ?_
    rintro e w' (⟨h, rfl, hw'⟩ | ⟨_, rfl, hw'⟩)
    · exact absurd h hr
    · refine .inr ⟨_, rfl, ?_⟩
      show symP _ _ _ _ _ _
      unfold symP
      rw [hsy]
      exact ⟨rfl, infL_drop hw'⟩
/-- bytes are told -/
theorem Tell_c (hK : InfK m B lim) (a : Nat) (u : Option Addr) (cu n : Nat) (X : List Int) (hr : Rd w0 H (.slice u n cu) n (ints .u8 X)) (hX : X.length = n) (ho : o.length ≤ lim) (hn : n ≤ 140737488355328) (w : World) (hw : St w0 (infL bf br q d m B lim a po co o H) w) :
    Calls Try.prog 77 #[.pointer (some ⟨bf, 0, none⟩), .slice u n cu] w fun e w' => ((lim : Int) - o.length < n ∧ e = .panicked (FLT 64) ∧ St w0 H w') ∨
      (¬ (lim : Int) - o.length < n ∧ e = .returned (.tuple #[]) ∧ ∃ po co, St w0 (infL bf br q d m B lim a po co (o ++ X) H) w') := by
  have hl := hK.hl
  refine enter (vs := [.pointer (some ⟨bf, 0, none⟩), .slice u n cu]) Try.func77 rfl rfl rfl hw ?_
  by_cases h : (lim : Int) - o.length < n
  · repeat (first | (apply gJO; first | (apply kS; refine aK ?_) | (apply kX; refine JO_box rfl rfl rfl ?_; intro _) | (apply kA; refine JO_alloc (tb := tb) rfl rfl ?_; intro _) | (apply kBs; refine JO_buildSlice (tb := tb) rfl rfl rfl rfl rfl rfl rfl rfl rfl ?_; intro _) | (apply kM; refine JO_make (tb := tb) rfl rfl rfl rfl rfl rfl (by omega) rfl ?_; intro _) | refine aO ?_) | (apply gJR; first | apply JR_un | apply JR_nil | refine JR_yes rfl rfl ?_ | refine JR_no rfl rfl rfl rfl ?_ | refine JR_noU rfl rfl rfl ?_) | (apply gJS; first | apply JS_seq | apply JS_region | apply JS_skip | apply JS_block | apply JS_inBlock | apply JS_label | refine JS_exit rfl ?_ | refine JS_condT rfl ?_ | refine JS_condF rfl ?_ | refine JS_draw [0] (by kernel_rfl) (by kernel_rfl) (by decide +kernel) ?_ | refine JS_draw [] (by kernel_rfl) (by kernel_rfl) (by decide +kernel) ?_ | refine JS_cond_T rfl (by omega) ?_ | refine JS_cond_F rfl (by omega) ?_) | (apply gQR; first | apply QR_un | apply QR_nil | refine QR_yes rfl rfl ?_ | refine QR_no rfl rfl rfl rfl ?_ | refine QR_noU rfl rfl rfl ?_) | (apply gQO; first | refine aQ ?_ | refine aQK rfl ?_))
    refine JO_callE Try.func77 Try.call56 rfl rfl fun A hA w hw => (Give_c 64 w hw).mono ?_
    rintro e w' (⟨h, rfl, hw'⟩ | ⟨_, rfl, hw'⟩)
    · exact absurd h (by decide)
    · exact .inr ⟨_, rfl, .inl ⟨h, rfl, infL_drop hw'⟩⟩
  · repeat (first | (apply gJO; first | (apply kS; refine aK ?_) | (apply kX; refine JO_box rfl rfl rfl ?_; intro _) | (apply kA; refine JO_alloc (tb := tb) rfl rfl ?_; intro _) | (apply kBs; refine JO_buildSlice (tb := tb) rfl rfl rfl rfl rfl rfl rfl rfl rfl ?_; intro _) | (apply kM; refine JO_make (tb := tb) rfl rfl rfl rfl rfl rfl (by omega) rfl ?_; intro _) | refine aO ?_) | (apply gJR; first | apply JR_un | apply JR_nil | refine JR_yes rfl rfl ?_ | refine JR_no rfl rfl rfl rfl ?_ | refine JR_noU rfl rfl rfl ?_) | (apply gJS; first | apply JS_seq | apply JS_region | apply JS_skip | apply JS_block | apply JS_inBlock | apply JS_label | refine JS_exit rfl ?_ | refine JS_condT rfl ?_ | refine JS_condF rfl ?_ | refine JS_draw [0] (by kernel_rfl) (by kernel_rfl) (by decide +kernel) ?_ | refine JS_draw [] (by kernel_rfl) (by kernel_rfl) (by decide +kernel) ?_ | refine JS_cond_T rfl (by omega) ?_ | refine JS_cond_F rfl (by omega) ?_) | (apply gQR; first | apply QR_un | apply QR_nil | refine QR_yes rfl rfl ?_ | refine QR_no rfl rfl rfl rfl ?_ | refine QR_noU rfl rfl rfl ?_) | (apply gQO; first | refine aQ ?_ | refine aQK rfl ?_))
    have hr' : Rd w0 (infL bf br q d m B lim a po co o H) (.slice u n cu) n (ints .u8 X) := Rd_weak hr fun w hw => infL_drop hw
    refine JO_app (tb := tb) rfl rfl rfl rfl rfl rfl (by repeat (first | exact Sel.here _ _ | apply Sel.there)) hr' (by rw [ints_len]; omega) (by first | exact ints_one | (repeat (first | exact trivial | refine ⟨rfl, ?_⟩))) (by omega) rfl ?_
    intro p c
    repeat (first | (apply gJO; first | (apply kS; refine aK ?_) | (apply kX; refine JO_box rfl rfl rfl ?_; intro _) | (apply kA; refine JO_alloc (tb := tb) rfl rfl ?_; intro _) | (apply kBs; refine JO_buildSlice (tb := tb) rfl rfl rfl rfl rfl rfl rfl rfl rfl ?_; intro _) | (apply kM; refine JO_make (tb := tb) rfl rfl rfl rfl rfl rfl (by omega) rfl ?_; intro _) | refine aO ?_) | (apply gJR; first | apply JR_un | apply JR_nil | refine JR_yes rfl rfl ?_ | refine JR_no rfl rfl rfl rfl ?_ | refine JR_noU rfl rfl rfl ?_) | (apply gJS; first | apply JS_seq | apply JS_region | apply JS_skip | apply JS_block | apply JS_inBlock | apply JS_label | refine JS_exit rfl ?_ | refine JS_condT rfl ?_ | refine JS_condF rfl ?_ | refine JS_draw [0] (by kernel_rfl) (by kernel_rfl) (by decide +kernel) ?_ | refine JS_draw [] (by kernel_rfl) (by kernel_rfl) (by decide +kernel) ?_ | refine JS_cond_T rfl (by omega) ?_ | refine JS_cond_F rfl (by omega) ?_) | (apply gQR; first | apply QR_un | apply QR_nil | refine QR_yes rfl rfl ?_ | refine QR_no rfl rfl rfl rfl ?_ | refine QR_noU rfl rfl rfl ?_) | (apply gQO; first | refine aQ ?_ | refine aQK rfl ?_))
    refine JS_fin Try.func77 rfl rfl ?_
    intro w hw
    refine .inr ⟨h, rfl, p, c, ?_⟩
    unfold infL
    rw [List.length_append, hX, ← ints_app]
    exact hw
end
end Go.Proofs.Ytakgoflfcgofdaa

namespace Go.Proofs.Ytakgoflfcgofdaa
open Sx Go
set_option linter.unusedVariables false
set_option linter.unusedSimpArgs false
attribute [local irreducible] syA fc tk cds
def resP (r : Res) (E : Int → Prop) (K : Nat → List Int → Prop) : Prop :=
  match r with
  | .err e => E e
  | .ok a o => K a o
theorem xor16 {n : Nat} (h : n < 65536) : n ^^^ 65535 = 65535 - n := by
  have h1 : (BitVec.ofNat 16 n ^^^ BitVec.allOnes 16).toNat = n ^^^ 65535 := by
    rw [BitVec.toNat_xor, BitVec.toNat_ofNat, Nat.mod_eq_of_lt (by omega)]; rfl
  rw [← h1, BitVec.xor_allOnes, BitVec.toNat_not, BitVec.toNat_ofNat, Nat.mod_eq_of_lt (by omega)]
theorem xor16_i64 {a : Int} (h : 0 ≤ a ∧ a < 65536) : IntKind.i64.wrap ((BitVec.ofInt IntKind.i64.bits a ^^^ BitVec.ofInt IntKind.i64.bits 65535).toNat) = 65535 - a := by
  rw [xor_nat .i64 ⟨h.1, Int.lt_trans h.2 (by decide)⟩ ⟨by omega, by decide⟩, show (65535 : Int).toNat = 65535 from rfl, xor16 (by omega)]
  exact (wi64 (by omega)).trans (by omega)
theorem nbt_byte (B : List Int) (hB : OKB B) (j : Nat) : nbt (bitB B 0) (8 * j) 8 = B.getD j 0 := by
  have h := hB j
  simp only [nbt, bitB, Nat.zero_add]
  have e : ∀ t, t < 8 → (8 * j + t) / 8 = j ∧ (8 * j + t) % 8 = t := fun t ht => by omega
  rw [(e 0 (by omega)).1, (e 0 (by omega)).2, (e 1 (by omega)).1, (e 1 (by omega)).2, (e 2 (by omega)).1, (e 2 (by omega)).2, (e 3 (by omega)).1, (e 3 (by omega)).2, (e 4 (by omega)).1, (e 4 (by omega)).2, (e 5 (by omega)).1, (e 5 (by omega)).2, (e 6 (by omega)).1, (e 6 (by omega)).2, (e 7 (by omega)).1, (e 7 (by omega)).2]
  simp only [Int.reducePow]
  omega
theorem byts_eq (B : List Int) (hB : OKB B) (j n : Nat) (h : j + n ≤ B.length) : byts (bitB B 0) (8 * j) n = (B.drop j).take n := by
  apply List.ext_getElem?
  intro k
  simp only [byts, List.getElem?_map, List.getElem?_take, List.getElem?_drop]
  by_cases hk : k < n
  · rw [List.getElem?_range hk, if_pos hk, Option.map_some, show 8 * j + 8 * k = 8 * (j + k) by omega, nbt_byte B hB]
    rw [List.getD_eq_getElem?_getD, List.getElem?_eq_getElem (by omega)]; rfl
  · rw [if_neg hk, List.getElem?_eq_none (by simp; omega)]; rfl
section
variable {w0 : World} {H : List Asn} {bf br : Nat} {q : Option Addr} {d m : Nat} {B : List Int} {lim : Nat} {po : Option Addr} {co : Nat} {o : List Int}
set_option maxHeartbeats 2000000 in
theorem Sto_c (hK : InfK m B lim) (a : Nat) (ha : a ≤ 8 * m) (ho : o.length ≤ lim) (w : World) (hw : St w0 (infL bf br q d m B lim a po co o H) w) :
    Calls Try.prog 52 #[.pointer (some ⟨bf, 0, none⟩)] w fun e w' => resP (stoF (bitB B 0) (8 * m) lim a o) (fun r => e = .panicked (FLT r) ∧ St w0 H w')
      (fun a' o' => a' ≤ 8 * m ∧ o'.length ≤ lim ∧ e = .returned (.tuple #[]) ∧ ∃ po co, St w0 (infL bf br q d m B lim a' po co o' H) w') := by
  have hl := hK.hl
  have hm1 := hK.hm1
  have hu := upto8_le ha
  have hu8 := upto8_8 a
  refine enter (vs := [.pointer (some ⟨bf, 0, none⟩)]) Try.func52 rfl rfl rfl hw ?_
  repeat (first | (apply gJO; first | (apply kS; refine aK ?_) | (apply kX; refine JO_box rfl rfl rfl ?_; intro _) | (apply kA; refine JO_alloc (tb := tb) rfl rfl ?_; intro _) | (apply kBs; refine JO_buildSlice (tb := tb) rfl rfl rfl rfl rfl rfl rfl rfl rfl ?_; intro _) | (apply kM; refine JO_make (tb := tb) rfl rfl rfl rfl rfl rfl (by omega) rfl ?_; intro _) | refine aO ?_) | (apply gJR; first | apply JR_un | apply JR_nil | refine JR_yes rfl rfl ?_ | refine JR_no rfl rfl rfl rfl ?_ | refine JR_noU rfl rfl rfl ?_) | (apply gJS; first | apply JS_seq | apply JS_region | apply JS_skip | apply JS_block | apply JS_inBlock | apply JS_label | refine JS_exit rfl ?_ | refine JS_condT rfl ?_ | refine JS_condF rfl ?_ | refine JS_draw [0] (by kernel_rfl) (by kernel_rfl) (by decide +kernel) ?_ | refine JS_draw [] (by kernel_rfl) (by kernel_rfl) (by decide +kernel) ?_ | refine JS_cond_T rfl (by omega) ?_ | refine JS_cond_F rfl (by omega) ?_) | (apply gQR; first | apply QR_un | apply QR_nil | refine QR_yes rfl rfl ?_ | refine QR_no rfl rfl rfl rfl ?_ | refine QR_noU rfl rfl rfl ?_) | (apply gQO; first | refine aQ ?_ | refine aQK rfl ?_))
  refine JO_call Try.call75 rfl rfl fun w hw => (Align_c br _ a (by omega) w hw).mono ?_
  rintro e w' ⟨rfl, hw'⟩
  refine ⟨_, rfl, _, hw', ?_⟩
  clear hw' hw w w'
  have hS : ∀ r, stoF (bitB B 0) (8 * m) lim a o = r → stoF (bitB B 0) (8 * m) lim a o = r := fun _ h => h
  unfold stoF at hS ⊢
  generalize upto8 a = u at *
  have huu : upto8 (u + 32) = u + 32 := by unfold upto8; omega
  obtain ⟨n, hn⟩ := Int.eq_ofNat_of_zero_le (nbt_bd (bitB B 0) (bitB_01 B 0) u 16).1
  have hn1 := (nbt_bd (bitB B 0) (bitB_01 B 0) u 16).2
  obtain ⟨x, hx⟩ := Int.eq_ofNat_of_zero_le (nbt_bd (bitB B 0) (bitB_01 B 0) (u + 16) 16).1
  have hx1 := (nbt_bd (bitB B 0) (bitB_01 B 0) (u + 16) 16).2
  have hp16 : (2 : Int) ^ 16 = 65536 := by decide
  rw [hn, hp16] at hn1
  rw [hx, hp16] at hx1
  rw [hn, hx]
  repeat (first | (apply gJO; first | (apply kS; refine aK ?_) | (apply kX; refine JO_box rfl rfl rfl ?_; intro _) | (apply kA; refine JO_alloc (tb := tb) rfl rfl ?_; intro _) | (apply kBs; refine JO_buildSlice (tb := tb) rfl rfl rfl rfl rfl rfl rfl rfl rfl ?_; intro _) | (apply kM; refine JO_make (tb := tb) rfl rfl rfl rfl rfl rfl (by omega) rfl ?_; intro _) | refine aO ?_) | (apply gJR; first | apply JR_un | apply JR_nil | refine JR_yes rfl rfl ?_ | refine JR_no rfl rfl rfl rfl ?_ | refine JR_noU rfl rfl rfl ?_) | (apply gJS; first | apply JS_seq | apply JS_region | apply JS_skip | apply JS_block | apply JS_inBlock | apply JS_label | refine JS_exit rfl ?_ | refine JS_condT rfl ?_ | refine JS_condF rfl ?_ | refine JS_draw [0] (by kernel_rfl) (by kernel_rfl) (by decide +kernel) ?_ | refine JS_draw [] (by kernel_rfl) (by kernel_rfl) (by decide +kernel) ?_ | refine JS_cond_T rfl (by omega) ?_ | refine JS_cond_F rfl (by omega) ?_) | (apply gQR; first | apply QR_un | apply QR_nil | refine QR_yes rfl rfl ?_ | refine QR_no rfl rfl rfl rfl ?_ | refine QR_noU rfl rfl rfl ?_) | (apply gQO; first | refine aQ ?_ | refine aQK rfl ?_))
  refine JO_callE Try.func52 Try.call55 rfl rfl fun A hA w hw => (Grp_c hK u 16 (by omega) (by omega) w hw).mono ?_
  rintro e w' (⟨h, rfl, hw'⟩ | ⟨h1, he, hw'⟩)
  · refine .inr ⟨_, rfl, ?_⟩
    show resP _ _ _
    rw [if_pos h]; exact ⟨rfl, hw'⟩
  rw [hn] at he; subst he
  refine .inl ⟨_, rfl, _, hw', ?_⟩
  clear hw' hw w w' hA A
  rw [if_neg (by omega)]
  repeat (first | (apply gJO; first | (apply kS; refine aK ?_) | (apply kX; refine JO_box rfl rfl rfl ?_; intro _) | (apply kA; refine JO_alloc (tb := tb) rfl rfl ?_; intro _) | (apply kBs; refine JO_buildSlice (tb := tb) rfl rfl rfl rfl rfl rfl rfl rfl rfl ?_; intro _) | (apply kM; refine JO_make (tb := tb) rfl rfl rfl rfl rfl rfl (by omega) rfl ?_; intro _) | refine aO ?_) | (apply gJR; first | apply JR_un | apply JR_nil | refine JR_yes rfl rfl ?_ | refine JR_no rfl rfl rfl rfl ?_ | refine JR_noU rfl rfl rfl ?_) | (apply gJS; first | apply JS_seq | apply JS_region | apply JS_skip | apply JS_block | apply JS_inBlock | apply JS_label | refine JS_exit rfl ?_ | refine JS_condT rfl ?_ | refine JS_condF rfl ?_ | refine JS_draw [0] (by kernel_rfl) (by kernel_rfl) (by decide +kernel) ?_ | refine JS_draw [] (by kernel_rfl) (by kernel_rfl) (by decide +kernel) ?_ | refine JS_cond_T rfl (by omega) ?_ | refine JS_cond_F rfl (by omega) ?_) | (apply gQR; first | apply QR_un | apply QR_nil | refine QR_yes rfl rfl ?_ | refine QR_no rfl rfl rfl rfl ?_ | refine QR_noU rfl rfl rfl ?_) | (apply gQO; first | refine aQ ?_ | refine aQK rfl ?_))
  refine JO_callE Try.func52 Try.call55 rfl rfl fun A hA w hw => (Grp_c hK (u + 16) 16 (by omega) (by omega) w hw).mono ?_
  rintro e w' (⟨h, rfl, hw'⟩ | ⟨h2, he, hw'⟩)
  · refine .inr ⟨_, rfl, ?_⟩
    show resP _ _ _
    rw [if_pos (by omega)]; exact ⟨rfl, hw'⟩
  rw [hx] at he; subst he
  refine .inl ⟨_, rfl, _, hw', ?_⟩
  clear hw' hw w w' hA A
  rw [if_neg (by omega)]
  have hxor := xor16_i64 (a := (n : Int)) ⟨by omega, hn1⟩
  by_cases h3 : (n : Int) + x ≠ 65535
  · repeat (first | (apply gJO; refine JO_v (V_xor rfl rfl hxor rfl) ?_) | first | (apply gJO; first | (apply kS; refine aK ?_) | (apply kX; refine JO_box rfl rfl rfl ?_; intro _) | (apply kA; refine JO_alloc (tb := tb) rfl rfl ?_; intro _) | (apply kBs; refine JO_buildSlice (tb := tb) rfl rfl rfl rfl rfl rfl rfl rfl rfl ?_; intro _) | (apply kM; refine JO_make (tb := tb) rfl rfl rfl rfl rfl rfl (by omega) rfl ?_; intro _) | refine aO ?_) | (apply gJR; first | apply JR_un | apply JR_nil | refine JR_yes rfl rfl ?_ | refine JR_no rfl rfl rfl rfl ?_ | refine JR_noU rfl rfl rfl ?_) | (apply gJS; first | apply JS_seq | apply JS_region | apply JS_skip | apply JS_block | apply JS_inBlock | apply JS_label | refine JS_exit rfl ?_ | refine JS_condT rfl ?_ | refine JS_condF rfl ?_ | refine JS_draw [0] (by kernel_rfl) (by kernel_rfl) (by decide +kernel) ?_ | refine JS_draw [] (by kernel_rfl) (by kernel_rfl) (by decide +kernel) ?_ | refine JS_cond_T rfl (by omega) ?_ | refine JS_cond_F rfl (by omega) ?_) | (apply gQR; first | apply QR_un | apply QR_nil | refine QR_yes rfl rfl ?_ | refine QR_no rfl rfl rfl rfl ?_ | refine QR_noU rfl rfl rfl ?_) | (apply gQO; first | refine aQ ?_ | refine aQK rfl ?_))
    refine JO_callE Try.func52 Try.call56 rfl rfl fun A hA w hw => (Give_c 61 w hw).mono ?_
    rintro e w' (⟨h, rfl, hw'⟩ | ⟨_, rfl, hw'⟩)
    · exact absurd h (by decide)
    · refine .inr ⟨_, rfl, ?_⟩
      show resP _ _ _
      rw [if_pos h3]; exact ⟨rfl, infL_drop hw'⟩
  rw [if_neg h3]
  have h3' : (n : Int) + x = 65535 := by omega
  by_cases h4 : (lim : Int) - o.length < n
  · repeat (first | (apply gJO; refine JO_v (V_xor rfl rfl hxor rfl) ?_) | first | (apply gJO; first | (apply kS; refine aK ?_) | (apply kX; refine JO_box rfl rfl rfl ?_; intro _) | (apply kA; refine JO_alloc (tb := tb) rfl rfl ?_; intro _) | (apply kBs; refine JO_buildSlice (tb := tb) rfl rfl rfl rfl rfl rfl rfl rfl rfl ?_; intro _) | (apply kM; refine JO_make (tb := tb) rfl rfl rfl rfl rfl rfl (by omega) rfl ?_; intro _) | refine aO ?_) | (apply gJR; first | apply JR_un | apply JR_nil | refine JR_yes rfl rfl ?_ | refine JR_no rfl rfl rfl rfl ?_ | refine JR_noU rfl rfl rfl ?_) | (apply gJS; first | apply JS_seq | apply JS_region | apply JS_skip | apply JS_block | apply JS_inBlock | apply JS_label | refine JS_exit rfl ?_ | refine JS_condT rfl ?_ | refine JS_condF rfl ?_ | refine JS_draw [0] (by kernel_rfl) (by kernel_rfl) (by decide +kernel) ?_ | refine JS_draw [] (by kernel_rfl) (by kernel_rfl) (by decide +kernel) ?_ | refine JS_cond_T rfl (by omega) ?_ | refine JS_cond_F rfl (by omega) ?_) | (apply gQR; first | apply QR_un | apply QR_nil | refine QR_yes rfl rfl ?_ | refine QR_no rfl rfl rfl rfl ?_ | refine QR_noU rfl rfl rfl ?_) | (apply gQO; first | refine aQ ?_ | refine aQK rfl ?_))
    refine JO_callE Try.func52 Try.call56 rfl rfl fun A hA w hw => (Give_c 64 w hw).mono ?_
    rintro e w' (⟨h, rfl, hw'⟩ | ⟨_, rfl, hw'⟩)
    · exact absurd h (by decide)
    · refine .inr ⟨_, rfl, ?_⟩
      show resP _ _ _
      rw [if_pos h4]; exact ⟨rfl, infL_drop hw'⟩
  rw [if_neg h4]
  repeat (first | (apply gJO; refine JO_v (V_xor rfl rfl hxor rfl) ?_) | first | (apply gJO; first | (apply kS; refine aK ?_) | (apply kX; refine JO_box rfl rfl rfl ?_; intro _) | (apply kA; refine JO_alloc (tb := tb) rfl rfl ?_; intro _) | (apply kBs; refine JO_buildSlice (tb := tb) rfl rfl rfl rfl rfl rfl rfl rfl rfl ?_; intro _) | (apply kM; refine JO_make (tb := tb) rfl rfl rfl rfl rfl rfl (by omega) rfl ?_; intro _) | refine aO ?_) | (apply gJR; first | apply JR_un | apply JR_nil | refine JR_yes rfl rfl ?_ | refine JR_no rfl rfl rfl rfl ?_ | refine JR_noU rfl rfl rfl ?_) | (apply gJS; first | apply JS_seq | apply JS_region | apply JS_skip | apply JS_block | apply JS_inBlock | apply JS_label | refine JS_exit rfl ?_ | refine JS_condT rfl ?_ | refine JS_condF rfl ?_ | refine JS_draw [0] (by kernel_rfl) (by kernel_rfl) (by decide +kernel) ?_ | refine JS_draw [] (by kernel_rfl) (by kernel_rfl) (by decide +kernel) ?_ | refine JS_cond_T rfl (by omega) ?_ | refine JS_cond_F rfl (by omega) ?_) | (apply gQR; first | apply QR_un | apply QR_nil | refine QR_yes rfl rfl ?_ | refine QR_no rfl rfl rfl rfl ?_ | refine QR_noU rfl rfl rfl ?_) | (apply gQO; first | refine aQ ?_ | refine aQK rfl ?_))
  refine JO_call Try.call76 rfl rfl fun w hw => (Text_c br q d m B (vec_rd (by repeat (first | apply List.Mem.head | apply List.Mem.tail))) hK.hm hK.hB hK.hm1 (u + 16 + 16) n (by omega) (by omega) w hw).mono ?_
  rw [show u + 16 + 16 = u + 32 by omega, huu]
  rintro e w' (⟨h5, rfl, hw'⟩ | ⟨h5, p, c, rfl, hw'⟩)
  · refine ⟨_, rfl, _, hw', ?_⟩
    clear hw' hw w w'
    repeat (first | (apply gJO; first | (apply kS; refine aK ?_) | (apply kX; refine JO_box rfl rfl rfl ?_; intro _) | (apply kA; refine JO_alloc (tb := tb) rfl rfl ?_; intro _) | (apply kBs; refine JO_buildSlice (tb := tb) rfl rfl rfl rfl rfl rfl rfl rfl rfl ?_; intro _) | (apply kM; refine JO_make (tb := tb) rfl rfl rfl rfl rfl rfl (by omega) rfl ?_; intro _) | refine aO ?_) | (apply gJR; first | apply JR_un | apply JR_nil | refine JR_yes rfl rfl ?_ | refine JR_no rfl rfl rfl rfl ?_ | refine JR_noU rfl rfl rfl ?_) | (apply gJS; first | apply JS_seq | apply JS_region | apply JS_skip | apply JS_block | apply JS_inBlock | apply JS_label | refine JS_exit rfl ?_ | refine JS_condT rfl ?_ | refine JS_condF rfl ?_ | refine JS_draw [0] (by kernel_rfl) (by kernel_rfl) (by decide +kernel) ?_ | refine JS_draw [] (by kernel_rfl) (by kernel_rfl) (by decide +kernel) ?_ | refine JS_cond_T rfl (by omega) ?_ | refine JS_cond_F rfl (by omega) ?_) | (apply gQR; first | apply QR_un | apply QR_nil | refine QR_yes rfl rfl ?_ | refine QR_no rfl rfl rfl rfl ?_ | refine QR_noU rfl rfl rfl ?_) | (apply gQO; first | refine aQ ?_ | refine aQK rfl ?_))
    refine JO_callE Try.func52 Try.call56 rfl rfl fun A hA w hw => (Give_c 20 w hw).mono ?_
    rintro e w' (⟨h, rfl, hw'⟩ | ⟨_, rfl, hw'⟩)
    · exact absurd h (by decide)
    · refine .inr ⟨_, rfl, ?_⟩
      show resP _ _ _
      rw [if_pos (by omega)]; exact ⟨rfl, infL_drop hw'⟩
  refine ⟨_, rfl, _, hw', ?_⟩
  clear hw' hw w w'
  have hby := byts_eq B hK.hB ((u + 32) / 8) n (by rw [hK.hm]; omega)
  rw [show 8 * ((u + 32) / 8) = u + 32 by omega] at hby
  rw [← hby]
  rw [if_neg (by omega), Int.toNat_natCast]
  repeat (first | (apply gJO; first | (apply kS; refine aK ?_) | (apply kX; refine JO_box rfl rfl rfl ?_; intro _) | (apply kA; refine JO_alloc (tb := tb) rfl rfl ?_; intro _) | (apply kBs; refine JO_buildSlice (tb := tb) rfl rfl rfl rfl rfl rfl rfl rfl rfl ?_; intro _) | (apply kM; refine JO_make (tb := tb) rfl rfl rfl rfl rfl rfl (by omega) rfl ?_; intro _) | refine aO ?_) | (apply gJR; first | apply JR_un | apply JR_nil | refine JR_yes rfl rfl ?_ | refine JR_no rfl rfl rfl rfl ?_ | refine JR_noU rfl rfl rfl ?_) | (apply gJS; first | apply JS_seq | apply JS_region | apply JS_skip | apply JS_block | apply JS_inBlock | apply JS_label | refine JS_exit rfl ?_ | refine JS_condT rfl ?_ | refine JS_condF rfl ?_ | refine JS_draw [0] (by kernel_rfl) (by kernel_rfl) (by decide +kernel) ?_ | refine JS_draw [] (by kernel_rfl) (by kernel_rfl) (by decide +kernel) ?_ | refine JS_cond_T rfl (by omega) ?_ | refine JS_cond_F rfl (by omega) ?_) | (apply gQR; first | apply QR_un | apply QR_nil | refine QR_yes rfl rfl ?_ | refine QR_no rfl rfl rfl rfl ?_ | refine QR_noU rfl rfl rfl ?_) | (apply gQO; first | refine aQ ?_ | refine aQK rfl ?_))
  refine JO_callE Try.func52 Try.call56 rfl rfl fun A hA w hw => (Give_c 0 w hw).mono ?_
  rintro e w' (⟨_, rfl, hw'⟩ | ⟨h, rfl, hw'⟩)
  rotate_left
  · exact absurd rfl h
  refine .inl ⟨_, rfl, _, hw', ?_⟩
  clear hw' hw w w' hA A
  repeat (first | (apply gJO; first | (apply kS; refine aK ?_) | (apply kX; refine JO_box rfl rfl rfl ?_; intro _) | (apply kA; refine JO_alloc (tb := tb) rfl rfl ?_; intro _) | (apply kBs; refine JO_buildSlice (tb := tb) rfl rfl rfl rfl rfl rfl rfl rfl rfl ?_; intro _) | (apply kM; refine JO_make (tb := tb) rfl rfl rfl rfl rfl rfl (by omega) rfl ?_; intro _) | refine aO ?_) | (apply gJR; first | apply JR_un | apply JR_nil | refine JR_yes rfl rfl ?_ | refine JR_no rfl rfl rfl rfl ?_ | refine JR_noU rfl rfl rfl ?_) | (apply gJS; first | apply JS_seq | apply JS_region | apply JS_skip | apply JS_block | apply JS_inBlock | apply JS_label | refine JS_exit rfl ?_ | refine JS_condT rfl ?_ | refine JS_condF rfl ?_ | refine JS_draw [0] (by kernel_rfl) (by kernel_rfl) (by decide +kernel) ?_ | refine JS_draw [] (by kernel_rfl) (by kernel_rfl) (by decide +kernel) ?_ | refine JS_cond_T rfl (by omega) ?_ | refine JS_cond_F rfl (by omega) ?_) | (apply gQR; first | apply QR_un | apply QR_nil | refine QR_yes rfl rfl ?_ | refine QR_no rfl rfl rfl rfl ?_ | refine QR_noU rfl rfl rfl ?_) | (apply gQO; first | refine aQ ?_ | refine aQK rfl ?_))
  refine JO_callE Try.func52 Try.call77 rfl rfl fun A hA w hw => (Tell_c hK (u + 32 + 8 * n) p c n _ (vec_rd (List.Mem.head _)) (byts_len _ _ _) ho (by omega) w (infL_in hw)).mono ?_
  rintro e w' (⟨h, rfl, hw'⟩ | ⟨_, rfl, p', c', hw'⟩)
  · exact absurd h h4
  refine .inl ⟨_, rfl, _, hw', ?_⟩
  clear hw' hw w w' hA A
  repeat (first | (apply gJO; first | (apply kS; refine aK ?_) | (apply kX; refine JO_box rfl rfl rfl ?_; intro _) | (apply kA; refine JO_alloc (tb := tb) rfl rfl ?_; intro _) | (apply kBs; refine JO_buildSlice (tb := tb) rfl rfl rfl rfl rfl rfl rfl rfl rfl ?_; intro _) | (apply kM; refine JO_make (tb := tb) rfl rfl rfl rfl rfl rfl (by omega) rfl ?_; intro _) | refine aO ?_) | (apply gJR; first | apply JR_un | apply JR_nil | refine JR_yes rfl rfl ?_ | refine JR_no rfl rfl rfl rfl ?_ | refine JR_noU rfl rfl rfl ?_) | (apply gJS; first | apply JS_seq | apply JS_region | apply JS_skip | apply JS_block | apply JS_inBlock | apply JS_label | refine JS_exit rfl ?_ | refine JS_condT rfl ?_ | refine JS_condF rfl ?_ | refine JS_draw [0] (by kernel_rfl) (by kernel_rfl) (by decide +kernel) ?_ | refine JS_draw [] (by kernel_rfl) (by kernel_rfl) (by decide +kernel) ?_ | refine JS_cond_T rfl (by omega) ?_ | refine JS_cond_F rfl (by omega) ?_) | (apply gQR; first | apply QR_un | apply QR_nil | refine QR_yes rfl rfl ?_ | refine QR_no rfl rfl rfl rfl ?_ | refine QR_noU rfl rfl rfl ?_) | (apply gQO; first | refine aQ ?_ | refine aQK rfl ?_))
  refine JS_fin Try.func52 rfl rfl ?_
  intro w hw
  refine ⟨h5, ?_, rfl, p', c', infL_out hw⟩
  rw [List.length_append, byts_len]; omega
theorem MakeS_c (p : Option Addr) (c m : Nat) (B : List Int) (hr : Rd w0 H (.slice p m c) m (ints .u8 B)) (hm : B.length = m) (hB : OKB B) (hm1 : m ≤ 140737488355328) (hpm : p = none → m = 0) (w : World) (hw : St w0 H w) :
    Calls Try.prog 64 #[.slice p m c] w fun e w' => ∃ u r, e = .returned (.tuple #[u, .int .i64 r]) ∧
      ((BADL B r ∧ u = .pointer none ∧ St w0 H w') ∨ (OKL B ∧ r = 0 ∧ ∃ b a1 a2 a3, u = .pointer (some ⟨b, 0, none⟩) ∧ IsSet w0 [a1, a2, a3] b B ∧ St w0 (a1 :: a2 :: a3 :: H) w')) := by
  refine (Make_c p c m B hr hm hB hm1 hpm w hw).mono ?_
  rintro e w' ⟨u, r, rfl, h⟩
  refine ⟨u, r, rfl, ?_⟩
  subst hm
  rcases h with ⟨h1, rfl, rfl, h2⟩ | ⟨h1, h15, h2, rfl, rfl, h3⟩ | ⟨h1, h15, h2, rfl, b, q, d, s, k, rfl, h3⟩
  · exact .inl ⟨.inl ⟨h1, rfl⟩, rfl, h2⟩
  · exact .inl ⟨.inr ⟨h1, h15, fun h => h2 ((fine_iff B hB h15).2 h), rfl⟩, rfl, h3⟩
  · refine .inr ⟨⟨h1, h15, (fine_iff B hB h15).1 h2⟩, rfl, b, _, _, _, rfl, ⟨⟨q, d, s, k, (by repeat (first | apply List.Mem.head | apply List.Mem.tail)), vec_rd (by repeat (first | apply List.Mem.head | apply List.Mem.tail)), vec_rd (by repeat (first | apply List.Mem.head | apply List.Mem.tail))⟩, hB, ⟨h1, h15, (fine_iff B hB h15).1 h2⟩⟩, h3⟩
/-- a set is made -/
theorem Made_c (p : Option Addr) (c n : Nat) (L : List Int) (hr : Rd w0 H (.slice p n c) n (ints .u8 L)) (hL : L.length = n) (hB : OKB L) (hn : n ≤ 140737488355328) (w : World) (hw : St w0 H w) :
    Calls Try.prog 79 #[.slice p n c] w fun e w' => (¬ OKL L ∧ e = .panicked (FLT 62) ∧ St w0 H w') ∨ (OKL L ∧ ∃ b a1 a2 a3, e = .returned (.pointer (some ⟨b, 0, none⟩)) ∧ IsSet w0 [a1, a2, a3] b L ∧ St w0 (a1 :: a2 :: a3 :: H) w') := by
  refine enter (vs := [.slice p n c]) Try.func79 rfl rfl rfl hw ?_
  repeat (first | (apply gJO; first | (apply kS; refine aK ?_) | (apply kX; refine JO_box rfl rfl rfl ?_; intro _) | (apply kA; refine JO_alloc (tb := tb) rfl rfl ?_; intro _) | (apply kBs; refine JO_buildSlice (tb := tb) rfl rfl rfl rfl rfl rfl rfl rfl rfl ?_; intro _) | (apply kM; refine JO_make (tb := tb) rfl rfl rfl rfl rfl rfl (by omega) rfl ?_; intro _) | refine aO ?_) | (apply gJR; first | apply JR_un | apply JR_nil | refine JR_yes rfl rfl ?_ | refine JR_no rfl rfl rfl rfl ?_ | refine JR_noU rfl rfl rfl ?_) | (apply gJS; first | apply JS_seq | apply JS_region | apply JS_skip | apply JS_block | apply JS_inBlock | apply JS_label | refine JS_exit rfl ?_ | refine JS_condT rfl ?_ | refine JS_condF rfl ?_ | refine JS_draw [0] (by kernel_rfl) (by kernel_rfl) (by decide +kernel) ?_ | refine JS_draw [] (by kernel_rfl) (by kernel_rfl) (by decide +kernel) ?_ | refine JS_cond_T rfl (by omega) ?_ | refine JS_cond_F rfl (by omega) ?_) | (apply gQR; first | apply QR_un | apply QR_nil | refine QR_yes rfl rfl ?_ | refine QR_no rfl rfl rfl rfl ?_ | refine QR_noU rfl rfl rfl ?_) | (apply gQO; first | refine aQ ?_ | refine aQK rfl ?_))
  refine JO_call Try.call64 rfl rfl fun w hw => (MakeS_c p c n L hr hL hB hn (hr.nil hw) w hw).mono ?_
  rintro e w' ⟨u, r, rfl, h⟩
  rcases h with ⟨hbad, rfl, hw'⟩ | ⟨hok, rfl, b, a1, a2, a3, rfl, hs, hw'⟩
  · refine ⟨_, rfl, _, hw', ?_⟩
    clear hw' hw w w'
    have hr0 := hbad.pos
    repeat (first | (apply gJO; first | (apply kS; refine aK ?_) | (apply kX; refine JO_box rfl rfl rfl ?_; intro _) | (apply kA; refine JO_alloc (tb := tb) rfl rfl ?_; intro _) | (apply kBs; refine JO_buildSlice (tb := tb) rfl rfl rfl rfl rfl rfl rfl rfl rfl ?_; intro _) | (apply kM; refine JO_make (tb := tb) rfl rfl rfl rfl rfl rfl (by omega) rfl ?_; intro _) | refine aO ?_) | (apply gJR; first | apply JR_un | apply JR_nil | refine JR_yes rfl rfl ?_ | refine JR_no rfl rfl rfl rfl ?_ | refine JR_noU rfl rfl rfl ?_) | (apply gJS; first | apply JS_seq | apply JS_region | apply JS_skip | apply JS_block | apply JS_inBlock | apply JS_label | refine JS_exit rfl ?_ | refine JS_condT rfl ?_ | refine JS_condF rfl ?_ | refine JS_draw [0] (by kernel_rfl) (by kernel_rfl) (by decide +kernel) ?_ | refine JS_draw [] (by kernel_rfl) (by kernel_rfl) (by decide +kernel) ?_ | refine JS_cond_T rfl (by omega) ?_ | refine JS_cond_F rfl (by omega) ?_) | (apply gQR; first | apply QR_un | apply QR_nil | refine QR_yes rfl rfl ?_ | refine QR_no rfl rfl rfl rfl ?_ | refine QR_noU rfl rfl rfl ?_) | (apply gQO; first | refine aQ ?_ | refine aQK rfl ?_))
    refine JO_callE Try.func79 Try.call56 rfl rfl fun A hA w hw => (Give_c 62 w hw).mono ?_
    rintro e w' (⟨h, rfl, hw'⟩ | ⟨_, rfl, hw'⟩)
    · exact absurd h (by decide)
    · exact .inr ⟨_, rfl, .inl ⟨hbad.not, rfl, hw'⟩⟩
  · refine ⟨_, rfl, _, hw', ?_⟩
    clear hw' hw w w'
    repeat (first | (apply gJO; first | (apply kS; refine aK ?_) | (apply kX; refine JO_box rfl rfl rfl ?_; intro _) | (apply kA; refine JO_alloc (tb := tb) rfl rfl ?_; intro _) | (apply kBs; refine JO_buildSlice (tb := tb) rfl rfl rfl rfl rfl rfl rfl rfl rfl ?_; intro _) | (apply kM; refine JO_make (tb := tb) rfl rfl rfl rfl rfl rfl (by omega) rfl ?_; intro _) | refine aO ?_) | (apply gJR; first | apply JR_un | apply JR_nil | refine JR_yes rfl rfl ?_ | refine JR_no rfl rfl rfl rfl ?_ | refine JR_noU rfl rfl rfl ?_) | (apply gJS; first | apply JS_seq | apply JS_region | apply JS_skip | apply JS_block | apply JS_inBlock | apply JS_label | refine JS_exit rfl ?_ | refine JS_condT rfl ?_ | refine JS_condF rfl ?_ | refine JS_draw [0] (by kernel_rfl) (by kernel_rfl) (by decide +kernel) ?_ | refine JS_draw [] (by kernel_rfl) (by kernel_rfl) (by decide +kernel) ?_ | refine JS_cond_T rfl (by omega) ?_ | refine JS_cond_F rfl (by omega) ?_) | (apply gQR; first | apply QR_un | apply QR_nil | refine QR_yes rfl rfl ?_ | refine QR_no rfl rfl rfl rfl ?_ | refine QR_noU rfl rfl rfl ?_) | (apply gQO; first | refine aQ ?_ | refine aQK rfl ?_))
    refine JS_ret Try.func79 rfl rfl ?_
    intro w hw
    exact .inr ⟨hok, b, a1, a2, a3, rfl, hs, hw⟩
set_option maxRecDepth 10000 in
set_option maxHeartbeats 4000000 in
/-- bytes from so far back, again -/
theorem Again_c (hK : InfK m B lim) (a len bk : Nat) (hbk : 0 < bk) (ho : o.length ≤ lim) (hlen : len ≤ 1000) (hbk2 : bk ≤ 100000) (w : World) (hw : St w0 (infL bf br q d m B lim a po co o H) w) :
    Calls Try.prog 96 #[.pointer (some ⟨bf, 0, none⟩), .int .i64 len, .int .i64 bk] w fun e w' => (o.length < bk ∧ e = .panicked (FLT 63) ∧ St w0 H w') ∨ (bk ≤ o.length ∧ (lim : Int) - o.length < len ∧ e = .panicked (FLT 64) ∧ St w0 H w') ∨
      (bk ≤ o.length ∧ ¬ (lim : Int) - o.length < len ∧ e = .returned (.tuple #[]) ∧ ∃ po co, St w0 (infL bf br q d m B lim a po co (cpy o bk len) H) w') := by
  have hl := hK.hl
  refine enter (vs := [.pointer (some ⟨bf, 0, none⟩), .int .i64 len, .int .i64 bk]) Try.func96 rfl rfl rfl hw ?_
  by_cases h1 : o.length < bk
  · repeat (first | (apply gJO; first | (apply kS; refine aK ?_) | (apply kX; refine JO_box rfl rfl rfl ?_; intro _) | (apply kA; refine JO_alloc (tb := tb) rfl rfl ?_; intro _) | (apply kBs; refine JO_buildSlice (tb := tb) rfl rfl rfl rfl rfl rfl rfl rfl rfl ?_; intro _) | (apply kM; refine JO_make (tb := tb) rfl rfl rfl rfl rfl rfl (by omega) rfl ?_; intro _) | refine aO ?_) | (apply gJR; first | apply JR_un | apply JR_nil | refine JR_yes rfl rfl ?_ | refine JR_no rfl rfl rfl rfl ?_ | refine JR_noU rfl rfl rfl ?_) | (apply gJS; first | apply JS_seq | apply JS_region | apply JS_skip | apply JS_block | apply JS_inBlock | apply JS_label | refine JS_exit rfl ?_ | refine JS_condT rfl ?_ | refine JS_condF rfl ?_ | refine JS_draw [0] (by kernel_rfl) (by kernel_rfl) (by decide +kernel) ?_ | refine JS_draw [] (by kernel_rfl) (by kernel_rfl) (by decide +kernel) ?_ | refine JS_cond_T rfl (by omega) ?_ | refine JS_cond_F rfl (by omega) ?_) | (apply gQR; first | apply QR_un | apply QR_nil | refine QR_yes rfl rfl ?_ | refine QR_no rfl rfl rfl rfl ?_ | refine QR_noU rfl rfl rfl ?_) | (apply gQO; first | refine aQ ?_ | refine aQK rfl ?_))
    refine JO_callE Try.func96 Try.call56 rfl rfl fun A hA w hw => (Give_c 63 w hw).mono ?_
    rintro e w' (⟨h, rfl, hw'⟩ | ⟨_, rfl, hw'⟩)
    · exact absurd h (by decide)
    · exact .inr ⟨_, rfl, .inl ⟨h1, rfl, infL_drop hw'⟩⟩
  by_cases h2 : (lim : Int) - o.length < len
  · repeat (first | (apply gJO; first | (apply kS; refine aK ?_) | (apply kX; refine JO_box rfl rfl rfl ?_; intro _) | (apply kA; refine JO_alloc (tb := tb) rfl rfl ?_; intro _) | (apply kBs; refine JO_buildSlice (tb := tb) rfl rfl rfl rfl rfl rfl rfl rfl rfl ?_; intro _) | (apply kM; refine JO_make (tb := tb) rfl rfl rfl rfl rfl rfl (by omega) rfl ?_; intro _) | refine aO ?_) | (apply gJR; first | apply JR_un | apply JR_nil | refine JR_yes rfl rfl ?_ | refine JR_no rfl rfl rfl rfl ?_ | refine JR_noU rfl rfl rfl ?_) | (apply gJS; first | apply JS_seq | apply JS_region | apply JS_skip | apply JS_block | apply JS_inBlock | apply JS_label | refine JS_exit rfl ?_ | refine JS_condT rfl ?_ | refine JS_condF rfl ?_ | refine JS_draw [0] (by kernel_rfl) (by kernel_rfl) (by decide +kernel) ?_ | refine JS_draw [] (by kernel_rfl) (by kernel_rfl) (by decide +kernel) ?_ | refine JS_cond_T rfl (by omega) ?_ | refine JS_cond_F rfl (by omega) ?_) | (apply gQR; first | apply QR_un | apply QR_nil | refine QR_yes rfl rfl ?_ | refine QR_no rfl rfl rfl rfl ?_ | refine QR_noU rfl rfl rfl ?_) | (apply gQO; first | refine aQ ?_ | refine aQK rfl ?_))
    refine JO_callE Try.func96 Try.call56 rfl rfl fun A hA w hw => (Give_c 64 w hw).mono ?_
    rintro e w' (⟨h, rfl, hw'⟩ | ⟨_, rfl, hw'⟩)
    · exact absurd h (by decide)
    · exact .inr ⟨_, rfl, .inr (.inl ⟨by omega, h2, rfl, infL_drop hw'⟩)⟩
  repeat (first | (apply gJR; first | (apply gJO; first | (apply kS; refine aK ?_) | (apply kX; refine JO_box rfl rfl rfl ?_; intro _) | (apply kA; refine JO_alloc (tb := tb) rfl rfl ?_; intro _) | (apply kBs; refine JO_buildSlice (tb := tb) rfl rfl rfl rfl rfl rfl rfl rfl rfl ?_; intro _) | (apply kM; refine JO_make (tb := tb) rfl rfl rfl rfl rfl rfl (by omega) rfl ?_; intro _) | refine aO ?_) | (apply gJR; first | apply JR_un | apply JR_nil | refine JR_yes rfl rfl ?_ | refine JR_no rfl rfl rfl rfl ?_ | refine JR_noU rfl rfl rfl ?_) | (apply gJS; first | apply JS_seq | apply JS_region | apply JS_skip | apply JS_block | apply JS_inBlock | apply JS_label | refine JS_exit rfl ?_ | refine JS_condT rfl ?_ | refine JS_condF rfl ?_ | refine JS_draw [0] (by kernel_rfl) (by kernel_rfl) (by decide +kernel) ?_ | refine JS_draw [] (by kernel_rfl) (by kernel_rfl) (by decide +kernel) ?_ | refine JS_cond_T rfl (by omega) ?_ | refine JS_cond_F rfl (by omega) ?_) | (apply gQR; first | apply QR_un | apply QR_nil | refine QR_yes rfl rfl ?_ | refine QR_no rfl rfl rfl rfl ?_ | refine QR_noU rfl rfl rfl ?_) | (apply gQO; first | refine aQ ?_ | refine aQK rfl ?_)) | (apply gJO; first | (apply gJO; first | (apply kS; refine aK ?_) | (apply kX; refine JO_box rfl rfl rfl ?_; intro _) | (apply kA; refine JO_alloc (tb := tb) rfl rfl ?_; intro _) | (apply kBs; refine JO_buildSlice (tb := tb) rfl rfl rfl rfl rfl rfl rfl rfl rfl ?_; intro _) | (apply kM; refine JO_make (tb := tb) rfl rfl rfl rfl rfl rfl (by omega) rfl ?_; intro _) | refine aO ?_) | (apply gJR; first | apply JR_un | apply JR_nil | refine JR_yes rfl rfl ?_ | refine JR_no rfl rfl rfl rfl ?_ | refine JR_noU rfl rfl rfl ?_) | (apply gJS; first | apply JS_seq | apply JS_region | apply JS_skip | apply JS_block | apply JS_inBlock | apply JS_label | refine JS_exit rfl ?_ | refine JS_condT rfl ?_ | refine JS_condF rfl ?_ | refine JS_draw [0] (by kernel_rfl) (by kernel_rfl) (by decide +kernel) ?_ | refine JS_draw [] (by kernel_rfl) (by kernel_rfl) (by decide +kernel) ?_ | refine JS_cond_T rfl (by omega) ?_ | refine JS_cond_F rfl (by omega) ?_) | (apply gQR; first | apply QR_un | apply QR_nil | refine QR_yes rfl rfl ?_ | refine QR_no rfl rfl rfl rfl ?_ | refine QR_noU rfl rfl rfl ?_) | (apply gQO; first | refine aQ ?_ | refine aQK rfl ?_)) | (apply gQR; first | (apply gJO; first | (apply kS; refine aK ?_) | (apply kX; refine JO_box rfl rfl rfl ?_; intro _) | (apply kA; refine JO_alloc (tb := tb) rfl rfl ?_; intro _) | (apply kBs; refine JO_buildSlice (tb := tb) rfl rfl rfl rfl rfl rfl rfl rfl rfl ?_; intro _) | (apply kM; refine JO_make (tb := tb) rfl rfl rfl rfl rfl rfl (by omega) rfl ?_; intro _) | refine aO ?_) | (apply gJR; first | apply JR_un | apply JR_nil | refine JR_yes rfl rfl ?_ | refine JR_no rfl rfl rfl rfl ?_ | refine JR_noU rfl rfl rfl ?_) | (apply gJS; first | apply JS_seq | apply JS_region | apply JS_skip | apply JS_block | apply JS_inBlock | apply JS_label | refine JS_exit rfl ?_ | refine JS_condT rfl ?_ | refine JS_condF rfl ?_ | refine JS_draw [0] (by kernel_rfl) (by kernel_rfl) (by decide +kernel) ?_ | refine JS_draw [] (by kernel_rfl) (by kernel_rfl) (by decide +kernel) ?_ | refine JS_cond_T rfl (by omega) ?_ | refine JS_cond_F rfl (by omega) ?_) | (apply gQR; first | apply QR_un | apply QR_nil | refine QR_yes rfl rfl ?_ | refine QR_no rfl rfl rfl rfl ?_ | refine QR_noU rfl rfl rfl ?_) | (apply gQO; first | refine aQ ?_ | refine aQK rfl ?_)) | (apply gQO; first | (apply gJO; first | (apply kS; refine aK ?_) | (apply kX; refine JO_box rfl rfl rfl ?_; intro _) | (apply kA; refine JO_alloc (tb := tb) rfl rfl ?_; intro _) | (apply kBs; refine JO_buildSlice (tb := tb) rfl rfl rfl rfl rfl rfl rfl rfl rfl ?_; intro _) | (apply kM; refine JO_make (tb := tb) rfl rfl rfl rfl rfl rfl (by omega) rfl ?_; intro _) | refine aO ?_) | (apply gJR; first | apply JR_un | apply JR_nil | refine JR_yes rfl rfl ?_ | refine JR_no rfl rfl rfl rfl ?_ | refine JR_noU rfl rfl rfl ?_) | (apply gJS; first | apply JS_seq | apply JS_region | apply JS_skip | apply JS_block | apply JS_inBlock | apply JS_label | refine JS_exit rfl ?_ | refine JS_condT rfl ?_ | refine JS_condF rfl ?_ | refine JS_draw [0] (by kernel_rfl) (by kernel_rfl) (by decide +kernel) ?_ | refine JS_draw [] (by kernel_rfl) (by kernel_rfl) (by decide +kernel) ?_ | refine JS_cond_T rfl (by omega) ?_ | refine JS_cond_F rfl (by omega) ?_) | (apply gQR; first | apply QR_un | apply QR_nil | refine QR_yes rfl rfl ?_ | refine QR_no rfl rfl rfl rfl ?_ | refine QR_noU rfl rfl rfl ?_) | (apply gQO; first | refine aQ ?_ | refine aQK rfl ?_)) | apply JS_seq | apply JS_region | refine JS_draw [] (by kernel_rfl) (by kernel_rfl) (by decide +kernel) ?_ | refine JS_condF rfl ?_ | refine JS_cond_F rfl (by omega) ?_ | apply JS_skip)
  refine JS_block ?_
  refine JS_loop3 (fun (i : Nat) (p : Option Addr) (c : Nat) => [(0, .pointer (some ⟨bf, 0, none⟩)), (2, .int .i64 bk), (27, .int .i64 len), (28, .int .i64 i)]) (fun i p c => infL bf br q d m B lim a p c (cpy o bk i) H)
    (fun i _ _ => i ≤ len) (fun i _ _ => len - i) 0 po co (Nat.zero_le _) (by repeat (first | exact trivial | refine ⟨rfl, ?_⟩ | refine ⟨lookI rfl (by omega), ?_⟩)) (fun _ h => h) ?_
  intro i p c hi again
  have hcl := cpy_len o bk i
  by_cases hil : i < len
  · have hcs : cpy o bk (i + 1) = cpy o bk i ++ [(cpy o bk i).getD ((cpy o bk i).length - bk) 0] := rfl
    generalize cpy o bk i = L at *
    have gi : (ints .u8 L)[L.length - bk]? = some (.int .u8 (L.getD (L.length - bk) 0)) := ints_get (by omega)
    generalize L.getD (L.length - bk) 0 = x at *
    repeat (first | (apply gQO; first | refine QO_v rfl (V_index (tb := tb) (j := L.length - bk) rfl rfl rfl rfl (Rd.sl (vec_rd (by repeat (first | apply List.Mem.head | apply List.Mem.tail)))) (by omega) (by omega) rfl) ?_ | refine QO_v rfl (V_loadC (tb := tb) rfl (vec_rd (by repeat (first | apply List.Mem.head | apply List.Mem.tail))) rfl rfl gi rfl) ?_ | (refine QO_e (E_buildSlice (tb := tb) rfl rfl rfl rfl rfl rfl rfl rfl rfl) rfl (.inr fun _ _ hw => St.sub (by repeat (first | exact List.Sublist.refl _ | apply List.Sublist.cons_cons | apply List.Sublist.cons)) hw) ?_; intro _) | (refine QO_e (E_appendB (tb := tb) rfl rfl rfl rfl rfl rfl (by repeat (first | exact Sel.here _ _ | apply Sel.there)) (by first | exact vec_rd (by repeat (first | apply List.Mem.head | apply List.Mem.tail)) | assumption | exact ArgRd.rd (by assumption) _ | (apply Rd_weak; assumption; intro _ hx; exact St.sub (by repeat (first | exact List.Sublist.refl _ | apply List.Sublist.cons_cons | apply List.Sublist.cons)) hx)) (by simp only [ints_len, List.length_cons, List.length_nil]; first | omega | rfl) (by first | exact ints_one | (repeat (first | exact trivial | refine ⟨rfl, ?_⟩))) (by omega) (by omega) rfl) rfl (.inr fun _ _ hw => vecB_back (by repeat (first | exact Sel.here _ _ | apply Sel.there)) hw) ?_; intro _)) | (first | (apply gJO; first | (apply kS; refine aK ?_) | (apply kX; refine JO_box rfl rfl rfl ?_; intro _) | (apply kA; refine JO_alloc (tb := tb) rfl rfl ?_; intro _) | (apply kBs; refine JO_buildSlice (tb := tb) rfl rfl rfl rfl rfl rfl rfl rfl rfl ?_; intro _) | (apply kM; refine JO_make (tb := tb) rfl rfl rfl rfl rfl rfl (by omega) rfl ?_; intro _) | refine aO ?_) | (apply gJR; first | apply JR_un | apply JR_nil | refine JR_yes rfl rfl ?_ | refine JR_no rfl rfl rfl rfl ?_ | refine JR_noU rfl rfl rfl ?_) | (apply gJS; first | apply JS_seq | apply JS_region | apply JS_skip | apply JS_block | apply JS_inBlock | apply JS_label | refine JS_exit rfl ?_ | refine JS_condT rfl ?_ | refine JS_condF rfl ?_ | refine JS_draw [0] (by kernel_rfl) (by kernel_rfl) (by decide +kernel) ?_ | refine JS_draw [] (by kernel_rfl) (by kernel_rfl) (by decide +kernel) ?_ | refine JS_cond_T rfl (by omega) ?_ | refine JS_cond_F rfl (by omega) ?_) | (apply gQR; first | apply QR_un | apply QR_nil | refine QR_yes rfl rfl ?_ | refine QR_no rfl rfl rfl rfl ?_ | refine QR_noU rfl rfl rfl ?_) | (apply gQO; first | refine aQ ?_ | refine aQK rfl ?_)))
    rename_i p1 c1
    exact JS_again3 again (i + 1) c1.1 c1.2 (by omega) (by omega) (by exact ⟨rfl, rfl, rfl, rfl, trivial⟩) (fun w hw => by rw [hcs]; unfold infL; rw [show (L ++ [x]).length = L.length + 1 by simp, ← ints_app1]; have g := vecB_fwd (by repeat (first | exact Sel.here _ _ | apply Sel.there)) hw; exact St.sub (by repeat (first | exact List.Sublist.refl _ | apply List.Sublist.cons_cons | apply List.Sublist.cons)) g)
  · obtain rfl : i = len := by omega
    clear again
    repeat (first | (apply gJO; first | (apply kS; refine aK ?_) | (apply kX; refine JO_box rfl rfl rfl ?_; intro _) | (apply kA; refine JO_alloc (tb := tb) rfl rfl ?_; intro _) | (apply kBs; refine JO_buildSlice (tb := tb) rfl rfl rfl rfl rfl rfl rfl rfl rfl ?_; intro _) | (apply kM; refine JO_make (tb := tb) rfl rfl rfl rfl rfl rfl (by omega) rfl ?_; intro _) | refine aO ?_) | (apply gJR; first | apply JR_un | apply JR_nil | refine JR_yes rfl rfl ?_ | refine JR_no rfl rfl rfl rfl ?_ | refine JR_noU rfl rfl rfl ?_) | (apply gJS; first | apply JS_seq | apply JS_region | apply JS_skip | apply JS_block | apply JS_inBlock | apply JS_label | refine JS_exit rfl ?_ | refine JS_condT rfl ?_ | refine JS_condF rfl ?_ | refine JS_draw [0] (by kernel_rfl) (by kernel_rfl) (by decide +kernel) ?_ | refine JS_draw [] (by kernel_rfl) (by kernel_rfl) (by decide +kernel) ?_ | refine JS_cond_T rfl (by omega) ?_ | refine JS_cond_F rfl (by omega) ?_) | (apply gQR; first | apply QR_un | apply QR_nil | refine QR_yes rfl rfl ?_ | refine QR_no rfl rfl rfl rfl ?_ | refine QR_noU rfl rfl rfl ?_) | (apply gQO; first | refine aQ ?_ | refine aQK rfl ?_))
    refine JS_fin Try.func96 rfl rfl ?_
    intro w hw
    exact .inr (.inr ⟨by omega, h2, rfl, p, c, hw⟩)
end
end Go.Proofs.Ytakgoflfcgofdaa

namespace Go.Proofs.Ytakgoflfcgofdaa
open Sx Go
set_option linter.unusedVariables false
set_option linter.unusedSimpArgs false
attribute [local irreducible] syA fc tk cds
theorem lbase_ok {i : Int} (h : (lbase i).1 ≠ 0) : 257 ≤ i ∧ i ≤ 285 ∧ 3 ≤ (lbase i).1 ∧ (lbase i).1 ≤ 258 ∧ 0 ≤ (lbase i).2 ∧ (lbase i).2 ≤ 5 := by
  by_cases h1 : i < 257 ∨ 285 < i
  · exact absurd (by unfold lbase; rw [if_pos h1]) h
  by_cases h2 : i = 285
  · subst h2; decide
  · obtain ⟨k, rfl⟩ : ∃ k : Nat, i = 257 + k := ⟨(i - 257).toNat, by omega⟩
    have := lbase_bd k (by omega)
    omega
theorem lfar_ok {i : Int} (h : (lfar i).1 ≠ 0) : 0 ≤ i ∧ i ≤ 29 ∧ 1 ≤ (lfar i).1 ∧ (lfar i).1 ≤ 24577 ∧ 0 ≤ (lfar i).2 ∧ (lfar i).2 ≤ 13 := by
  by_cases h1 : i < 0 ∨ 29 < i
  · exact absurd (by unfold lfar; rw [if_pos h1]) h
  · obtain ⟨k, rfl⟩ : ∃ k : Nat, i = k := ⟨i.toNat, by omega⟩
    have := lfar_bd k (by omega)
    omega
section
variable {w0 : World} {H : List Asn} {bf br : Nat} {q : Option Addr} {d m : Nat} {B : List Int} {lim : Nat} {po : Option Addr} {co : Nat} {o : List Int}
set_option maxRecDepth 10000 in
set_option maxHeartbeats 4000000 in
/-- a block of symbols -/
theorem Blk_c (hK : InfK m B lim) (a : Nat) (ha : a ≤ 8 * m) (ho : o.length ≤ lim) (b1 b2 : Nat) (L D : List Int) (hs1 : IsSet w0 H b1 L) (hs2 : IsSet w0 H b2 D) (w : World) (hw : St w0 (infL bf br q d m B lim a po co o H) w) :
    Calls Try.prog 78 #[.pointer (some ⟨bf, 0, none⟩), .pointer (some ⟨b1, 0, none⟩), .pointer (some ⟨b2, 0, none⟩)] w fun e w' => ∃ r, It (blkF (bitB B 0) (8 * m) lim L D) a o r ∧ resP r (fun r => e = .panicked (FLT r) ∧ St w0 H w')
      (fun a' o' => a' ≤ 8 * m ∧ o'.length ≤ lim ∧ e = .returned (.tuple #[]) ∧ ∃ po co, St w0 (infL bf br q d m B lim a' po co o' H) w') := by
  have hl := hK.hl
  have hm1 := hK.hm1
  have hL320 := hs1.hl.1
  have hD320 := hs2.hl.1
  refine enter (vs := [.pointer (some ⟨bf, 0, none⟩), .pointer (some ⟨b1, 0, none⟩), .pointer (some ⟨b2, 0, none⟩)]) Try.func78 rfl rfl rfl hw ?_
  refine JS_block ?_
  refine JS_loop4 (fun (a1 : Nat) (o1 : List Int) (p : Option Addr) (c : Nat) => [(0, .pointer (some ⟨bf, 0, none⟩)), (1, .pointer (some ⟨b1, 0, none⟩)), (2, .pointer (some ⟨b2, 0, none⟩))]) (fun a1 o1 p c => infL bf br q d m B lim a1 p c o1 H)
    (fun a1 o1 _ _ => a1 ≤ 8 * m ∧ o1.length ≤ lim ∧ ∀ r, It (blkF (bitB B 0) (8 * m) lim L D) a1 o1 r → It (blkF (bitB B 0) (8 * m) lim L D) a o r) (fun a1 _ _ _ => 8 * m - a1) a o po co ⟨ha, ho, fun _ h => h⟩ (by repeat (first | exact trivial | refine ⟨rfl, ?_⟩ | refine ⟨lookI rfl (by omega), ?_⟩)) (fun _ h => h) ?_
  intro a1 o1 p c ⟨ha1, ho1, hinv⟩ again
  repeat (first | (apply gJO; first | (apply kS; refine aK ?_) | (apply kX; refine JO_box rfl rfl rfl ?_; intro _) | (apply kA; refine JO_alloc (tb := tb) rfl rfl ?_; intro _) | (apply kBs; refine JO_buildSlice (tb := tb) rfl rfl rfl rfl rfl rfl rfl rfl rfl ?_; intro _) | (apply kM; refine JO_make (tb := tb) rfl rfl rfl rfl rfl rfl (by omega) rfl ?_; intro _) | refine aO ?_) | (apply gJR; first | apply JR_un | apply JR_nil | refine JR_yes rfl rfl ?_ | refine JR_no rfl rfl rfl rfl ?_ | refine JR_noU rfl rfl rfl ?_) | (apply gJS; first | apply JS_seq | apply JS_region | apply JS_skip | apply JS_block | apply JS_inBlock | apply JS_label | refine JS_exit rfl ?_ | refine JS_condT rfl ?_ | refine JS_condF rfl ?_ | refine JS_draw [0] (by kernel_rfl) (by kernel_rfl) (by decide +kernel) ?_ | refine JS_draw [] (by kernel_rfl) (by kernel_rfl) (by decide +kernel) ?_ | refine JS_cond_T rfl (by omega) ?_ | refine JS_cond_F rfl (by omega) ?_) | (apply gQR; first | apply QR_un | apply QR_nil | refine QR_yes rfl rfl ?_ | refine QR_no rfl rfl rfl rfl ?_ | refine QR_noU rfl rfl rfl ?_) | (apply gQO; first | refine aQ ?_ | refine aQK rfl ?_))
  refine JO_callE Try.func78 Try.call95 rfl rfl fun A hA w hw => (Sym_c hK a1 ha1 b1 L hs1 w hw).mono ?_
  intro e w' h
  unfold symP at h
  cases hsy : symS (bitB B 0) (8 * m) L a1 with
  | err r =>
    rw [hsy] at h
    obtain ⟨rfl, hw'⟩ := h
    exact .inr ⟨_, rfl, .err r, hinv _ (.err (by unfold blkF; rw [hsy])), rfl, hw'⟩
  | ok i a2 =>
  rw [hsy] at h
  obtain ⟨hi0, hiL, ha12, ha2, rfl, hw'⟩ := h
  refine .inl ⟨_, rfl, _, hw', ?_⟩
  clear hw' hw w w' hA A
  have hF : blkF (bitB B 0) (8 * m) lim L D a1 o1 = if i = 256 then .stop a2 o1
    else if i < 256 then (if (lim : Int) - o1.length < 1 then .err 64 else .go a2 (o1 ++ [i]))
    else if (lbase i).1 = 0 then .err 62
    else if 8 * m < a2 + (lbase i).2.toNat then .err 20
    else blk2 (bitB B 0) (8 * m) lim D o1 ((lbase i).1 + nbt (bitB B 0) a2 (lbase i).2.toNat) (a2 + (lbase i).2.toNat) := by unfold blkF; rw [hsy]
  by_cases h256 : i = 256
  · rw [if_pos h256] at hF
    clear again
    repeat (first | (apply gJO; first | (apply kS; refine aK ?_) | (apply kX; refine JO_box rfl rfl rfl ?_; intro _) | (apply kA; refine JO_alloc (tb := tb) rfl rfl ?_; intro _) | (apply kBs; refine JO_buildSlice (tb := tb) rfl rfl rfl rfl rfl rfl rfl rfl rfl ?_; intro _) | (apply kM; refine JO_make (tb := tb) rfl rfl rfl rfl rfl rfl (by omega) rfl ?_; intro _) | refine aO ?_) | (apply gJR; first | apply JR_un | apply JR_nil | refine JR_yes rfl rfl ?_ | refine JR_no rfl rfl rfl rfl ?_ | refine JR_noU rfl rfl rfl ?_) | (apply gJS; first | apply JS_seq | apply JS_region | apply JS_skip | apply JS_block | apply JS_inBlock | apply JS_label | refine JS_exit rfl ?_ | refine JS_condT rfl ?_ | refine JS_condF rfl ?_ | refine JS_draw [0] (by kernel_rfl) (by kernel_rfl) (by decide +kernel) ?_ | refine JS_draw [] (by kernel_rfl) (by kernel_rfl) (by decide +kernel) ?_ | refine JS_cond_T rfl (by omega) ?_ | refine JS_cond_F rfl (by omega) ?_) | (apply gQR; first | apply QR_un | apply QR_nil | refine QR_yes rfl rfl ?_ | refine QR_no rfl rfl rfl rfl ?_ | refine QR_noU rfl rfl rfl ?_) | (apply gQO; first | refine aQ ?_ | refine aQK rfl ?_))
    refine JS_ret Try.func78 rfl rfl ?_
    intro w hw
    exact ⟨.ok a2 o1, hinv _ (.stop hF), ha2, ho1, rfl, p, c, hw⟩
  rw [if_neg h256] at hF
  by_cases hlt : i < 256
  · rw [if_pos hlt] at hF
    repeat (first | (apply gJO; first | (apply kS; refine aK ?_) | (apply kX; refine JO_box rfl rfl rfl ?_; intro _) | (apply kA; refine JO_alloc (tb := tb) rfl rfl ?_; intro _) | (apply kBs; refine JO_buildSlice (tb := tb) rfl rfl rfl rfl rfl rfl rfl rfl rfl ?_; intro _) | (apply kM; refine JO_make (tb := tb) rfl rfl rfl rfl rfl rfl (by omega) rfl ?_; intro _) | refine aO ?_) | (apply gJR; first | apply JR_un | apply JR_nil | refine JR_yes rfl rfl ?_ | refine JR_no rfl rfl rfl rfl ?_ | refine JR_noU rfl rfl rfl ?_) | (apply gJS; first | apply JS_seq | apply JS_region | apply JS_skip | apply JS_block | apply JS_inBlock | apply JS_label | refine JS_exit rfl ?_ | refine JS_condT rfl ?_ | refine JS_condF rfl ?_ | refine JS_draw [0] (by kernel_rfl) (by kernel_rfl) (by decide +kernel) ?_ | refine JS_draw [] (by kernel_rfl) (by kernel_rfl) (by decide +kernel) ?_ | refine JS_cond_T rfl (by omega) ?_ | refine JS_cond_F rfl (by omega) ?_) | (apply gQR; first | apply QR_un | apply QR_nil | refine QR_yes rfl rfl ?_ | refine QR_no rfl rfl rfl rfl ?_ | refine QR_noU rfl rfl rfl ?_) | (apply gQO; first | refine aQ ?_ | refine aQK rfl ?_))
    rename_i p1
    refine JO_callE Try.func78 Try.call77 rfl rfl fun A hA w hw => (Tell_c hK a2 (some p1) 1 1 [i] (vec_rd (List.Mem.head _)) rfl ho1 (by omega) w (infL_in hw)).mono ?_
    rintro e w' (⟨h, rfl, hw'⟩ | ⟨h, rfl, p', c', hw'⟩)
    · exact .inr ⟨_, rfl, .err 64, hinv _ (.err (by rw [hF, if_pos (by omega)])), rfl, hw'.drop⟩
    refine .inl ⟨_, rfl, _, hw', ?_⟩
    clear hw' hw w w' hA A
    rw [if_neg (by omega)] at hF
    repeat (first | (apply gJO; first | (apply kS; refine aK ?_) | (apply kX; refine JO_box rfl rfl rfl ?_; intro _) | (apply kA; refine JO_alloc (tb := tb) rfl rfl ?_; intro _) | (apply kBs; refine JO_buildSlice (tb := tb) rfl rfl rfl rfl rfl rfl rfl rfl rfl ?_; intro _) | (apply kM; refine JO_make (tb := tb) rfl rfl rfl rfl rfl rfl (by omega) rfl ?_; intro _) | refine aO ?_) | (apply gJR; first | apply JR_un | apply JR_nil | refine JR_yes rfl rfl ?_ | refine JR_no rfl rfl rfl rfl ?_ | refine JR_noU rfl rfl rfl ?_) | (apply gJS; first | apply JS_seq | apply JS_region | apply JS_skip | apply JS_block | apply JS_inBlock | apply JS_label | refine JS_exit rfl ?_ | refine JS_condT rfl ?_ | refine JS_condF rfl ?_ | refine JS_draw [0] (by kernel_rfl) (by kernel_rfl) (by decide +kernel) ?_ | refine JS_draw [] (by kernel_rfl) (by kernel_rfl) (by decide +kernel) ?_ | refine JS_cond_T rfl (by omega) ?_ | refine JS_cond_F rfl (by omega) ?_) | (apply gQR; first | apply QR_un | apply QR_nil | refine QR_yes rfl rfl ?_ | refine QR_no rfl rfl rfl rfl ?_ | refine QR_noU rfl rfl rfl ?_) | (apply gQO; first | refine aQ ?_ | refine aQK rfl ?_))
    exact JS_again4 again a2 (o1 ++ [i]) p' c' ⟨ha2, by simp; omega, fun r hr => hinv r (.go hF hr)⟩ (by omega) (by exact ⟨rfl, rfl, rfl, trivial⟩) (fun w hw => infL_out hw)
  rw [if_neg hlt] at hF
  repeat (first | (apply gJO; first | (apply kS; refine aK ?_) | (apply kX; refine JO_box rfl rfl rfl ?_; intro _) | (apply kA; refine JO_alloc (tb := tb) rfl rfl ?_; intro _) | (apply kBs; refine JO_buildSlice (tb := tb) rfl rfl rfl rfl rfl rfl rfl rfl rfl ?_; intro _) | (apply kM; refine JO_make (tb := tb) rfl rfl rfl rfl rfl rfl (by omega) rfl ?_; intro _) | refine aO ?_) | (apply gJR; first | apply JR_un | apply JR_nil | refine JR_yes rfl rfl ?_ | refine JR_no rfl rfl rfl rfl ?_ | refine JR_noU rfl rfl rfl ?_) | (apply gJS; first | apply JS_seq | apply JS_region | apply JS_skip | apply JS_block | apply JS_inBlock | apply JS_label | refine JS_exit rfl ?_ | refine JS_condT rfl ?_ | refine JS_condF rfl ?_ | refine JS_draw [0] (by kernel_rfl) (by kernel_rfl) (by decide +kernel) ?_ | refine JS_draw [] (by kernel_rfl) (by kernel_rfl) (by decide +kernel) ?_ | refine JS_cond_T rfl (by omega) ?_ | refine JS_cond_F rfl (by omega) ?_) | (apply gQR; first | apply QR_un | apply QR_nil | refine QR_yes rfl rfl ?_ | refine QR_no rfl rfl rfl rfl ?_ | refine QR_noU rfl rfl rfl ?_) | (apply gQO; first | refine aQ ?_ | refine aQK rfl ?_))
  refine JO_call Try.call25 rfl rfl fun w hw => (Base_c i (by omega) w hw).mono ?_
  rintro e w' ⟨rfl, hw'⟩
  refine ⟨_, rfl, _, hw', ?_⟩
  clear hw' hw w w'
  by_cases hb0 : (lbase i).1 = 0
  · rw [if_pos hb0] at hF
    generalize lbase i = lb at *
    repeat (first | (apply gJO; first | (apply kS; refine aK ?_) | (apply kX; refine JO_box rfl rfl rfl ?_; intro _) | (apply kA; refine JO_alloc (tb := tb) rfl rfl ?_; intro _) | (apply kBs; refine JO_buildSlice (tb := tb) rfl rfl rfl rfl rfl rfl rfl rfl rfl ?_; intro _) | (apply kM; refine JO_make (tb := tb) rfl rfl rfl rfl rfl rfl (by omega) rfl ?_; intro _) | refine aO ?_) | (apply gJR; first | apply JR_un | apply JR_nil | refine JR_yes rfl rfl ?_ | refine JR_no rfl rfl rfl rfl ?_ | refine JR_noU rfl rfl rfl ?_) | (apply gJS; first | apply JS_seq | apply JS_region | apply JS_skip | apply JS_block | apply JS_inBlock | apply JS_label | refine JS_exit rfl ?_ | refine JS_condT rfl ?_ | refine JS_condF rfl ?_ | refine JS_draw [0] (by kernel_rfl) (by kernel_rfl) (by decide +kernel) ?_ | refine JS_draw [] (by kernel_rfl) (by kernel_rfl) (by decide +kernel) ?_ | refine JS_cond_T rfl (by omega) ?_ | refine JS_cond_F rfl (by omega) ?_) | (apply gQR; first | apply QR_un | apply QR_nil | refine QR_yes rfl rfl ?_ | refine QR_no rfl rfl rfl rfl ?_ | refine QR_noU rfl rfl rfl ?_) | (apply gQO; first | refine aQ ?_ | refine aQK rfl ?_))
    refine JO_callE Try.func78 Try.call56 rfl rfl fun A hA w hw => (Give_c 62 w hw).mono ?_
    rintro e w' (⟨h, rfl, hw'⟩ | ⟨_, rfl, hw'⟩)
    · exact absurd h (by decide)
    · exact .inr ⟨_, rfl, .err 62, hinv _ (.err hF), rfl, infL_drop hw'⟩
  rw [if_neg hb0] at hF
  obtain ⟨_, _, c1, c2, c3, c4⟩ := lbase_ok hb0
  obtain ⟨⟨lb1, lb2⟩, hlb⟩ : ∃ x, lbase i = x := ⟨_, rfl⟩
  rw [hlb] at hF hb0 c1 c2 c3 c4 ⊢
  simp only at hF hb0 c1 c2 c3 c4 ⊢
  obtain ⟨k1, rfl⟩ : ∃ k : Nat, lb2 = k := ⟨lb2.toNat, by omega⟩
  simp only [Int.toNat_natCast] at hF
  obtain ⟨hn0, hn1⟩ := nbt_bd (bitB B 0) (bitB_01 B 0) a2 k1
  have hp1 := (pw16 5 (by omega)).2
  have hp1 : (2 : Int) ^ k1 ≤ 32 := by
    have : ∀ k : Fin 6, (2 : Int) ^ k.val ≤ 32 := by decide
    exact this ⟨k1, by omega⟩
  obtain ⟨n1, hn1e⟩ := Int.eq_ofNat_of_zero_le hn0
  rw [hn1e] at hF hn1
  repeat (first | (apply gJO; first | (apply kS; refine aK ?_) | (apply kX; refine JO_box rfl rfl rfl ?_; intro _) | (apply kA; refine JO_alloc (tb := tb) rfl rfl ?_; intro _) | (apply kBs; refine JO_buildSlice (tb := tb) rfl rfl rfl rfl rfl rfl rfl rfl rfl ?_; intro _) | (apply kM; refine JO_make (tb := tb) rfl rfl rfl rfl rfl rfl (by omega) rfl ?_; intro _) | refine aO ?_) | (apply gJR; first | apply JR_un | apply JR_nil | refine JR_yes rfl rfl ?_ | refine JR_no rfl rfl rfl rfl ?_ | refine JR_noU rfl rfl rfl ?_) | (apply gJS; first | apply JS_seq | apply JS_region | apply JS_skip | apply JS_block | apply JS_inBlock | apply JS_label | refine JS_exit rfl ?_ | refine JS_condT rfl ?_ | refine JS_condF rfl ?_ | refine JS_draw [0] (by kernel_rfl) (by kernel_rfl) (by decide +kernel) ?_ | refine JS_draw [] (by kernel_rfl) (by kernel_rfl) (by decide +kernel) ?_ | refine JS_cond_T rfl (by omega) ?_ | refine JS_cond_F rfl (by omega) ?_) | (apply gQR; first | apply QR_un | apply QR_nil | refine QR_yes rfl rfl ?_ | refine QR_no rfl rfl rfl rfl ?_ | refine QR_noU rfl rfl rfl ?_) | (apply gQO; first | refine aQ ?_ | refine aQK rfl ?_))
  refine JO_callE Try.func78 Try.call55 rfl rfl fun A hA w hw => (Grp_c hK a2 k1 (by omega) ha2 w hw).mono ?_
  rintro e w' (⟨h, rfl, hw'⟩ | ⟨h1, he, hw'⟩)
  · exact .inr ⟨_, rfl, .err 20, hinv _ (.err (by rw [hF, if_pos h])), rfl, hw'⟩
  rw [hn1e] at he; subst he
  refine .inl ⟨_, rfl, _, hw', ?_⟩
  clear hw' hw w w' hA A
  rw [if_neg (by omega)] at hF
  obtain ⟨ln, hln⟩ : ∃ ln : Nat, lb1 + (n1 : Int) = ln := ⟨(lb1 + (n1 : Int)).toNat, by omega⟩
  rw [hln] at hF
  repeat (first | (apply gJO; first | (apply kS; refine aK ?_) | (apply kX; refine JO_box rfl rfl rfl ?_; intro _) | (apply kA; refine JO_alloc (tb := tb) rfl rfl ?_; intro _) | (apply kBs; refine JO_buildSlice (tb := tb) rfl rfl rfl rfl rfl rfl rfl rfl rfl ?_; intro _) | (apply kM; refine JO_make (tb := tb) rfl rfl rfl rfl rfl rfl (by omega) rfl ?_; intro _) | refine aO ?_) | (apply gJR; first | apply JR_un | apply JR_nil | refine JR_yes rfl rfl ?_ | refine JR_no rfl rfl rfl rfl ?_ | refine JR_noU rfl rfl rfl ?_) | (apply gJS; first | apply JS_seq | apply JS_region | apply JS_skip | apply JS_block | apply JS_inBlock | apply JS_label | refine JS_exit rfl ?_ | refine JS_condT rfl ?_ | refine JS_condF rfl ?_ | refine JS_draw [0] (by kernel_rfl) (by kernel_rfl) (by decide +kernel) ?_ | refine JS_draw [] (by kernel_rfl) (by kernel_rfl) (by decide +kernel) ?_ | refine JS_cond_T rfl (by omega) ?_ | refine JS_cond_F rfl (by omega) ?_) | (apply gQR; first | apply QR_un | apply QR_nil | refine QR_yes rfl rfl ?_ | refine QR_no rfl rfl rfl rfl ?_ | refine QR_noU rfl rfl rfl ?_) | (apply gQO; first | refine aQ ?_ | refine aQK rfl ?_))
  refine JO_callE Try.func78 Try.call95 rfl rfl fun A hA w hw => (Sym_c hK (a2 + k1) h1 b2 D hs2 w hw).mono ?_
  intro e w' h
  unfold symP at h
  cases hsy2 : symS (bitB B 0) (8 * m) D (a2 + k1) with
  | err r =>
    rw [hsy2] at h
    obtain ⟨rfl, hw'⟩ := h
    exact .inr ⟨_, rfl, .err r, hinv _ (.err (by rw [hF]; unfold blk2; rw [hsy2])), rfl, hw'⟩
  | ok dd a3 =>
  rw [hsy2] at h
  obtain ⟨hd0, hdD, ha23, ha3, rfl, hw'⟩ := h
  refine .inl ⟨_, rfl, _, hw', ?_⟩
  clear hw' hw w w' hA A
  have hF2 : blk2 (bitB B 0) (8 * m) lim D o1 ln (a2 + k1) = if (lfar dd).1 = 0 then .err 62
    else if 8 * m < a3 + (lfar dd).2.toNat then .err 20
    else if (o1.length : Int) < (lfar dd).1 + nbt (bitB B 0) a3 (lfar dd).2.toNat then .err 63
    else if (lim : Int) - o1.length < ln then .err 64
    else .go (a3 + (lfar dd).2.toNat) (cpy o1 ((lfar dd).1 + nbt (bitB B 0) a3 (lfar dd).2.toNat).toNat (ln : Int).toNat) := by unfold blk2; rw [hsy2]
  rw [hF2] at hF
  clear hF2
  repeat (first | (apply gJO; first | (apply kS; refine aK ?_) | (apply kX; refine JO_box rfl rfl rfl ?_; intro _) | (apply kA; refine JO_alloc (tb := tb) rfl rfl ?_; intro _) | (apply kBs; refine JO_buildSlice (tb := tb) rfl rfl rfl rfl rfl rfl rfl rfl rfl ?_; intro _) | (apply kM; refine JO_make (tb := tb) rfl rfl rfl rfl rfl rfl (by omega) rfl ?_; intro _) | refine aO ?_) | (apply gJR; first | apply JR_un | apply JR_nil | refine JR_yes rfl rfl ?_ | refine JR_no rfl rfl rfl rfl ?_ | refine JR_noU rfl rfl rfl ?_) | (apply gJS; first | apply JS_seq | apply JS_region | apply JS_skip | apply JS_block | apply JS_inBlock | apply JS_label | refine JS_exit rfl ?_ | refine JS_condT rfl ?_ | refine JS_condF rfl ?_ | refine JS_draw [0] (by kernel_rfl) (by kernel_rfl) (by decide +kernel) ?_ | refine JS_draw [] (by kernel_rfl) (by kernel_rfl) (by decide +kernel) ?_ | refine JS_cond_T rfl (by omega) ?_ | refine JS_cond_F rfl (by omega) ?_) | (apply gQR; first | apply QR_un | apply QR_nil | refine QR_yes rfl rfl ?_ | refine QR_no rfl rfl rfl rfl ?_ | refine QR_noU rfl rfl rfl ?_) | (apply gQO; first | refine aQ ?_ | refine aQK rfl ?_))
  refine JO_call Try.call26 rfl rfl fun w hw => (Far_c dd (by omega) w hw).mono ?_
  rintro e w' ⟨rfl, hw'⟩
  refine ⟨_, rfl, _, hw', ?_⟩
  clear hw' hw w w'
  by_cases hf0 : (lfar dd).1 = 0
  · rw [if_pos hf0] at hF
    generalize lfar dd = lf at *
    repeat (first | (apply gJO; first | (apply kS; refine aK ?_) | (apply kX; refine JO_box rfl rfl rfl ?_; intro _) | (apply kA; refine JO_alloc (tb := tb) rfl rfl ?_; intro _) | (apply kBs; refine JO_buildSlice (tb := tb) rfl rfl rfl rfl rfl rfl rfl rfl rfl ?_; intro _) | (apply kM; refine JO_make (tb := tb) rfl rfl rfl rfl rfl rfl (by omega) rfl ?_; intro _) | refine aO ?_) | (apply gJR; first | apply JR_un | apply JR_nil | refine JR_yes rfl rfl ?_ | refine JR_no rfl rfl rfl rfl ?_ | refine JR_noU rfl rfl rfl ?_) | (apply gJS; first | apply JS_seq | apply JS_region | apply JS_skip | apply JS_block | apply JS_inBlock | apply JS_label | refine JS_exit rfl ?_ | refine JS_condT rfl ?_ | refine JS_condF rfl ?_ | refine JS_draw [0] (by kernel_rfl) (by kernel_rfl) (by decide +kernel) ?_ | refine JS_draw [] (by kernel_rfl) (by kernel_rfl) (by decide +kernel) ?_ | refine JS_cond_T rfl (by omega) ?_ | refine JS_cond_F rfl (by omega) ?_) | (apply gQR; first | apply QR_un | apply QR_nil | refine QR_yes rfl rfl ?_ | refine QR_no rfl rfl rfl rfl ?_ | refine QR_noU rfl rfl rfl ?_) | (apply gQO; first | refine aQ ?_ | refine aQK rfl ?_))
    refine JO_callE Try.func78 Try.call56 rfl rfl fun A hA w hw => (Give_c 62 w hw).mono ?_
    rintro e w' (⟨h, rfl, hw'⟩ | ⟨_, rfl, hw'⟩)
    · exact absurd h (by decide)
    · exact .inr ⟨_, rfl, .err 62, hinv _ (.err hF), rfl, infL_drop hw'⟩
  rw [if_neg hf0] at hF
  obtain ⟨_, _, d1, d2, d3, d4⟩ := lfar_ok hf0
  obtain ⟨⟨lf1, lf2⟩, hlf⟩ : ∃ x, lfar dd = x := ⟨_, rfl⟩
  rw [hlf] at hF hf0 d1 d2 d3 d4 ⊢
  simp only at hF hf0 d1 d2 d3 d4 ⊢
  obtain ⟨k2, rfl⟩ : ∃ k : Nat, lf2 = k := ⟨lf2.toNat, by omega⟩
  simp only [Int.toNat_natCast] at hF
  obtain ⟨hm0, hm1'⟩ := nbt_bd (bitB B 0) (bitB_01 B 0) a3 k2
  have hp2 : (2 : Int) ^ k2 ≤ 8192 := by
    have : ∀ k : Fin 14, (2 : Int) ^ k.val ≤ 8192 := by decide
    exact this ⟨k2, by omega⟩
  obtain ⟨n2, hn2e⟩ := Int.eq_ofNat_of_zero_le hm0
  rw [hn2e] at hF hm1'
  repeat (first | (apply gJO; first | (apply kS; refine aK ?_) | (apply kX; refine JO_box rfl rfl rfl ?_; intro _) | (apply kA; refine JO_alloc (tb := tb) rfl rfl ?_; intro _) | (apply kBs; refine JO_buildSlice (tb := tb) rfl rfl rfl rfl rfl rfl rfl rfl rfl ?_; intro _) | (apply kM; refine JO_make (tb := tb) rfl rfl rfl rfl rfl rfl (by omega) rfl ?_; intro _) | refine aO ?_) | (apply gJR; first | apply JR_un | apply JR_nil | refine JR_yes rfl rfl ?_ | refine JR_no rfl rfl rfl rfl ?_ | refine JR_noU rfl rfl rfl ?_) | (apply gJS; first | apply JS_seq | apply JS_region | apply JS_skip | apply JS_block | apply JS_inBlock | apply JS_label | refine JS_exit rfl ?_ | refine JS_condT rfl ?_ | refine JS_condF rfl ?_ | refine JS_draw [0] (by kernel_rfl) (by kernel_rfl) (by decide +kernel) ?_ | refine JS_draw [] (by kernel_rfl) (by kernel_rfl) (by decide +kernel) ?_ | refine JS_cond_T rfl (by omega) ?_ | refine JS_cond_F rfl (by omega) ?_) | (apply gQR; first | apply QR_un | apply QR_nil | refine QR_yes rfl rfl ?_ | refine QR_no rfl rfl rfl rfl ?_ | refine QR_noU rfl rfl rfl ?_) | (apply gQO; first | refine aQ ?_ | refine aQK rfl ?_))
  refine JO_callE Try.func78 Try.call55 rfl rfl fun A hA w hw => (Grp_c hK a3 k2 (by omega) ha3 w hw).mono ?_
  rintro e w' (⟨h, rfl, hw'⟩ | ⟨h2, he, hw'⟩)
  · exact .inr ⟨_, rfl, .err 20, hinv _ (.err (by rw [hF, if_pos h])), rfl, hw'⟩
  rw [hn2e] at he; subst he
  refine .inl ⟨_, rfl, _, hw', ?_⟩
  clear hw' hw w w' hA A
  rw [if_neg (by omega)] at hF
  obtain ⟨bk, hbk⟩ : ∃ bk : Nat, lf1 + (n2 : Int) = bk := ⟨(lf1 + (n2 : Int)).toNat, by omega⟩
  rw [hbk, Int.toNat_natCast] at hF
  repeat (first | (apply gJO; first | (apply kS; refine aK ?_) | (apply kX; refine JO_box rfl rfl rfl ?_; intro _) | (apply kA; refine JO_alloc (tb := tb) rfl rfl ?_; intro _) | (apply kBs; refine JO_buildSlice (tb := tb) rfl rfl rfl rfl rfl rfl rfl rfl rfl ?_; intro _) | (apply kM; refine JO_make (tb := tb) rfl rfl rfl rfl rfl rfl (by omega) rfl ?_; intro _) | refine aO ?_) | (apply gJR; first | apply JR_un | apply JR_nil | refine JR_yes rfl rfl ?_ | refine JR_no rfl rfl rfl rfl ?_ | refine JR_noU rfl rfl rfl ?_) | (apply gJS; first | apply JS_seq | apply JS_region | apply JS_skip | apply JS_block | apply JS_inBlock | apply JS_label | refine JS_exit rfl ?_ | refine JS_condT rfl ?_ | refine JS_condF rfl ?_ | refine JS_draw [0] (by kernel_rfl) (by kernel_rfl) (by decide +kernel) ?_ | refine JS_draw [] (by kernel_rfl) (by kernel_rfl) (by decide +kernel) ?_ | refine JS_cond_T rfl (by omega) ?_ | refine JS_cond_F rfl (by omega) ?_) | (apply gQR; first | apply QR_un | apply QR_nil | refine QR_yes rfl rfl ?_ | refine QR_no rfl rfl rfl rfl ?_ | refine QR_noU rfl rfl rfl ?_) | (apply gQO; first | refine aQ ?_ | refine aQK rfl ?_))
  simp only [hln, hbk]
  refine JO_callE Try.func78 Try.call96 rfl rfl fun A hA w hw => (Again_c hK (a3 + k2) ln bk (by omega) ho1 (by omega) (by omega) w hw).mono ?_
  rintro e w' (⟨h, rfl, hw'⟩ | ⟨h, h', rfl, hw'⟩ | ⟨h, h', rfl, p', c', hw'⟩)
  · exact .inr ⟨_, rfl, .err 63, hinv _ (.err (by rw [hF, if_pos (by omega)])), rfl, hw'⟩
  · exact .inr ⟨_, rfl, .err 64, hinv _ (.err (by rw [hF, if_neg (by omega), if_pos h'])), rfl, hw'⟩
  refine .inl ⟨_, rfl, _, hw', ?_⟩
  clear hw' hw w w' hA A
  rw [if_neg (by omega), if_neg h'] at hF
  repeat (first | (apply gJO; first | (apply kS; refine aK ?_) | (apply kX; refine JO_box rfl rfl rfl ?_; intro _) | (apply kA; refine JO_alloc (tb := tb) rfl rfl ?_; intro _) | (apply kBs; refine JO_buildSlice (tb := tb) rfl rfl rfl rfl rfl rfl rfl rfl rfl ?_; intro _) | (apply kM; refine JO_make (tb := tb) rfl rfl rfl rfl rfl rfl (by omega) rfl ?_; intro _) | refine aO ?_) | (apply gJR; first | apply JR_un | apply JR_nil | refine JR_yes rfl rfl ?_ | refine JR_no rfl rfl rfl rfl ?_ | refine JR_noU rfl rfl rfl ?_) | (apply gJS; first | apply JS_seq | apply JS_region | apply JS_skip | apply JS_block | apply JS_inBlock | apply JS_label | refine JS_exit rfl ?_ | refine JS_condT rfl ?_ | refine JS_condF rfl ?_ | refine JS_draw [0] (by kernel_rfl) (by kernel_rfl) (by decide +kernel) ?_ | refine JS_draw [] (by kernel_rfl) (by kernel_rfl) (by decide +kernel) ?_ | refine JS_cond_T rfl (by omega) ?_ | refine JS_cond_F rfl (by omega) ?_) | (apply gQR; first | apply QR_un | apply QR_nil | refine QR_yes rfl rfl ?_ | refine QR_no rfl rfl rfl rfl ?_ | refine QR_noU rfl rfl rfl ?_) | (apply gQO; first | refine aQ ?_ | refine aQK rfl ?_))
  exact JS_again4 again (a3 + k2) (cpy o1 bk ln) p' c' ⟨h2, by rw [cpy_len]; omega, fun r hr => hinv r (.go hF hr)⟩ (by omega) (by exact ⟨rfl, rfl, rfl, trivial⟩) (fun w hw => hw)
end
end Go.Proofs.Ytakgoflfcgofdaa

namespace Go.Proofs.Ytakgoflfcgofdaa
open Sx Go
set_option linter.unusedVariables false
set_option linter.unusedSimpArgs false
attribute [local irreducible] syA fc tk cds
theorem OKB_app {A C : List Int} (hA : OKB A) (hC : OKB C) : OKB (A ++ C) := by
  intro j
  rw [List.getD_eq_getElem?_getD]
  rcases Nat.lt_or_ge j A.length with h | h
  · rw [List.getElem?_append_left h]
    have := hA j
    rwa [List.getD_eq_getElem?_getD] at this
  · rw [List.getElem?_append_right h]
    have := hC (j - A.length)
    rwa [List.getD_eq_getElem?_getD] at this
theorem OKB_rep {x : Int} (hx : 0 ≤ x ∧ x < 256) (n : Nat) : OKB (List.replicate n x) := by
  intro j
  rw [List.getD_eq_getElem?_getD, List.getElem?_replicate]
  split
  · exact hx
  · exact ⟨by decide, by decide⟩
theorem last1 {l : List Int} (h : ¬ l.length = 0) : (l.drop (l.length - 1)).take 1 = [l.getD (l.length - 1) 0] := by
  rcases List.eq_nil_or_concat l with rfl | ⟨l', x, rfl⟩
  · exact absurd rfl h
  · simp
theorem OKB_nil : OKB [] := fun j => by simp
theorem pw8 (i : Nat) (h : i ≤ 8) : (1 : Int) ≤ 2 ^ i ∧ (2 : Int) ^ i ≤ 256 := by
  have : ∀ k : Fin 9, (1 : Int) ≤ 2 ^ k.val ∧ (2 : Int) ^ k.val ≤ 256 := by decide
  exact this ⟨i, by omega⟩
section
variable {w0 : World} {H : List Asn} {bf br : Nat} {q : Option Addr} {d m : Nat} {B : List Int} {lim : Nat} {po : Option Addr} {co : Nat} {o : List Int}
set_option maxRecDepth 10000 in
set_option maxHeartbeats 4000000 in
/-- lengths that are described -/
theorem Lens_c (hK : InfK m B lim) (a : Nat) (ha : a ≤ 8 * m) (many : Nat) (hmn : many ≤ 1000) (b : Nat) (C : List Int) (hs : IsSet w0 H b C) (hC : C.length = 19) (w : World) (hw : St w0 (infL bf br q d m B lim a po co o H) w) :
    Calls Try.prog 81 #[.pointer (some ⟨bf, 0, none⟩), .pointer (some ⟨b, 0, none⟩), .int .i64 many] w fun e w' => ∃ r, It (lenF (bitB B 0) (8 * m) C many) a [] r ∧ resP r (fun r => e = .panicked (FLT r) ∧ St w0 H w')
      (fun a' l => a' ≤ 8 * m ∧ l.length = many ∧ OKB l ∧ ∃ p c, e = .returned (.slice p many c) ∧ St w0 (infL bf br q d m B lim a' po co o (vec 5 1 (.slice p many c) many (ints .u8 l) :: H)) w') := by
  have hl := hK.hl
  have hm1 := hK.hm1
  refine enter (vs := [.pointer (some ⟨bf, 0, none⟩), .pointer (some ⟨b, 0, none⟩), .int .i64 many]) Try.func81 rfl rfl rfl hw ?_
  repeat (first | (apply gJR; first | (apply gJO; first | (apply kS; refine aK ?_) | (apply kX; refine JO_box rfl rfl rfl ?_; intro _) | (apply kA; refine JO_alloc (tb := tb) rfl rfl ?_; intro _) | (apply kBs; refine JO_buildSlice (tb := tb) rfl rfl rfl rfl rfl rfl rfl rfl rfl ?_; intro _) | (apply kM; refine JO_make (tb := tb) rfl rfl rfl rfl rfl rfl (by omega) rfl ?_; intro _) | refine aO ?_) | (apply gJR; first | apply JR_un | apply JR_nil | refine JR_yes rfl rfl ?_ | refine JR_no rfl rfl rfl rfl ?_ | refine JR_noU rfl rfl rfl ?_) | (apply gJS; first | apply JS_seq | apply JS_region | apply JS_skip | apply JS_block | apply JS_inBlock | apply JS_label | refine JS_exit rfl ?_ | refine JS_condT rfl ?_ | refine JS_condF rfl ?_ | refine JS_draw [0] (by kernel_rfl) (by kernel_rfl) (by decide +kernel) ?_ | refine JS_draw [] (by kernel_rfl) (by kernel_rfl) (by decide +kernel) ?_ | refine JS_cond_T rfl (by omega) ?_ | refine JS_cond_F rfl (by omega) ?_) | (apply gQR; first | apply QR_un | apply QR_nil | refine QR_yes rfl rfl ?_ | refine QR_no rfl rfl rfl rfl ?_ | refine QR_noU rfl rfl rfl ?_) | (apply gQO; first | refine aQ ?_ | refine aQK rfl ?_)) | (apply gJO; first | (apply gJO; first | (apply kS; refine aK ?_) | (apply kX; refine JO_box rfl rfl rfl ?_; intro _) | (apply kA; refine JO_alloc (tb := tb) rfl rfl ?_; intro _) | (apply kBs; refine JO_buildSlice (tb := tb) rfl rfl rfl rfl rfl rfl rfl rfl rfl ?_; intro _) | (apply kM; refine JO_make (tb := tb) rfl rfl rfl rfl rfl rfl (by omega) rfl ?_; intro _) | refine aO ?_) | (apply gJR; first | apply JR_un | apply JR_nil | refine JR_yes rfl rfl ?_ | refine JR_no rfl rfl rfl rfl ?_ | refine JR_noU rfl rfl rfl ?_) | (apply gJS; first | apply JS_seq | apply JS_region | apply JS_skip | apply JS_block | apply JS_inBlock | apply JS_label | refine JS_exit rfl ?_ | refine JS_condT rfl ?_ | refine JS_condF rfl ?_ | refine JS_draw [0] (by kernel_rfl) (by kernel_rfl) (by decide +kernel) ?_ | refine JS_draw [] (by kernel_rfl) (by kernel_rfl) (by decide +kernel) ?_ | refine JS_cond_T rfl (by omega) ?_ | refine JS_cond_F rfl (by omega) ?_) | (apply gQR; first | apply QR_un | apply QR_nil | refine QR_yes rfl rfl ?_ | refine QR_no rfl rfl rfl rfl ?_ | refine QR_noU rfl rfl rfl ?_) | (apply gQO; first | refine aQ ?_ | refine aQK rfl ?_)) | apply JS_seq | apply JS_region)
  refine JS_block ?_
  refine JS_loop4 (fun (a1 : Nat) (l : List Int) (p : Option Addr) (c : Nat) => [(0, .pointer (some ⟨bf, 0, none⟩)), (1, .pointer (some ⟨b, 0, none⟩)), (2, .int .i64 many), (7, .slice p l.length c)]) (fun a1 l p c => infL bf br q d m B lim a1 po co o (vec 5 1 (.slice p l.length c) l.length (ints .u8 l) :: H))
    (fun a1 l _ _ => a1 ≤ 8 * m ∧ l.length ≤ many ∧ OKB l ∧ ∀ r, It (lenF (bitB B 0) (8 * m) C many) a1 l r → It (lenF (bitB B 0) (8 * m) C many) a [] r) (fun a1 _ _ _ => 8 * m - a1) a [] none 0 ⟨ha, Nat.zero_le _, OKB_nil, fun _ h => h⟩ (by repeat (first | exact trivial | refine ⟨rfl, ?_⟩ | refine ⟨lookI rfl (by omega), ?_⟩)) (fun _ h => infL_in (St.nilvec h)) ?_
  intro a1 l p c ⟨ha1, hll, hOl, hinv⟩ again
  by_cases hmany : many ≤ l.length
  · obtain rfl : many = l.length := by omega
    clear again
    repeat (first | (apply gJO; first | (apply kS; refine aK ?_) | (apply kX; refine JO_box rfl rfl rfl ?_; intro _) | (apply kA; refine JO_alloc (tb := tb) rfl rfl ?_; intro _) | (apply kBs; refine JO_buildSlice (tb := tb) rfl rfl rfl rfl rfl rfl rfl rfl rfl ?_; intro _) | (apply kM; refine JO_make (tb := tb) rfl rfl rfl rfl rfl rfl (by omega) rfl ?_; intro _) | refine aO ?_) | (apply gJR; first | apply JR_un | apply JR_nil | refine JR_yes rfl rfl ?_ | refine JR_no rfl rfl rfl rfl ?_ | refine JR_noU rfl rfl rfl ?_) | (apply gJS; first | apply JS_seq | apply JS_region | apply JS_skip | apply JS_block | apply JS_inBlock | apply JS_label | refine JS_exit rfl ?_ | refine JS_condT rfl ?_ | refine JS_condF rfl ?_ | refine JS_draw [0] (by kernel_rfl) (by kernel_rfl) (by decide +kernel) ?_ | refine JS_draw [] (by kernel_rfl) (by kernel_rfl) (by decide +kernel) ?_ | refine JS_cond_T rfl (by omega) ?_ | refine JS_cond_F rfl (by omega) ?_) | (apply gQR; first | apply QR_un | apply QR_nil | refine QR_yes rfl rfl ?_ | refine QR_no rfl rfl rfl rfl ?_ | refine QR_noU rfl rfl rfl ?_) | (apply gQO; first | refine aQ ?_ | refine aQK rfl ?_))
    refine JS_ret Try.func81 rfl rfl ?_
    intro w hw
    exact ⟨.ok a1 l, hinv _ (.stop (by unfold lenF; rw [if_pos (Nat.le_refl _)])), ha1, rfl, hOl, p, c, rfl, hw⟩
  repeat (first | (apply gJO; first | (apply kS; refine aK ?_) | (apply kX; refine JO_box rfl rfl rfl ?_; intro _) | (apply kA; refine JO_alloc (tb := tb) rfl rfl ?_; intro _) | (apply kBs; refine JO_buildSlice (tb := tb) rfl rfl rfl rfl rfl rfl rfl rfl rfl ?_; intro _) | (apply kM; refine JO_make (tb := tb) rfl rfl rfl rfl rfl rfl (by omega) rfl ?_; intro _) | refine aO ?_) | (apply gJR; first | apply JR_un | apply JR_nil | refine JR_yes rfl rfl ?_ | refine JR_no rfl rfl rfl rfl ?_ | refine JR_noU rfl rfl rfl ?_) | (apply gJS; first | apply JS_seq | apply JS_region | apply JS_skip | apply JS_block | apply JS_inBlock | apply JS_label | refine JS_exit rfl ?_ | refine JS_condT rfl ?_ | refine JS_condF rfl ?_ | refine JS_draw [0] (by kernel_rfl) (by kernel_rfl) (by decide +kernel) ?_ | refine JS_draw [] (by kernel_rfl) (by kernel_rfl) (by decide +kernel) ?_ | refine JS_cond_T rfl (by omega) ?_ | refine JS_cond_F rfl (by omega) ?_) | (apply gQR; first | apply QR_un | apply QR_nil | refine QR_yes rfl rfl ?_ | refine QR_no rfl rfl rfl rfl ?_ | refine QR_noU rfl rfl rfl ?_) | (apply gQO; first | refine aQ ?_ | refine aQK rfl ?_))
  refine JO_callE Try.func81 Try.call95 rfl rfl fun A hA w hw => (Sym_c hK a1 ha1 b C (hs.sub (by repeat (first | exact List.Sublist.refl _ | apply List.Sublist.cons))) w hw).mono ?_
  intro e w' h
  unfold symP at h
  cases hsy : symS (bitB B 0) (8 * m) C a1 with
  | err r =>
    rw [hsy] at h
    obtain ⟨rfl, hw'⟩ := h
    exact .inr ⟨_, rfl, .err r, hinv _ (.err (by unfold lenF; rw [if_neg hmany, hsy])), rfl, hw'.drop⟩
  | ok i a2 =>
  rw [hsy] at h
  obtain ⟨hi0, hiC, ha12, ha2, rfl, hw'⟩ := h
  refine .inl ⟨_, rfl, _, hw', ?_⟩
  clear hw' hw w w' hA A
  have hF : lenF (bitB B 0) (8 * m) C many a1 l = if i = 16 then (if l.length = 0 then .err 62 else if 8 * m < a2 + 2 then .err 20 else lenP many l (l.getD (l.length - 1) 0) (3 + nbt (bitB B 0) a2 2) (a2 + 2))
    else if i = 17 then (if 8 * m < a2 + 3 then .err 20 else lenP many l 0 (3 + nbt (bitB B 0) a2 3) (a2 + 3))
    else if i = 18 then (if 8 * m < a2 + 7 then .err 20 else lenP many l 0 (11 + nbt (bitB B 0) a2 7) (a2 + 7))
    else lenP many l i 1 a2 := by unfold lenF; rw [if_neg hmany, hsy]
  repeat (first | (apply gJR; first | (apply gJO; first | (apply kS; refine aK ?_) | (apply kX; refine JO_box rfl rfl rfl ?_; intro _) | (apply kA; refine JO_alloc (tb := tb) rfl rfl ?_; intro _) | (apply kBs; refine JO_buildSlice (tb := tb) rfl rfl rfl rfl rfl rfl rfl rfl rfl ?_; intro _) | (apply kM; refine JO_make (tb := tb) rfl rfl rfl rfl rfl rfl (by omega) rfl ?_; intro _) | refine aO ?_) | (apply gJR; first | apply JR_un | apply JR_nil | refine JR_yes rfl rfl ?_ | refine JR_no rfl rfl rfl rfl ?_ | refine JR_noU rfl rfl rfl ?_) | (apply gJS; first | apply JS_seq | apply JS_region | apply JS_skip | apply JS_block | apply JS_inBlock | apply JS_label | refine JS_exit rfl ?_ | refine JS_condT rfl ?_ | refine JS_condF rfl ?_ | refine JS_draw [0] (by kernel_rfl) (by kernel_rfl) (by decide +kernel) ?_ | refine JS_draw [] (by kernel_rfl) (by kernel_rfl) (by decide +kernel) ?_ | refine JS_cond_T rfl (by omega) ?_ | refine JS_cond_F rfl (by omega) ?_) | (apply gQR; first | apply QR_un | apply QR_nil | refine QR_yes rfl rfl ?_ | refine QR_no rfl rfl rfl rfl ?_ | refine QR_noU rfl rfl rfl ?_) | (apply gQO; first | refine aQ ?_ | refine aQK rfl ?_)) | (apply gJO; first | (apply gJO; first | (apply kS; refine aK ?_) | (apply kX; refine JO_box rfl rfl rfl ?_; intro _) | (apply kA; refine JO_alloc (tb := tb) rfl rfl ?_; intro _) | (apply kBs; refine JO_buildSlice (tb := tb) rfl rfl rfl rfl rfl rfl rfl rfl rfl ?_; intro _) | (apply kM; refine JO_make (tb := tb) rfl rfl rfl rfl rfl rfl (by omega) rfl ?_; intro _) | refine aO ?_) | (apply gJR; first | apply JR_un | apply JR_nil | refine JR_yes rfl rfl ?_ | refine JR_no rfl rfl rfl rfl ?_ | refine JR_noU rfl rfl rfl ?_) | (apply gJS; first | apply JS_seq | apply JS_region | apply JS_skip | apply JS_block | apply JS_inBlock | apply JS_label | refine JS_exit rfl ?_ | refine JS_condT rfl ?_ | refine JS_condF rfl ?_ | refine JS_draw [0] (by kernel_rfl) (by kernel_rfl) (by decide +kernel) ?_ | refine JS_draw [] (by kernel_rfl) (by kernel_rfl) (by decide +kernel) ?_ | refine JS_cond_T rfl (by omega) ?_ | refine JS_cond_F rfl (by omega) ?_) | (apply gQR; first | apply QR_un | apply QR_nil | refine QR_yes rfl rfl ?_ | refine QR_no rfl rfl rfl rfl ?_ | refine QR_noU rfl rfl rfl ?_) | (apply gQO; first | refine aQ ?_ | refine aQK rfl ?_)) | apply JS_seq | apply JS_region)
  rename_i p1
  refine JS_join5 (fun (t : Nat) (x : Int) (pa : Option Addr) (ca : Nat) (a3 : Nat) => [(0, .pointer (some ⟨bf, 0, none⟩)), (1, .pointer (some ⟨b, 0, none⟩)), (2, .int .i64 many), (7, .slice p l.length c), (9, .slice pa t ca)])
    (fun t x pa ca a3 => vec 5 1 (.slice pa t ca) t (ints .u8 (List.replicate t x)) :: infL bf br q d m B lim a3 po co o (vec 5 1 (.slice p l.length c) l.length (ints .u8 l) :: H))
    (fun t x pa ca a3 => t ≤ 1000 ∧ 0 ≤ x ∧ x < 256 ∧ a3 ≤ 8 * m ∧ a1 < a3 ∧ lenF (bitB B 0) (8 * m) C many a1 l = lenP many l x t a3) ?_ ?_
  · clear hF hsy hi0 hiC ha12 ha2 a2 i
    intro t x pa ca a3 ⟨ht, hx0, hx1, ha3, ha13, hF⟩
    unfold lenP at hF
    by_cases h : (many : Int) < l.length + t
    · rw [if_pos h] at hF
      repeat (first | (apply gJO; first | (apply kS; refine aK ?_) | (apply kX; refine JO_box rfl rfl rfl ?_; intro _) | (apply kA; refine JO_alloc (tb := tb) rfl rfl ?_; intro _) | (apply kBs; refine JO_buildSlice (tb := tb) rfl rfl rfl rfl rfl rfl rfl rfl rfl ?_; intro _) | (apply kM; refine JO_make (tb := tb) rfl rfl rfl rfl rfl rfl (by omega) rfl ?_; intro _) | refine aO ?_) | (apply gJR; first | apply JR_un | apply JR_nil | refine JR_yes rfl rfl ?_ | refine JR_no rfl rfl rfl rfl ?_ | refine JR_noU rfl rfl rfl ?_) | (apply gJS; first | apply JS_seq | apply JS_region | apply JS_skip | apply JS_block | apply JS_inBlock | apply JS_label | refine JS_exit rfl ?_ | refine JS_condT rfl ?_ | refine JS_condF rfl ?_ | refine JS_draw [0] (by kernel_rfl) (by kernel_rfl) (by decide +kernel) ?_ | refine JS_draw [] (by kernel_rfl) (by kernel_rfl) (by decide +kernel) ?_ | refine JS_cond_T rfl (by omega) ?_ | refine JS_cond_F rfl (by omega) ?_) | (apply gQR; first | apply QR_un | apply QR_nil | refine QR_yes rfl rfl ?_ | refine QR_no rfl rfl rfl rfl ?_ | refine QR_noU rfl rfl rfl ?_) | (apply gQO; first | refine aQ ?_ | refine aQK rfl ?_))
      refine JO_callE Try.func81 Try.call56 rfl rfl fun A hA w hw => (Give_c 62 w hw).mono ?_
      rintro e w' (⟨h, rfl, hw'⟩ | ⟨_, rfl, hw'⟩)
      · exact absurd h (by decide)
      · exact .inr ⟨_, rfl, .err 62, hinv _ (.err hF), rfl, (infL_drop hw'.drop).drop⟩
    · rw [if_neg h, Int.toNat_natCast] at hF
      repeat (first | (apply gJO; first | (apply kS; refine aK ?_) | (apply kX; refine JO_box rfl rfl rfl ?_; intro _) | (apply kA; refine JO_alloc (tb := tb) rfl rfl ?_; intro _) | (apply kBs; refine JO_buildSlice (tb := tb) rfl rfl rfl rfl rfl rfl rfl rfl rfl ?_; intro _) | (apply kM; refine JO_make (tb := tb) rfl rfl rfl rfl rfl rfl (by omega) rfl ?_; intro _) | refine aO ?_) | (apply gJR; first | apply JR_un | apply JR_nil | refine JR_yes rfl rfl ?_ | refine JR_no rfl rfl rfl rfl ?_ | refine JR_noU rfl rfl rfl ?_) | (apply gJS; first | apply JS_seq | apply JS_region | apply JS_skip | apply JS_block | apply JS_inBlock | apply JS_label | refine JS_exit rfl ?_ | refine JS_condT rfl ?_ | refine JS_condF rfl ?_ | refine JS_draw [0] (by kernel_rfl) (by kernel_rfl) (by decide +kernel) ?_ | refine JS_draw [] (by kernel_rfl) (by kernel_rfl) (by decide +kernel) ?_ | refine JS_cond_T rfl (by omega) ?_ | refine JS_cond_F rfl (by omega) ?_) | (apply gQR; first | apply QR_un | apply QR_nil | refine QR_yes rfl rfl ?_ | refine QR_no rfl rfl rfl rfl ?_ | refine QR_noU rfl rfl rfl ?_) | (apply gQO; first | refine aQ ?_ | refine aQK rfl ?_))
      refine JO_app (tb := tb) rfl rfl rfl rfl rfl rfl (by repeat (first | exact Sel.here _ _ | apply Sel.there)) (vec_rd (List.Mem.head _)) (by rw [ints_len, List.length_replicate]; omega) (by first | exact ints_one | (repeat (first | exact trivial | refine ⟨rfl, ?_⟩))) (by omega) rfl ?_
      intro p2 c2
      repeat (first | (apply gJO; first | (apply kS; refine aK ?_) | (apply kX; refine JO_box rfl rfl rfl ?_; intro _) | (apply kA; refine JO_alloc (tb := tb) rfl rfl ?_; intro _) | (apply kBs; refine JO_buildSlice (tb := tb) rfl rfl rfl rfl rfl rfl rfl rfl rfl ?_; intro _) | (apply kM; refine JO_make (tb := tb) rfl rfl rfl rfl rfl rfl (by omega) rfl ?_; intro _) | refine aO ?_) | (apply gJR; first | apply JR_un | apply JR_nil | refine JR_yes rfl rfl ?_ | refine JR_no rfl rfl rfl rfl ?_ | refine JR_noU rfl rfl rfl ?_) | (apply gJS; first | apply JS_seq | apply JS_region | apply JS_skip | apply JS_block | apply JS_inBlock | apply JS_label | refine JS_exit rfl ?_ | refine JS_condT rfl ?_ | refine JS_condF rfl ?_ | refine JS_draw [0] (by kernel_rfl) (by kernel_rfl) (by decide +kernel) ?_ | refine JS_draw [] (by kernel_rfl) (by kernel_rfl) (by decide +kernel) ?_ | refine JS_cond_T rfl (by omega) ?_ | refine JS_cond_F rfl (by omega) ?_) | (apply gQR; first | apply QR_un | apply QR_nil | refine QR_yes rfl rfl ?_ | refine QR_no rfl rfl rfl rfl ?_ | refine QR_noU rfl rfl rfl ?_) | (apply gQO; first | refine aQ ?_ | refine aQK rfl ?_))
      exact JS_again4 again a3 (l ++ List.replicate t x) p2 c2 ⟨ha3, by rw [List.length_append, List.length_replicate]; omega, OKB_app hOl (OKB_rep ⟨hx0, hx1⟩ t), fun r hr => hinv r (.go hF hr)⟩ (by omega)
        (by rw [List.length_append, List.length_replicate]; exact ⟨rfl, rfl, rfl, rfl, trivial⟩) (fun w hw => by unfold infL; rw [List.length_append, List.length_replicate, ← ints_app]; exact St.sub (by repeat (first | exact List.Sublist.refl _ | apply List.Sublist.cons_cons | apply List.Sublist.cons)) hw)
  · clear again
    intro K
    by_cases h16 : i = 16
    · rw [if_pos h16] at hF
      by_cases hl0 : l.length = 0
      · rw [if_pos hl0] at hF
        repeat (first | (apply gJO; first | (apply kS; refine aK ?_) | (apply kX; refine JO_box rfl rfl rfl ?_; intro _) | (apply kA; refine JO_alloc (tb := tb) rfl rfl ?_; intro _) | (apply kBs; refine JO_buildSlice (tb := tb) rfl rfl rfl rfl rfl rfl rfl rfl rfl ?_; intro _) | (apply kM; refine JO_make (tb := tb) rfl rfl rfl rfl rfl rfl (by omega) rfl ?_; intro _) | refine aO ?_) | (apply gJR; first | apply JR_un | apply JR_nil | refine JR_yes rfl rfl ?_ | refine JR_no rfl rfl rfl rfl ?_ | refine JR_noU rfl rfl rfl ?_) | (apply gJS; first | apply JS_seq | apply JS_region | apply JS_skip | apply JS_block | apply JS_inBlock | apply JS_label | refine JS_exit rfl ?_ | refine JS_condT rfl ?_ | refine JS_condF rfl ?_ | refine JS_draw [0] (by kernel_rfl) (by kernel_rfl) (by decide +kernel) ?_ | refine JS_draw [] (by kernel_rfl) (by kernel_rfl) (by decide +kernel) ?_ | refine JS_cond_T rfl (by omega) ?_ | refine JS_cond_F rfl (by omega) ?_) | (apply gQR; first | apply QR_un | apply QR_nil | refine QR_yes rfl rfl ?_ | refine QR_no rfl rfl rfl rfl ?_ | refine QR_noU rfl rfl rfl ?_) | (apply gQO; first | refine aQ ?_ | refine aQK rfl ?_))
        refine JO_callE Try.func81 Try.call56 rfl rfl fun A hA w hw => (Give_c 62 w hw).mono ?_
        rintro e w' (⟨h, rfl, hw'⟩ | ⟨_, rfl, hw'⟩)
        · exact absurd h (by decide)
        · exact .inr ⟨_, rfl, .err 62, hinv _ (.err hF), rfl, (infL_drop hw'.drop).drop⟩
      rw [if_neg hl0] at hF
      refine JS_fact (fun w hw => (Rd.lcap (vec_rd (e := 5) (size := 1) (v := .slice p l.length c) (n := l.length) (cs := ints .u8 l) (H := vec 5 1 (.slice (some p1) 1 1) 1 (ints .u8 [i]) :: infL bf br q d m B lim a2 po co o (vec 5 1 (.slice p l.length c) l.length (ints .u8 l) :: H)) (by repeat (first | apply List.Mem.head | apply List.Mem.tail))) hw).1) fun hcap => ?_
      repeat (first | (apply gJR; first | (apply gJO; first | (apply kS; refine aK ?_) | (apply kX; refine JO_box rfl rfl rfl ?_; intro _) | (apply kA; refine JO_alloc (tb := tb) rfl rfl ?_; intro _) | (apply kBs; refine JO_buildSlice (tb := tb) rfl rfl rfl rfl rfl rfl rfl rfl rfl ?_; intro _) | (apply kM; refine JO_make (tb := tb) rfl rfl rfl rfl rfl rfl (by omega) rfl ?_; intro _) | refine aO ?_) | (apply gJR; first | apply JR_un | apply JR_nil | refine JR_yes rfl rfl ?_ | refine JR_no rfl rfl rfl rfl ?_ | refine JR_noU rfl rfl rfl ?_) | (apply gJS; first | apply JS_seq | apply JS_region | apply JS_skip | apply JS_block | apply JS_inBlock | apply JS_label | refine JS_exit rfl ?_ | refine JS_condT rfl ?_ | refine JS_condF rfl ?_ | refine JS_draw [0] (by kernel_rfl) (by kernel_rfl) (by decide +kernel) ?_ | refine JS_draw [] (by kernel_rfl) (by kernel_rfl) (by decide +kernel) ?_ | refine JS_cond_T rfl (by omega) ?_ | refine JS_cond_F rfl (by omega) ?_) | (apply gQR; first | apply QR_un | apply QR_nil | refine QR_yes rfl rfl ?_ | refine QR_no rfl rfl rfl rfl ?_ | refine QR_noU rfl rfl rfl ?_) | (apply gQO; first | refine aQ ?_ | refine aQK rfl ?_)) | (apply gJO; first | (apply gJO; first | (apply kS; refine aK ?_) | (apply kX; refine JO_box rfl rfl rfl ?_; intro _) | (apply kA; refine JO_alloc (tb := tb) rfl rfl ?_; intro _) | (apply kBs; refine JO_buildSlice (tb := tb) rfl rfl rfl rfl rfl rfl rfl rfl rfl ?_; intro _) | (apply kM; refine JO_make (tb := tb) rfl rfl rfl rfl rfl rfl (by omega) rfl ?_; intro _) | refine aO ?_) | (apply gJR; first | apply JR_un | apply JR_nil | refine JR_yes rfl rfl ?_ | refine JR_no rfl rfl rfl rfl ?_ | refine JR_noU rfl rfl rfl ?_) | (apply gJS; first | apply JS_seq | apply JS_region | apply JS_skip | apply JS_block | apply JS_inBlock | apply JS_label | refine JS_exit rfl ?_ | refine JS_condT rfl ?_ | refine JS_condF rfl ?_ | refine JS_draw [0] (by kernel_rfl) (by kernel_rfl) (by decide +kernel) ?_ | refine JS_draw [] (by kernel_rfl) (by kernel_rfl) (by decide +kernel) ?_ | refine JS_cond_T rfl (by omega) ?_ | refine JS_cond_F rfl (by omega) ?_) | (apply gQR; first | apply QR_un | apply QR_nil | refine QR_yes rfl rfl ?_ | refine QR_no rfl rfl rfl rfl ?_ | refine QR_noU rfl rfl rfl ?_) | (apply gQO; first | refine aQ ?_ | refine aQK rfl ?_)) | apply JS_seq | apply JS_region | apply JS_block | refine JS_condT rfl ?_ | refine JS_condF rfl ?_ | apply JS_skip)
      refine JS_order2 (vec 5 1 (.slice p l.length c) l.length (ints .u8 l) :: H) [0, 1, 2, 3, 4, 5, 6, 7, 8, 9] [] (fun w hw => St.sub (by repeat (first | exact List.Sublist.refl _ | apply List.Sublist.cons_cons | apply List.Sublist.cons)) hw) (Picks.cons rfl (Picks.cons rfl (Picks.cons rfl (Picks.cons rfl (Picks.cons rfl (Picks.cons rfl (Picks.cons rfl (Picks.cons rfl (Picks.cons rfl (Picks.cons rfl (Picks.nil))))))))))) (by kernel_rfl) (by kernel_rfl) rfl (by decide +kernel) ?_
      repeat (first | (apply gQR2; apply QR2_un) | (apply gQO2; first | refine QO2_v rfl (V_slice (tb := tb) (lo := l.length - 1) (hi := l.length) rfl rfl rfl rfl rfl (by omega) (by omega) (fun w hw => ⟨by omega, hcap⟩) rfl) ?_ | refine aQ2 ?_))
      have e1 : l.length - (l.length - 1) = 1 := by omega
      simp only [e1]
      refine QO2_callE Try.call55 rfl rfl fun w hw => (Grp_c hK a2 2 (by omega) ha2 w (infL_in hw)).mono ?_
      rintro e w' (⟨h, rfl, hw'⟩ | ⟨h1, he, hw'⟩)
      · exact .inr ⟨_, rfl, QK_e Try.func81 ⟨.err 20, hinv _ (.err (by rw [hF, if_pos h])), rfl, hw'.drop.drop⟩⟩
      rw [if_neg (by omega)] at hF
      obtain ⟨n, hn⟩ := Int.eq_ofNat_of_zero_le (nbt_bd (bitB B 0) (bitB_01 B 0) a2 2).1
      have hn1 := (nbt_bd (bitB B 0) (bitB_01 B 0) a2 2).2
      rw [hn] at he hn1 hF
      subst he
      have hn2 : (n : Int) < 4 := hn1
      refine .inl ⟨_, rfl, vec 5 1 (.slice p l.length c) l.length (ints .u8 l) :: H, _, hw', fun w hw => St.sub (by repeat (first | exact List.Sublist.refl _ | apply List.Sublist.cons_cons | apply List.Sublist.cons)) hw, .inl fun w hw => hw, ?_⟩
      clear hw' hw w w'
      repeat (first | (apply gQR2; apply QR2_un) | (apply gQO2; refine aQ2 ?_))
      have hlst := hOl (l.length - 1)
      have hsub := Rd_sub (lo := l.length - 1) (hi := l.length) (sz := 1) (vec_rd (w0 := w0) (e := 5) (size := 1) (v := .slice p l.length c) (n := l.length) (cs := ints .u8 l) (H := infL bf br q d m B lim (a2 + 2) po co o (vec 5 1 (.slice (some p1) 1 1) 1 (ints .u8 [i]) :: vec 5 1 (.slice p l.length c) l.length (ints .u8 l) :: H)) (by repeat (first | apply List.Mem.head | apply List.Mem.tail))) (by omega) (by omega)
      rw [e1, show ((ints .u8 l).drop ((l.length - 1) * 1)).take (1 * 1) = ints .u8 [l.getD (l.length - 1) 0] by
        rw [Nat.mul_one, Nat.mul_one, ints_drop, ints_take]
        rw [last1 hl0]] at hsub
      refine QO2_callE Try.call63 rfl rfl fun w hw => (Repeat1_c _ _ (3 + n) hsub ⟨_, _, rfl⟩ (by omega) w hw).mono ?_
      rintro e w' ⟨p2, c2, rfl, hw'⟩
      refine .inl ⟨_, rfl, vec 5 1 (.slice p l.length c) l.length (ints .u8 l) :: H, _, hw', fun w hw => St.sub (by repeat (first | exact List.Sublist.refl _ | apply List.Sublist.cons_cons | apply List.Sublist.cons)) hw, .inl fun w hw => hw, ?_⟩
      clear hw' hw w w'
      repeat (first | (apply gQR2; first | apply QR2_un | apply QR2_nil) | (apply gQO2; refine aQ2 ?_))
      apply JS_inBlock
      exact JS_to5 K (3 + n) (l.getD (l.length - 1) 0) p2 c2 (a2 + 2) ⟨by omega, hlst.1, hlst.2, h1, by omega, hF⟩ (by repeat (first | exact trivial | refine ⟨rfl, ?_⟩ | refine ⟨lookI rfl (by omega), ?_⟩)) (fun w hw => St.sub (by repeat (first | exact List.Sublist.refl _ | apply List.Sublist.cons_cons | apply List.Sublist.cons)) hw)
    rw [if_neg h16] at hF
    by_cases h17 : i = 17
    · rw [if_pos h17] at hF
      repeat (first | (apply gJO; first | (apply kS; refine aK ?_) | (apply kX; refine JO_box rfl rfl rfl ?_; intro _) | (apply kA; refine JO_alloc (tb := tb) rfl rfl ?_; intro _) | (apply kBs; refine JO_buildSlice (tb := tb) rfl rfl rfl rfl rfl rfl rfl rfl rfl ?_; intro _) | (apply kM; refine JO_make (tb := tb) rfl rfl rfl rfl rfl rfl (by omega) rfl ?_; intro _) | refine aO ?_) | (apply gJR; first | apply JR_un | apply JR_nil | refine JR_yes rfl rfl ?_ | refine JR_no rfl rfl rfl rfl ?_ | refine JR_noU rfl rfl rfl ?_) | (apply gJS; first | apply JS_seq | apply JS_region | apply JS_skip | apply JS_block | apply JS_inBlock | apply JS_label | refine JS_exit rfl ?_ | refine JS_condT rfl ?_ | refine JS_condF rfl ?_ | refine JS_draw [0] (by kernel_rfl) (by kernel_rfl) (by decide +kernel) ?_ | refine JS_draw [] (by kernel_rfl) (by kernel_rfl) (by decide +kernel) ?_ | refine JS_cond_T rfl (by omega) ?_ | refine JS_cond_F rfl (by omega) ?_) | (apply gQR; first | apply QR_un | apply QR_nil | refine QR_yes rfl rfl ?_ | refine QR_no rfl rfl rfl rfl ?_ | refine QR_noU rfl rfl rfl ?_) | (apply gQO; first | refine aQ ?_ | refine aQK rfl ?_))
      refine JO_callE Try.func81 Try.call55 rfl rfl fun A hA w hw => (Grp_c hK a2 3 (by omega) ha2 w (infL_in hw)).mono ?_
      rintro e w' (⟨h, rfl, hw'⟩ | ⟨h1, he, hw'⟩)
      · exact .inr ⟨_, rfl, .err 20, hinv _ (.err (by rw [hF, if_pos h])), rfl, hw'.drop.drop⟩
      rw [if_neg (by omega)] at hF
      obtain ⟨n, hn⟩ := Int.eq_ofNat_of_zero_le (nbt_bd (bitB B 0) (bitB_01 B 0) a2 3).1
      have hn1 := (nbt_bd (bitB B 0) (bitB_01 B 0) a2 3).2
      rw [hn] at he hn1 hF
      subst he
      have hn2 : (n : Int) < 8 := hn1
      refine .inl ⟨_, rfl, _, hw', ?_⟩
      clear hw' hw w w' hA A
      repeat (first | (apply gJR; first | (apply gJO; first | (apply kS; refine aK ?_) | (apply kX; refine JO_box rfl rfl rfl ?_; intro _) | (apply kA; refine JO_alloc (tb := tb) rfl rfl ?_; intro _) | (apply kBs; refine JO_buildSlice (tb := tb) rfl rfl rfl rfl rfl rfl rfl rfl rfl ?_; intro _) | (apply kM; refine JO_make (tb := tb) rfl rfl rfl rfl rfl rfl (by omega) rfl ?_; intro _) | refine aO ?_) | (apply gJR; first | apply JR_un | apply JR_nil | refine JR_yes rfl rfl ?_ | refine JR_no rfl rfl rfl rfl ?_ | refine JR_noU rfl rfl rfl ?_) | (apply gJS; first | apply JS_seq | apply JS_region | apply JS_skip | apply JS_block | apply JS_inBlock | apply JS_label | refine JS_exit rfl ?_ | refine JS_condT rfl ?_ | refine JS_condF rfl ?_ | refine JS_draw [0] (by kernel_rfl) (by kernel_rfl) (by decide +kernel) ?_ | refine JS_draw [] (by kernel_rfl) (by kernel_rfl) (by decide +kernel) ?_ | refine JS_cond_T rfl (by omega) ?_ | refine JS_cond_F rfl (by omega) ?_) | (apply gQR; first | apply QR_un | apply QR_nil | refine QR_yes rfl rfl ?_ | refine QR_no rfl rfl rfl rfl ?_ | refine QR_noU rfl rfl rfl ?_) | (apply gQO; first | refine aQ ?_ | refine aQK rfl ?_)) | (apply gJO; first | (apply gJO; first | (apply kS; refine aK ?_) | (apply kX; refine JO_box rfl rfl rfl ?_; intro _) | (apply kA; refine JO_alloc (tb := tb) rfl rfl ?_; intro _) | (apply kBs; refine JO_buildSlice (tb := tb) rfl rfl rfl rfl rfl rfl rfl rfl rfl ?_; intro _) | (apply kM; refine JO_make (tb := tb) rfl rfl rfl rfl rfl rfl (by omega) rfl ?_; intro _) | refine aO ?_) | (apply gJR; first | apply JR_un | apply JR_nil | refine JR_yes rfl rfl ?_ | refine JR_no rfl rfl rfl rfl ?_ | refine JR_noU rfl rfl rfl ?_) | (apply gJS; first | apply JS_seq | apply JS_region | apply JS_skip | apply JS_block | apply JS_inBlock | apply JS_label | refine JS_exit rfl ?_ | refine JS_condT rfl ?_ | refine JS_condF rfl ?_ | refine JS_draw [0] (by kernel_rfl) (by kernel_rfl) (by decide +kernel) ?_ | refine JS_draw [] (by kernel_rfl) (by kernel_rfl) (by decide +kernel) ?_ | refine JS_cond_T rfl (by omega) ?_ | refine JS_cond_F rfl (by omega) ?_) | (apply gQR; first | apply QR_un | apply QR_nil | refine QR_yes rfl rfl ?_ | refine QR_no rfl rfl rfl rfl ?_ | refine QR_noU rfl rfl rfl ?_) | (apply gQO; first | refine aQ ?_ | refine aQK rfl ?_)))
      rename_i p2
      apply JS_inBlock
      exact JS_to5 K (3 + n) 0 (some p2) (3 + n) (a2 + 3) ⟨by omega, by omega, by omega, h1, by omega, hF⟩ (by repeat (first | exact trivial | refine ⟨rfl, ?_⟩ | refine ⟨lookI rfl (by omega), ?_⟩)) (fun w hw => by rw [← ints_rep]; exact St.sub (by repeat (first | exact List.Sublist.refl _ | apply List.Sublist.cons_cons | apply List.Sublist.cons)) hw)
    rw [if_neg h17] at hF
    by_cases h18 : i = 18
    · rw [if_pos h18] at hF
      repeat (first | (apply gJO; first | (apply kS; refine aK ?_) | (apply kX; refine JO_box rfl rfl rfl ?_; intro _) | (apply kA; refine JO_alloc (tb := tb) rfl rfl ?_; intro _) | (apply kBs; refine JO_buildSlice (tb := tb) rfl rfl rfl rfl rfl rfl rfl rfl rfl ?_; intro _) | (apply kM; refine JO_make (tb := tb) rfl rfl rfl rfl rfl rfl (by omega) rfl ?_; intro _) | refine aO ?_) | (apply gJR; first | apply JR_un | apply JR_nil | refine JR_yes rfl rfl ?_ | refine JR_no rfl rfl rfl rfl ?_ | refine JR_noU rfl rfl rfl ?_) | (apply gJS; first | apply JS_seq | apply JS_region | apply JS_skip | apply JS_block | apply JS_inBlock | apply JS_label | refine JS_exit rfl ?_ | refine JS_condT rfl ?_ | refine JS_condF rfl ?_ | refine JS_draw [0] (by kernel_rfl) (by kernel_rfl) (by decide +kernel) ?_ | refine JS_draw [] (by kernel_rfl) (by kernel_rfl) (by decide +kernel) ?_ | refine JS_cond_T rfl (by omega) ?_ | refine JS_cond_F rfl (by omega) ?_) | (apply gQR; first | apply QR_un | apply QR_nil | refine QR_yes rfl rfl ?_ | refine QR_no rfl rfl rfl rfl ?_ | refine QR_noU rfl rfl rfl ?_) | (apply gQO; first | refine aQ ?_ | refine aQK rfl ?_))
      refine JO_callE Try.func81 Try.call55 rfl rfl fun A hA w hw => (Grp_c hK a2 7 (by omega) ha2 w (infL_in hw)).mono ?_
      rintro e w' (⟨h, rfl, hw'⟩ | ⟨h1, he, hw'⟩)
      · exact .inr ⟨_, rfl, .err 20, hinv _ (.err (by rw [hF, if_pos h])), rfl, hw'.drop.drop⟩
      rw [if_neg (by omega)] at hF
      obtain ⟨n, hn⟩ := Int.eq_ofNat_of_zero_le (nbt_bd (bitB B 0) (bitB_01 B 0) a2 7).1
      have hn1 := (nbt_bd (bitB B 0) (bitB_01 B 0) a2 7).2
      rw [hn] at he hn1 hF
      subst he
      have hn2 : (n : Int) < 128 := hn1
      refine .inl ⟨_, rfl, _, hw', ?_⟩
      clear hw' hw w w' hA A
      repeat (first | (apply gJR; first | (apply gJO; first | (apply kS; refine aK ?_) | (apply kX; refine JO_box rfl rfl rfl ?_; intro _) | (apply kA; refine JO_alloc (tb := tb) rfl rfl ?_; intro _) | (apply kBs; refine JO_buildSlice (tb := tb) rfl rfl rfl rfl rfl rfl rfl rfl rfl ?_; intro _) | (apply kM; refine JO_make (tb := tb) rfl rfl rfl rfl rfl rfl (by omega) rfl ?_; intro _) | refine aO ?_) | (apply gJR; first | apply JR_un | apply JR_nil | refine JR_yes rfl rfl ?_ | refine JR_no rfl rfl rfl rfl ?_ | refine JR_noU rfl rfl rfl ?_) | (apply gJS; first | apply JS_seq | apply JS_region | apply JS_skip | apply JS_block | apply JS_inBlock | apply JS_label | refine JS_exit rfl ?_ | refine JS_condT rfl ?_ | refine JS_condF rfl ?_ | refine JS_draw [0] (by kernel_rfl) (by kernel_rfl) (by decide +kernel) ?_ | refine JS_draw [] (by kernel_rfl) (by kernel_rfl) (by decide +kernel) ?_ | refine JS_cond_T rfl (by omega) ?_ | refine JS_cond_F rfl (by omega) ?_) | (apply gQR; first | apply QR_un | apply QR_nil | refine QR_yes rfl rfl ?_ | refine QR_no rfl rfl rfl rfl ?_ | refine QR_noU rfl rfl rfl ?_) | (apply gQO; first | refine aQ ?_ | refine aQK rfl ?_)) | (apply gJO; first | (apply gJO; first | (apply kS; refine aK ?_) | (apply kX; refine JO_box rfl rfl rfl ?_; intro _) | (apply kA; refine JO_alloc (tb := tb) rfl rfl ?_; intro _) | (apply kBs; refine JO_buildSlice (tb := tb) rfl rfl rfl rfl rfl rfl rfl rfl rfl ?_; intro _) | (apply kM; refine JO_make (tb := tb) rfl rfl rfl rfl rfl rfl (by omega) rfl ?_; intro _) | refine aO ?_) | (apply gJR; first | apply JR_un | apply JR_nil | refine JR_yes rfl rfl ?_ | refine JR_no rfl rfl rfl rfl ?_ | refine JR_noU rfl rfl rfl ?_) | (apply gJS; first | apply JS_seq | apply JS_region | apply JS_skip | apply JS_block | apply JS_inBlock | apply JS_label | refine JS_exit rfl ?_ | refine JS_condT rfl ?_ | refine JS_condF rfl ?_ | refine JS_draw [0] (by kernel_rfl) (by kernel_rfl) (by decide +kernel) ?_ | refine JS_draw [] (by kernel_rfl) (by kernel_rfl) (by decide +kernel) ?_ | refine JS_cond_T rfl (by omega) ?_ | refine JS_cond_F rfl (by omega) ?_) | (apply gQR; first | apply QR_un | apply QR_nil | refine QR_yes rfl rfl ?_ | refine QR_no rfl rfl rfl rfl ?_ | refine QR_noU rfl rfl rfl ?_) | (apply gQO; first | refine aQ ?_ | refine aQK rfl ?_)))
      rename_i p2
      apply JS_inBlock
      exact JS_to5 K (11 + n) 0 (some p2) (11 + n) (a2 + 7) ⟨by omega, by omega, by omega, h1, by omega, hF⟩ (by repeat (first | exact trivial | refine ⟨rfl, ?_⟩ | refine ⟨lookI rfl (by omega), ?_⟩)) (fun w hw => by rw [← ints_rep]; exact St.sub (by repeat (first | exact List.Sublist.refl _ | apply List.Sublist.cons_cons | apply List.Sublist.cons)) hw)
    rw [if_neg h18] at hF
    repeat (first | (apply gJR; first | (apply gJO; first | (apply kS; refine aK ?_) | (apply kX; refine JO_box rfl rfl rfl ?_; intro _) | (apply kA; refine JO_alloc (tb := tb) rfl rfl ?_; intro _) | (apply kBs; refine JO_buildSlice (tb := tb) rfl rfl rfl rfl rfl rfl rfl rfl rfl ?_; intro _) | (apply kM; refine JO_make (tb := tb) rfl rfl rfl rfl rfl rfl (by omega) rfl ?_; intro _) | refine aO ?_) | (apply gJR; first | apply JR_un | apply JR_nil | refine JR_yes rfl rfl ?_ | refine JR_no rfl rfl rfl rfl ?_ | refine JR_noU rfl rfl rfl ?_) | (apply gJS; first | apply JS_seq | apply JS_region | apply JS_skip | apply JS_block | apply JS_inBlock | apply JS_label | refine JS_exit rfl ?_ | refine JS_condT rfl ?_ | refine JS_condF rfl ?_ | refine JS_draw [0] (by kernel_rfl) (by kernel_rfl) (by decide +kernel) ?_ | refine JS_draw [] (by kernel_rfl) (by kernel_rfl) (by decide +kernel) ?_ | refine JS_cond_T rfl (by omega) ?_ | refine JS_cond_F rfl (by omega) ?_) | (apply gQR; first | apply QR_un | apply QR_nil | refine QR_yes rfl rfl ?_ | refine QR_no rfl rfl rfl rfl ?_ | refine QR_noU rfl rfl rfl ?_) | (apply gQO; first | refine aQ ?_ | refine aQK rfl ?_)) | (apply gJO; first | (apply gJO; first | (apply kS; refine aK ?_) | (apply kX; refine JO_box rfl rfl rfl ?_; intro _) | (apply kA; refine JO_alloc (tb := tb) rfl rfl ?_; intro _) | (apply kBs; refine JO_buildSlice (tb := tb) rfl rfl rfl rfl rfl rfl rfl rfl rfl ?_; intro _) | (apply kM; refine JO_make (tb := tb) rfl rfl rfl rfl rfl rfl (by omega) rfl ?_; intro _) | refine aO ?_) | (apply gJR; first | apply JR_un | apply JR_nil | refine JR_yes rfl rfl ?_ | refine JR_no rfl rfl rfl rfl ?_ | refine JR_noU rfl rfl rfl ?_) | (apply gJS; first | apply JS_seq | apply JS_region | apply JS_skip | apply JS_block | apply JS_inBlock | apply JS_label | refine JS_exit rfl ?_ | refine JS_condT rfl ?_ | refine JS_condF rfl ?_ | refine JS_draw [0] (by kernel_rfl) (by kernel_rfl) (by decide +kernel) ?_ | refine JS_draw [] (by kernel_rfl) (by kernel_rfl) (by decide +kernel) ?_ | refine JS_cond_T rfl (by omega) ?_ | refine JS_cond_F rfl (by omega) ?_) | (apply gQR; first | apply QR_un | apply QR_nil | refine QR_yes rfl rfl ?_ | refine QR_no rfl rfl rfl rfl ?_ | refine QR_noU rfl rfl rfl ?_) | (apply gQO; first | refine aQ ?_ | refine aQK rfl ?_)) | apply JS_seq | apply JS_region | apply JS_block | refine JS_condF rfl ?_ | apply JS_skip)
    apply JS_inBlock
    exact JS_to5 K 1 i (some p1) 1 a2 ⟨by omega, hi0, by omega, ha2, ha12, hF⟩ (by repeat (first | exact trivial | refine ⟨rfl, ?_⟩ | refine ⟨lookI rfl (by omega), ?_⟩)) (fun w hw => hw)
end
end Go.Proofs.Ytakgoflfcgofdaa
