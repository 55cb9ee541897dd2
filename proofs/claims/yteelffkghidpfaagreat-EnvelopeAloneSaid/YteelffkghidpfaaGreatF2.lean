import Derived.DeepKeys4
import Derived.Test.YteelffkghidpfaaGreatF1
namespace Go.Proofs.YteelffkghidpfaaGreat
open Sx Go
set_option linter.unusedVariables false
set_option maxRecDepth 10000
set_option linter.unusedSimpArgs false
def grt (f : Int → Int × Int) (a n : Int) : Nat → Int × Int × Int
  | 0 => (0, 0, 0)
  | k + 1 => if (f (a + k)).1 ≤ n then (a + k, (f (a + k)).2, n - (f (a + k)).1) else grt f a n k
def pk (f : Int → Int × Int) (a n : Int) : Nat → Int
  | 0 => a
  | k + 1 => if (f (a + k)).1 ≤ n then a + k else pk f a n k
theorem pk_bd (f : Int → Int × Int) (a n : Int) : ∀ k : Nat, a ≤ pk f a n k ∧ (pk f a n k = a ∨ pk f a n k < a + k)
  | 0 => ⟨Int.le_refl _, .inl rfl⟩
  | k + 1 => by
    obtain ⟨h1, h2⟩ := pk_bd f a n k
    unfold pk
    split
    · exact ⟨by omega, .inr (by omega)⟩
    · exact ⟨h1, h2.imp id fun h => by omega⟩
theorem pk_le (f : Int → Int × Int) (a n : Int) (h : (f a).1 ≤ n) : ∀ k : Nat, (f (pk f a n k)).1 ≤ n
  | 0 => h
  | k + 1 => by
    unfold pk
    split
    · assumption
    · exact pk_le f a n h k
theorem grt_pk (f : Int → Int × Int) (a n : Int) (h : (f a).1 ≤ n) : ∀ k : Nat, grt f a n (k + 1) = (pk f a n (k + 1), (f (pk f a n (k + 1))).2, n - (f (pk f a n (k + 1))).1)
  | 0 => by
    have e : a + ((0 : Nat) : Int) = a := by omega
    have e1 : grt f a n (0 + 1) = (a, (f a).2, n - (f a).1) := by rw [grt, e, if_pos h]
    have e2 : pk f a n (0 + 1) = a := by rw [pk, e, if_pos h]
    rw [e1, e2]
  | k + 1 => by
    rw [grt, pk]
    split
    · rfl
    · exact grt_pk f a n h k
def lenS (n : Int) : Int × Int × Int := if n < 3 ∨ 258 < n then (0, 0, 0) else grt lbase 257 n 29
def spanS (n : Int) : Int × Int × Int := if n < 1 ∨ 32768 < n then (-1, 0, 0) else grt lfar 0 n 30
section
variable {w0 : World} {H : List Asn}
theorem Greatest_c (q : Nat) (f : Int → Int × Int) (hc : ∀ args w, (callFunc q args).run Tryz.prog w = .ok (.enter q args) w)
    (hq : ∀ s, 0 ≤ s ∧ s ≤ 1000 → ∀ w, St w0 H w → Calls Tryz.prog q #[.int .i64 s] w fun e w' => e = .returned (.tuple #[.int .i64 (f s).1, .int .i64 (f s).2]) ∧ St w0 H w')
    (a : Int) (K : Nat) (ha : 0 ≤ a ∧ a ≤ 300) (hK : K ≤ 300) (hf : ∀ i : Nat, i < K → 0 ≤ (f (a + i)).1) (n : Int) (hn : 0 ≤ n ∧ n ≤ 1000000) (w : World) (hw : St w0 H w) :
    Calls Tryz.prog 241 #[.int .i64 a, .int .i64 (a + K - 1), .int .i64 n, .func (.func q) #[] #[]] w fun e w' => e = .returned (.tuple #[.int .i64 (grt f a n K).1, .int .i64 (grt f a n K).2.1, .int .i64 (grt f a n K).2.2]) ∧ St w0 H w' := by
  refine enter (vs := [.int .i64 a, .int .i64 (a + K - 1), .int .i64 n, .func (.func q) #[] #[]]) Tryz.func241 rfl rfl rfl hw ?_
  repeat (refine sx ?_; try intro _)
  refine JS_loop1 (fun (k : Nat) => [(0, .int .i64 a), (2, .int .i64 n), (3, .func (.func q) #[] #[]), (11, .int .i64 (a + k - 1))]) (fun _ => H) (fun k => k ≤ K ∧ grt f a n K = grt f a n k) (fun k => k) K ⟨Nat.le_refl _, rfl⟩ (by repeat (first | exact trivial | refine ⟨rfl, ?_⟩ | refine ⟨lookI rfl (by omega), ?_⟩)) (fun _ h => h) ?_
  intro k ⟨hk, he⟩ again
  cases k with
  | zero =>
    clear again
    simp only [Int.natCast_zero]
    repeat (refine sx ?_; try intro _)
    exact JS_ret Tryz.func241 rfl rfl fun w hw => ⟨by rw [he]; rfl, hw⟩
  | succ k =>
    have hfk := hf k (by omega)
    have e1 : a + ((k + 1 : Nat) : Int) - 1 = a + k := by omega
    rw [e1]
    repeat (refine sx ?_; try intro _)
    refine JO_callv (us := []) (cs := []) rfl hc rfl rfl fun w hw => (hq (a + k) (by omega) w hw).mono ?_
    rintro e w' ⟨rfl, hw'⟩
    refine ⟨_, rfl, _, hw', ?_⟩
    clear hw' hw w w'
    by_cases hle : (f (a + k)).1 ≤ n
    · repeat (refine sx ?_; try intro _)
      refine JS_ret Tryz.func241 rfl rfl fun w hw => ⟨?_, hw⟩
      rw [he, grt, if_pos hle]
      rfl
    · repeat (refine sx ?_; try intro _)
      exact JS_again1 again k ⟨by omega, by rw [he, grt, if_neg hle]⟩ (by omega) (by repeat (first | exact trivial | refine ⟨rfl, ?_⟩ | refine ⟨lookI rfl (by omega), ?_⟩)) (fun w hw => hw)
theorem lbase_nn (i : Nat) (h : i < 29) : 0 ≤ (lbase (257 + i)).1 := by
  have : ∀ i : Fin 29, 0 ≤ (lbase (257 + (i.val : Int))).1 := by decide +kernel
  exact this ⟨i, h⟩
theorem lfar_nn (i : Nat) (h : i < 30) : 0 ≤ (lfar (0 + i)).1 := by
  have : ∀ i : Fin 30, 0 ≤ (lfar (0 + (i.val : Int))).1 := by decide +kernel
  exact this ⟨i, h⟩
theorem TLength_c (n : Int) (w : World) (hw : St w0 H w) :
    Calls Tryz.prog 220 #[.int .i64 n] w fun e w' => e = .returned (.tuple #[.int .i64 (lenS n).1, .int .i64 (lenS n).2.1, .int .i64 (lenS n).2.2]) ∧ St w0 H w' := by
  refine enter (vs := [.int .i64 n]) Tryz.func220 rfl rfl rfl hw ?_
  unfold lenS
  by_cases h1 : n < 3
  · rw [if_pos (.inl h1)]
    repeat (refine sx ?_; try intro _)
    exact JS_ret Tryz.func220 rfl rfl fun w hw => ⟨rfl, hw⟩
  by_cases h2 : 258 < n
  · rw [if_pos (.inr h2)]
    repeat (refine sx ?_; try intro _)
    exact JS_ret Tryz.func220 rfl rfl fun w hw => ⟨rfl, hw⟩
  rw [if_neg (by omega)]
  repeat (refine sx ?_; try intro _)
  refine JO_call Tryz.call241 rfl rfl fun w hw => (Greatest_c 242 lbase Tryz.call242 (fun s hs w hw => Base_c s (by omega) w hw) 257 29 (by omega) (by omega) lbase_nn n (by omega) w hw).mono ?_
  rintro e w' ⟨rfl, hw'⟩
  refine ⟨_, rfl, _, hw', ?_⟩
  clear hw' hw w w'
  repeat (refine sx ?_; try intro _)
  exact JS_ret Tryz.func220 rfl rfl fun w hw => ⟨rfl, hw⟩
theorem Span_c (n : Int) (w : World) (hw : St w0 H w) :
    Calls Tryz.prog 221 #[.int .i64 n] w fun e w' => e = .returned (.tuple #[.int .i64 (spanS n).1, .int .i64 (spanS n).2.1, .int .i64 (spanS n).2.2]) ∧ St w0 H w' := by
  refine enter (vs := [.int .i64 n]) Tryz.func221 rfl rfl rfl hw ?_
  unfold spanS
  by_cases h1 : n < 1
  · rw [if_pos (.inl h1)]
    repeat (refine sx ?_; try intro _)
    exact JS_ret Tryz.func221 rfl rfl fun w hw => ⟨rfl, hw⟩
  by_cases h2 : 32768 < n
  · rw [if_pos (.inr h2)]
    repeat (refine sx ?_; try intro _)
    exact JS_ret Tryz.func221 rfl rfl fun w hw => ⟨rfl, hw⟩
  rw [if_neg (by omega)]
  repeat (refine sx ?_; try intro _)
  refine JO_call Tryz.call241 rfl rfl fun w hw => (Greatest_c 243 lfar Tryz.call243 (fun s hs w hw => Far_c s (by omega) w hw) 0 30 (by omega) (by omega) lfar_nn n (by omega) w hw).mono ?_
  rintro e w' ⟨rfl, hw'⟩
  refine ⟨_, rfl, _, hw', ?_⟩
  clear hw' hw w w'
  repeat (refine sx ?_; try intro _)
  exact JS_ret Tryz.func221 rfl rfl fun w hw => ⟨rfl, hw⟩
theorem RLength_c (n : Int) (hn : -9223372036854775808 ≤ n ∧ n < 9223372036854775808) (w : World) (hw : St w0 H w) :
    Calls Tryz.prog 172 #[.int .i64 n] w fun e w' => e = .returned (.tuple #[.int .i64 (lenS n).1, .int .i64 (lenS n).2.1, .int .i64 (lenS n).2.2]) ∧ St w0 H w' := by
  refine enter (vs := [.int .i64 n]) Tryz.func172 rfl rfl rfl hw ?_
  unfold lenS
  by_cases h1 : n < 3
  · rw [if_pos (.inl h1)]
    repeat (refine sx ?_; try intro _)
    exact JS_ret Tryz.func172 rfl rfl fun w hw => ⟨rfl, hw⟩
  by_cases h2 : 258 < n
  · rw [if_pos (.inr h2)]
    repeat (refine sx ?_; try intro _)
    exact JS_ret Tryz.func172 rfl rfl fun w hw => ⟨rfl, hw⟩
  rw [if_neg (by omega)]
  have hL : lbase (257 + (28 : Nat)) = (258, 0) := by decide +kernel
  by_cases h3 : n = 258
  · subst h3
    repeat (refine sx ?_; try intro _)
    refine JS_ret Tryz.func172 rfl rfl fun w hw => ⟨?_, hw⟩
    rw [grt, if_pos (by rw [hL]; decide), hL]; rfl
  have hg : grt lbase 257 n 29 = (pk lbase 257 n 28, (lbase (pk lbase 257 n 28)).2, n - (lbase (pk lbase 257 n 28)).1) := by
    rw [grt, if_neg (by rw [hL]; simp only []; omega)]
    exact grt_pk lbase 257 n (by rw [show lbase 257 = (3, 0) by decide +kernel]; simp only []; omega) 27
  have hle := pk_le lbase 257 n (by rw [show lbase 257 = (3, 0) by decide +kernel]; simp only []; omega) 28
  obtain ⟨b1, b2⟩ := pk_bd lbase 257 n 28
  have hnn : 0 ≤ (lbase (pk lbase 257 n 28)).1 := by
    have := lbase_nn (pk lbase 257 n 28 - 257).toNat (by omega)
    rwa [show (257 : Int) + ((pk lbase 257 n 28 - 257).toNat : Int) = pk lbase 257 n 28 by omega] at this
  rw [hg]
  repeat (refine sx ?_; try intro _)
  refine JS_loop1 (fun (k : Nat) => [(0, .int .i64 n), (5, .int .i64 (pk lbase 257 n k)), (6, .int .i64 (257 + k))]) (fun _ => H) (fun k => k ≤ 28) (fun k => 28 - k) 0 (by omega) (by repeat (first | exact trivial | refine ⟨rfl, ?_⟩ | refine ⟨lookI rfl (by omega), ?_⟩)) (fun _ h => h) ?_
  intro k hk again
  by_cases h28 : k < 28
  · repeat (refine sx ?_; try intro _)
    refine JO_call Tryz.call181 rfl rfl fun w hw => (RBase_c (257 + k) (by omega) w hw).mono ?_
    rintro e w' ⟨rfl, hw'⟩
    refine ⟨_, rfl, _, hw', ?_⟩
    clear hw' hw w w'
    have hcast : (257 + (k : Int)) + 1 = 257 + ((k + 1 : Nat) : Int) := by omega
    by_cases hl : (lbase (257 + k)).1 ≤ n
    · have hp : pk lbase 257 n (k + 1) = 257 + k := by rw [pk, if_pos hl]
      repeat (refine sx ?_; try intro _)
      exact JS_again1 again (k + 1) (by omega) (by omega) (by rw [hp]; exact ⟨rfl, rfl, lookI rfl (by omega), trivial⟩) (fun w hw => hw)
    · have hp : pk lbase 257 n (k + 1) = pk lbase 257 n k := by rw [pk, if_neg hl]
      repeat (refine sx ?_; try intro _)
      exact JS_again1 again (k + 1) (by omega) (by omega) (by rw [hp]; exact ⟨rfl, rfl, lookI rfl (by omega), trivial⟩) (fun w hw => hw)
  · obtain rfl : k = 28 := by omega
    clear again
    repeat (refine sx ?_; try intro _)
    refine JO_call Tryz.call181 rfl rfl fun w hw => (RBase_c (pk lbase 257 n 28) (by omega) w hw).mono ?_
    rintro e w' ⟨rfl, hw'⟩
    refine ⟨_, rfl, _, hw', ?_⟩
    clear hw' hw w w'
    repeat (refine sx ?_; try intro _)
    exact JS_ret Tryz.func172 rfl rfl fun w hw => ⟨rfl, hw⟩
theorem RSpan_c (n : Int) (hn : -9223372036854775808 ≤ n ∧ n < 9223372036854775808) (w : World) (hw : St w0 H w) :
    Calls Tryz.prog 174 #[.int .i64 n] w fun e w' => e = .returned (.tuple #[.int .i64 (spanS n).1, .int .i64 (spanS n).2.1, .int .i64 (spanS n).2.2]) ∧ St w0 H w' := by
  refine enter (vs := [.int .i64 n]) Tryz.func174 rfl rfl rfl hw ?_
  unfold spanS
  by_cases h1 : n < 1
  · rw [if_pos (.inl h1)]
    repeat (refine sx ?_; try intro _)
    exact JS_ret Tryz.func174 rfl rfl fun w hw => ⟨rfl, hw⟩
  by_cases h2 : 32768 < n
  · rw [if_pos (.inr h2)]
    repeat (refine sx ?_; try intro _)
    exact JS_ret Tryz.func174 rfl rfl fun w hw => ⟨rfl, hw⟩
  rw [if_neg (by omega)]
  have hg : grt lfar 0 n 30 = (pk lfar 0 n 30, (lfar (pk lfar 0 n 30)).2, n - (lfar (pk lfar 0 n 30)).1) :=
    grt_pk lfar 0 n (by rw [show lfar 0 = (1, 0) by decide +kernel]; simp only []; omega) 29
  have hle := pk_le lfar 0 n (by rw [show lfar 0 = (1, 0) by decide +kernel]; simp only []; omega) 30
  obtain ⟨b1, b2⟩ := pk_bd lfar 0 n 30
  have hnn : 0 ≤ (lfar (pk lfar 0 n 30)).1 := by
    have := lfar_nn (pk lfar 0 n 30).toNat (by omega)
    rwa [show (0 : Int) + ((pk lfar 0 n 30).toNat : Int) = pk lfar 0 n 30 by omega] at this
  rw [hg]
  repeat (refine sx ?_; try intro _)
  refine JS_loop1 (fun (k : Nat) => [(0, .int .i64 n), (5, .int .i64 (pk lfar 0 n k)), (6, .int .i64 k)]) (fun _ => H) (fun k => k ≤ 30) (fun k => 30 - k) 0 (by omega) (by repeat (first | exact trivial | refine ⟨rfl, ?_⟩ | refine ⟨lookI rfl (by omega), ?_⟩)) (fun _ h => h) ?_
  intro k hk again
  by_cases h28 : k < 30
  · repeat (refine sx ?_; try intro _)
    refine JO_call Tryz.call182 rfl rfl fun w hw => (RFar_c k (by omega) w hw).mono ?_
    rintro e w' ⟨rfl, hw'⟩
    refine ⟨_, rfl, _, hw', ?_⟩
    clear hw' hw w w'
    by_cases hl : (lfar (0 + k)).1 ≤ n
    · have hp : pk lfar 0 n (k + 1) = k := by rw [pk, if_pos hl]; omega
      rw [Int.zero_add] at hl
      repeat (refine sx ?_; try intro _)
      exact JS_again1 again (k + 1) (by omega) (by omega) (by rw [hp]; exact ⟨rfl, rfl, lookI rfl (by omega), trivial⟩) (fun w hw => hw)
    · have hp : pk lfar 0 n (k + 1) = pk lfar 0 n k := by rw [pk, if_neg hl]
      rw [Int.zero_add] at hl
      repeat (refine sx ?_; try intro _)
      exact JS_again1 again (k + 1) (by omega) (by omega) (by rw [hp]; exact ⟨rfl, rfl, lookI rfl (by omega), trivial⟩) (fun w hw => hw)
  · obtain rfl : k = 30 := by omega
    clear again
    repeat (refine sx ?_; try intro _)
    refine JO_call Tryz.call182 rfl rfl fun w hw => (RFar_c (pk lfar 0 n 30) (by omega) w hw).mono ?_
    rintro e w' ⟨rfl, hw'⟩
    refine ⟨_, rfl, _, hw', ?_⟩
    clear hw' hw w w'
    repeat (refine sx ?_; try intro _)
    exact JS_ret Tryz.func174 rfl rfl fun w hw => ⟨rfl, hw⟩
end
end Go.Proofs.YteelffkghidpfaaGreat

namespace Go.Proofs.YteelffkghidpfaaGreat
open Sx Go
set_option linter.unusedVariables false
set_option linter.unusedSimpArgs false
set_option maxRecDepth 100000
def setCells (pl : Value) (f : Nat → Int) (ps : Value) (full : Bool) : List Value :=
  [pl, .int .i64 (f 0), .int .i64 (f 1), .int .i64 (f 2), .int .i64 (f 3), .int .i64 (f 4), .int .i64 (f 5), .int .i64 (f 6), .int .i64 (f 7), .int .i64 (f 8), .int .i64 (f 9), .int .i64 (f 10), .int .i64 (f 11), .int .i64 (f 12), .int .i64 (f 13), .int .i64 (f 14), .int .i64 (f 15), ps, .bool full]
theorem set_nth {pl : Value} {f : Nat → Int} {ps : Value} {full : Bool} {i : Nat} (h : i < 16) : nth (setCells pl f ps full) (1 + i) = some (.int .i64 (f i)) := by
  match i, h with
  | 0, _ | 1, _ | 2, _ | 3, _ | 4, _ | 5, _ | 6, _ | 7, _ | 8, _ | 9, _ | 10, _ | 11, _ | 12, _ | 13, _ | 14, _ | 15, _ => rfl
  | i + 16, h => exact absurd h (by omega)
theorem Full_c {w0 : World} {H : List Asn} (b : Nat) (pl : Value) (f : Nat → Int) (ps : Value) (full : Bool) (hb : blk b (setCells pl f ps full) ∈ H) (w : World) (hw : St w0 H w) :
    Calls Tryz.prog 234 #[.pointer (some ⟨b, 0, none⟩)] w fun e w' => e = .returned (.bool full) ∧ St w0 H w' := by
  refine enter (vs := [.pointer (some ⟨b, 0, none⟩)]) Tryz.func234 rfl rfl rfl hw ?_
  repeat (first | (apply gJO; refine JO_v (V_load (tb := tb) rfl hb rfl rfl rfl rfl) ?_) | (refine sy ?_; try intro _))
  refine JS_ret Tryz.func234 rfl rfl ?_
  intro w hw
  exact ⟨rfl, hw⟩
theorem New_c {w0 : World} {H : List Asn} (p : Option Addr) (c m : Nat) (B : List Int) (hr : Rd w0 H (.slice p m c) m (ints .u8 B)) (hm : B.length = m) (hB : OKB B) (hm1 : m ≤ 140737488355328) (hpm : p = none → m = 0) (w : World) (hw : St w0 H w) :
    Calls Tryz.prog 205 #[.slice p m c] w fun e w' => ∃ b q d, e = .returned (.pointer (some ⟨b, 0, none⟩)) ∧ St w0 (blk b [.slice q m d, .int .i64 0] :: vec 5 1 (.slice q m d) m (ints .u8 B) :: H) w' := by
  refine enter (vs := [.slice p m c]) Tryz.func205 rfl rfl rfl hw ?_
  repeat (refine sy ?_; try intro _)
  refine JO_call Tryz.call128 rfl rfl fun w hw => (Clone_c p c m B hr hm hB hm1 hpm w hw).mono ?_
  rintro e w' ⟨q, d, rfl, hw'⟩
  refine ⟨_, rfl, _, hw', ?_⟩
  clear hw' hw w w'
  repeat (refine sy ?_; try intro _)
  rename_i b
  refine JS_ret Tryz.func205 rfl rfl ?_
  intro w hw
  exact ⟨b, q, d, rfl, hw⟩
theorem ReaderAt_c {w0 : World} {H : List Asn} (b : Nat) (u : Value) (n : Int) (hb : blk b [u, .int .i64 n] ∈ H) (w : World) (hw : St w0 H w) :
    Calls Tryz.prog 211 #[.pointer (some ⟨b, 0, none⟩)] w fun e w' => e = .returned (.int .i64 n) ∧ St w0 H w' := by
  refine enter (vs := [.pointer (some ⟨b, 0, none⟩)]) Tryz.func211 rfl rfl rfl hw ?_
  repeat (first | (apply gJO; refine JO_v (V_load (tb := tb) rfl hb rfl rfl rfl rfl) ?_) | (refine sy ?_; try intro _))
  refine JS_ret Tryz.func211 rfl rfl ?_
  intro w hw
  exact ⟨rfl, hw⟩
end Go.Proofs.YteelffkghidpfaaGreat

namespace Go.Proofs.YteelffkghidpfaaGreat
open Sx Go
set_option linter.unusedVariables false
set_option linter.unusedSimpArgs false
set_option maxRecDepth 100000
theorem set_nth' {pl : Value} {f : Nat → Int} {ps : Value} {full : Bool} {i : Nat} (h : i < 16) : nth (setCells pl f ps full) (0 + 1 + (i : Int).toNat * 1) = some (.int .i64 (f i)) := by
  rw [show 0 + 1 + (i : Int).toNat * 1 = 1 + i by omega]; exact set_nth h
theorem set_upd {pl : Value} {f : Nat → Int} {ps : Value} {full : Bool} {i : Nat} {v : Int} (h : i < 16) : setSeg (setCells pl f ps full) (0 + 1 + (i : Int).toNat * 1) [.int .i64 v] = some (setCells pl (fun j => if j = i then v else f j) ps full) := by
  match i, h with
  | 0, _ | 1, _ | 2, _ | 3, _ | 4, _ | 5, _ | 6, _ | 7, _ | 8, _ | 9, _ | 10, _ | 11, _ | 12, _ | 13, _ | 14, _ | 15, _ => rfl
  | i + 16, h => exact absurd h (by omega)
def cn (l : List Int) (k : Nat) : Int := if k = 0 then 0 else (l.countP (fun x => x == (k : Int)) : Nat)
def tk : List Int → Int
  | [] => 0
  | x :: r => (if 0 < x then 2 ^ (15 - x.toNat) else 0) + tk r
theorem tk_app (A B : List Int) : tk (A ++ B) = tk A + tk B := by
  induction A with
  | nil => simp [tk]
  | cons x r ih => simp only [List.cons_append, tk, ih]; omega
theorem btake (B : List Int) (i : Nat) (h : i < B.length) : B.take (i + 1) = B.take i ++ [B.getD i 0] := by
  rw [List.take_succ_eq_append_getElem h]; simp [h]
theorem cn_step (B : List Int) (i : Nat) (h : i < B.length) (n : Nat) (hn : B.getD i 0 = (n : Int)) (h0 : 0 < n) : cn (B.take (i + 1)) = fun j => if j = n then cn (B.take i) n + 1 else cn (B.take i) j := by
  funext j
  unfold cn
  rw [btake B i h, List.countP_append, hn]
  by_cases hj : j = n
  · subst hj
    have : ¬ j = 0 := by omega
    simp [this]
  · rw [if_neg hj]
    have : ¬ ((n : Int) == (j : Int)) = true := by simp; omega
    simp [this]
theorem cn_zero (B : List Int) (i : Nat) (h : i < B.length) (hn : B.getD i 0 = 0) : cn (B.take (i + 1)) = cn (B.take i) := by
  funext j
  unfold cn
  rw [btake B i h, List.countP_append, hn]
  by_cases hj : j = 0
  · simp [hj]
  · have : ¬ ((0 : Int) == (j : Int)) = true := by simp; omega
    simp [hj, this]
theorem p2_bd (n : Nat) (h : n ≤ 15) : (1 : Int) ≤ 2 ^ (15 - n) ∧ (2 : Int) ^ (15 - n) ≤ 32768 := by
  have : ∀ k : Fin 16, (1 : Int) ≤ 2 ^ k.val ∧ (2 : Int) ^ k.val ≤ 32768 := by decide +kernel
  exact this ⟨15 - n, by omega⟩
theorem tk_step (B : List Int) (i : Nat) (h : i < B.length) (n : Nat) (hn : B.getD i 0 = (n : Int)) : tk (B.take (i + 1)) = tk (B.take i) + (if 0 < n then 2 ^ (15 - n) else 0) := by
  rw [btake B i h, tk_app, hn]
  simp only [tk, Int.add_zero, Int.toNat_natCast]
  by_cases h0 : 0 < n
  · simp [h0]
  · have : n = 0 := by omega
    subst this; simp
end Go.Proofs.YteelffkghidpfaaGreat

namespace Go.Proofs.YteelffkghidpfaaGreat
open Sx Go
set_option linter.unusedVariables false
set_option linter.unusedSimpArgs false
set_option maxRecDepth 100000
def sy1 (B : List Int) (n j : Nat) : List Int := ((List.range j).filter (fun i => B.getD i 0 == (n : Int))).map (fun i : Nat => (i : Int))
theorem sy1_yes {B : List Int} {n j : Nat} (h : B.getD j 0 = (n : Int)) : sy1 B n (j + 1) = sy1 B n j ++ [(j : Int)] := by
  unfold sy1
  have : (B.getD j 0 == (n : Int)) = true := by simpa using h
  rw [List.range_succ, List.filter_append, List.map_append]
  simp only [List.filter_cons, this, if_true, List.filter_nil, List.map_cons, List.map_nil]
theorem sy1_no {B : List Int} {n j : Nat} (h : ¬ B.getD j 0 = (n : Int)) : sy1 B n (j + 1) = sy1 B n j := by
  unfold sy1
  have : (B.getD j 0 == (n : Int)) = false := by simpa using h
  rw [List.range_succ, List.filter_append, List.map_append]
  simp only [List.filter_cons, this, List.filter_nil, Bool.false_eq_true, if_false, List.map_nil, List.append_nil]
theorem sy1_len (B : List Int) (n j : Nat) : (sy1 B n j).length ≤ j := by
  unfold sy1
  rw [List.length_map]
  exact Nat.le_trans (List.length_filter_le _ _) (by simp)
def syA (B : List Int) : Nat → List Int
  | 0 => []
  | n + 1 => syA B n ++ sy1 B (n + 1) B.length
theorem syA_len (B : List Int) : ∀ n, (syA B n).length ≤ n * B.length
  | 0 => by simp [syA]
  | n + 1 => by
    have := syA_len B n
    have := sy1_len B (n + 1) B.length
    simp only [syA, List.length_append, Nat.add_mul, Nat.one_mul]; omega
set_option maxHeartbeats 4000000 in
theorem Make_c {w0 : World} {H : List Asn} (p : Option Addr) (c m : Nat) (B : List Int) (hr : Rd w0 H (.slice p m c) m (ints .u8 B)) (hm : B.length = m) (hB : OKB B) (hm1 : m ≤ 140737488355328) (hpm : p = none → m = 0) (w : World) (hw : St w0 H w) :
    Calls Tryz.prog 214 #[.slice p m c] w fun e w' => ∃ u r, e = .returned (.tuple #[u, .int .i64 r]) ∧
      (((320 < m ∨ ∃ j, 15 < B.getD j 0) ∧ u = .pointer none ∧ r = 1 ∧ St w0 H w') ∨
       (m ≤ 320 ∧ (∀ j, B.getD j 0 ≤ 15) ∧ ¬ (tk B = 32768 ∨ (syA B 15).length = 0 ∨ ((syA B 15).length = 1 ∧ cn B 1 = 1)) ∧ u = .pointer none ∧ r = 62 ∧ St w0 H w') ∨
       (m ≤ 320 ∧ (∀ j, B.getD j 0 ≤ 15) ∧ (tk B = 32768 ∨ (syA B 15).length = 0 ∨ ((syA B 15).length = 1 ∧ cn B 1 = 1)) ∧ r = 0 ∧ ∃ b q d s k, u = .pointer (some ⟨b, 0, none⟩) ∧
        St w0 (vec 3 1 (.slice s (syA B 15).length k) (syA B 15).length (ints .i64 (syA B 15)) :: blk b (setCells (.slice q m d) (cn B) (.slice s (syA B 15).length k) (decide (tk B = 32768))) :: vec 5 1 (.slice q m d) m (ints .u8 B) :: H) w')) := by
  refine enter (vs := [.slice p m c]) Tryz.func214 rfl rfl rfl hw ?_
  by_cases hbig : 320 < m
  · repeat (refine sx ?_; try intro _)
    refine JS_ret Tryz.func214 rfl rfl ?_
    intro w hw
    exact ⟨_, _, rfl, .inl ⟨.inl hbig, rfl, rfl, hw⟩⟩
  repeat (refine sx ?_; try intro _)
  refine JO_call Tryz.call238 rfl rfl fun w hw => (Contains_c p c m B hr hm hB (by omega) w hw).mono ?_
  rintro e w' ⟨o, rfl, hw', h1⟩
  refine ⟨_, rfl, _, hw', ?_⟩
  clear hw' hw w w'
  rcases h1 with ⟨rfl, h15⟩ | ⟨rfl, h15⟩
  case' inr =>
    repeat (refine sx ?_; try intro _)
    refine JS_ret Tryz.func214 rfl rfl ?_
    intro w hw
    exact ⟨_, _, rfl, .inl ⟨.inr h15, rfl, rfl, hw⟩⟩
  repeat (refine sx ?_; try intro _)
  refine JO_call Tryz.call128 rfl rfl fun w hw => (Clone_c p c m B hr hm hB hm1 hpm w hw).mono ?_
  rintro e w' ⟨q, d, rfl, hw'⟩
  refine ⟨_, rfl, _, hw', ?_⟩
  clear hw' hw w w'
  repeat (first | (apply gJR; (refine sx ?_; try intro _)) | (apply gJO; (refine sx ?_; try intro _)) | apply JS_seq | apply JS_region)
  rename_i b
  refine JS_block ?_
  refine JS_loop1 (fun (i : Nat) => [(0, .slice p m c), (4, .pointer (some ⟨b, 0, none⟩)), (5, .int .i64 (tk (B.take i))), (23, .slice p m c), (24, .int .i64 m), (25, .int .i64 i)]) (fun i => blk b (setCells (.slice q m d) (cn (B.take i)) (.slice none 0 0) false) :: vec 5 1 (.slice q m d) m (ints .u8 B) :: H)
    (fun i => i ≤ m ∧ 0 ≤ tk (B.take i) ∧ tk (B.take i) ≤ 32768 * i) (fun i => m - i) 0 ⟨by omega, by simp [tk], by simp [tk]⟩ (by repeat (first | exact trivial | refine ⟨rfl, ?_⟩ | refine ⟨lookI rfl (by omega), ?_⟩)) (fun _ h => h) ?_
  intro i ⟨hi, ht0, ht1⟩ again
  have hr' : Rd w0 (blk b (setCells (.slice q m d) (cn (B.take i)) (.slice none 0 0) false) :: vec 5 1 (.slice q m d) m (ints .u8 B) :: H) (.slice p m c) m (ints .u8 B) := Rd_weak hr fun w hw => dS hw
  by_cases him : i < m
  · have hb := hB i
    have hb15 := h15 i
    obtain ⟨n, hn⟩ := Int.eq_ofNat_of_zero_le hb.1
    have gi : (ints .u8 B)[i]? = some (.int .u8 (n : Int)) := by rw [← hn]; exact ints_get (by omega)
    have hn15 : n ≤ 15 := by omega
    have hts := tk_step B i (by omega) n hn
    have hp2 := p2_bd n hn15
    have hm2 : min ((15 : Int) - (n : Int)).toNat IntKind.i64.bits = 15 - n := by show min _ 64 = _; omega
    have hq2 : (1 : Int) * 2 ^ (15 - n) = 2 ^ (15 - n) := Int.one_mul _
    by_cases h0 : 0 < n
    · rw [if_pos h0] at hts
      have hcs := cn_step B i (by omega) n hn h0
      obtain ⟨P, hP⟩ : ∃ P, (2 : Int) ^ (15 - n) = P := ⟨_, rfl⟩
      rw [hP] at hts hp2
      have hcn0 : 0 ≤ cn (B.take i) n ∧ cn (B.take i) n ≤ 320 := by
        unfold cn
        split
        · omega
        · have := List.countP_le_length (p := fun x => x == (n : Int)) (l := B.take i)
          have : (B.take i).length ≤ i := by simp; omega
          omega
      clear hb hn hb15
      repeat (first | (apply gJO; refine JO_v (V_loadC (tb := tb) rfl (by first | exact vec_rd (by repeat (first | apply List.Mem.head | apply List.Mem.tail)) | assumption | exact ArgRd.rd (by assumption) _ | (apply Rd_weak; assumption; intro _ hx; exact dS hx)) rfl rfl gi rfl) ?_) | (apply gJO; refine JO_v (V_shl (m := 15 - n) (c := P) rfl rfl (by omega) hm2 (by rw [hq2, hP]; exact wi64 (by omega)) rfl) ?_) | (apply gQO; refine QO_v rfl (V_load (tb := tb) rfl (List.Mem.head _) rfl rfl (set_nth' (by omega)) rfl) ?_) | (apply gQO; refine QO_k rfl (K_store (tb := tb) rfl rfl (Upd.here _ _ _) rfl rfl rfl (by repeat (first | exact trivial | refine ⟨rfl, ?_⟩)) (set_upd (by omega)) rfl) rfl ?_) | (refine sx ?_; try intro _))
      exact JS_again1 again (i + 1) ⟨by omega, by omega, by omega⟩ (by omega) (by repeat (first | exact trivial | refine ⟨rfl, ?_⟩ | refine ⟨lookI rfl (by omega), ?_⟩)) (fun w hw => by rw [hcs]; exact hw)
    · obtain rfl : n = 0 := by omega
      rw [if_neg h0] at hts
      have hcs := cn_zero B i (by omega) hn
      clear hb hn hb15
      repeat (first | (apply gJO; refine JO_v (V_loadC (tb := tb) rfl (by first | exact vec_rd (by repeat (first | apply List.Mem.head | apply List.Mem.tail)) | assumption | exact ArgRd.rd (by assumption) _ | (apply Rd_weak; assumption; intro _ hx; exact dS hx)) rfl rfl gi rfl) ?_) | (refine sx ?_; try intro _))
      exact JS_again1 again (i + 1) ⟨by omega, by omega, by omega⟩ (by omega) (by repeat (first | exact trivial | refine ⟨rfl, ?_⟩ | refine ⟨lookI rfl (by omega), ?_⟩)) (fun w hw => by rw [hcs]; exact hw)
  obtain rfl : i = m := by omega
  have e1 : B.take i = B := List.take_of_length_le (by omega)
  rw [e1] at ht0 ht1
  rw [e1]
  clear again hr'
  have hsl : ∀ n j, n ≤ 15 → j ≤ i → (syA B n ++ sy1 B (n + 1) j).length ≤ 5120 := fun n j hn hj => by
    have h1 := syA_len B n
    have h2 := sy1_len B (n + 1) j
    have h3 : n * B.length ≤ 15 * 320 := Nat.mul_le_mul hn (by omega)
    rw [List.length_append]; omega
  repeat (first | (apply gJR; (refine sx ?_; try intro _)) | (apply gJO; (refine sx ?_; try intro _)) | apply JS_seq | apply JS_region | refine JS_condF rfl ?_ | refine JS_exit rfl ?_ | apply JS_skip | (apply gJS; refine JS_inBlock ?_))
  refine JS_block ?_
  refine JS_loop3 (fun (n : Nat) (s : Option Addr) (k : Nat) => [(0, .slice p i c), (4, .pointer (some ⟨b, 0, none⟩)), (5, .int .i64 (tk B)), (8, .int .u8 (n + 1))])
    (fun n s k => vec 3 1 (.slice s (syA B n).length k) (syA B n).length (ints .i64 (syA B n)) :: blk b (setCells (.slice q i d) (cn B) (.slice s (syA B n).length k) false) :: vec 5 1 (.slice q i d) i (ints .u8 B) :: H)
    (fun n _ _ => n ≤ 15) (fun n _ _ => 15 - n) 0 none 0 (by omega) (by repeat (first | exact trivial | refine ⟨rfl, ?_⟩ | refine ⟨lookI rfl (by omega), ?_⟩)) (fun _ h => St.nilvec h) ?_
  intro n s k hn again
  by_cases hn15 : n < 15
  · repeat (first | (apply gJR; (refine sx ?_; try intro _)) | (apply gJO; (refine sx ?_; try intro _)) | apply JS_seq | apply JS_region | refine JS_condT rfl ?_ | refine JS_cond_T rfl (by omega) ?_ | apply JS_skip | (apply gJS; refine JS_inBlock ?_) | (refine JS_block ?_; apply JS_seq; apply JS_region) )
    refine JS_block ?_
    refine JS_loop3 (fun (j : Nat) (s : Option Addr) (k : Nat) => [(0, .slice p i c), (4, .pointer (some ⟨b, 0, none⟩)), (5, .int .i64 (tk B)), (8, .int .u8 (n + 1)), (51, .slice p i c), (52, .int .i64 i), (53, .int .i64 j)])
      (fun j s k => vec 3 1 (.slice s (syA B n ++ sy1 B (n + 1) j).length k) (syA B n ++ sy1 B (n + 1) j).length (ints .i64 (syA B n ++ sy1 B (n + 1) j)) :: blk b (setCells (.slice q i d) (cn B) (.slice s (syA B n ++ sy1 B (n + 1) j).length k) false) :: vec 5 1 (.slice q i d) i (ints .u8 B) :: H)
      (fun j _ _ => j ≤ i) (fun j _ _ => i - j) 0 s k (by omega) (by repeat (first | exact trivial | refine ⟨rfl, ?_⟩ | refine ⟨lookI rfl (by omega), ?_⟩)) (fun w hw => by rw [show sy1 B (n + 1) 0 = [] from rfl, List.append_nil]; exact hw) ?_
    intro j s k hj again2
    have hlen := hsl n j (by omega) hj
    have hr' : Rd w0 (vec 3 1 (.slice s (syA B n ++ sy1 B (n + 1) j).length k) (syA B n ++ sy1 B (n + 1) j).length (ints .i64 (syA B n ++ sy1 B (n + 1) j)) :: blk b (setCells (.slice q i d) (cn B) (.slice s (syA B n ++ sy1 B (n + 1) j).length k) false) :: vec 5 1 (.slice q i d) i (ints .u8 B) :: H) (.slice p i c) i (ints .u8 B) := Rd_weak hr fun w hw => dS hw
    by_cases hji : j < i
    · have gj : (ints .u8 B)[j]? = some (.int .u8 (B.getD j 0)) := ints_get (by omega)
      by_cases heq : B.getD j 0 = ((n + 1 : Nat) : Int)
      · have hs1 := sy1_yes heq
        have heq' : B.getD j 0 = (n : Int) + 1 := by omega
        clear heq
        generalize hS : syA B n ++ sy1 B (n + 1) j = S at *
        have hS2 : syA B n ++ sy1 B (n + 1) (j + 1) = S ++ [(j : Int)] := by rw [hs1, ← hS, List.append_assoc]
        repeat (first | (apply gJO; refine JO_v (V_loadC (tb := tb) rfl (by first | exact vec_rd (by repeat (first | apply List.Mem.head | apply List.Mem.tail)) | assumption | exact ArgRd.rd (by assumption) _ | (apply Rd_weak; assumption; intro _ hx; exact dS hx)) rfl rfl gj rfl) ?_) | (refine sx ?_; try intro _))
        (refine JO_app (tb := tb) rfl rfl rfl rfl rfl rfl (by repeat (first | exact Sel.here _ _ | apply Sel.there)) (by first | exact vec_rd (by repeat (first | apply List.Mem.head | apply List.Mem.tail)) | assumption | exact ArgRd.rd (by assumption) _ | (apply Rd_weak; assumption; intro _ hx; exact dS hx)) (by simp only [ints_len, List.length_cons, List.length_nil]; first | omega | rfl) (by first | exact ints_one | (repeat (first | exact trivial | refine ⟨rfl, ?_⟩))) (by omega) rfl ?_; intro _ _)
        rename_i s' k'
        repeat (refine sx ?_; try intro _)
        exact JS_again3 again2 (j + 1) s' k' (by omega) (by omega) (by repeat (first | exact trivial | refine ⟨rfl, ?_⟩ | refine ⟨lookI rfl (by omega), ?_⟩)) (fun w hw => by
          rw [hS2, show (S ++ [(j : Int)]).length = S.length + 1 from by simp, ← ints_app1]; exact dS hw)
      · have hs1 := sy1_no heq
        have heq' : ¬ B.getD j 0 = (n : Int) + 1 := by omega
        clear heq
        repeat (first | (apply gJO; refine JO_v (V_loadC (tb := tb) rfl (by first | exact vec_rd (by repeat (first | apply List.Mem.head | apply List.Mem.tail)) | assumption | exact ArgRd.rd (by assumption) _ | (apply Rd_weak; assumption; intro _ hx; exact dS hx)) rfl rfl gj rfl) ?_) | (refine sx ?_; try intro _))
        exact JS_again3 again2 (j + 1) s k (by omega) (by omega) (by repeat (first | exact trivial | refine ⟨rfl, ?_⟩ | refine ⟨lookI rfl (by omega), ?_⟩)) (fun w hw => by rw [hs1]; exact dS hw)
    · obtain rfl : j = i := by omega
      clear again2
      have hS2 : syA B (n + 1) = syA B n ++ sy1 B (n + 1) j := by rw [← hm]; rfl
      rw [← hS2]
      repeat (refine sx ?_; try intro _)
      exact JS_again3 again (n + 1) s k (by omega) (by omega) (by repeat (first | exact trivial | refine ⟨rfl, ?_⟩ | refine ⟨lookI rfl (by omega), ?_⟩)) (fun w hw => dS hw)
  obtain rfl : n = 15 := by omega
  have hlen := hsl 15 0 (by omega) (by omega)
  rw [show sy1 B (15 + 1) 0 = [] from rfl, List.append_nil] at hlen
  obtain ⟨S, hS⟩ : ∃ S, S = syA B 15 := ⟨_, rfl⟩
  rw [← hS] at hlen
  rw [← hS]
  clear again hsl
  by_cases hf : tk B = 32768
  · by_cases hl1 : S.length = 1
    · by_cases hc1 : cn B 1 = 1
      · repeat (refine sx ?_; try intro _)
        refine JS_ret Tryz.func214 rfl rfl ?_
        intro w hw
        exact ⟨_, _, rfl, .inr (.inr ⟨by omega, h15, by omega, rfl, b, q, d, s, k, rfl, by rw [decide_eq_true hf]; exact hw⟩)⟩
      · repeat (refine sx ?_; try intro _)
        refine JS_ret Tryz.func214 rfl rfl ?_
        intro w hw
        exact ⟨_, _, rfl, .inr (.inr ⟨by omega, h15, by omega, rfl, b, q, d, s, k, rfl, by rw [decide_eq_true hf]; exact hw⟩)⟩
    · by_cases hl0 : S.length = 0
      · repeat (refine sx ?_; try intro _)
        refine JS_ret Tryz.func214 rfl rfl ?_
        intro w hw
        exact ⟨_, _, rfl, .inr (.inr ⟨by omega, h15, by omega, rfl, b, q, d, s, k, rfl, by rw [decide_eq_true hf]; exact hw⟩)⟩
      · repeat (refine sx ?_; try intro _)
        refine JS_ret Tryz.func214 rfl rfl ?_
        intro w hw
        exact ⟨_, _, rfl, .inr (.inr ⟨by omega, h15, by omega, rfl, b, q, d, s, k, rfl, by rw [decide_eq_true hf]; exact hw⟩)⟩
  · by_cases hl1 : S.length = 1
    · by_cases hc1 : cn B 1 = 1
      · repeat (refine sx ?_; try intro _)
        refine JS_ret Tryz.func214 rfl rfl ?_
        intro w hw
        exact ⟨_, _, rfl, .inr (.inr ⟨by omega, h15, by omega, rfl, b, q, d, s, k, rfl, by rw [decide_eq_false hf]; exact hw⟩)⟩
      · repeat (refine sx ?_; try intro _)
        refine JS_ret Tryz.func214 rfl rfl ?_
        intro w hw
        exact ⟨_, _, rfl, .inr (.inl ⟨by omega, h15, by omega, rfl, rfl, dS hw⟩)⟩
    · by_cases hl0 : S.length = 0
      · repeat (refine sx ?_; try intro _)
        refine JS_ret Tryz.func214 rfl rfl ?_
        intro w hw
        exact ⟨_, _, rfl, .inr (.inr ⟨by omega, h15, by omega, rfl, b, q, d, s, k, rfl, by rw [decide_eq_false hf]; exact hw⟩)⟩
      · repeat (refine sx ?_; try intro _)
        refine JS_ret Tryz.func214 rfl rfl ?_
        intro w hw
        exact ⟨_, _, rfl, .inr (.inl ⟨by omega, h15, by omega, rfl, rfl, dS hw⟩)⟩
end Go.Proofs.YteelffkghidpfaaGreat

namespace Go.Proofs.YteelffkghidpfaaGreat
open Sx Go
set_option linter.unusedVariables false
set_option linter.unusedSimpArgs false
set_option maxRecDepth 100000
theorem mask1_u8 {a : Int} (ha : 0 ≤ a ∧ a < 256) : IntKind.u8.wrap ((BitVec.ofInt IntKind.u8.bits a &&& BitVec.ofInt IntKind.u8.bits 1).toNat) = a % 2 := by
  obtain ⟨n, rfl⟩ := Int.eq_ofNat_of_zero_le ha.1
  have : ∀ k : Fin 256, IntKind.u8.wrap ((BitVec.ofInt IntKind.u8.bits (k.val : Int) &&& BitVec.ofInt IntKind.u8.bits 1).toNat) = (k.val : Int) % 2 := by decide +kernel
  exact this ⟨n, by omega⟩
theorem or0_u32 {x : Int} (hx : x = 0 ∨ x = 1) : IntKind.u32.wrap ((BitVec.ofInt IntKind.u32.bits 0 ||| BitVec.ofInt IntKind.u32.bits x).toNat) = x := by
  rcases hx with rfl | rfl <;> decide +kernel
theorem Left_c {w0 : World} {H : List Asn} (b : Nat) (q : Option Addr) (d m : Nat) (n : Int) (hb : blk b [.slice q m d, .int .i64 n] ∈ H) (hm1 : m ≤ 140737488355328) (hn : 0 ≤ n ∧ n ≤ 8 * m) (w : World) (hw : St w0 H w) :
    Calls Tryz.prog 246 #[.pointer (some ⟨b, 0, none⟩)] w fun e w' => e = .returned (.int .i64 (8 * m - n)) ∧ St w0 H w' := by
  refine enter (vs := [.pointer (some ⟨b, 0, none⟩)]) Tryz.func246 rfl rfl rfl hw ?_
  repeat (first | (apply gQO; refine QO_v rfl (V_load (tb := tb) rfl hb rfl rfl rfl rfl) ?_) | (refine sy ?_; try intro _))
  refine JS_ret Tryz.func246 rfl rfl ?_
  intro w hw
  exact ⟨rfl, hw⟩
set_option maxHeartbeats 2000000 in
theorem Bit1_c {w0 : World} {H : List Asn} (b : Nat) (q : Option Addr) (d m : Nat) (B : List Int) (hr : Rd w0 H (.slice q m d) m (ints .u8 B)) (hm : B.length = m) (hB : OKB B) (hm1 : m ≤ 140737488355328) (n : Nat) (hn : n ≤ 8 * m) (w : World) (hw : St w0 (blk b [.slice q m d, .int .i64 n] :: H) w) :
    Calls Tryz.prog 236 #[.pointer (some ⟨b, 0, none⟩), .int .i64 1] w fun e w' => ∃ x r, e = .returned (.tuple #[.int .u32 x, .int .i64 r]) ∧
      ((n = 8 * m ∧ x = 0 ∧ r = 20 ∧ St w0 (blk b [.slice q m d, .int .i64 n] :: H) w') ∨ (n < 8 * m ∧ r = 0 ∧ x = B.getD (n / 8) 0 / 2 ^ (n % 8) % 2 ∧ St w0 (blk b [.slice q m d, .int .i64 (n + 1 : Nat)] :: H) w')) := by
  have hr' : Rd w0 (blk b [.slice q m d, .int .i64 n] :: H) (.slice q m d) m (ints .u8 B) := Rd_weak hr fun w hw => dS hw
  refine enter (vs := [.pointer (some ⟨b, 0, none⟩), .int .i64 1]) Tryz.func236 rfl rfl rfl hw ?_
  repeat (refine sx ?_; try intro _)
  refine JO_call Tryz.call246 rfl rfl fun w hw => (Left_c b q d m n (List.Mem.head _) hm1 (by omega) w hw).mono ?_
  rintro e w' ⟨rfl, hw'⟩
  refine ⟨_, rfl, _, hw', ?_⟩
  clear hw' hw w w'
  by_cases hend : n = 8 * m
  · repeat (refine sx ?_; try intro _)
    refine JS_ret Tryz.func236 rfl rfl ?_
    intro w hw
    exact ⟨_, _, rfl, .inl ⟨hend, rfl, rfl, hw⟩⟩
  · have hb := hB (n / 8)
    have gi : (ints .u8 B)[n / 8]? = some (.int .u8 (B.getD (n / 8) 0)) := ints_get (by omega)
    have hs : min ((n : Int) % 8).toNat IntKind.u8.bits = n % 8 := by show min _ 8 = _; omega
    obtain ⟨y, hy⟩ : ∃ y, B.getD (n / 8) 0 / 2 ^ (n % 8) = y := ⟨_, rfl⟩
    have hpos : (0 : Int) < 2 ^ (n % 8) := Int.pow_pos (by decide)
    have hy0 : 0 ≤ y := by rw [← hy]; exact Int.ediv_nonneg hb.1 (Int.le_of_lt hpos)
    have hy1 : y < 256 := by
      rw [← hy]
      exact Int.lt_of_le_of_lt (Int.ediv_le_self _ hb.1) hb.2
    have hz : y % 2 = 0 ∨ y % 2 = 1 := by omega
    rw [hy]
    repeat (first | (apply gQO; refine QO_v rfl (V_loadC (tb := tb) rfl hr' rfl rfl gi rfl) ?_) | (apply gQO; refine QO_v rfl (V_shr (m := n % 8) rfl rfl (by omega) hs hy rfl) ?_) | (apply gQO; refine QO_v rfl (V_and rfl rfl (mask1_u8 ⟨hy0, hy1⟩) rfl) ?_) | (apply gQO; refine QO_v rfl (V_shl (m := 0) (c := y % 2) rfl rfl (by omega) rfl (by rw [show y % 2 * 2 ^ 0 = y % 2 from by omega]; exact wu32 (by omega)) rfl) ?_) | (apply gQO; refine QO_v rfl (V_or rfl rfl (or0_u32 hz) rfl) ?_) | refine JS_loop' ?_ | refine JS_inLoop ?_ | (refine sx ?_; try intro _))
    refine JS_ret Tryz.func236 rfl rfl ?_
    intro w hw
    exact ⟨_, _, rfl, .inr ⟨by omega, rfl, rfl, hw⟩⟩
theorem Bit_c {w0 : World} {H : List Asn} (b : Nat) (q : Option Addr) (d m : Nat) (B : List Int) (hr : Rd w0 H (.slice q m d) m (ints .u8 B)) (hm : B.length = m) (hB : OKB B) (hm1 : m ≤ 140737488355328) (n : Nat) (hn : n ≤ 8 * m) (w : World) (hw : St w0 (blk b [.slice q m d, .int .i64 n] :: H) w) :
    Calls Tryz.prog 255 #[.pointer (some ⟨b, 0, none⟩)] w fun e w' => ∃ x r, e = .returned (.tuple #[.int .u32 x, .int .i64 r]) ∧
      ((n = 8 * m ∧ x = 0 ∧ r = 20 ∧ St w0 (blk b [.slice q m d, .int .i64 n] :: H) w') ∨ (n < 8 * m ∧ r = 0 ∧ x = B.getD (n / 8) 0 / 2 ^ (n % 8) % 2 ∧ St w0 (blk b [.slice q m d, .int .i64 (n + 1 : Nat)] :: H) w')) := by
  refine enter (vs := [.pointer (some ⟨b, 0, none⟩)]) Tryz.func255 rfl rfl rfl hw ?_
  repeat (refine sx ?_; try intro _)
  refine JO_call Tryz.call236 rfl rfl fun w hw => (Bit1_c b q d m B hr hm hB hm1 n hn w hw).mono ?_
  rintro e w' ⟨x, r, rfl, h⟩
  rcases h with ⟨h1, rfl, rfl, hw'⟩ | ⟨h1, rfl, hx, hw'⟩
  · refine ⟨_, rfl, _, hw', ?_⟩
    repeat (refine sx ?_; try intro _)
    refine JS_ret Tryz.func255 rfl rfl ?_
    intro w hw
    exact ⟨_, _, rfl, .inl ⟨h1, rfl, rfl, hw⟩⟩
  · refine ⟨_, rfl, _, hw', ?_⟩
    repeat (refine sx ?_; try intro _)
    refine JS_ret Tryz.func255 rfl rfl ?_
    intro w hw
    exact ⟨_, _, rfl, .inr ⟨h1, rfl, hx, hw⟩⟩
end Go.Proofs.YteelffkghidpfaaGreat

namespace Go.Proofs.YteelffkghidpfaaGreat
open Sx Go
set_option linter.unusedVariables false
set_option linter.unusedSimpArgs false
set_option maxRecDepth 100000
def sm (l : List Int) : Nat := l.countP (fun x => decide (0 < x))
theorem sm_step (B : List Int) (i : Nat) (h : i < B.length) : sm (B.take (i + 1)) = sm (B.take i) + (if 0 < B.getD i 0 then 1 else 0) := by
  unfold sm
  rw [btake B i h, List.countP_append]
  by_cases h0 : 0 < B.getD i 0
  · rw [if_pos h0]; simp only [List.countP_singleton, h0, decide_true, if_true]
  · rw [if_neg h0]; simp only [List.countP_singleton, h0, decide_false, Bool.false_eq_true, if_false]
theorem half15 (k : Nat) (h : k < 15) : (2 : Int) ^ (15 - k) / 2 = 2 ^ (15 - (k + 1)) := by
  have : ∀ k : Fin 15, (2 : Int) ^ (15 - k.val) / 2 = 2 ^ (15 - (k.val + 1)) := by decide +kernel
  exact this ⟨k, h⟩
def FINE (B : List Int) : Prop := tk B = 32768 ∨ sm B = 0 ∨ (sm B = 1 ∧ cn B 1 = 1)
set_option maxHeartbeats 4000000 in
theorem RCheck5_c {w0 : World} {H : List Asn} (p : Option Addr) (c m : Nat) (B : List Int) (hr : Rd w0 H (.slice p m c) m (ints .u8 B)) (hm : B.length = m) (hB : OKB B) (hm1 : m ≤ 140737488355328) (w : World) (hw : St w0 H w) :
    Calls Tryz.prog 184 #[.slice p m c] w fun e w' => ∃ r o, e = .returned (.tuple #[.int .i64 r, .bool o]) ∧ St w0 H w' ∧
      (((320 < m ∨ ∃ j, 15 < B.getD j 0) ∧ r = 1 ∧ o = false) ∨ (m ≤ 320 ∧ (∀ j, B.getD j 0 ≤ 15) ∧ ¬ FINE B ∧ r = 62 ∧ o = false) ∨ (m ≤ 320 ∧ (∀ j, B.getD j 0 ≤ 15) ∧ FINE B ∧ r = 0 ∧ o = decide (tk B = 32768))) := by
  refine enter (vs := [.slice p m c]) Tryz.func184 rfl rfl rfl hw ?_
  repeat (first | (apply gJR; (refine sx ?_; try intro _)) | (apply gJO; (refine sx ?_; try intro _)) | apply JS_seq | apply JS_region)
  refine JS_block ?_
  refine JS_loop2 (fun (i : Nat) (la : Int) => [(0, .slice p m c), (4, .int .i64 (tk (B.take i))), (5, .int .i64 (sm (B.take i))), (6, .int .u8 la), (7, .int .i64 i)]) (fun _ _ => H)
    (fun i la => i ≤ m ∧ i ≤ 321 ∧ (0 ≤ la ∧ la ≤ 15) ∧ (∀ j, j < i → B.getD j 0 ≤ 15) ∧ (0 ≤ tk (B.take i) ∧ tk (B.take i) ≤ 32768 * i) ∧ sm (B.take i) ≤ i ∧ (sm (B.take i) = 0 → cn (B.take i) 1 = 0) ∧ (sm (B.take i) = 1 → (la = 1 ↔ cn (B.take i) 1 = 1))) (fun i _ => 321 - i) 0 0
    ⟨by omega, by omega, by omega, fun j h => by omega, by simp [tk], by simp [sm], fun _ => by simp [cn], fun h => by simp [sm] at h⟩ (by repeat (first | exact trivial | refine ⟨rfl, ?_⟩ | refine ⟨lookI rfl (by omega), ?_⟩)) (fun _ h => h) ?_
  intro i la ⟨hi, hi2, hla, h15, ht, hs, hc0, hc1⟩ again
  by_cases him : i < m ∧ i < 321
  · obtain ⟨him, hi3⟩ := him
    have hb := hB i
    obtain ⟨n, hn⟩ := Int.eq_ofNat_of_zero_le hb.1
    have gi : (ints .u8 B)[i]? = some (.int .u8 (n : Int)) := by rw [← hn]; exact ints_get (by omega)
    by_cases hbig : 15 < n
    · clear again hc0 hc1
      repeat (first | (apply gJO; refine JO_v (V_loadC (tb := tb) rfl hr rfl rfl gi rfl) ?_) | (refine sx ?_; try intro _))
      refine JS_ret Tryz.func184 rfl rfl ?_
      intro w hw
      exact ⟨_, _, rfl, hw, .inl ⟨.inr ⟨i, by omega⟩, rfl, rfl⟩⟩
    have hts := tk_step B i (by omega) n hn
    have hss := sm_step B i (by omega)
    rw [hn] at hss
    have h15' : ∀ j, j < i + 1 → B.getD j 0 ≤ 15 := fun j hj => by
      rcases Nat.lt_or_ge j i with h | h
      · exact h15 j h
      · obtain rfl : j = i := by omega
        omega
    by_cases h0 : 0 < n
    · rw [if_pos h0] at hts
      rw [if_pos (by omega)] at hss
      have hp2 := p2_bd n (by omega)
      have hcs := congrFun (cn_step B i (by omega) n hn h0) 1
      have hcn1 : cn (B.take (i + 1)) 1 = cn (B.take i) 1 + (if n = 1 then 1 else 0) := by
        rw [hcs]
        by_cases h1 : n = 1
        · subst h1; simp
        · rw [if_neg (by omega), if_neg h1]; omega
      clear hb hn hcs
      repeat (first | (apply gJO; refine JO_v (V_loadC (tb := tb) rfl hr rfl rfl gi rfl) ?_) | (apply gJR; (refine sx ?_; try intro _)) | (apply gJO; (refine sx ?_; try intro _)) | apply JS_seq | apply JS_region | refine JS_condT rfl ?_ | refine JS_condF rfl ?_ | apply JS_skip | (refine JS_block ?_; apply JS_seq))
      refine JS_block ?_
      refine JS_loop1 (fun (k : Nat) => [(0, .slice p m c), (4, .int .i64 (tk (B.take i))), (5, .int .i64 (sm (B.take i) + 1)), (6, .int .u8 n), (7, .int .i64 i), (8, .int .i64 (2 ^ (15 - k))), (9, .int .u8 k)]) (fun _ => H) (fun k => k ≤ n) (fun k => n - k) 0 (by omega) (by repeat (first | exact trivial | refine ⟨rfl, ?_⟩ | refine ⟨lookI rfl (by omega), ?_⟩)) (fun _ h => h) ?_
      intro k hk again2
      by_cases hkn : k < n
      · have hh := half15 k (by omega)
        have hp3 := p2_bd k (by omega)
        obtain ⟨P, hP⟩ : ∃ P, (2 : Int) ^ (15 - k) = P := ⟨_, rfl⟩
        rw [hP] at hh hp3
        rw [hP]
        repeat (first | (apply gJO; refine JO_v (V_loadC (tb := tb) rfl hr rfl rfl gi rfl) ?_) | (refine sx ?_; try intro _))
        exact JS_again1 again2 (k + 1) (by omega) (by omega) (by exact ⟨rfl, rfl, rfl, rfl, rfl, lookI rfl hh, lookI rfl (by omega), trivial⟩) (fun _ h => h)
      · obtain rfl : k = n := by omega
        clear again2
        obtain ⟨P, hP⟩ : ∃ P, (2 : Int) ^ (15 - k) = P := ⟨_, rfl⟩
        rw [hP] at hts hp2
        rw [hP]
        repeat (first | (apply gJO; refine JO_v (V_loadC (tb := tb) rfl hr rfl rfl gi rfl) ?_) | (refine sx ?_; try intro _))
        refine JS_again2 again (i + 1) (k : Int) ⟨by omega, by omega, by omega, h15', by omega, by omega, fun h => by omega, fun h => ?_⟩ (by omega) (by repeat (first | exact trivial | refine ⟨rfl, ?_⟩ | refine ⟨lookI rfl (by omega), ?_⟩)) (fun _ h => h)
        have hz := hc0 (by omega)
        rw [hcn1, hz]
        by_cases h1 : k = 1
        · simp [h1]
        · rw [if_neg h1]; omega
    · obtain rfl : n = 0 := by omega
      rw [if_neg h0] at hts
      rw [if_neg (by omega)] at hss
      have hcs := congrFun (cn_zero B i (by omega) hn) 1
      clear hb hn
      repeat (first | (apply gJO; refine JO_v (V_loadC (tb := tb) rfl hr rfl rfl gi rfl) ?_) | (refine sx ?_; try intro _))
      exact JS_again2 again (i + 1) la ⟨by omega, by omega, hla, h15', by omega, by omega, by rw [hcs]; intro h; exact hc0 (by omega), by rw [hcs]; intro h; exact hc1 (by omega)⟩ (by omega) (by repeat (first | exact trivial | refine ⟨rfl, ?_⟩ | refine ⟨lookI rfl (by omega), ?_⟩)) (fun _ h => h)
  clear again
  by_cases hlen : 320 < m
  · by_cases hz : i < m
    · have : ¬ i < 321 := fun h => him ⟨hz, h⟩
      repeat (refine sx ?_; try intro _)
      refine JS_ret Tryz.func184 rfl rfl ?_
      intro w hw
      exact ⟨_, _, rfl, hw, .inl ⟨.inl hlen, rfl, rfl⟩⟩
    · repeat (refine sx ?_; try intro _)
      refine JS_ret Tryz.func184 rfl rfl ?_
      intro w hw
      exact ⟨_, _, rfl, hw, .inl ⟨.inl hlen, rfl, rfl⟩⟩
  obtain rfl : i = m := by omega
  have e1 : B.take i = B := List.take_of_length_le (by omega)
  rw [e1] at ht hs hc0 hc1
  rw [e1]
  have hall : ∀ j, B.getD j 0 ≤ 15 := fun j => by
    rcases Nat.lt_or_ge j i with h | h
    · exact h15 j h
    · rw [List.getD_eq_getElem?_getD, List.getElem?_eq_none (by omega)]; decide
  clear h15 him
  by_cases hf : tk B = 32768
  · repeat (refine sx ?_; try intro _)
    refine JS_ret Tryz.func184 rfl rfl ?_
    intro w hw
    exact ⟨_, _, rfl, hw, .inr (.inr ⟨by omega, hall, .inl hf, rfl, (decide_eq_true hf).symm⟩)⟩
  by_cases h0 : sm B = 0
  · repeat (refine sx ?_; try intro _)
    refine JS_ret Tryz.func184 rfl rfl ?_
    intro w hw
    exact ⟨_, _, rfl, hw, .inr (.inr ⟨by omega, hall, .inr (.inl h0), rfl, (decide_eq_false hf).symm⟩)⟩
  by_cases h1 : sm B = 1
  · have hc := hc1 h1
    clear hc0 hc1
    by_cases hl : la = 1
    · have hc2 := hc.1 hl
      clear hc
      repeat (refine sx ?_; try intro _)
      refine JS_ret Tryz.func184 rfl rfl ?_
      intro w hw
      exact ⟨_, _, rfl, hw, .inr (.inr ⟨by omega, hall, .inr (.inr ⟨h1, hc2⟩), rfl, (decide_eq_false hf).symm⟩)⟩
    · have hc2 : ¬ cn B 1 = 1 := fun h => hl (hc.2 h)
      clear hc
      repeat (refine sx ?_; try intro _)
      refine JS_ret Tryz.func184 rfl rfl ?_
      intro w hw
      exact ⟨_, _, rfl, hw, .inr (.inl ⟨by omega, hall, by unfold FINE; omega, rfl, rfl⟩)⟩
  · clear hc0 hc1
    repeat (refine sx ?_; try intro _)
    refine JS_ret Tryz.func184 rfl rfl ?_
    intro w hw
    exact ⟨_, _, rfl, hw, .inr (.inl ⟨by omega, hall, by unfold FINE; omega, rfl, rfl⟩)⟩
end Go.Proofs.YteelffkghidpfaaGreat

namespace Go.Proofs.YteelffkghidpfaaGreat
open Sx Go
set_option linter.unusedVariables false
set_option linter.unusedSimpArgs false
set_option maxRecDepth 100000
def fc (B : List Int) : Nat → Int
  | 0 => 0
  | n + 1 => 2 * (fc B n + cn B n)
def cd (B : List Int) (i : Nat) : Int := (fc B (B.getD i 0).toNat + cn (B.take i) (B.getD i 0).toNat) % 4294967296
theorem cd_bd (B : List Int) (i : Nat) : 0 ≤ cd B i ∧ cd B i < 4294967296 := by unfold cd; omega
def told (B : List Int) (n j i : Nat) : Bool := decide (0 < B.getD i 0 ∧ (B.getD i 0 < n ∨ (B.getD i 0 = n ∧ i < j)))
def cds (B : List Int) (n j : Nat) : List Int := (List.range B.length).map fun i => if told B n j i then cd B i else 0
theorem cds_len (B : List Int) (n j : Nat) : (cds B n j).length = B.length := by simp [cds]
theorem cds_set {B : List Int} {n j : Nat} (hn : 0 < n) (hj : B.getD j 0 = (n : Int)) : (cds B n j).set j (cd B j) = cds B n (j + 1) := by
  apply List.ext_getElem?
  intro i
  rw [List.getElem?_set]
  by_cases hij : j = i
  · subst hij
    by_cases hl : j < B.length
    · have : told B n (j + 1) j = true := by unfold told; rw [hj]; simp; omega
      simp [cds, hl, this]
    · simp [cds, hl]
  · rw [if_neg hij]
    have : told B n (j + 1) i = told B n j i := by
      unfold told
      have : (i < j + 1) ↔ (i < j) := by omega
      simp [this]
    simp only [cds, List.getElem?_map]
    cases h : (List.range B.length)[i]? with
    | none => rfl
    | some x =>
      have hx : x = i := by
        have := List.getElem?_eq_some_iff.1 h
        obtain ⟨h1, h2⟩ := this
        simp at h2; exact h2.symm
      subst hx
      simp [this]
theorem cds_no {B : List Int} {n j : Nat} (hj : ¬ B.getD j 0 = (n : Int)) : cds B n j = cds B n (j + 1) := by
  unfold cds
  apply List.map_congr_left
  intro i _
  have : told B n (j + 1) i = told B n j i := by
    unfold told
    refine decide_eq_decide.2 ?_
    by_cases hij : i = j
    · subst hij; omega
    · omega
  rw [this]
theorem cds_next (B : List Int) (n : Nat) : cds B n B.length = cds B (n + 1) 0 := by
  unfold cds
  apply List.map_congr_left
  intro i hi
  have hi' : i < B.length := by simpa using hi
  have : told B (n + 1) 0 i = told B n B.length i := by
    unfold told
    congr 1
    simp only [eq_iff_iff]
    omega
  rw [this]
theorem cds_zero (B : List Int) (hB : OKB B) : cds B 1 0 = List.replicate B.length 0 := by
  unfold cds
  rw [List.eq_replicate_iff]
  refine ⟨by simp, fun b hb => ?_⟩
  simp only [List.mem_map, List.mem_range] at hb
  obtain ⟨i, _, rfl⟩ := hb
  have : told B 1 0 i = false := by
    unfold told
    have := hB i
    simp; omega
  simp [this]
theorem cn_yes (B : List Int) (j n : Nat) (h : j < B.length) (hn : B.getD j 0 = (n : Int)) (h0 : 0 < n) : cn (B.take (j + 1)) n = cn (B.take j) n + 1 := by
  rw [congrFun (cn_step B j h n hn h0) n]; simp
theorem cn_no (B : List Int) (hB : OKB B) (j n : Nat) (h : j < B.length) (hn : ¬ B.getD j 0 = (n : Int)) : cn (B.take (j + 1)) n = cn (B.take j) n := by
  obtain ⟨x, hx⟩ := Int.eq_ofNat_of_zero_le (hB j).1
  by_cases h0 : 0 < x
  · rw [congrFun (cn_step B j h x hx h0) n, if_neg (by omega)]
  · have : x = 0 := by omega
    subst this
    rw [cn_zero B j h hx]
set_option maxHeartbeats 4000000 in
theorem RCodes_c {w0 : World} {H : List Asn} (p : Option Addr) (c m : Nat) (B : List Int) (hr : Rd w0 H (.slice p m c) m (ints .u8 B)) (hm : B.length = m) (hB : OKB B) (hm1 : m ≤ 1000) (w : World) (hw : St w0 H w) :
    Calls Tryz.prog 169 #[.slice p m c] w fun e w' => ∃ q d, e = .returned (.slice q m d) ∧ St w0 (vec 31 1 (.slice q m d) m (ints .u32 (cds B 16 0)) :: H) w' := by
  refine enter (vs := [.slice p m c]) Tryz.func169 rfl rfl rfl hw ?_
  repeat (first | (apply gJR; (refine sx ?_; try intro _)) | (apply gJO; (refine sx ?_; try intro _)) | apply JS_seq | apply JS_region)
  rename_i po
  rw [show (rep (Int.toNat m) [Value.int IntKind.u32 0]) = ints .u32 (List.replicate m 0) from ints_rep]
  rw [show (m : Int).toNat = m from rfl]
  refine JS_block ?_
  refine JS_loop1 (fun (n : Nat) => [(0, .slice p m c), (3, .slice (some po) m m), (4, .int .u32 ((fc B n + cn B n) % 4294967296)), (5, .int .u8 (n + 1))]) (fun n => vec 31 1 (.slice (some po) m m) m (ints .u32 (cds B (n + 1) 0)) :: H) (fun n => n ≤ 15) (fun n => 15 - n) 0 (by omega) (by repeat (first | exact trivial | refine ⟨rfl, ?_⟩ | refine ⟨lookI rfl (by omega), ?_⟩)) (fun w hw => by rw [cds_zero B hB, hm]; exact hw) ?_
  intro n hn again
  by_cases hn15 : n < 15
  · repeat (first | (apply gJR; (refine sx ?_; try intro _)) | (apply gJO; (refine sx ?_; try intro _)) | apply JS_seq | apply JS_region | refine JS_condT rfl ?_ | apply JS_skip | (refine JS_block ?_; apply JS_seq))
    have hcode : 2 * ((fc B n + cn B n) % 4294967296) % 4294967296 = (fc B (n + 1) + cn (B.take 0) (n + 1)) % 4294967296 := by
      have : cn (B.take 0) (n + 1) = 0 := by simp [cn]
      rw [this]; simp only [fc]; omega
    rw [hcode]
    refine JS_block ?_
    refine JS_loop1 (fun (j : Nat) => [(0, .slice p m c), (3, .slice (some po) m m), (4, .int .u32 ((fc B (n + 1) + cn (B.take j) (n + 1)) % 4294967296)), (5, .int .u8 (n + 1)), (6, .int .i64 j)]) (fun j => vec 31 1 (.slice (some po) m m) m (ints .u32 (cds B (n + 1) j)) :: H) (fun j => j ≤ m) (fun j => m - j) 0 (by omega) (by repeat (first | exact trivial | refine ⟨rfl, ?_⟩ | refine ⟨lookI rfl (by omega), ?_⟩)) (fun w hw => hw) ?_
    intro j hj again2
    have hr' : Rd w0 (vec 31 1 (.slice (some po) m m) m (ints .u32 (cds B (n + 1) j)) :: H) (.slice p m c) m (ints .u8 B) := Rd_weak hr fun w hw => dS hw
    have hcl := cds_len B (n + 1) j
    by_cases hjm : j < m
    · have gj : (ints .u8 B)[j]? = some (.int .u8 (B.getD j 0)) := ints_get (by omega)
      by_cases heq : B.getD j 0 = ((n + 1 : Nat) : Int)
      · have hset := cds_set (B := B) (n := n + 1) (j := j) (by omega) heq
        have hcy := cn_yes B j (n + 1) (by omega) heq (by omega)
        have hcd : cd B j = (fc B (n + 1) + cn (B.take j) (n + 1)) % 4294967296 := by unfold cd; rw [heq]; rfl
        have heq' : B.getD j 0 = (n : Int) + 1 := by omega
        rw [hcd] at hset
        clear heq hcd
        generalize hC : (fc B (n + 1) + cn (B.take j) (n + 1)) % 4294967296 = C at *
        repeat (first | (apply gJO; refine JO_v (V_loadC (tb := tb) rfl hr' rfl rfl gj rfl) ?_) | (refine sx ?_; try intro _))
        exact JS_again1 again2 (j + 1) (by omega) (by omega) (by exact ⟨rfl, rfl, lookI rfl (by rw [hcy]; omega), rfl, lookI rfl (by omega), trivial⟩) (fun w hw => by rw [← hset]; exact hw)
      · have hset := cds_no (B := B) (n := n + 1) (j := j) heq
        have hcy := cn_no B hB j (n + 1) (by omega) heq
        have heq' : ¬ B.getD j 0 = (n : Int) + 1 := by omega
        clear heq
        repeat (first | (apply gJO; refine JO_v (V_loadC (tb := tb) rfl hr' rfl rfl gj rfl) ?_) | (refine sx ?_; try intro _))
        exact JS_again1 again2 (j + 1) (by omega) (by omega) (by exact ⟨rfl, rfl, lookI rfl (by rw [hcy]), rfl, lookI rfl (by omega), trivial⟩) (fun w hw => by rw [← hset]; exact hw)
    · obtain rfl : j = m := by omega
      have e1 : B.take j = B := List.take_of_length_le (by omega)
      have hnx := cds_next B (n + 1)
      rw [hm] at hnx
      rw [e1, hnx]
      clear again2
      repeat (refine sx ?_; try intro _)
      exact JS_again1 again (n + 1) (by omega) (by omega) (by repeat (first | exact trivial | refine ⟨rfl, ?_⟩ | refine ⟨lookI rfl (by omega), ?_⟩)) (fun w hw => hw)
  · obtain rfl : n = 15 := by omega
    clear again
    repeat (refine sx ?_; try intro _)
    refine JS_ret Tryz.func169 rfl rfl ?_
    intro w hw
    exact ⟨_, _, rfl, hw⟩
end Go.Proofs.YteelffkghidpfaaGreat

namespace Go.Proofs.YteelffkghidpfaaGreat
set_option linter.unusedVariables false
set_option linter.unusedSimpArgs false
set_option maxRecDepth 100000
theorem cn_sy1 (B : List Int) (hB : OKB B) (n : Nat) (h0 : 0 < n) : ∀ j, j ≤ B.length → ((sy1 B n j).length : Int) = cn (B.take j) n := by
  intro j
  induction j with
  | zero => intro _; simp [sy1, cn]
  | succ j ih =>
    intro hj
    have ih := ih (by omega)
    by_cases h : B.getD j 0 = (n : Int)
    · rw [sy1_yes h, cn_yes B j n (by omega) h h0]; simp; omega
    · rw [sy1_no h, cn_no B hB j n (by omega) h]; exact ih
def sumc (f : Nat → Int) : Nat → Int
  | 0 => 0
  | n + 1 => sumc f n + f (n + 1)
theorem sumc_upd (f : Nat → Int) (k : Nat) (h0 : 0 < k) : ∀ n, sumc (fun j => if j = k then f k + 1 else f j) n = sumc f n + (if k ≤ n then 1 else 0)
  | 0 => by simp [sumc]; omega
  | n + 1 => by
    simp only [sumc, sumc_upd f k h0 n]
    by_cases h : n + 1 = k
    · subst h
      rw [if_pos rfl, if_neg (by omega), if_pos (by omega)]; omega
    · rw [if_neg h]
      by_cases h1 : k ≤ n
      · rw [if_pos h1, if_pos (by omega)]; omega
      · rw [if_neg h1, if_neg (by omega)]; omega
theorem sumc_zero (n : Nat) : sumc (cn []) n = 0 := by
  induction n with
  | zero => rfl
  | succ n ih => simp [sumc, ih, cn]
theorem sm_sumc (B : List Int) (hB : OKB B) (h15 : ∀ j, B.getD j 0 ≤ 15) : ∀ i, i ≤ B.length → (sm (B.take i) : Int) = sumc (cn (B.take i)) 15 := by
  intro i
  induction i with
  | zero => intro _; rw [List.take_zero, sumc_zero]; rfl
  | succ i ih =>
    intro hi
    have ih := ih (by omega)
    obtain ⟨x, hx⟩ := Int.eq_ofNat_of_zero_le (hB i).1
    have h := h15 i
    rw [sm_step B i (by omega), hx]
    by_cases h0 : 0 < x
    · rw [if_pos (by omega), cn_step B i (by omega) x hx h0, sumc_upd _ x h0, if_pos (by omega)]; omega
    · have : x = 0 := by omega
      subst this
      rw [if_neg (by omega), cn_zero B i (by omega) hx]; omega
theorem syA_sumc (B : List Int) (hB : OKB B) : ∀ n, ((syA B n).length : Int) = sumc (cn B) n
  | 0 => rfl
  | n + 1 => by
    have h1 := syA_sumc B hB n
    have h2 := cn_sy1 B hB (n + 1) (by omega) B.length (by omega)
    rw [List.take_of_length_le (by omega)] at h2
    simp only [syA, List.length_append, sumc]; omega
theorem sm_syA (B : List Int) (hB : OKB B) (h15 : ∀ j, B.getD j 0 ≤ 15) : (syA B 15).length = sm B := by
  have h1 := sm_sumc B hB h15 B.length (by omega)
  rw [List.take_of_length_le (by omega)] at h1
  have h2 := syA_sumc B hB 15
  omega
theorem fine_iff (B : List Int) (hB : OKB B) (h15 : ∀ j, B.getD j 0 ≤ 15) : (tk B = 32768 ∨ (syA B 15).length = 0 ∨ ((syA B 15).length = 1 ∧ cn B 1 = 1)) ↔ FINE B := by
  rw [sm_syA B hB h15]; exact Iff.rfl
end Go.Proofs.YteelffkghidpfaaGreat

namespace Go.Proofs.YteelffkghidpfaaGreat
set_option linter.unusedVariables false
set_option linter.unusedSimpArgs false
set_option maxRecDepth 100000
def psum (B : List Int) : Nat → Int
  | 0 => 0
  | n + 1 => psum B n + cn B n
theorem cn_nonneg (B : List Int) (n : Nat) : 0 ≤ cn B n := by
  unfold cn; split
  · exact Int.le_refl _
  · omega
theorem psum_mono (B : List Int) (n : Nat) : ∀ d, psum B n ≤ psum B (n + d)
  | 0 => Int.le_refl _
  | d + 1 => by
    have := psum_mono B n d
    have := cn_nonneg B (n + d)
    show psum B n ≤ psum B (n + d) + cn B (n + d)
    omega
theorem psum_syA (B : List Int) (hB : OKB B) : ∀ n, psum B (n + 1) = ((syA B n).length : Int)
  | 0 => by simp [psum, syA, cn]
  | n + 1 => by
    have h1 := psum_syA B hB n
    have h2 := syA_sumc B hB (n + 1)
    have h3 := syA_sumc B hB n
    simp only [sumc] at h2
    show psum B (n + 1) + cn B (n + 1) = _
    omega
theorem shift_code (B : List Int) (n : Nat) (c : Int) (hc : c ≤ cn B n) : ∀ d, 0 < d → psum B (n + d) ≤ psum B n + c → psum B n + c = psum B (n + d) ∧ fc B (n + d) = (fc B n + c) * 2 ^ d
  | 0, h, _ => absurd h (by omega)
  | 1, _, h => by
    have h' : psum B n + cn B n ≤ psum B n + c := h
    have : c = cn B n := by omega
    subst this
    exact ⟨rfl, by show 2 * (fc B n + cn B n) = _; omega⟩
  | d + 2, _, h => by
    have h' : psum B (n + (d + 1)) + cn B (n + (d + 1)) ≤ psum B n + c := h
    have h0 := cn_nonneg B (n + (d + 1))
    obtain ⟨h1, h2⟩ := shift_code B n c hc (d + 1) (by omega) (by omega)
    have hz : cn B (n + (d + 1)) = 0 := by omega
    refine ⟨?_, ?_⟩
    · show psum B n + c = psum B (n + (d + 1)) + cn B (n + (d + 1)); omega
    · show 2 * (fc B (n + (d + 1)) + cn B (n + (d + 1))) = _
      rw [hz, h2, Int.pow_succ 2 (d + 1)]
      generalize (2 : Int) ^ (d + 1) = P
      grind
theorem sy1_get (B : List Int) (n : Nat) : ∀ j r, r < (sy1 B n j).length → ∃ i, i < j ∧ (sy1 B n j).getD r 0 = (i : Int) ∧ B.getD i 0 = (n : Int) ∧ (sy1 B n i).length = r
  | 0, r, h => by simp [sy1] at h
  | j + 1, r, h => by
    by_cases he : B.getD j 0 = (n : Int)
    · rw [sy1_yes he] at h ⊢
      rcases Nat.lt_or_ge r (sy1 B n j).length with h1 | h1
      · obtain ⟨i, hi, h2, h3⟩ := sy1_get B n j r h1
        refine ⟨i, by omega, ?_, h3⟩
        rw [List.getD_eq_getElem?_getD, List.getElem?_append_left h1, ← List.getD_eq_getElem?_getD]; exact h2
      · have hr : r = (sy1 B n j).length := by simp at h; omega
        subst hr
        exact ⟨j, by omega, by simp, he, rfl⟩
    · rw [sy1_no he] at h ⊢
      obtain ⟨i, hi, h2⟩ := sy1_get B n j r h
      exact ⟨i, by omega, h2⟩
theorem syA_get (B : List Int) : ∀ N t, t < (syA B N).length → ∃ n r i, n < N ∧ t = (syA B n).length + r ∧ r < (sy1 B (n + 1) B.length).length ∧ i < B.length ∧ (syA B N).getD t 0 = (i : Int) ∧ B.getD i 0 = ((n + 1 : Nat) : Int) ∧ (sy1 B (n + 1) i).length = r
  | 0, t, h => by simp [syA] at h
  | N + 1, t, h => by
    simp only [syA] at h ⊢
    rcases Nat.lt_or_ge t (syA B N).length with h1 | h1
    · obtain ⟨n, r, i, h2, h3, h4, h5, h6, h7⟩ := syA_get B N t h1
      refine ⟨n, r, i, by omega, h3, h4, h5, ?_, h7⟩
      rw [List.getD_eq_getElem?_getD, List.getElem?_append_left h1, ← List.getD_eq_getElem?_getD]; exact h6
    · have hr : t - (syA B N).length < (sy1 B (N + 1) B.length).length := by rw [List.length_append] at h; omega
      obtain ⟨i, h2, h3, h4, h5⟩ := sy1_get B (N + 1) B.length (t - (syA B N).length) hr
      refine ⟨N, t - (syA B N).length, i, by omega, by omega, hr, h2, ?_, h4, h5⟩
      rw [List.getD_eq_getElem?_getD, List.getElem?_append_right h1, ← List.getD_eq_getElem?_getD]; exact h3
end Go.Proofs.YteelffkghidpfaaGreat

namespace Go.Proofs.YteelffkghidpfaaGreat
open Sx Go
set_option linter.unusedVariables false
set_option linter.unusedSimpArgs false
set_option maxRecDepth 100000
theorem mem_sy1 (B : List Int) (n j i : Nat) : (i : Int) ∈ sy1 B n j ↔ i < j ∧ B.getD i 0 = (n : Int) := by
  unfold sy1
  simp only [List.mem_map, List.mem_filter, List.mem_range, beq_iff_eq]
  constructor
  · rintro ⟨a, ⟨h1, h2⟩, h3⟩
    obtain rfl : a = i := by omega
    exact ⟨h1, h2⟩
  · rintro ⟨h1, h2⟩
    exact ⟨i, ⟨h1, h2⟩, rfl⟩
theorem mem_syA (B : List Int) (i : Nat) : ∀ N, (i : Int) ∈ syA B N ↔ i < B.length ∧ 0 < B.getD i 0 ∧ B.getD i 0 ≤ (N : Int)
  | 0 => by simp only [syA, List.not_mem_nil, false_iff]; omega
  | N + 1 => by
    simp only [syA, List.mem_append, mem_syA B i N, mem_sy1]
    omega
attribute [local irreducible] syA
def outC (B : List Int) (t : Nat) : List Int := (List.range B.length).map fun (i : Nat) => if decide ((i : Int) ∈ (syA B 15).take t) then cd B i else 0
theorem outC_len (B : List Int) (t : Nat) : (outC B t).length = B.length := by simp [outC]
theorem outC_zero (B : List Int) : outC B 0 = List.replicate B.length 0 := by
  unfold outC
  rw [List.eq_replicate_iff]
  refine ⟨by simp, fun b hb => ?_⟩
  simp at hb
  exact hb.2.symm
theorem outC_set {B : List Int} {t i : Nat} (ht : t < (syA B 15).length) (hi : (syA B 15).getD t 0 = (i : Int)) : (outC B t).set i (cd B i) = outC B (t + 1) := by
  have hts : (syA B 15).take (t + 1) = (syA B 15).take t ++ [(i : Int)] := by rw [btake _ _ ht, hi]
  apply List.ext_getElem?
  intro j
  rw [List.getElem?_set]
  by_cases hij : i = j
  · subst hij
    by_cases hl : i < B.length
    · simp [outC, hl, hts]
    · simp [outC, hl]
  · rw [if_neg hij]
    simp only [outC, List.getElem?_map]
    cases h : (List.range B.length)[j]? with
    | none => rfl
    | some x =>
      have hx : x = j := by
        obtain ⟨h1, h2⟩ := List.getElem?_eq_some_iff.1 h
        simp at h2; exact h2.symm
      subst hx
      have : ((x : Int) ∈ (syA B 15).take (t + 1)) ↔ ((x : Int) ∈ (syA B 15).take t) := by
        rw [hts, List.mem_append]
        simp; omega
      simp [this]
theorem outC_end {B : List Int} (h15 : ∀ j, B.getD j 0 ≤ 15) : outC B (syA B 15).length = cds B 16 0 := by
  unfold outC cds
  apply List.map_congr_left
  intro i hi
  have hi' : i < B.length := by simpa using hi
  rw [List.take_of_length_le (by omega)]
  have : decide ((i : Int) ∈ syA B 15) = told B 16 0 i := by
    unfold told
    refine decide_eq_decide.2 ?_
    rw [mem_syA]
    have := h15 i
    omega
  rw [this]
end Go.Proofs.YteelffkghidpfaaGreat

namespace Go.Proofs.YteelffkghidpfaaGreat
open Sx Go
set_option linter.unusedVariables false
set_option linter.unusedSimpArgs false
set_option maxRecDepth 100000
attribute [local irreducible] syA
theorem cn_app (l : List Int) (x : Int) (n : Nat) : cn (l ++ [x]) n = cn l n + (if 0 < n ∧ x = (n : Int) then 1 else 0) := by
  unfold cn
  rw [List.countP_append]
  by_cases h0 : n = 0
  · simp [h0]
  · rw [if_neg h0, if_neg h0]
    by_cases hx : x = (n : Int)
    · rw [if_pos ⟨by omega, hx⟩]; simp [hx]
    · rw [if_neg (fun h => hx h.2)]
      have : ¬ (x == (n : Int)) = true := by simpa using hx
      simp [this]
theorem fc_app (l : List Int) (k : Nat) : ∀ n, fc (l ++ [(k : Int)]) n = fc l n + (if 0 < k ∧ k < n then 2 ^ (n - k) else 0)
  | 0 => by simp [fc]
  | n + 1 => by
    simp only [fc, fc_app l k n, cn_app]
    by_cases h0 : 0 < k
    · rcases Nat.lt_trichotomy k n with h | h | h
      · rw [if_pos ⟨h0, h⟩, if_neg (by omega), if_pos ⟨h0, by omega⟩, show n + 1 - k = (n - k) + 1 by omega, Int.pow_succ]; omega
      · subst h
        rw [if_neg (by omega), if_pos ⟨h0, rfl⟩, if_pos ⟨h0, by omega⟩, show k + 1 - k = 1 by omega]; omega
      · rw [if_neg (by omega), if_neg (by omega), if_neg (by omega)]; omega
    · rw [if_neg (by omega), if_neg (by omega), if_neg (by omega)]; omega
theorem fc_tk (B : List Int) (hB : OKB B) (h15 : ∀ j, B.getD j 0 ≤ 15) : ∀ i, i ≤ B.length → fc (B.take i) 15 + cn (B.take i) 15 = tk (B.take i)
  | 0, _ => by rw [List.take_zero]; decide
  | i + 1, h => by
    obtain ⟨n, hn⟩ := Int.eq_ofNat_of_zero_le (hB i).1
    have h1 := h15 i
    rw [tk_step B i (by omega) n hn, btake B i (by omega), hn, fc_app, cn_app, ← fc_tk B hB h15 i (by omega)]
    by_cases h0 : 0 < n
    · rw [if_pos h0]
      by_cases h2 : n = 15
      · subst h2; simp; omega
      · rw [if_pos ⟨h0, by omega⟩, if_neg (by omega)]; omega
    · rw [if_neg h0, if_neg (by omega), if_neg (by omega)]; omega
theorem fc_nn (B : List Int) : ∀ n, 0 ≤ fc B n
  | 0 => Int.le_refl _
  | n + 1 => by
    have := fc_nn B n
    have := cn_nonneg B n
    show 0 ≤ 2 * (fc B n + cn B n); omega
theorem FINE_tk (B : List Int) (hB : OKB B) (h15 : ∀ j, B.getD j 0 ≤ 15) (hF : FINE B) : tk B ≤ 32768 := by
  rcases hF with h | h | h
  · omega
  · have : ∀ i, i ≤ B.length → sm (B.take i) = 0 → tk (B.take i) = 0 := by
      intro i
      induction i with
      | zero => intro _ _; rfl
      | succ i ih =>
        intro hi hs
        rw [sm_step B i (by omega)] at hs
        obtain ⟨n, hn⟩ := Int.eq_ofNat_of_zero_le (hB i).1
        rw [tk_step B i (by omega) n hn]
        by_cases h0 : 0 < n
        · rw [if_pos (by omega)] at hs; omega
        · rw [if_neg h0, ih (by omega) (by omega)]; rfl
    have := this B.length (Nat.le_refl _) (by rw [List.take_length]; exact h)
    rw [List.take_length] at this; omega
  · have : ∀ i, i ≤ B.length → tk (B.take i) ≤ 32768 * sm (B.take i) := by
      intro i
      induction i with
      | zero => intro _; simp [tk, sm]
      | succ i ih =>
        intro hi
        rw [sm_step B i (by omega)]
        obtain ⟨n, hn⟩ := Int.eq_ofNat_of_zero_le (hB i).1
        rw [tk_step B i (by omega) n hn]
        have := ih (by omega)
        have h2 := h15 i
        have := p2_bd n (by omega)
        by_cases h0 : 0 < n
        · rw [if_pos h0, if_pos (by omega)]; omega
        · rw [if_neg h0, if_neg (by omega)]; omega
    have := this B.length (Nat.le_refl _)
    rw [List.take_length] at this; omega
theorem fc_le (B : List Int) (hB : OKB B) (h15 : ∀ j, B.getD j 0 ≤ 15) (hF : FINE B) : ∀ d, d ≤ 15 → fc B (15 - d) + cn B (15 - d) ≤ 2 ^ (15 - d)
  | 0, _ => by
    have h := fc_tk B hB h15 B.length (Nat.le_refl _)
    rw [List.take_length] at h
    have := FINE_tk B hB h15 hF
    show fc B 15 + cn B 15 ≤ 32768; omega
  | d + 1, hd => by
    have h := fc_le B hB h15 hF d (by omega)
    have e : 15 - d = (15 - (d + 1)) + 1 := by omega
    rw [e, Int.pow_succ] at h
    have h2 : fc B (15 - (d + 1) + 1) = 2 * (fc B (15 - (d + 1)) + cn B (15 - (d + 1))) := rfl
    have := cn_nonneg B (15 - (d + 1) + 1)
    omega
theorem fc_bd (B : List Int) (hB : OKB B) (h15 : ∀ j, B.getD j 0 ≤ 15) (hF : FINE B) (n : Nat) (hn : n ≤ 15) : fc B n + cn B n ≤ 2 ^ n := by
  have := fc_le B hB h15 hF (15 - n) (by omega)
  rwa [show 15 - (15 - n) = n by omega] at this
theorem p15 (n : Nat) (h : n ≤ 15) : (1 : Int) ≤ 2 ^ n ∧ (2 : Int) ^ n ≤ 32768 := by
  have := p2_bd (15 - n) (by omega)
  rwa [show 15 - (15 - n) = n by omega] at this
def bval (b : Nat → Int) : Nat → Int
  | 0 => 0
  | n + 1 => 2 * bval b n + b n
def DEC (B : List Int) (b : Nat → Int) (left : Nat) (i : Nat) : Prop :=
  ∃ n : Nat, i < B.length ∧ 0 < n ∧ B.getD i 0 = (n : Int) ∧ n ≤ left ∧ bval b n = cd B i
theorem cd_eq (B : List Int) (hB : OKB B) (h15 : ∀ j, B.getD j 0 ≤ 15) (hF : FINE B) (i n : Nat) (hi : i < B.length) (h0 : 0 < n) (hn : B.getD i 0 = (n : Int)) : cd B i = fc B n + cn (B.take i) n ∧ cn (B.take i) n < cn B n := by
  have h1 := cn_yes B i n hi hn h0
  have h2 : ∀ d, i + 1 + d ≤ B.length → cn (B.take (i + 1)) n ≤ cn (B.take (i + 1 + d)) n := by
    intro d
    induction d with
    | zero => intro _; exact Int.le_refl _
    | succ d ih =>
      intro hd
      have := ih (by omega)
      rw [show i + 1 + (d + 1) = (i + 1 + d) + 1 from rfl, btake B (i + 1 + d) (by omega), cn_app]
      split <;> omega
  have h3 := h2 (B.length - (i + 1)) (by omega)
  rw [show i + 1 + (B.length - (i + 1)) = B.length by omega, List.take_length] at h3
  have h4 := fc_nn B n
  have h5 := cn_nonneg (B.take i) n
  have h15i := h15 i
  have h6 := fc_bd B hB h15 hF n (by omega)
  have h7 := p15 n (by omega)
  refine ⟨?_, by omega⟩
  unfold cd
  rw [hn, Int.toNat_natCast]; omega
theorem cn_mono (B : List Int) (n i j : Nat) (hij : i ≤ j) (hj : j ≤ B.length) : cn (B.take i) n ≤ cn (B.take j) n := by
  obtain ⟨d, rfl⟩ : ∃ d, j = i + d := ⟨j - i, by omega⟩
  clear hij
  induction d with
  | zero => exact Int.le_refl _
  | succ d ih =>
    have := ih (by omega)
    rw [show i + (d + 1) = (i + d) + 1 from rfl, btake B (i + d) (by omega), cn_app]
    split <;> omega
theorem val_behind (B : List Int) (b : Nat → Int) (hb : ∀ j, b j = 0 ∨ b j = 1) (n : Nat) (h : bval b n < fc B n + cn B n) : ∀ d, 0 < d → bval b (n + d) < fc B (n + d)
  | 0, h0 => absurd h0 (by omega)
  | 1, _ => by
    have := hb n
    show 2 * bval b n + b n < 2 * (fc B n + cn B n); omega
  | d + 2, _ => by
    have h1 := val_behind B b hb n h (d + 1) (by omega)
    have := hb (n + (d + 1))
    have := cn_nonneg B (n + (d + 1))
    show 2 * bval b (n + (d + 1)) + b (n + (d + 1)) < 2 * (fc B (n + (d + 1)) + cn B (n + (d + 1))); omega
theorem DEC_one (B : List Int) (hB : OKB B) (h15 : ∀ j, B.getD j 0 ≤ 15) (hF : FINE B) (b : Nat → Int) (hb : ∀ j, b j = 0 ∨ b j = 1) (left i j : Nat) (h1 : DEC B b left i) (h2 : DEC B b left j) : i = j := by
  obtain ⟨n, hi, hn0, hn, hnl, hv⟩ := h1
  obtain ⟨k, hj, hk0, hk, hkl, hu⟩ := h2
  obtain ⟨c1, c2⟩ := cd_eq B hB h15 hF i n hi hn0 hn
  obtain ⟨c3, c4⟩ := cd_eq B hB h15 hF j k hj hk0 hk
  have z1 := cn_nonneg (B.take i) n
  have z2 := cn_nonneg (B.take j) k
  rcases Nat.lt_trichotomy n k with h | h | h
  · have := val_behind B b hb n (by omega) (k - n) (by omega)
    rw [show n + (k - n) = k by omega] at this; omega
  · subst h
    rcases Nat.lt_trichotomy i j with h | h | h
    · have a1 := cn_yes B i n hi hn hn0
      have a2 := cn_mono B n (i + 1) j (by omega) (by omega)
      omega
    · exact h
    · have a1 := cn_yes B j n hj hk hk0
      have a2 := cn_mono B n (j + 1) i (by omega) (by omega)
      omega
  · have := val_behind B b hb k (by omega) (n - k) (by omega)
    rw [show k + (n - k) = n by omega] at this; omega
theorem sym_at (B : List Int) (hB : OKB B) (h15 : ∀ j, B.getD j 0 ≤ 15) (hF : FINE B) (n : Nat) (h0 : 0 < n) (hn : n ≤ 15) (k : Nat) (hk : (k : Int) < cn B n) :
    ∃ i : Nat, psum B n + k < ((syA B 15).length : Int) ∧ (syA B 15).getD (psum B n + k).toNat 0 = (i : Int) ∧ i < B.length ∧ B.getD i 0 = (n : Int) ∧ cd B i = fc B n + k := by
  have hp : 0 ≤ psum B n := by
    have := psum_mono B 0 n
    rw [Nat.zero_add] at this
    exact this
  have hl : psum B n + k < ((syA B 15).length : Int) := by
    have h1 := psum_syA B hB 15
    have h2 := psum_mono B (n + 1) (15 - n)
    rw [show n + 1 + (15 - n) = 16 by omega] at h2
    have : psum B (n + 1) = psum B n + cn B n := rfl
    have : psum B (15 + 1) = psum B 16 := rfl
    omega
  obtain ⟨n', r, i, g1, g2, g3, g4, g5, g6, g7⟩ := syA_get B 15 (psum B n + k).toNat (by omega)
  have e1 := psum_syA B hB n'
  have e2 := cn_sy1 B hB (n' + 1) (by omega) i (by omega)
  have e3 := cn_sy1 B hB (n' + 1) (by omega) B.length (Nat.le_refl _)
  rw [List.take_length] at e3
  have e4 : psum B (n' + 1 + 1) = psum B (n' + 1) + cn B (n' + 1) := rfl
  have e5 : psum B (n + 1) = psum B n + cn B n := rfl
  have hnn : n' + 1 = n := by
    rcases Nat.lt_trichotomy (n' + 1) n with h | h | h
    · have := psum_mono B (n' + 1 + 1) (n - (n' + 2))
      rw [show n' + 1 + 1 + (n - (n' + 2)) = n by omega] at this; omega
    · exact h
    · have := psum_mono B (n + 1) (n' + 1 - (n + 1))
      rw [show n + 1 + (n' + 1 - (n + 1)) = n' + 1 by omega] at this; omega
  subst hnn
  refine ⟨i, hl, g5, g4, g6, ?_⟩
  rw [(cd_eq B hB h15 hF i (n' + 1) g4 (by omega) g6).1]; omega
end Go.Proofs.YteelffkghidpfaaGreat

namespace Go.Proofs.YteelffkghidpfaaGreat
open Sx Go
set_option linter.unusedVariables false
set_option linter.unusedSimpArgs false
set_option maxRecDepth 100000
theorem fc_succ (B : List Int) (n : Nat) : fc B (n + 1) = 2 * (fc B n + cn B n) := rfl
theorem fc_zero (B : List Int) : fc B 0 = 0 := rfl
attribute [local irreducible] syA fc tk
def bitB (B : List Int) (n j : Nat) : Int := B.getD ((n + j) / 8) 0 / 2 ^ ((n + j) % 8) % 2
theorem bitB_01 (B : List Int) (n j : Nat) : bitB B n j = 0 ∨ bitB B n j = 1 := by
  unfold bitB; omega
def RD (B : List Int) (bits : Nat → Int) (left : Nat) (i : Int) (used : Nat) (r : Int) : Prop :=
  (∃ j : Nat, i = (j : Int) ∧ r = 0 ∧ DEC B bits left j ∧ B.getD j 0 = (used : Int)) ∨
  ((∀ j, ¬ DEC B bits left j) ∧ i = 0 ∧ ((sm B = 0 ∧ used = 0 ∧ r = 62) ∨ (sm B ≠ 0 ∧ tk B = 32768 ∧ used = left ∧ r = 20) ∨ (sm B ≠ 0 ∧ ¬ tk B = 32768 ∧ ((left = 0 ∧ used = 0 ∧ r = 20) ∨ (0 < left ∧ used = 1 ∧ r = 62)))))
theorem or_even {a x : Int} (ha : 0 ≤ a ∧ a < 65536) (he : a % 2 = 0) (hx : x = 0 ∨ x = 1) : IntKind.i64.wrap ((BitVec.ofInt IntKind.i64.bits a ||| BitVec.ofInt IntKind.i64.bits x).toNat) = a + x := by
  rw [or_nat .i64 ⟨ha.1, Int.lt_trans ha.2 (by decide)⟩ ⟨by omega, by rcases hx with rfl | rfl <;> decide⟩]
  have h := Nat.two_pow_add_eq_or_of_lt (i := 1) (b := x.toNat) (by omega) (a.toNat / 2)
  rw [show 2 ^ 1 * (a.toNat / 2) = a.toNat by omega] at h
  rw [← h]
  exact (wi64 (by omega)).trans (by omega)
theorem bval_lt (b : Nat → Int) (hb : ∀ j, b j = 0 ∨ b j = 1) : ∀ n, 0 ≤ bval b n ∧ bval b n < 2 ^ n
  | 0 => ⟨Int.le_refl _, by show (0 : Int) < 1; decide⟩
  | n + 1 => by
    have h := bval_lt b hb n
    have := hb n
    rw [Int.pow_succ]
    show 0 ≤ 2 * bval b n + b n ∧ 2 * bval b n + b n < _
    omega
theorem no_dec (B : List Int) (hB : OKB B) (h15 : ∀ j, B.getD j 0 ≤ 15) (hF : FINE B) (bits : Nat → Int) (hb : ∀ j, bits j = 0 ∨ bits j = 1) (k : Nat) (h : fc B k + cn B k ≤ bval bits k) (j : Nat) : ¬ DEC B bits k j := by
  rintro ⟨n, hi, hn0, hn, hnl, hv⟩
  obtain ⟨c1, c2⟩ := cd_eq B hB h15 hF j n hi hn0 hn
  rcases Nat.eq_or_lt_of_le hnl with h1 | h1
  · subst h1; omega
  · have := val_behind B bits hb n (by omega) (k - n) (by omega)
    rw [show n + (k - n) = k by omega] at this
    have := cn_nonneg B k
    omega
theorem sm0_dec (B : List Int) (h : sm B = 0) (bits : Nat → Int) (left j : Nat) : ¬ DEC B bits left j := by
  rintro ⟨n, hi, hn0, hn, hnl, hv⟩
  unfold sm at h
  rw [List.countP_eq_zero] at h
  have := h (B.getD j 0) (by rw [List.getD_eq_getElem?_getD, List.getElem?_eq_getElem hi]; exact List.getElem_mem hi)
  exact this (decide_eq_true (by omega))
theorem FINE_lone (B : List Int) (hB : OKB B) (h15 : ∀ j, B.getD j 0 ≤ 15) (hF : FINE B) (h1 : ¬ tk B = 32768) (h0 : sm B ≠ 0) : ∀ n, 2 ≤ n → n ≤ 15 → cn B n = 0 := by
  have hs : sm B = 1 ∧ cn B 1 = 1 := by rcases hF with h | h | h <;> first | exact absurd h (by omega) | exact h
  have e := sm_sumc B hB h15 B.length (Nat.le_refl _)
  rw [List.take_length, hs.1] at e
  intro n hn hn15
  have hz := cn_nonneg B
  simp only [sumc, hs.2] at e
  have z2 := hz 2; have z3 := hz 3; have z4 := hz 4; have z5 := hz 5; have z6 := hz 6; have z7 := hz 7; have z8 := hz 8; have z9 := hz 9; have z10 := hz 10; have z11 := hz 11; have z12 := hz 12; have z13 := hz 13; have z14 := hz 14; have z15 := hz 15
  simp only [Nat.zero_add, Nat.reduceAdd, hs.2] at e
  match n, hn, hn15 with
  | 2, _, _ | 3, _, _ | 4, _, _ | 5, _, _ | 6, _, _ | 7, _, _ | 8, _, _ | 9, _, _ | 10, _, _ | 11, _, _ | 12, _, _ | 13, _, _ | 14, _, _ | 15, _, _ => omega
theorem val_b (B2 : List Int) (n k : Nat) : bitB B2 n k = B2.getD ((n + k) / 8) 0 / 2 ^ ((n + k) % 8) % 2 := rfl
set_option maxHeartbeats 4000000 in
theorem Read_c {w0 : World} {H : List Asn} (b b2 : Nat) (u : Value) (s q : Option Addr) (d e m2 : Nat) (B B2 : List Int) (hs : blk b (setCells u (cn B) (.slice s (syA B 15).length e) (decide (tk B = 32768))) ∈ H) (hrs : Rd w0 H (.slice s (syA B 15).length e) (syA B 15).length (ints .i64 (syA B 15)))
    (hm : B.length ≤ 320) (hB : OKB B) (h15 : ∀ j, B.getD j 0 ≤ 15) (hF : FINE B) (hr : Rd w0 H (.slice q m2 d) m2 (ints .u8 B2)) (hm2 : B2.length = m2) (hB2 : OKB B2) (hmx : m2 ≤ 140737488355328) (n : Nat) (hn : n ≤ 8 * m2)
    (w : World) (hw : St w0 (blk b2 [.slice q m2 d, .int .i64 n] :: H) w) :
    Calls Tryz.prog 253 #[.pointer (some ⟨b, 0, none⟩), .pointer (some ⟨b2, 0, none⟩)] w fun en w' => ∃ (i : Int) (used : Nat) (r : Int), en = .returned (.tuple #[.int .i64 i, .int .i64 r]) ∧ St w0 (blk b2 [.slice q m2 d, .int .i64 (n + used : Nat)] :: H) w' ∧ n + used ≤ 8 * m2 ∧ RD B (bitB B2 n) (8 * m2 - n) i used r := by
  refine enter (vs := [.pointer (some ⟨b, 0, none⟩), .pointer (some ⟨b2, 0, none⟩)]) Tryz.func253 rfl rfl rfl hw ?_
  have hs' : blk b (setCells u (cn B) (.slice s (syA B 15).length e) (decide (tk B = 32768))) ∈ blk b2 [.slice q m2 d, .int .i64 n] :: H := List.Mem.tail _ hs
  have hsl := sm_syA B hB h15
  by_cases h0 : sm B = 0
  · have h0' : (syA B 15).length = 0 := by omega
    repeat (first | (apply gJO; refine JO_v (V_load (tb := tb) rfl hs' rfl rfl rfl rfl) ?_) | (refine sx ?_; try intro _))
    refine JS_ret Tryz.func253 rfl rfl ?_
    intro w hw
    exact ⟨0, 0, 62, rfl, hw, by omega, .inr ⟨sm0_dec B h0 _ _, rfl, .inl ⟨h0, rfl, rfl⟩⟩⟩
  have h0' : ¬ (syA B 15).length = 0 := by omega
  repeat (first | (apply gJO; refine JO_v (V_load (tb := tb) rfl hs' rfl rfl rfl rfl) ?_) | (apply gJR; (refine sx ?_; try intro _)) | (apply gJO; (refine sx ?_; try intro _)) | apply JS_seq | apply JS_region | refine JS_condF rfl ?_ | refine JS_cond_F rfl (by omega) ?_ | apply JS_skip)
  refine JS_block ?_
  refine JS_loop1 (fun (k : Nat) => [(0, .pointer (some ⟨b, 0, none⟩)), (1, .pointer (some ⟨b2, 0, none⟩)), (6, .func (.func 255) #[.pointer (some ⟨b2, 0, none⟩)] #[]), (7, .int .i64 (2 * bval (bitB B2 n) k)), (8, .int .i64 (fc B (k + 1))), (9, .int .i64 (psum B (k + 1))), (10, .int .i64 (k + 1))])
    (fun k => blk b2 [.slice q m2 d, .int .i64 (n + k : Nat)] :: H)
    (fun k => k ≤ 15 ∧ n + k ≤ 8 * m2 ∧ fc B k + cn B k ≤ bval (bitB B2 n) k ∧ (k = 0 ∨ tk B = 32768)) (fun k => 15 - k) 0 ⟨by omega, by omega, by rw [fc_zero]; simp [cn, bval], .inl rfl⟩ (by exact ⟨rfl, rfl, rfl, rfl, lookI rfl (by rw [fc_succ, fc_zero]; simp [cn]), lookI rfl (by simp [psum, cn]), rfl, trivial⟩) (fun _ h => h) ?_
  intro k ⟨hk, hnk, hfv, hful⟩ again
  have hbits := bitB_01 B2 n
  have hv := bval_lt (bitB B2 n) hbits k
  have hp2 := p15 k hk
  have hfull15 : tk B = 32768 → k < 15 := by
    intro h
    rcases Nat.lt_or_ge k 15 with h1 | h1
    · exact h1
    · obtain rfl : k = 15 := by omega
      have := fc_tk B hB h15 B.length (Nat.le_refl _)
      rw [List.take_length] at this; omega
  have hk15 : k < 15 := by
    rcases hful with h | h
    · omega
    · exact hfull15 h
  have hr' : Rd w0 H (.slice q m2 d) m2 (ints .u8 B2) := hr
  repeat (refine sx ?_; try intro _)
  refine JO_callv (us := [.pointer (some ⟨b2, 0, none⟩)]) (cs := []) rfl Tryz.call255 rfl rfl fun w hw => (Bit_c b2 q d m2 B2 hr hm2 hB2 hmx (n + k) hnk w hw).mono ?_
  rintro e1 w' ⟨x, r, rfl, hcase⟩
  rcases hcase with ⟨h1, rfl, rfl, hw'⟩ | ⟨h1, rfl, hx, hw'⟩
  · refine ⟨_, rfl, _, hw', ?_⟩
    clear hw' hw w w'
    repeat (refine sx ?_; try intro _)
    refine JS_ret Tryz.func253 rfl rfl ?_
    intro w hw
    refine ⟨0, k, 20, rfl, hw, hnk, .inr ⟨?_, rfl, ?_⟩⟩
    · rw [show 8 * m2 - n = k by omega]
      exact no_dec B hB h15 hF _ hbits k hfv
    · rcases hful with h | h
      · subst h
        by_cases ht : tk B = 32768
        · exact .inr (.inl ⟨h0, ht, by omega, rfl⟩)
        · exact .inr (.inr ⟨h0, ht, .inl ⟨by omega, rfl, rfl⟩⟩)
      · exact .inr (.inl ⟨h0, h, by omega, rfl⟩)
  · refine ⟨_, rfl, _, hw', ?_⟩
    clear hw' hw w w'
    rw [← val_b] at hx
    subst hx
    have hvk : bval (bitB B2 n) (k + 1) = 2 * bval (bitB B2 n) k + bitB B2 n k := rfl
    have hb1 := hbits k
    have hor := or_even (a := 2 * bval (bitB B2 n) k) (x := bitB B2 n k) (by omega) (by omega) hb1
    rw [← hvk] at hor
    have hcn0 := cn_nonneg B (k + 1)
    have hfcb := fc_bd B hB h15 hF (k + 1) (by omega)
    have hfc0 := fc_nn B (k + 1)
    have hp3 := p15 (k + 1) (by omega)
    have hfk := fc_succ B k
    have hge : fc B (k + 1) ≤ bval (bitB B2 n) (k + 1) := by omega
    have hv2 := bval_lt (bitB B2 n) hbits (k + 1)
    have hs2 : blk b (setCells u (cn B) (.slice s (syA B 15).length e) (decide (tk B = 32768))) ∈ blk b2 [.slice q m2 d, .int .i64 (n + k + 1 : Nat)] :: H := List.Mem.tail _ hs
    have hidx : ∀ {v : Value}, nth (setCells u (cn B) (.slice s (syA B 15).length e) (decide (tk B = 32768))) (1 + ((k : Int) + 1).toNat * 1) = some v ↔ v = .int .i64 (cn B (k + 1)) := by
      intro v
      rw [show 1 + ((k : Int) + 1).toNat * 1 = 1 + (k + 1) by omega, set_nth (by omega)]
      exact ⟨fun h => (Option.some.inj h).symm, fun h => by rw [h]⟩
    have hnth := hidx.2 rfl
    have hps0 : 0 ≤ psum B (k + 1) := by
      have := psum_mono B 0 (k + 1)
      rw [Nat.zero_add] at this
      exact this
    have hps1 : psum B (k + 1) + cn B (k + 1) ≤ (syA B 15).length := by
      have h1 := psum_syA B hB 15
      have h2 := psum_mono B (k + 2) (16 - (k + 2))
      rw [show k + 2 + (16 - (k + 2)) = 16 by omega] at h2
      have : psum B (k + 2) = psum B (k + 1) + cn B (k + 1) := rfl
      have : psum B (15 + 1) = psum B 16 := rfl
      omega
    have hsL := syA_len B 15
    by_cases hlt : bval (bitB B2 n) (k + 1) - fc B (k + 1) < cn B (k + 1)
    · obtain ⟨kk, hkk⟩ := Int.eq_ofNat_of_zero_le (show 0 ≤ bval (bitB B2 n) (k + 1) - fc B (k + 1) by omega)
      rw [hkk] at hlt
      obtain ⟨i, g1, g2, g3, g4, g5⟩ := sym_at B hB h15 hF (k + 1) (by omega) (by omega) kk hlt
      have hi64 : IntKind.i64.wrap (bval (bitB B2 n) (k + 1) - fc B (k + 1)) = (kk : Int) := by rw [hkk]; exact wi64 (by omega)
      have gs : (ints .i64 (syA B 15))[(psum B (k + 1) + (kk : Int)).toNat]? = some (.int .i64 (i : Int)) := by rw [← g2]; exact ints_get (by omega)
      have hrs' : Rd w0 (blk b2 [.slice q m2 d, .int .i64 (n + k + 1 : Nat)] :: H) (.slice s (syA B 15).length e) (syA B 15).length (ints .i64 (syA B 15)) := Rd_weak hrs fun w hw => dS hw
      clear hidx
      repeat (first | (apply gJO; first | refine JO_v (V_or rfl rfl hor rfl) ?_ | refine JO_v (V_sub rfl rfl hi64 rfl) ?_ | refine JO_v (V_load (tb := tb) rfl hs2 rfl rfl hnth rfl) ?_ | refine JO_v (V_load (tb := tb) rfl hs2 rfl rfl rfl rfl) ?_ | refine JO_v (V_index (tb := tb) rfl rfl rfl rfl (Rd.sl hrs') (by omega) (Nat.mul_one _) rfl) ?_ | refine JO_v (V_loadC (tb := tb) rfl hrs' rfl rfl gs rfl) ?_) | (refine sx ?_; try intro _))
      refine JS_ret Tryz.func253 rfl rfl ?_
      intro w hw
      exact ⟨i, k + 1, 0, rfl, hw, by omega, .inl ⟨i, rfl, rfl, ⟨k + 1, g3, by omega, g4, by omega, by omega⟩, g4⟩⟩
    · by_cases hfl : tk B = 32768
      · have hk14 : k < 14 := by
          rcases Nat.lt_or_ge k 14 with h1 | h1
          · exact h1
          · obtain rfl : k = 14 := by omega
            have := fc_tk B hB h15 B.length (Nat.le_refl _)
            rw [List.take_length] at this
            have : (2 : Int) ^ (14 + 1) = 32768 := by decide
            simp only [Nat.reduceAdd] at hfcb hlt hge hv2 this
            omega
        have hfl' : decide (tk B = 32768) = true := decide_eq_true hfl
        have hf2 := fc_succ B (k + 1)
        have hp4 : psum B (k + 1 + 1) = psum B (k + 1) + cn B (k + 1) := rfl
        rw [hfl'] at hs2
        clear hidx
        rw [hfl'] at hnth
        repeat (first | (apply gJO; first | refine JO_v (V_or rfl rfl hor rfl) ?_ | refine JO_v (V_load (tb := tb) rfl hs2 rfl rfl hnth rfl) ?_ | refine JO_v (V_load (tb := tb) rfl hs2 rfl rfl rfl rfl) ?_) | (refine sx ?_; try intro _))
        refine JS_again1 again (k + 1) ⟨by omega, by omega, by omega, .inr hfl⟩ (by omega) (by repeat (first | exact trivial | refine ⟨rfl, ?_⟩ | refine ⟨lookI rfl (by omega), ?_⟩)) (fun w hw => hw)
      · obtain rfl : k = 0 := by rcases hful with h | h <;> first | exact h | exact absurd h hfl
        have hfl' : decide (tk B = 32768) = false := decide_eq_false hfl
        rw [hfl'] at hs2
        clear hidx
        rw [hfl'] at hnth
        repeat (first | (apply gJO; first | refine JO_v (V_or rfl rfl hor rfl) ?_ | refine JO_v (V_load (tb := tb) rfl hs2 rfl rfl hnth rfl) ?_ | refine JO_v (V_load (tb := tb) rfl hs2 rfl rfl rfl rfl) ?_) | (refine sx ?_; try intro _))
        refine JS_ret Tryz.func253 rfl rfl ?_
        intro w hw
        refine ⟨0, 1, 62, rfl, hw, by omega, .inr ⟨?_, rfl, .inr (.inr ⟨h0, hfl, .inr ⟨by omega, rfl, rfl⟩⟩)⟩⟩
        intro j
        rintro ⟨n', hi, hn0, hn', hnl, hv'⟩
        have h15j := h15 j
        obtain ⟨c1, c2⟩ := cd_eq B hB h15 hF j n' hi hn0 hn'
        have hz := cn_nonneg (B.take j) n'
        by_cases h2 : 2 ≤ n'
        · have := FINE_lone B hB h15 hF hfl h0 n' h2 (by omega); omega
        · obtain rfl : n' = 1 := by omega
          have : bval (bitB B2 n) (0 + 1) = bval (bitB B2 n) 1 := rfl
          have : fc B (0 + 1) = fc B 1 := rfl
          have : cn B (0 + 1) = cn B 1 := rfl
          omega
end Go.Proofs.YteelffkghidpfaaGreat

namespace Go.Proofs.YteelffkghidpfaaGreat
open Sx Go
set_option linter.unusedVariables false
set_option linter.unusedSimpArgs false
set_option maxRecDepth 100000
def grp (n : Int) (c : Nat) : List Int := (List.range c).map fun j => n / 2 ^ j % 2
theorem grp_len (n : Int) (c : Nat) : (grp n c).length = c := by simp [grp]
theorem grp_succ (n : Int) (c : Nat) : grp n (c + 1) = grp n c ++ [n / 2 ^ c % 2] := by simp [grp, List.range_succ]
def bitsL (B : List Int) (i : Nat) : List Int := (List.range (8 * i)).map fun j => B.getD (j / 8) 0 / 2 ^ (j % 8) % 2
theorem bitsL_len (B : List Int) (i : Nat) : (bitsL B i).length = 8 * i := by simp [bitsL]
theorem bitsL_succ (B : List Int) (i : Nat) : bitsL B (i + 1) = bitsL B i ++ grp (B.getD i 0) 8 := by
  have h : List.range (8 * (i + 1)) = List.range (8 * i) ++ (List.range 8).map (fun j => 8 * i + j) := by rw [Nat.mul_add, Nat.mul_one, List.range_add]
  unfold bitsL grp
  rw [h, List.map_append, List.map_map]
  congr 1
  apply List.map_congr_left
  intro j hj
  simp only [List.mem_range] at hj
  simp only [Function.comp_apply]
  rw [show (8 * i + j) / 8 = i by omega, show (8 * i + j) % 8 = j by omega]
theorem bitsL_get (B : List Int) (i j : Nat) (h : j < 8 * i) : (bitsL B i).getD j 0 = bitB B 0 j := by
  simp [bitsL, bitB, List.getD_eq_getElem?_getD, h]
def bms (c : Int) (n : Nat) : List Int := (List.range n).map fun j => c / 2 ^ (n - 1 - j) % 2
theorem bms_len (c : Int) (n : Nat) : (bms c n).length = n := by simp [bms]
theorem bms_succ (c : Int) (n : Nat) : bms c (n + 1) = [c / 2 ^ n % 2] ++ bms c n := by
  unfold bms
  rw [List.range_succ_eq_map, List.map_cons, List.map_map]
  simp only [List.singleton_append]
  congr 1
  apply List.map_congr_left
  intro j hj
  simp only [Function.comp_apply]
  rw [show n + 1 - 1 - j.succ = n - 1 - j by omega]
theorem div_step (a : Int) (k : Nat) : a / 2 ^ (k + 1) = a / 2 ^ k / 2 := by
  rw [Int.pow_succ, ← Int.ediv_ediv_of_nonneg (Int.le_of_lt (Int.pow_pos (by decide)))]
theorem val_bms (b : Nat → Int) (hb : ∀ j, b j = 0 ∨ b j = 1) (c : Int) (n : Nat) (hc : 0 ≤ c ∧ c < 2 ^ n) : (List.range n).map b = bms c n ↔ bval b n = c := by
  constructor
  · intro h
    have hj : ∀ j, j < n → b j = c / 2 ^ (n - 1 - j) % 2 := by
      intro j hj
      have := congrArg (fun l => l.getD j 0) h
      simpa [bms, List.getD_eq_getElem?_getD, hj] using this
    have key : ∀ k, k ≤ n → bval b k = c / 2 ^ (n - k) := by
      intro k
      induction k with
      | zero => intro _; rw [Nat.sub_zero]; exact (Int.ediv_eq_zero_of_lt hc.1 hc.2).symm
      | succ k ih =>
        intro hk
        have h1 := ih (by omega)
        have h2 := hj k (by omega)
        rw [show n - k = (n - (k + 1)) + 1 by omega, div_step] at h1
        rw [show n - 1 - k = n - (k + 1) by omega] at h2
        show 2 * bval b k + b k = _
        omega
    have := key n (Nat.le_refl _)
    rwa [Nat.sub_self, Int.pow_zero, Int.ediv_one] at this
  · intro h
    have key : ∀ d, d ≤ n → bval b (n - d) = c / 2 ^ d := by
      intro d
      induction d with
      | zero => intro _; rw [Nat.sub_zero, Int.pow_zero, Int.ediv_one]; exact h
      | succ d ih =>
        intro hd
        have h1 := ih (by omega)
        have h2 : bval b (n - d) = 2 * bval b (n - (d + 1)) + b (n - (d + 1)) := by rw [show n - d = n - (d + 1) + 1 by omega]; rfl
        have := hb (n - (d + 1))
        rw [div_step]
        omega
    unfold bms
    apply List.map_congr_left
    intro j hj
    simp only [List.mem_range] at hj
    have h1 := key (n - 1 - j) (by omega)
    have h2 : bval b (n - (n - 1 - j)) = 2 * bval b j + b j := by rw [show n - (n - 1 - j) = j + 1 by omega]; rfl
    have := hb j
    omega
set_option maxHeartbeats 1000000 in
theorem Group4_c {w0 : World} {H : List Asn} (n : Int) (k : Nat) (hn : 0 ≤ n ∧ n < 4294967296) (hk : k ≤ 4611686018427387904) (hk2 : k ≤ 140737488355320) (w : World) (hw : St w0 H w) :
    Calls Tryz.prog 173 #[.int .u32 n, .int .i64 k] w fun e w' => ∃ p c, e = .returned (.slice p k c) ∧ St w0 (vec 5 1 (.slice p k c) k (ints .u8 (grp n k)) :: H) w' := by
  refine enter (vs := [.int .u32 n, .int .i64 k]) Tryz.func173 rfl rfl rfl hw ?_
  repeat (first | (apply gJR; (refine sx ?_; try intro _)) | (apply gJO; (refine sx ?_; try intro _)) | apply JS_seq | apply JS_region)
  refine JS_block ?_
  refine JS_loop3 (fun (i : Nat) (p : Option Addr) (c : Nat) => [(0, .int .u32 (n / 2 ^ i)), (1, .int .i64 k), (5, .slice p i c), (6, .int .i64 i)]) (fun i p c => vec 5 1 (.slice p i c) i (ints .u8 (grp n i)) :: H) (fun i _ _ => i ≤ k ∧ 0 ≤ n / 2 ^ i ∧ n / 2 ^ i < 4294967296) (fun i _ _ => k - i) 0 none 0 ⟨by omega, by rw [Int.pow_zero, Int.ediv_one]; exact hn⟩
    (by exact ⟨lookI rfl (by rw [Int.pow_zero, Int.ediv_one]), rfl, rfl, rfl, trivial⟩) (fun w hw => St.nilvec hw) ?_
  intro i p c ⟨hi, hq0, hq1⟩ again
  have hds := div_step n i
  by_cases hik : i < k
  · have hgs := grp_succ n i
    generalize n / 2 ^ i = Q at *
    repeat (refine sx ?_; try intro _)
    (refine JO_app (tb := tb) rfl rfl rfl rfl rfl rfl (by repeat (first | exact Sel.here _ _ | apply Sel.there)) (by first | exact vec_rd (by repeat (first | apply List.Mem.head | apply List.Mem.tail)) | assumption | exact ArgRd.rd (by assumption) _ | (apply Rd_weak; assumption; intro _ hx; exact dS hx)) (by simp only [ints_len, List.length_cons, List.length_nil]; first | omega | rfl) (by first | exact ints_one | (repeat (first | exact trivial | refine ⟨rfl, ?_⟩))) (by omega) rfl ?_; intro _ _)
    rename_i p2 c2
    repeat (refine sx ?_; try intro _)
    exact JS_again3 again (i + 1) p2 c2 ⟨by omega, by omega, by omega⟩ (by omega) (by exact ⟨lookI rfl (by omega), rfl, rfl, rfl, trivial⟩) (fun w hw => by rw [hgs, ← ints_app1]; exact dS hw)
  · obtain rfl : i = k := by omega
    clear again
    repeat (refine sx ?_; try intro _)
    refine JS_ret Tryz.func173 rfl rfl ?_
    intro w hw
    exact ⟨_, _, rfl, hw⟩
set_option maxHeartbeats 1000000 in
theorem Bits4_c {w0 : World} {H : List Asn} (p : Option Addr) (c m : Nat) (B : List Int) (hr : Rd w0 H (.slice p m c) m (ints .u8 B)) (hm : B.length = m) (hB : OKB B) (hm1 : m ≤ 17592186044410) (w : World) (hw : St w0 H w) :
    Calls Tryz.prog 131 #[.slice p m c] w fun e w' => ∃ q d, e = .returned (.slice q (8 * m) d) ∧ St w0 (vec 5 1 (.slice q (8 * m) d) (8 * m) (ints .u8 (bitsL B m)) :: H) w' := by
  refine enter (vs := [.slice p m c]) Tryz.func131 rfl rfl rfl hw ?_
  repeat (first | (apply gJR; (refine sx ?_; try intro _)) | (apply gJO; (refine sx ?_; try intro _)) | apply JS_seq | apply JS_region)
  refine JS_block ?_
  refine JS_loop3 (fun (i : Nat) (q : Option Addr) (d : Nat) => [(0, .slice p m c), (3, .slice q (8 * i) d), (4, .int .i64 i)]) (fun i q d => vec 5 1 (.slice q (8 * i) d) (8 * i) (ints .u8 (bitsL B i)) :: H) (fun i _ _ => i ≤ m) (fun i _ _ => m - i) 0 none 0 (by omega) (by repeat (first | exact trivial | refine ⟨rfl, ?_⟩ | refine ⟨lookI rfl (by omega), ?_⟩)) (fun w hw => St.nilvec hw) ?_
  intro i q d hi again
  by_cases hik : i < m
  · have hgs := bitsL_succ B i
    have hb := hB i
    have hr' : Rd w0 (vec 5 1 (.slice q (8 * i) d) (8 * i) (ints .u8 (bitsL B i)) :: H) (.slice p m c) m (ints .u8 B) := Rd_weak hr fun w hw => dS hw
    have g0 : (ints .u8 B)[i]? = some (.int .u8 (B.getD i 0)) := ints_get (by omega)
    generalize B.getD i 0 = X at *
    repeat (first | (apply gJO; refine JO_v (V_loadC (tb := tb) rfl hr' rfl rfl g0 rfl) ?_) | (refine sx ?_; try intro _))
    refine JO_call Tryz.call173 rfl rfl fun w hw => (Group4_c X 8 (by omega) (by omega) (by omega) w hw).mono ?_
    rintro e w' ⟨p1, c1, rfl, hw'⟩
    refine ⟨_, rfl, _, hw', ?_⟩
    clear hw' hw w w'
    have hgl := grp_len X 8
    repeat (refine sx ?_; try intro _)
    (refine JO_app (tb := tb) rfl rfl rfl rfl rfl rfl (by repeat (first | exact Sel.here _ _ | apply Sel.there)) (by first | exact vec_rd (by repeat (first | apply List.Mem.head | apply List.Mem.tail)) | assumption | exact ArgRd.rd (by assumption) _ | (apply Rd_weak; assumption; intro _ hx; exact dS hx)) (by simp only [ints_len, List.length_cons, List.length_nil]; first | omega | rfl) (by first | exact ints_one | (repeat (first | exact trivial | refine ⟨rfl, ?_⟩))) (by omega) rfl ?_; intro _ _)
    rename_i p2 c2
    repeat (refine sx ?_; try intro _)
    exact JS_again3 again (i + 1) p2 c2 (by omega) (by omega) (by repeat (first | exact trivial | refine ⟨rfl, ?_⟩ | refine ⟨lookI rfl (by omega), ?_⟩)) (fun w hw => by rw [hgs, ← ints_app]; exact dS hw)
  · obtain rfl : i = m := by omega
    clear again
    repeat (refine sx ?_; try intro _)
    refine JS_ret Tryz.func131 rfl rfl ?_
    intro w hw
    exact ⟨_, _, rfl, hw⟩
set_option maxHeartbeats 1000000 in
theorem Bits5_c {w0 : World} {H : List Asn} (n : Int) (k : Nat) (hn : 0 ≤ n ∧ n < 4294967296) (hk : k ≤ 255) (w : World) (hw : St w0 H w) :
    Calls Tryz.prog 171 #[.int .u32 n, .int .u8 k] w fun e w' => ∃ p c, e = .returned (.slice p k c) ∧ St w0 (vec 5 1 (.slice p k c) k (ints .u8 (bms n k)) :: H) w' := by
  refine enter (vs := [.int .u32 n, .int .u8 k]) Tryz.func171 rfl rfl rfl hw ?_
  repeat (first | (apply gJR; (refine sx ?_; try intro _)) | (apply gJO; (refine sx ?_; try intro _)) | apply JS_seq | apply JS_region)
  refine JS_block ?_
  refine JS_loop3 (fun (i : Nat) (p : Option Addr) (c : Nat) => [(0, .int .u32 (n / 2 ^ i)), (1, .int .u8 k), (5, .slice p i c), (6, .int .u8 i)]) (fun i p c => vec 5 1 (.slice p i c) i (ints .u8 (bms n i)) :: H) (fun i _ _ => i ≤ k ∧ 0 ≤ n / 2 ^ i ∧ n / 2 ^ i < 4294967296) (fun i _ _ => k - i) 0 none 0 ⟨by omega, by rw [Int.pow_zero, Int.ediv_one]; exact hn⟩
    (by exact ⟨lookI rfl (by rw [Int.pow_zero, Int.ediv_one]), rfl, rfl, rfl, trivial⟩) (fun w hw => St.nilvec hw) ?_
  intro i p c ⟨hi, hq0, hq1⟩ again
  have hds := div_step n i
  by_cases hik : i < k
  · have hgs := bms_succ n i
    have hbl := bms_len n i
    generalize n / 2 ^ i = Q at *
    repeat (refine sx ?_; try intro _)
    (refine JO_app (tb := tb) rfl rfl rfl rfl rfl rfl (by repeat (first | exact Sel.here _ _ | apply Sel.there)) (by first | exact vec_rd (by repeat (first | apply List.Mem.head | apply List.Mem.tail)) | assumption | exact ArgRd.rd (by assumption) _ | (apply Rd_weak; assumption; intro _ hx; exact dS hx)) (by simp only [ints_len, List.length_cons, List.length_nil]; first | omega | rfl) (by first | exact ints_one | (repeat (first | exact trivial | refine ⟨rfl, ?_⟩))) (by omega) rfl ?_; intro _ _)
    rename_i p2 c2
    repeat (refine sx ?_; try intro _)
    exact JS_again3 again (i + 1) p2 c2 ⟨by omega, by omega, by omega⟩ (by omega) (by exact ⟨lookI rfl (by omega), rfl, by rw [Nat.add_comm i 1]; rfl, lookI rfl (by omega), trivial⟩) (fun w hw => by rw [hgs, ← ints_app, Nat.add_comm i 1]; exact dS hw)
  · obtain rfl : i = k := by omega
    clear again
    repeat (refine sx ?_; try intro _)
    refine JS_ret Tryz.func171 rfl rfl ?_
    intro w hw
    exact ⟨_, _, rfl, hw⟩
end Go.Proofs.YteelffkghidpfaaGreat

namespace Go.Proofs.YteelffkghidpfaaGreat
open Sx Go
set_option linter.unusedVariables false
set_option linter.unusedSimpArgs false
set_option maxRecDepth 100000
def bsw (s : Nat) (m v : BitVec 32) : BitVec 32 := ((v >>> s) &&& m) ||| ((v &&& m) <<< s)
def ix (s j : Nat) : Nat := if (j / s) % 2 = 0 then j + s else j - s
theorem sw_bit (s : Nat) (hs : s = 1 ∨ s = 2 ∨ s = 4 ∨ s = 8 ∨ s = 16) (m v : BitVec 32) (hm : ∀ j, j < 32 → m.getLsbD j = decide ((j / s) % 2 = 0)) (j : Nat) (hj : j < 32) : (bsw s m v).getLsbD j = v.getLsbD (ix s j) := by
  unfold bsw ix
  simp only [BitVec.getLsbD_or, BitVec.getLsbD_and, BitVec.getLsbD_ushiftRight, BitVec.getLsbD_shiftLeft, hm j hj]
  by_cases h : (j / s) % 2 = 0
  · rw [if_pos h, decide_eq_true h, Bool.and_true, Nat.add_comm s j]
    by_cases hjs : j < s
    · simp [hjs]
    · have : m.getLsbD (j - s) = false := by
        rw [hm (j - s) (by omega)]
        refine decide_eq_false ?_
        rcases hs with rfl | rfl | rfl | rfl | rfl <;> omega
      simp [this]
  · rw [if_neg h, decide_eq_false h, Bool.and_false, Bool.false_or]
    have h1 : s ≤ j := by rcases hs with rfl | rfl | rfl | rfl | rfl <;> omega
    have : m.getLsbD (j - s) = true := by
      rw [hm (j - s) (by omega)]
      refine decide_eq_true ?_
      rcases hs with rfl | rfl | rfl | rfl | rfl <;> omega
    simp [this, hj, Nat.not_lt.2 h1]
theorem ix_lt (s : Nat) (hs : s = 1 ∨ s = 2 ∨ s = 4 ∨ s = 8 ∨ s = 16) (j : Nat) (hj : j < 32) : ix s j < 32 := by
  unfold ix
  split <;> rcases hs with rfl | rfl | rfl | rfl | rfl <;> omega
theorem mask_bit (s : Nat) (m : BitVec 32) (h : (List.range 32).all (fun j => m.getLsbD j == decide ((j / s) % 2 = 0)) = true) : ∀ j, j < 32 → m.getLsbD j = decide ((j / s) % 2 = 0) := by
  intro j hj
  have := List.all_eq_true.1 h j (by simpa using hj)
  simpa using this
def rev32 (v : BitVec 32) : BitVec 32 :=
  let a := bsw 1 1431655765#32 v
  let b := bsw 2 858993459#32 a
  let c := bsw 4 252645135#32 b
  let d := bsw 8 16711935#32 c
  (d >>> 16) ||| (d <<< 16)
theorem rev32_bit (v : BitVec 32) (j : Nat) (hj : j < 32) : (rev32 v).getLsbD j = v.getLsbD (31 - j) := by
  have e16 : ∀ d : BitVec 32, (d >>> 16) ||| (d <<< 16) = bsw 16 65535#32 d := by
    intro d
    unfold bsw
    apply BitVec.eq_of_getLsbD_eq
    intro i hi
    have hm := mask_bit 16 65535#32 (by decide +kernel)
    simp only [BitVec.getLsbD_or, BitVec.getLsbD_and, BitVec.getLsbD_ushiftRight, BitVec.getLsbD_shiftLeft, hm i hi]
    by_cases h : i < 16
    · rw [decide_eq_true (show (i / 16) % 2 = 0 by omega)]; simp [h]
    · have h1 : d.getLsbD (16 + i) = false := BitVec.getLsbD_of_ge _ _ (by omega)
      rw [hm (i - 16) (by omega), decide_eq_true (show ((i - 16) / 16) % 2 = 0 by omega), decide_eq_false (show ¬ (i / 16) % 2 = 0 by omega), h1]; simp
  unfold rev32
  simp only []
  have i16 := ix_lt 16 (by omega) j hj
  have i8 := ix_lt 8 (by omega) _ i16
  have i4 := ix_lt 4 (by omega) _ i8
  have i2 := ix_lt 2 (by omega) _ i4
  rw [e16, sw_bit 16 (by omega) _ _ (mask_bit 16 _ (by decide +kernel)) j hj, sw_bit 8 (by omega) _ _ (mask_bit 8 _ (by decide +kernel)) _ i16, sw_bit 4 (by omega) _ _ (mask_bit 4 _ (by decide +kernel)) _ i8,
    sw_bit 2 (by omega) _ _ (mask_bit 2 _ (by decide +kernel)) _ i4, sw_bit 1 (by omega) _ _ (mask_bit 1 _ (by decide +kernel)) _ i2]
  have : ∀ k : Fin 32, ix 1 (ix 2 (ix 4 (ix 8 (ix 16 k.val)))) = 31 - k.val := by decide +kernel
  rw [this ⟨j, hj⟩]
def bv (v : BitVec 32) : Value := .int .u32 (v.toNat : Int)
section
variable {n : Nat} {D : List Deferred} {w0 : World} {ov : Ov} {H : List Asn} {d : Option Nat} {T T1 T2 : Nat} {pos : String} {af : Array Edge} {g : Option (Nat × Bool)} {x y : Operand}
theorem ofInt_bv (v : BitVec 32) : BitVec.ofInt IntKind.u32.bits (v.toNat : Int) = v := by
  show BitVec.ofInt 32 (v.toNat : Int) = v
  rw [BitVec.ofInt_natCast, BitVec.ofNat_toNat]; simp
theorem wrap_bv (v : BitVec 32) : IntKind.u32.wrap (v.toNat : Int) = (v.toNat : Int) := wu32 (by have := v.isLt; omega)
theorem VB_shr {v : BitVec 32} {s : Nat} {K : IntKind} (hx : ev ov x = some (bv v)) (hy : ev ov y = some (.int K s)) (hs : s ≤ 32) (hd : dOk d n = true) : OpV Tryz.prog n D w0 ov H ⟨d, .binOp .shr T1 x y T2, T, pos, af, g⟩ (bv (v >>> s)) := by
  refine V_shr (m := s) hx hy (by omega) (by show min ((s : Int)).toNat 32 = s; omega) ?_ hd
  rw [BitVec.toNat_ushiftRight, Nat.shiftRight_eq_div_pow]; simp
theorem VB_shl {v : BitVec 32} {s : Nat} {K : IntKind} (hx : ev ov x = some (bv v)) (hy : ev ov y = some (.int K s)) (hs : s ≤ 32) (hd : dOk d n = true) : OpV Tryz.prog n D w0 ov H ⟨d, .binOp .shl T1 x y T2, T, pos, af, g⟩ (bv (v <<< s)) := by
  refine V_shl (m := s) hx hy (by omega) (by show min ((s : Int)).toNat 32 = s; omega) ?_ hd
  rw [BitVec.toNat_shiftLeft, Nat.shiftLeft_eq, mu32]; simp
theorem VB_and {v : BitVec 32} {c : Nat} (hc : c < 4294967296) (hx : ev ov x = some (bv v)) (hy : ev ov y = some (.int .u32 c)) (hd : dOk d n = true) : OpV Tryz.prog n D w0 ov H ⟨d, .binOp .and T1 x y T2, T, pos, af, g⟩ (bv (v &&& BitVec.ofNat 32 c)) := by
  refine V_and hx hy ?_ hd
  rw [ofInt_bv, show BitVec.ofInt IntKind.u32.bits (c : Int) = BitVec.ofNat 32 c from BitVec.ofInt_natCast ..]
  exact wrap_bv _
theorem VB_or {v u : BitVec 32} (hx : ev ov x = some (bv v)) (hy : ev ov y = some (bv u)) (hd : dOk d n = true) : OpV Tryz.prog n D w0 ov H ⟨d, .binOp .or T1 x y T2, T, pos, af, g⟩ (bv (v ||| u)) := by
  refine V_or hx hy ?_ hd
  rw [ofInt_bv, ofInt_bv]
  exact wrap_bv _
end
set_option maxHeartbeats 1000000 in
theorem RevB_c {w0 : World} {H : List Asn} (v : BitVec 32) (w : World) (hw : St w0 H w) :
    Calls Tryz.prog 254 #[bv v] w fun e w' => e = .returned (bv ((bsw 8 16711935#32 v >>> 16) ||| (bsw 8 16711935#32 v <<< 16))) ∧ St w0 H w' := by
  refine enter (vs := [bv v]) Tryz.func254 rfl rfl rfl hw ?_
  repeat (first | (apply gJO; first | refine JO_v (VB_shr (s := 8) rfl rfl (by omega) rfl) ?_ | refine JO_v (VB_shr (s := 16) rfl rfl (by omega) rfl) ?_ | refine JO_v (VB_shl (s := 8) rfl rfl (by omega) rfl) ?_ | refine JO_v (VB_shl (s := 16) rfl rfl (by omega) rfl) ?_ | refine JO_v (VB_and (c := 16711935) (by omega) rfl rfl rfl) ?_ | refine JO_v (VB_or rfl rfl rfl) ?_) | (refine sx ?_; try intro _))
  refine JS_ret Tryz.func254 rfl rfl ?_
  intro w hw
  exact ⟨rfl, hw⟩
set_option maxHeartbeats 1000000 in
theorem Rev_c {w0 : World} {H : List Asn} (v : BitVec 32) (w : World) (hw : St w0 H w) :
    Calls Tryz.prog 252 #[bv v] w fun e w' => e = .returned (bv (rev32 v)) ∧ St w0 H w' := by
  refine enter (vs := [bv v]) Tryz.func252 rfl rfl rfl hw ?_
  repeat (first | (apply gJO; first | refine JO_v (VB_shr (s := 1) rfl rfl (by omega) rfl) ?_ | refine JO_v (VB_shr (s := 2) rfl rfl (by omega) rfl) ?_ | refine JO_v (VB_shr (s := 4) rfl rfl (by omega) rfl) ?_ | refine JO_v (VB_shl (s := 1) rfl rfl (by omega) rfl) ?_ | refine JO_v (VB_shl (s := 2) rfl rfl (by omega) rfl) ?_ | refine JO_v (VB_shl (s := 4) rfl rfl (by omega) rfl) ?_ | refine JO_v (VB_and (c := 1431655765) (by omega) rfl rfl rfl) ?_ | refine JO_v (VB_and (c := 858993459) (by omega) rfl rfl rfl) ?_ | refine JO_v (VB_and (c := 252645135) (by omega) rfl rfl rfl) ?_ | refine JO_v (VB_or rfl rfl rfl) ?_) | (refine sx ?_; try intro _))
  refine JO_call Tryz.call254 rfl rfl fun w hw => (RevB_c _ w hw).mono ?_
  rintro e w' ⟨rfl, hw'⟩
  refine ⟨_, rfl, _, hw', ?_⟩
  clear hw' hw w w'
  repeat (refine sx ?_; try intro _)
  refine JS_ret Tryz.func252 rfl rfl ?_
  intro w hw
  exact ⟨rfl, hw⟩
end Go.Proofs.YteelffkghidpfaaGreat

namespace Go.Proofs.YteelffkghidpfaaGreat
open Sx Go
set_option linter.unusedVariables false
set_option linter.unusedSimpArgs false
theorem Mul64_c {w0 : World} {H : List Asn} (a b : Int) (ha : 0 ≤ a ∧ a < 18446744073709551616) (hb : 0 ≤ b ∧ b < 18446744073709551616) (w : World) (hw : St w0 H w) :
    Calls Tryz.prog 250 #[.int .u64 a, .int .u64 b] w fun e w' => e = .returned (.tuple #[.int .u64 (a * b / 18446744073709551616), .int .u64 (a * b % 18446744073709551616)]) ∧ St w0 H w' := by
  refine enter (vs := [.int .u64 a, .int .u64 b]) Tryz.func250 rfl rfl rfl hw ?_
  repeat (refine su ?_; try intro _)
  refine JS_ret Tryz.func250 rfl rfl ?_
  intro w hw
  have := mul64_arith a b ha.1 ha.2 hb.1 hb.2
  refine ⟨?_, hw⟩
  rw [← this]
  rfl
end Go.Proofs.YteelffkghidpfaaGreat

namespace Go.Proofs.YteelffkghidpfaaGreat
open Sx Go
set_option linter.unusedVariables false
set_option linter.unusedSimpArgs false
set_option maxRecDepth 100000
theorem BMul_c {w0 : World} {H : List Asn} (a b : Int) (ha : 0 ≤ a ∧ a < 18446744073709551616) (hb : 0 ≤ b ∧ b < 18446744073709551616) (w : World) (hw : St w0 H w) :
    Calls Tryz.prog 237 #[.int .u64 a, .int .u64 b] w fun e w' => e = .returned (.tuple #[.int .u64 (a * b / 18446744073709551616), .int .u64 (a * b % 18446744073709551616)]) ∧ St w0 H w' := by
  refine enter (vs := [.int .u64 a, .int .u64 b]) Tryz.func237 rfl rfl rfl hw ?_
  repeat (refine sx ?_; try intro _)
  refine JO_call Tryz.call250 rfl rfl fun w hw => (Mul64_c a b ha hb w hw).mono ?_
  rintro e w' ⟨rfl, hw'⟩
  refine ⟨_, rfl, _, hw', ?_⟩
  clear hw' hw w w'
  repeat (refine sx ?_; try intro _)
  refine JS_ret Tryz.func237 rfl rfl ?_
  intro w hw
  exact ⟨rfl, hw⟩
def reps (x : Int) (k n : Nat) : List Int := List.replicate k x ++ List.replicate (n - k) 0
theorem reps_len (x : Int) (k n : Nat) (h : k ≤ n) : (reps x k n).length = n := by simp [reps]; omega
theorem reps_zero (x : Int) (n : Nat) : reps x 0 n = List.replicate n 0 := by simp [reps]
theorem reps_full (x : Int) (n : Nat) : reps x n n = List.replicate n x := by simp [reps]
theorem reps_copy (x : Int) (k n c : Nat) (hc : c ≤ n - k) (hck : c ≤ k) (hk : k ≤ n) : (reps x k n).take k ++ ((reps x k n).take k).take c ++ (reps x k n).drop (k + c) = reps x (k + c) n := by
  have e1 : (reps x k n).take k = List.replicate k x := by unfold reps; rw [List.take_append_of_le_length (by simp)]; simp
  have e2 : (reps x k n).drop (k + c) = List.replicate (n - (k + c)) 0 := by
    unfold reps
    rw [List.drop_append, List.drop_of_length_le (by simp), List.nil_append, List.length_replicate, List.drop_replicate]
    congr 1; omega
  rw [e1, e2, List.take_replicate, Nat.min_eq_left hck, List.replicate_append_replicate]
  rfl
set_option maxHeartbeats 2000000 in
theorem Repeat1_c {w0 : World} {H : List Asn} (u : Value) (x : Int) (n : Nat) (hr : Rd w0 H u 1 (ints .u8 [x])) (hu : ∃ p c, u = .slice p 1 c) (hn : 1 ≤ n ∧ n ≤ 1048576) (w : World) (hw : St w0 H w) :
    Calls Tryz.prog 213 #[u, .int .i64 n] w fun e w' => ∃ p c, e = .returned (.slice p n c) ∧ St w0 (vec 5 1 (.slice p n c) n (ints .u8 (List.replicate n x)) :: H) w' := by
  obtain ⟨p0, c0, rfl⟩ := hu
  refine enter (vs := [.slice p0 1 c0, .int .i64 n]) Tryz.func213 rfl rfl rfl hw ?_
  repeat (refine sx ?_; try intro _)
  refine JO_call Tryz.call237 rfl rfl fun w hw => (BMul_c 1 n (by omega) (by omega) w hw).mono ?_
  rintro e w' ⟨rfl, hw'⟩
  rw [show (1 : Int) * n / 18446744073709551616 = 0 by omega, show (1 : Int) * n % 18446744073709551616 = n by omega]
  refine ⟨_, rfl, _, hw', ?_⟩
  clear hw' hw w w'
  repeat (refine sx ?_; try intro _)
  rename_i po
  rw [show (rep (Int.toNat n) [Value.int IntKind.u8 0]) = ints .u8 (reps x 0 n) from by rw [reps_zero]; exact ints_rep, show Int.toNat (n : Int) = n from rfl]
  have hl0 := reps_len x 0 n (by omega)
  refine JO_e (E_copy (tb := tb) (lo := 0) (q := 1) (news := ints .u8 [x]) rfl rfl rfl rfl rfl (Sel.here _ _) (fun _ => by rw [Nat.zero_mul, Option.map_some, add_zero']) (by omega) (Rd_weak hr fun w hw => dS hw) rfl ints_one rfl) ?_
  intro _
  rw [show min 1 n = 1 by omega, show (ints .u8 (reps x 0 n)).take (0 * 1) ++ (ints .u8 [x]).take (1 * 1) ++ (ints .u8 (reps x 0 n)).drop (0 * 1 + 1 * 1) = ints .u8 (reps x 1 n) from by
    simp only [Nat.zero_mul, Nat.one_mul, List.take_zero, List.nil_append, Nat.zero_add, reps, ints, List.map_append, List.map_replicate]
    simp [List.replicate_one, List.drop_replicate]]
  repeat (first | (apply gJR; (refine sx ?_; try intro _)) | (apply gJO; (refine sx ?_; try intro _)) | apply JS_seq | apply JS_region)
  refine JS_block ?_
  refine JS_loop1 (fun (k : Nat) => [(7, .slice (some po) n n), (8, .int .i64 k)]) (fun k => vec 5 1 (.slice (some po) n n) n (ints .u8 (reps x k n)) :: H) (fun k => 1 ≤ k ∧ k ≤ n) (fun k => n - k) 1 ⟨by omega, by omega⟩ (by repeat (first | exact trivial | refine ⟨rfl, ?_⟩ | refine ⟨lookI rfl (by omega), ?_⟩)) (fun _ h => h) ?_
  intro k ⟨hk1, hk⟩ again
  have hlk := reps_len x k n hk
  by_cases hkn : k < n
  · have hcp := reps_copy x k n (min k (n - k)) (by omega) (by omega) hk
    have hrv : Rd w0 (vec 5 1 (.slice (some po) n n) n (ints .u8 (reps x k n)) :: H) (.slice (some po) n n) n (ints .u8 (reps x k n)) := vec_rd (by repeat (first | apply List.Mem.head | apply List.Mem.tail))
    have hrs := Rd_sub (lo := 0) (hi := k) (sz := 1) hrv (by omega) hk
    rw [Nat.zero_mul, List.drop_zero, Nat.mul_one, Nat.sub_zero, show (ints .u8 (reps x k n)).take k = ints .u8 ((reps x k n).take k) from by simp [ints, List.map_take]] at hrs
    repeat (first | (apply gJS; first | apply JS_seq | refine JS_draw [2] (by kernel_rfl) (by kernel_rfl) (by decide +kernel) ?_) | (apply gQO; first | refine QO_v rfl (V_slice (tb := tb) (lo := 0) (hi := k) rfl rfl rfl rfl rfl (by rfl) (by rfl) (fun _ _ => ⟨by omega, by omega⟩) rfl) ?_ | refine QO_v rfl (V_slice (tb := tb) (lo := k) (hi := n) rfl rfl rfl rfl rfl (by rfl) (by rfl) (fun _ _ => ⟨by omega, by omega⟩) rfl) ?_) | (refine sx ?_; try intro _))
    refine QO_e (E_copy (tb := tb) (lo := k) (q := k) (news := ints .u8 ((reps x k n).take k)) (m := n) (a := some po) (c := n) (cs := ints .u8 (reps x k n)) rfl rfl rfl rfl rfl (Sel.here _ _) (fun h => by unfold subB; rw [if_neg (by omega)]) (by omega) hrs (by rw [ints_len, List.length_take]; omega) ints_one rfl) rfl (.inl rfl) ?_
    intro _
    rw [show (ints .u8 (reps x k n)).take (k * 1) ++ (ints .u8 ((reps x k n).take k)).take (min k (n - k) * 1) ++ (ints .u8 (reps x k n)).drop (k * 1 + min k (n - k) * 1) = ints .u8 (reps x (k + min k (n - k)) n) from by
      rw [← hcp]; simp only [ints, Nat.mul_one, List.map_append, List.map_take, List.map_drop]]
    repeat (refine sx ?_; try intro _)
    exact JS_again1 again (k + min k (n - k)) ⟨by omega, by omega⟩ (by omega) (by repeat (first | exact trivial | refine ⟨rfl, ?_⟩ | refine ⟨lookI rfl (by omega), ?_⟩)) (fun _ h => h)
  · obtain rfl : k = n := by omega
    clear again
    rw [reps_full]
    repeat (refine sx ?_; try intro _)
    refine JS_ret Tryz.func213 rfl rfl ?_
    intro w hw
    exact ⟨_, _, rfl, hw⟩
def fixF (j : Nat) : Int := if j < 144 then 8 else if j < 256 then 9 else if j < 280 then 7 else 8
set_option maxHeartbeats 1000000 in
theorem Fixed_c {w0 : World} {H : List Asn} (w : World) (hw : St w0 H w) :
    Calls Tryz.prog 159 #[] w fun e w' => ∃ p c, e = .returned (.slice p 288 c) ∧ St w0 (vec 5 1 (.slice p 288 c) 288 (ints .u8 (tab 288 fixF)) :: H) w' := by
  refine enter (vs := []) Tryz.func159 rfl rfl rfl hw ?_
  repeat (refine sx ?_; try intro _)
  rename_i p0
  refine JO_call Tryz.call213 rfl rfl fun w hw => (Repeat1_c (.slice (some p0) 1 1) 8 288 (vec_rd (by repeat (first | apply List.Mem.head | apply List.Mem.tail))) ⟨_, _, rfl⟩ (by omega) w hw).mono ?_
  rintro e w' ⟨p, c, rfl, hw'⟩
  rw [tab_const] at hw'
  refine ⟨_, rfl, _, St.sub (H' := vec 5 1 (.slice p 288 c) 288 (ints .u8 (tab 288 fun _ => 8)) :: H) (by repeat (first | exact List.Sublist.refl _ | apply List.Sublist.cons_cons | apply List.Sublist.cons)) hw', ?_⟩
  clear hw' hw w w'
  repeat (first | (apply gJR; (refine sx ?_; try intro _)) | (apply gJO; (refine sx ?_; try intro _)) | apply JS_seq | apply JS_region)
  refine JS_block ?_
  refine JS_loop1 (fun (i : Nat) => [(1, .slice p 288 c), (2, .int .i64 i)]) (fun i => vec 5 1 (.slice p 288 c) 288 (ints .u8 (tab 288 fun j => if 144 ≤ j ∧ j < i then 9 else 8)) :: H) (fun i => 144 ≤ i ∧ i ≤ 256) (fun i => 256 - i) 144 ⟨by omega, by omega⟩ (by repeat (first | exact trivial | refine ⟨rfl, ?_⟩ | refine ⟨lookI rfl (by omega), ?_⟩)) (fun w hw => by rw [tab_congr (g := fun _ => 8) (fun j _ => if_neg (by omega))]; exact hw) ?_
  intro i ⟨hi0, hi⟩ again
  by_cases hlt : i < 256
  · have hl := tab_len 288 (fun j => if 144 ≤ j ∧ j < i then 9 else 8)
    have hs : (tab 288 fun j => if 144 ≤ j ∧ j < i then 9 else 8).set i 9 = tab 288 fun j => if 144 ≤ j ∧ j < i + 1 then 9 else 8 := by
      rw [tab_set]
      apply tab_congr
      intro j _
      by_cases h : j = i
      · rw [if_pos h, if_pos (by omega)]
      · rw [if_neg h]
        by_cases h2 : 144 ≤ j ∧ j < i
        · rw [if_pos h2, if_pos (by omega)]
        · rw [if_neg h2, if_neg (by omega)]
    repeat (refine sx ?_; try intro _)
    exact JS_again1 again (i + 1) ⟨by omega, by omega⟩ (by omega) (by repeat (first | exact trivial | refine ⟨rfl, ?_⟩ | refine ⟨lookI rfl (by omega), ?_⟩)) (fun w hw => by rw [← hs]; exact hw)
  obtain rfl : i = 256 := by omega
  clear again
  repeat (first | (apply gJR; (refine sx ?_; try intro _)) | (apply gJO; (refine sx ?_; try intro _)) | apply JS_seq | apply JS_region | refine JS_condF rfl ?_ | refine JS_cond_F rfl (by omega) ?_ | refine JS_exit rfl ?_)
  refine JS_block ?_
  refine JS_loop1 (fun (i : Nat) => [(1, .slice p 288 c), (3, .int .i64 i)]) (fun i => vec 5 1 (.slice p 288 c) 288 (ints .u8 (tab 288 fun j => if j < 144 then 8 else if j < 256 then 9 else if j < i then 7 else 8)) :: H) (fun i => 256 ≤ i ∧ i ≤ 280) (fun i => 280 - i) 256 ⟨by omega, by omega⟩ (by repeat (first | exact trivial | refine ⟨rfl, ?_⟩ | refine ⟨lookI rfl (by omega), ?_⟩)) (fun w hw => by
      rw [tab_congr (g := fun j => if 144 ≤ j ∧ j < 256 then 9 else 8) (fun j _ => by
        by_cases h1 : j < 144
        · rw [if_pos h1, if_neg (by omega)]
        · rw [if_neg h1]
          by_cases h2 : j < 256
          · rw [if_pos h2, if_pos (by omega)]
          · rw [if_neg h2, if_neg h2, if_neg (by omega)])]
      exact hw) ?_
  intro i ⟨hi0, hi⟩ again
  by_cases hlt : i < 280
  · have hl := tab_len 288 (fun j => if j < 144 then 8 else if j < 256 then 9 else if j < i then 7 else 8)
    have hs : (tab 288 fun j => if j < 144 then 8 else if j < 256 then 9 else if j < i then 7 else 8).set i 7 = tab 288 fun j => if j < 144 then 8 else if j < 256 then 9 else if j < i + 1 then 7 else 8 := by
      rw [tab_set]
      apply tab_congr
      intro j _
      by_cases h : j = i
      · rw [if_pos h, if_neg (by omega), if_neg (by omega), if_pos (by omega)]
      · rw [if_neg h]
        by_cases h1 : j < 144
        · rw [if_pos h1, if_pos h1]
        · rw [if_neg h1, if_neg h1]
          by_cases h2 : j < 256
          · rw [if_pos h2, if_pos h2]
          · rw [if_neg h2, if_neg h2]
            by_cases h3 : j < i
            · rw [if_pos h3, if_pos (by omega)]
            · rw [if_neg h3, if_neg (by omega)]
    repeat (refine sx ?_; try intro _)
    exact JS_again1 again (i + 1) ⟨by omega, by omega⟩ (by omega) (by repeat (first | exact trivial | refine ⟨rfl, ?_⟩ | refine ⟨lookI rfl (by omega), ?_⟩)) (fun w hw => by rw [← hs]; exact hw)
  obtain rfl : i = 280 := by omega
  clear again
  repeat (refine sx ?_; try intro _)
  refine JS_ret Tryz.func159 rfl rfl ?_
  intro w hw
  exact ⟨_, _, rfl, hw⟩
theorem Spans_c {w0 : World} {H : List Asn} (w : World) (hw : St w0 H w) :
    Calls Tryz.prog 160 #[] w fun e w' => ∃ p c, e = .returned (.slice p 32 c) ∧ St w0 (vec 5 1 (.slice p 32 c) 32 (ints .u8 (List.replicate 32 5)) :: H) w' := by
  refine enter (vs := []) Tryz.func160 rfl rfl rfl hw ?_
  repeat (refine sx ?_; try intro _)
  rename_i p0
  refine JO_call Tryz.call213 rfl rfl fun w hw => (Repeat1_c (.slice (some p0) 1 1) 5 32 (vec_rd (by repeat (first | apply List.Mem.head | apply List.Mem.tail))) ⟨_, _, rfl⟩ (by omega) w hw).mono ?_
  rintro e w' ⟨p, c, rfl, hw'⟩
  refine ⟨_, rfl, _, hw', ?_⟩
  clear hw' hw w w'
  repeat (refine sx ?_; try intro _)
  refine JS_ret Tryz.func160 rfl rfl ?_
  intro w hw
  exact ⟨_, _, rfl, dS hw⟩
set_option maxHeartbeats 1000000 in
theorem RFixed_c {w0 : World} {H : List Asn} (w : World) (hw : St w0 H w) :
    Calls Tryz.prog 135 #[] w fun e w' => ∃ p c, e = .returned (.slice p 288 c) ∧ St w0 (vec 5 1 (.slice p 288 c) 288 (ints .u8 (tab 288 fixF)) :: H) w' := by
  refine enter (vs := []) Tryz.func135 rfl rfl rfl hw ?_
  repeat (first | (apply gJR; (refine sx ?_; try intro _)) | (apply gJO; (refine sx ?_; try intro _)) | apply JS_seq | apply JS_region)
  refine JS_block ?_
  refine JS_loop3 (fun (i : Nat) (p : Option Addr) (c : Nat) => [(1, .slice p i c), (2, .int .i64 i)]) (fun i p c => vec 5 1 (.slice p i c) i (ints .u8 (tab i fixF)) :: H) (fun i _ _ => i ≤ 288) (fun i _ _ => 288 - i) 0 none 0 (by omega) (by repeat (first | exact trivial | refine ⟨rfl, ?_⟩ | refine ⟨lookI rfl (by omega), ?_⟩)) (fun w hw => St.nilvec hw) ?_
  intro i p c hi again
  by_cases hlt : i < 288
  · have hs := tab_succ i fixF
    have hl := tab_len i fixF
    have hc : (i < 144 ∧ fixF i = 8) ∨ (144 ≤ i ∧ i < 256 ∧ fixF i = 9) ∨ (256 ≤ i ∧ i < 280 ∧ fixF i = 7) ∨ (280 ≤ i ∧ fixF i = 8) := by
      unfold fixF
      by_cases h1 : i < 144
      · rw [if_pos h1]; exact .inl ⟨h1, rfl⟩
      · rw [if_neg h1]
        by_cases h2 : i < 256
        · rw [if_pos h2]; exact .inr (.inl ⟨by omega, h2, rfl⟩)
        · rw [if_neg h2]
          by_cases h3 : i < 280
          · rw [if_pos h3]; exact .inr (.inr (.inl ⟨by omega, h3, rfl⟩))
          · rw [if_neg h3]; exact .inr (.inr (.inr ⟨by omega, rfl⟩))
    rcases hc with ⟨h1, hf⟩ | ⟨h1, h2, hf⟩ | ⟨h1, h2, hf⟩ | ⟨h1, hf⟩
    all_goals rw [hf] at hs
    all_goals repeat (refine sx ?_; try intro _)
    all_goals (refine JO_app (tb := tb) rfl rfl rfl rfl rfl rfl (by repeat (first | exact Sel.here _ _ | apply Sel.there)) (by first | exact vec_rd (by repeat (first | apply List.Mem.head | apply List.Mem.tail)) | assumption | exact ArgRd.rd (by assumption) _ | (apply Rd_weak; assumption; intro _ hx; exact dS hx)) (by simp only [ints_len, List.length_cons, List.length_nil]; first | omega | rfl) (by first | exact ints_one | (repeat (first | exact trivial | refine ⟨rfl, ?_⟩))) (by omega) rfl ?_; intro _ _)
    all_goals rename_i p2 c2
    all_goals repeat (refine sx ?_; try intro _)
    all_goals exact JS_again3 again (i + 1) p2 c2 (by omega) (by omega) (by repeat (first | exact trivial | refine ⟨rfl, ?_⟩ | refine ⟨lookI rfl (by omega), ?_⟩)) (fun w hw => by rw [hs, ← ints_app1]; exact dS hw)
  obtain rfl : i = 288 := by omega
  clear again
  repeat (refine sx ?_; try intro _)
  refine JS_ret Tryz.func135 rfl rfl ?_
  intro w hw
  exact ⟨_, _, rfl, hw⟩
end Go.Proofs.YteelffkghidpfaaGreat

namespace Go.Proofs.YteelffkghidpfaaGreat
open Sx Go
set_option linter.unusedVariables false
set_option linter.unusedSimpArgs false
set_option maxRecDepth 100000
theorem mod_mul (X P : Int) : X % 4294967296 * P % 4294967296 = X * P % 4294967296 := by
  rw [Int.mul_emod, Int.emod_emod, ← Int.mul_emod]
attribute [local irreducible] syA fc
set_option maxHeartbeats 4000000 in
theorem Codes_c {w0 : World} {H : List Asn} (b : Nat) (q s : Option Addr) (d e m : Nat) (B : List Int) (f : Nat → Int) (full : Bool) (hb : blk b (setCells (.slice q m d) f (.slice s (syA B 15).length e) full) ∈ H) (hrl : Rd w0 H (.slice q m d) m (ints .u8 B)) (hrs : Rd w0 H (.slice s (syA B 15).length e) (syA B 15).length (ints .i64 (syA B 15)))
    (hm : B.length = m) (hB : OKB B) (h15 : ∀ j, B.getD j 0 ≤ 15) (hm1 : m ≤ 1000) (w : World) (hw : St w0 H w) :
    Calls Tryz.prog 215 #[.pointer (some ⟨b, 0, none⟩)] w fun e w' => ∃ p c, e = .returned (.slice p m c) ∧ St w0 (vec 31 1 (.slice p m c) m (ints .u32 (cds B 16 0)) :: H) w' := by
  refine enter (vs := [.pointer (some ⟨b, 0, none⟩)]) Tryz.func215 rfl rfl rfl hw ?_
  repeat (first | (apply gJO; first | refine JO_v (V_load (tb := tb) rfl hb rfl rfl rfl rfl) ?_ | refine JO_v (V_load (tb := tb) rfl (List.Mem.tail _ hb) rfl rfl rfl rfl) ?_) | (apply gJR; (refine sx ?_; try intro _)) | (apply gJO; (refine sx ?_; try intro _)) | apply JS_seq | apply JS_region)
  rename_i po
  rw [show (rep (Int.toNat m) [Value.int IntKind.u32 0]) = ints .u32 (List.replicate m 0) from ints_rep]
  rw [show (m : Int).toNat = m from rfl]
  refine JS_block ?_
  refine JS_loop3 (fun (t l : Nat) (c : Int) => [(0, .pointer (some ⟨b, 0, none⟩)), (3, .slice (some po) m m), (4, .int .u32 ((fc B l + c) % 4294967296)), (5, .int .u8 l), (18, .slice s (syA B 15).length e), (19, .int .i64 ((syA B 15).length : Nat)), (20, .int .i64 t)]) (fun t _ _ => vec 31 1 (.slice (some po) m m) m (ints .u32 (outC B t)) :: H)
    (fun t l c => t ≤ (syA B 15).length ∧ l ≤ 15 ∧ psum B l + c = t ∧ 0 ≤ c ∧ c ≤ cn B l) (fun t _ _ => (syA B 15).length - t) 0 0 0 ⟨by omega, by omega, rfl, by omega, by simp [cn]⟩ (by exact ⟨rfl, rfl, lookI rfl (by unfold fc; rfl), rfl, rfl, rfl, rfl, trivial⟩) (fun w hw => by rw [outC_zero, hm]; exact hw) ?_
  intro t l c ⟨ht, hl, hp, hc0, hc⟩ again
  have hrl' : Rd w0 (vec 31 1 (.slice (some po) m m) m (ints .u32 (outC B t)) :: H) (.slice q m d) m (ints .u8 B) := Rd_weak hrl fun w hw => dS hw
  have hrs' : Rd w0 (vec 31 1 (.slice (some po) m m) m (ints .u32 (outC B t)) :: H) (.slice s (syA B 15).length e) (syA B 15).length (ints .i64 (syA B 15)) := Rd_weak hrs fun w hw => dS hw
  by_cases htk : t < (syA B 15).length
  · obtain ⟨n, r, i, hn, h1, h2, hi, h3, h4, h5⟩ := syA_get B 15 t htk
    have hps := psum_syA B hB n
    have hcr := cn_sy1 B hB (n + 1) (by omega) i (by omega)
    have hcm := cn_sy1 B hB (n + 1) (by omega) B.length (by omega)
    rw [List.take_of_length_le (by omega)] at hcm
    have hset := outC_set htk h3
    have hcd : cd B i = (fc B (n + 1) + r) % 4294967296 := by unfold cd; rw [h4, Int.toNat_natCast, ← hcr, h5]
    have hle : l ≤ n + 1 := by
      rcases Nat.lt_or_ge (n + 1) l with h | h
      · exfalso
        have hmo := psum_mono B (n + 1 + 1) (l - (n + 2))
        rw [show n + 1 + 1 + (l - (n + 2)) = l by omega] at hmo
        have : psum B (n + 1 + 1) = psum B (n + 1) + cn B (n + 1) := rfl
        omega
      · exact h
    have hsh : fc B (n + 1) + r = (fc B l + c) * 2 ^ (n + 1 - l) := by
      rcases Nat.eq_or_lt_of_le hle with h | h
      · subst h
        rw [Nat.sub_self, Int.pow_zero, Int.mul_one]; omega
      · obtain ⟨g1, g2⟩ := shift_code B l c hc (n + 1 - l) (by omega) (by rw [show l + (n + 1 - l) = n + 1 by omega]; omega)
        rw [show l + (n + 1 - l) = n + 1 by omega] at g1 g2
        rw [← g2]; omega
    have hcl := outC_len B t
    have gs : (ints .i64 (syA B 15))[t]? = some (.int .i64 (i : Int)) := by rw [← h3]; exact ints_get htk
    have gl : (ints .u8 B)[i]? = some (.int .u8 ((n + 1 : Nat) : Int)) := by rw [← h4]; exact ints_get hi
    have hms : min (((n + 1 : Nat) : Int) - (l : Int)).toNat IntKind.u32.bits = n + 1 - l := by show min _ 32 = _; omega
    have hwr : IntKind.u32.wrap ((fc B l + c) % 4294967296 * 2 ^ (n + 1 - l)) = cd B i := by
      rw [hcd, hsh, ← mod_mul]; exact mu32 _
    have hcdb := cd_bd B i
    have hsl := syA_len B 15
    have htb : t ≤ 15000 := by omega
    have hrc : (r : Int) + 1 ≤ cn B (n + 1) := by omega
    clear hsh hcm hcr hsl
    repeat (first | (apply gJO; first | refine JO_v (V_load (tb := tb) rfl (List.Mem.tail _ hb) rfl rfl rfl rfl) ?_ | refine JO_v (V_loadC (tb := tb) rfl hrs' rfl rfl gs rfl) ?_ | refine JO_v (V_loadC (tb := tb) rfl hrl' rfl rfl gl rfl) ?_ | refine JO_v (V_shl (m := n + 1 - l) (c := cd B i) rfl rfl (by omega) hms hwr rfl) ?_) | (refine sx ?_; try intro _))
    exact JS_again3 again (t + 1) (n + 1) ((r : Int) + 1) ⟨by omega, by omega, by omega, by omega, by omega⟩ (by omega) (by exact ⟨rfl, rfl, lookI rfl (by rw [hcd]; omega), lookI rfl (by omega), rfl, rfl, lookI rfl (by omega), trivial⟩) (fun w hw => by rw [← hset]; exact hw)
  · obtain rfl : t = (syA B 15).length := by omega
    rw [outC_end h15]
    clear again
    repeat (refine sx ?_; try intro _)
    refine JS_ret Tryz.func215 rfl rfl ?_
    intro w hw
    exact ⟨_, _, rfl, hw⟩
end Go.Proofs.YteelffkghidpfaaGreat

namespace Go.Proofs.YteelffkghidpfaaGreat
open Sx Go
set_option linter.unusedVariables false
set_option linter.unusedSimpArgs false
set_option maxRecDepth 100000
attribute [local irreducible] syA fc tk
def OKL (B : List Int) : Prop := B.length ≤ 320 ∧ (∀ j, B.getD j 0 ≤ 15) ∧ FINE B
structure IsSet (w0 : World) (H : List Asn) (b : Nat) (B : List Int) : Prop where
  ok : ∃ q d s e, blk b (setCells (.slice q B.length d) (cn B) (.slice s (syA B 15).length e) (decide (tk B = 32768))) ∈ H ∧ Rd w0 H (.slice q B.length d) B.length (ints .u8 B) ∧ Rd w0 H (.slice s (syA B 15).length e) (syA B 15).length (ints .i64 (syA B 15))
  hB : OKB B
  hl : OKL B
theorem IsSet.sub {w0 H H' b B} (h : IsSet w0 H b B) (hs : H.Sublist H') : IsSet w0 H' b B := by
  obtain ⟨⟨q, d, s, e, h1, h2, h3⟩, hB, hl⟩ := h
  exact ⟨⟨q, d, s, e, hs.subset h1, Rd_weak h2 fun w hw => St.sub hs hw, Rd_weak h3 fun w hw => St.sub hs hw⟩, hB, hl⟩
theorem OKB_of {B : List Int} (h : B.all (fun x => decide (0 ≤ x ∧ x < 256)) = true) : OKB B := by
  intro j
  rw [List.getD_eq_getElem?_getD]
  rcases Nat.lt_or_ge j B.length with hj | hj
  · rw [List.getElem?_eq_getElem hj]
    exact of_decide_eq_true (List.all_eq_true.1 h _ (List.getElem_mem hj))
  · rw [List.getElem?_eq_none hj]; decide
theorem le15_of {B : List Int} (h : B.all (fun x => decide (x ≤ 15)) = true) : ∀ j, B.getD j 0 ≤ 15 := by
  intro j
  rw [List.getD_eq_getElem?_getD]
  rcases Nat.lt_or_ge j B.length with hj | hj
  · rw [List.getElem?_eq_getElem hj]
    exact of_decide_eq_true (List.all_eq_true.1 h _ (List.getElem_mem hj))
  · rw [List.getElem?_eq_none hj]; decide
def BADL (B : List Int) (r : Int) : Prop := ((320 < B.length ∨ ∃ j, 15 < B.getD j 0) ∧ r = 1) ∨ (B.length ≤ 320 ∧ (∀ j, B.getD j 0 ≤ 15) ∧ ¬ FINE B ∧ r = 62)
theorem BADL.not {B r} (h : BADL B r) : ¬ OKL B := by
  rintro ⟨h1, h2, h3⟩
  rcases h with ⟨h4 | ⟨j, h4⟩, _⟩ | ⟨_, _, h4, _⟩
  · omega
  · have := h2 j; omega
  · exact h4 h3
theorem BADL.one {B r r'} (h : BADL B r) (h' : BADL B r') : r = r' := by
  rcases h with ⟨h1, h2⟩ | ⟨h1, h3, h4, h2⟩ <;> rcases h' with ⟨h5, h6⟩ | ⟨h5, h7, h8, h6⟩
  · omega
  · exfalso
    rcases h1 with h1 | ⟨j, h1⟩
    · omega
    · have := h7 j; omega
  · exfalso
    rcases h5 with h5 | ⟨j, h5⟩
    · omega
    · have := h3 j; omega
  · omega
theorem BADL.pos {B r} (h : BADL B r) : r = 1 ∨ r = 62 := by
  rcases h with ⟨_, h⟩ | ⟨_, _, _, h⟩ <;> omega
theorem Codes2_c {w0 : World} {H : List Asn} (b m : Nat) (B : List Int) (hm : B.length = m) (hs : IsSet w0 H b B) (w : World) (hw : St w0 H w) :
    Calls Tryz.prog 215 #[.pointer (some ⟨b, 0, none⟩)] w fun e w' => ∃ p c, e = .returned (.slice p m c) ∧ St w0 (vec 31 1 (.slice p m c) m (ints .u32 (cds B 16 0)) :: H) w' := by
  subst hm
  obtain ⟨⟨q, d, s, e, h1, h2, h3⟩, hB, hl⟩ := hs
  exact Codes_c b q s d e _ B _ _ h1 h2 h3 rfl hB hl.2.1 (by have := hl.1; omega) w hw
theorem Full2_c {w0 : World} {H : List Asn} (b : Nat) (B : List Int) (hs : IsSet w0 H b B) (w : World) (hw : St w0 H w) :
    Calls Tryz.prog 234 #[.pointer (some ⟨b, 0, none⟩)] w fun e w' => e = .returned (.bool (decide (tk B = 32768))) ∧ St w0 H w' := by
  obtain ⟨⟨q, d, s, e, h1, h2, h3⟩, hB, hl⟩ := hs
  exact Full_c b _ _ _ _ h1 w hw
theorem Read2_c {w0 : World} {H : List Asn} (b b2 : Nat) (B B2 : List Int) (hs : IsSet w0 H b B) (q : Option Addr) (d m2 : Nat) (hr : Rd w0 H (.slice q m2 d) m2 (ints .u8 B2)) (hm2 : B2.length = m2) (hB2 : OKB B2) (hmx : m2 ≤ 140737488355328) (n : Nat) (hn : n ≤ 8 * m2)
    (w : World) (hw : St w0 (blk b2 [.slice q m2 d, .int .i64 n] :: H) w) :
    Calls Tryz.prog 253 #[.pointer (some ⟨b, 0, none⟩), .pointer (some ⟨b2, 0, none⟩)] w fun en w' => ∃ (i : Int) (used : Nat) (r : Int), en = .returned (.tuple #[.int .i64 i, .int .i64 r]) ∧ St w0 (blk b2 [.slice q m2 d, .int .i64 (n + used : Nat)] :: H) w' ∧ n + used ≤ 8 * m2 ∧ RD B (bitB B2 n) (8 * m2 - n) i used r := by
  obtain ⟨⟨q', d', s, e, h1, h2, h3⟩, hB, hl⟩ := hs
  exact Read_c b b2 _ s q d e m2 B B2 h1 h3 hl.1 hB hl.2.1 hl.2.2 hr hm2 hB2 hmx n hn w hw
end Go.Proofs.YteelffkghidpfaaGreat

namespace Go.Proofs.YteelffkghidpfaaGreat
open Sx Go
set_option linter.unusedVariables false
set_option linter.unusedSimpArgs false
set_option maxRecDepth 100000
end Go.Proofs.YteelffkghidpfaaGreat

namespace Go.Proofs.YteelffkghidpfaaGreat
open Sx Go
set_option linter.unusedVariables false
set_option linter.unusedSimpArgs false
set_option maxRecDepth 100000
theorem cds_get (B : List Int) (h15 : ∀ j, B.getD j 0 ≤ 15) (i : Nat) (hi : i < B.length) : (cds B 16 0).getD i 0 = if 0 < B.getD i 0 then cd B i else 0 := by
  have h := h15 i
  have ht : told B 16 0 i = decide (0 < B.getD i 0) := by
    unfold told
    by_cases h0 : 0 < B.getD i 0
    · rw [decide_eq_true h0]; exact decide_eq_true ⟨h0, .inl (by omega)⟩
    · rw [decide_eq_false h0]; exact decide_eq_false (fun h => h0 h.1)
  unfold cds
  rw [List.getD_eq_getElem?_getD, List.getElem?_map, List.getElem?_range hi]
  simp only [Option.map_some, Option.getD_some, ht, decide_eq_true_eq]
attribute [local irreducible] syA fc tk cds
end Go.Proofs.YteelffkghidpfaaGreat

namespace Go.Proofs.YteelffkghidpfaaGreat
open Sx Go
set_option linter.unusedVariables false
set_option linter.unusedSimpArgs false
set_option maxRecDepth 100000
attribute [local irreducible] syA fc tk cds
theorem bms_Byt (c : Int) (n : Nat) : Byt (bms c n) := by
  intro j
  unfold bms
  rcases Nat.lt_or_ge j n with h | h
  · simp only [List.getD_eq_getElem?_getD, List.getElem?_map, List.getElem?_range h, Option.map_some, Option.getD_some]; omega
  · rw [List.getD_eq_getElem?_getD, List.getElem?_eq_none (by simp; omega)]; decide
theorem Byt_take {B : List Int} (h : Byt B) (n : Nat) : Byt (B.take n) := by
  intro j
  rcases Nat.lt_or_ge j n with hj | hj
  · have := h j
    rwa [List.getD_eq_getElem?_getD, List.getElem?_take, if_pos hj, ← List.getD_eq_getElem?_getD]
  · rw [List.getD_eq_getElem?_getD, List.getElem?_eq_none (by rw [List.length_take]; omega)]; decide
theorem Byt_drop {B : List Int} (h : Byt B) (n : Nat) : Byt (B.drop n) := by
  intro j
  have := h (n + j)
  rwa [List.getD_eq_getElem?_getD, List.getElem?_drop, ← List.getD_eq_getElem?_getD]
theorem ints_take {K : IntKind} {l : List Int} {n : Nat} : (ints K l).take n = ints K (l.take n) := by simp [ints, List.map_take]
theorem ints_drop {K : IntKind} {l : List Int} {n : Nat} : (ints K l).drop n = ints K (l.drop n) := by simp [ints, List.map_drop]
set_option maxHeartbeats 1000000 in
theorem Begins_c {w0 : World} {H : List Asn} (p q : Option Addr) (c d m n : Nat) (L W : List Int) (hr : Rd w0 H (.slice p m c) m (ints .u8 L)) (hm : L.length = m) (hL : Byt L) (hr2 : Rd w0 H (.slice q n d) n (ints .u8 W)) (hn : W.length = n) (hW : Byt W) (hb1 : m ≤ 140737488355328) (hb2 : n ≤ 140737488355328) (w : World) (hw : St w0 H w) :
    Calls Tryz.prog 245 #[.slice p m c, .slice q n d] w fun e w' => ∃ o, e = .returned (.bool o) ∧ St w0 H w' ∧ (o = true ↔ n ≤ m ∧ L.take n = W) := by
  have hcap := (hr.lcap hw).1
  refine enter (vs := [.slice p m c, .slice q n d]) Tryz.func245 rfl rfl rfl hw ?_
  by_cases hle : n ≤ m
  · have hrs := Rd_sub (lo := 0) (hi := n) (sz := 1) hr (by omega) hle
    rw [Nat.zero_mul, List.drop_zero, Nat.mul_one, Nat.sub_zero, ints_take] at hrs
    have hlt : (L.take n).length = n := by rw [List.length_take]; omega
    have hLt := Byt_take hL n
    repeat (first | (apply gQO; first | refine QO_v rfl (V_slice (tb := tb) (lo := 0) (hi := n) rfl rfl rfl rfl rfl (by rfl) (by rfl) (fun _ _ => ⟨by omega, by omega⟩) rfl) ?_ | refine QO_v rfl (V_str (tb := tb) rfl hrs hlt rfl rfl rfl rfl) ?_ | refine QO_v rfl (V_str (tb := tb) rfl hr2 hn rfl rfl rfl rfl) ?_) | (refine sx ?_; try intro _))
    refine JS_ret Tryz.func245 rfl rfl ?_
    intro w hw
    exact ⟨_, rfl, hw, by simp [hle]⟩
  · repeat (refine sx ?_; try intro _)
    refine JS_ret Tryz.func245 rfl rfl ?_
    intro w hw
    exact ⟨_, rfl, hw, by simp; omega⟩
theorem RD_fun {B : List Int} (hB : OKB B) (hk : OKL B) {b : Nat → Int} (hb : ∀ j, b j = 0 ∨ b j = 1) {left : Nat} {i i' : Int} {u u' : Nat} {r r' : Int} (h : RD B b left i u r) (h' : RD B b left i' u' r') : i = i' ∧ u = u' ∧ r = r' := by
  rcases h with ⟨j, rfl, rfl, h1, h2⟩ | ⟨h1, rfl, h2⟩ <;> rcases h' with ⟨j', rfl, rfl, h3, h4⟩ | ⟨h3, rfl, h4⟩
  · have := DEC_one B hB hk.2.1 hk.2.2 b hb left j j' h1 h3
    subst this
    exact ⟨rfl, by omega, rfl⟩
  · exact absurd h1 (h3 j)
  · exact absurd h3 (h1 j')
  · refine ⟨rfl, ?_⟩
    omega
theorem cd_lt (B : List Int) (hB : OKB B) (hk : OKL B) (i n : Nat) (hi : i < B.length) (h0 : 0 < n) (hn : B.getD i 0 = (n : Int)) : 0 ≤ cd B i ∧ cd B i < 2 ^ n := by
  obtain ⟨h1, h2⟩ := cd_eq B hB hk.2.1 hk.2.2 i n hi h0 hn
  have h3 := hk.2.1 i
  have h4 := fc_bd B hB hk.2.1 hk.2.2 n (by omega)
  have h5 := cd_bd B i
  omega
theorem take_range (L : List Int) (n : Nat) (h : n ≤ L.length) : L.take n = (List.range n).map fun j => L.getD j 0 := by
  apply List.ext_getElem?
  intro j
  by_cases hj : j < n
  · rw [List.getElem?_take, if_pos hj, List.getElem?_map, List.getElem?_range hj, Option.map_some, List.getD_eq_getElem?_getD, List.getElem?_eq_getElem (by omega), Option.getD_some]
  · rw [List.getElem?_take, if_neg hj, List.getElem?_eq_none (by simp; omega)]
theorem begins_dec (B L : List Int) (hB : OKB B) (hk : OKL B) (hL : ∀ j, L.getD j 0 = 0 ∨ L.getD j 0 = 1) (i n : Nat) (hi : i < B.length) (h0 : 0 < n) (hn : B.getD i 0 = (n : Int)) : (n ≤ L.length ∧ L.take n = bms (cd B i) n) ↔ DEC B (fun j => L.getD j 0) L.length i := by
  have hcd := cd_lt B hB hk i n hi h0 hn
  constructor
  · rintro ⟨h1, h2⟩
    rw [take_range L n h1] at h2
    exact ⟨n, hi, h0, hn, h1, (val_bms _ hL _ n hcd).1 h2⟩
  · rintro ⟨n', _, _, h3, h4, h5⟩
    obtain rfl : n' = n := by omega
    refine ⟨h4, ?_⟩
    rw [take_range L n' h4]
    exact (val_bms _ hL _ n' hcd).2 h5
set_option maxHeartbeats 4000000 in
theorem RRead_c {w0 : World} {H : List Asn} (p q : Option Addr) (c d m left : Nat) (B L : List Int) (hr : Rd w0 H (.slice p m c) m (ints .u8 B)) (hm : B.length = m) (hB : OKB B) (hk : OKL B) (hr2 : Rd w0 H (.slice q left d) left (ints .u8 L)) (hl : L.length = left) (hL01 : ∀ j, L.getD j 0 = 0 ∨ L.getD j 0 = 1) (hb : left ≤ 140737488355328) (w : World) (hw : St w0 H w) :
    Calls Tryz.prog 225 #[.slice p m c, .slice q left d] w fun e w' => ∃ (i : Int) (used : Nat) (r : Int), e = .returned (.tuple #[.int .i64 i, .int .i64 used, .int .i64 r]) ∧ St w0 H w' ∧ RD B (fun j => L.getD j 0) left i used r := by
  have hm320 := hk.1
  have hL : Byt L := fun j => by have := hL01 j; omega
  refine enter (vs := [.slice p m c, .slice q left d]) Tryz.func225 rfl rfl rfl hw ?_
  repeat (refine sx ?_; try intro _)
  refine JO_call Tryz.call169 rfl rfl fun w hw => (RCodes_c p c m B hr hm hB (by omega) w hw).mono ?_
  rintro e w' ⟨p1, c1, rfl, hw'⟩
  refine ⟨_, rfl, _, hw', ?_⟩
  clear hw' hw w w'
  repeat (first | (apply gJR; (refine sx ?_; try intro _)) | (apply gJO; (refine sx ?_; try intro _)) | apply JS_seq | apply JS_region)
  refine JS_block ?_
  refine JS_loop2 (fun (i : Nat) (o : Bool) => [(0, .slice p m c), (1, .slice q left d), (7, .slice p1 m c1), (8, .bool o), (9, .int .i64 i)]) (fun _ _ => vec 31 1 (.slice p1 m c1) m (ints .u32 (cds B 16 0)) :: H)
    (fun i o => i ≤ m ∧ (o = true ↔ sm (B.take i) ≠ 0) ∧ ∀ j, j < i → ¬ DEC B (fun j => L.getD j 0) left j) (fun i _ => m - i) 0 false ⟨by omega, by simp [sm], fun j h => absurd h (by omega)⟩ (by repeat (first | exact trivial | refine ⟨rfl, ?_⟩ | refine ⟨lookI rfl (by omega), ?_⟩)) (fun _ h => h) ?_
  intro i o ⟨hi, ho, hno⟩ again
  have hr' : Rd w0 (vec 31 1 (.slice p1 m c1) m (ints .u32 (cds B 16 0)) :: H) (.slice p m c) m (ints .u8 B) := Rd_weak hr fun w hw => dS hw
  have hr2' : Rd w0 (vec 31 1 (.slice p1 m c1) m (ints .u32 (cds B 16 0)) :: H) (.slice q left d) left (ints .u8 L) := Rd_weak hr2 fun w hw => dS hw
  by_cases him : i < m
  · have hbi := hB i
    have h15 := hk.2.1 i
    have g0 : (ints .u8 B)[i]? = some (.int .u8 (B.getD i 0)) := ints_get (by omega)
    have hcl := cds_len B 16 0
    have g1 : (ints .u32 (cds B 16 0))[i]? = some (.int .u32 ((cds B 16 0).getD i 0)) := ints_get (by omega)
    have hcg := cds_get B hk.2.1 i (by omega)
    have hss := sm_step B i (by omega)
    by_cases h0 : 0 < B.getD i 0
    · rw [if_pos h0] at hcg hss
      rw [hcg] at g1
      obtain ⟨n, hn⟩ := Int.eq_ofNat_of_zero_le hbi.1
      rw [hn] at g0 h0 h15
      have hcd := cd_lt B hB hk i n (by omega) (by omega) hn
      have hcb := cd_bd B i
      have hbl := bms_len (cd B i) n
      have hW := bms_Byt (cd B i) n
      cases o
      all_goals repeat (first | (apply gJO; first | refine JO_v (V_loadC (tb := tb) rfl hr' rfl rfl g0 rfl) ?_) | (apply gQO; first | refine QO_v rfl (V_loadC (tb := tb) rfl hr' rfl rfl g0 rfl) ?_ | refine QO_v rfl (V_loadC (tb := tb) rfl (vec_rd (by repeat (first | apply List.Mem.head | apply List.Mem.tail))) rfl rfl g1 rfl) ?_) | (refine sx ?_; try intro _))
      all_goals refine QO_call Tryz.call171 rfl rfl fun w hw => (Bits5_c (cd B i) n hcb (by omega) w hw).mono ?_
      all_goals rintro e w' ⟨p2, c2, rfl, hw'⟩
      all_goals refine ⟨_, rfl, _, hw', .inl fun w hw => dS hw, ?_⟩
      all_goals clear hw' hw w w'
      all_goals repeat (refine sx ?_; try intro _)
      all_goals refine QO_call Tryz.call245 rfl rfl fun w hw => (Begins_c q p2 d c2 left n L (bms (cd B i) n) (Rd_weak hr2' fun w hw => dS hw) hl hL (vec_rd (by repeat (first | apply List.Mem.head | apply List.Mem.tail))) hbl hW hb (by omega) w hw).mono ?_
      all_goals rintro e w' ⟨o2, rfl, hw', ho2⟩
      all_goals refine ⟨_, rfl, _, hw', .inl fun w hw => dS hw, ?_⟩
      all_goals clear hw' hw w w'
      all_goals have hdec : o2 = true ↔ DEC B (fun j => L.getD j 0) left i := (by subst hl; rw [ho2]; exact begins_dec B L hB hk hL01 i n (by omega) (by omega) hn)
      all_goals clear ho2
      all_goals cases o2
      · repeat (refine sx ?_; try intro _)
        exact JS_again2 again (i + 1) true ⟨by omega, ⟨fun _ => by omega, fun _ => rfl⟩, fun j hj => by
          rcases Nat.lt_or_ge j i with h | h
          · exact hno j h
          · obtain rfl : j = i := by omega
            exact fun h => nomatch hdec.2 h⟩ (by omega) (by repeat (first | exact trivial | refine ⟨rfl, ?_⟩ | refine ⟨lookI rfl (by omega), ?_⟩)) (fun w hw => dS hw)
      · repeat (first | (apply gQO; first | refine QO_v rfl (V_loadC (tb := tb) rfl (Rd_weak hr fun w hw => dS hw) rfl rfl g0 rfl) ?_) | (refine sx ?_; try intro _))
        refine JS_ret Tryz.func225 rfl rfl ?_
        intro w hw
        exact ⟨i, n, 0, rfl, dS hw, .inl ⟨i, rfl, rfl, hdec.1 rfl, hn⟩⟩
      · repeat (refine sx ?_; try intro _)
        exact JS_again2 again (i + 1) true ⟨by omega, ⟨fun _ => by omega, fun _ => rfl⟩, fun j hj => by
          rcases Nat.lt_or_ge j i with h | h
          · exact hno j h
          · obtain rfl : j = i := by omega
            exact fun h => nomatch hdec.2 h⟩ (by omega) (by repeat (first | exact trivial | refine ⟨rfl, ?_⟩ | refine ⟨lookI rfl (by omega), ?_⟩)) (fun w hw => dS hw)
      · repeat (first | (apply gQO; first | refine QO_v rfl (V_loadC (tb := tb) rfl (Rd_weak hr fun w hw => dS hw) rfl rfl g0 rfl) ?_) | (refine sx ?_; try intro _))
        refine JS_ret Tryz.func225 rfl rfl ?_
        intro w hw
        exact ⟨i, n, 0, rfl, dS hw, .inl ⟨i, rfl, rfl, hdec.1 rfl, hn⟩⟩
    · rw [if_neg h0] at hss
      have hnd : ∀ j, j < i + 1 → ¬ DEC B (fun j => L.getD j 0) left j := by
        intro j hj
        rcases Nat.lt_or_ge j i with h | h
        · exact hno j h
        · obtain rfl : j = i := by omega
          rintro ⟨n', _, h2, h3, _⟩
          omega
      cases o
      all_goals repeat (first | (apply gJO; first | refine JO_v (V_loadC (tb := tb) rfl hr' rfl rfl g0 rfl) ?_) | (apply gQO; first | refine QO_v rfl (V_loadC (tb := tb) rfl hr' rfl rfl g0 rfl) ?_) | (refine sx ?_; try intro _))
      · exact JS_again2 again (i + 1) false ⟨by omega, by rw [hss]; exact ho, hnd⟩ (by omega) (by repeat (first | exact trivial | refine ⟨rfl, ?_⟩ | refine ⟨lookI rfl (by omega), ?_⟩)) (fun w hw => hw)
      · exact JS_again2 again (i + 1) true ⟨by omega, by rw [hss]; exact ho, hnd⟩ (by omega) (by repeat (first | exact trivial | refine ⟨rfl, ?_⟩ | refine ⟨lookI rfl (by omega), ?_⟩)) (fun w hw => hw)
  · obtain rfl : i = m := by omega
    rw [List.take_of_length_le (by omega)] at ho
    have hnd : ∀ j, ¬ DEC B (fun j => L.getD j 0) left j := by
      intro j hd
      have := hd
      obtain ⟨n', h1, _⟩ := this
      exact hno j (by omega) hd
    clear again hr' hr2'
    cases o
    · have hs0 : sm B = 0 := by
        rcases Nat.eq_zero_or_pos (sm B) with h | h
        · exact h
        · exact absurd (ho.2 (by omega)) (by decide)
      repeat (refine sx ?_; try intro _)
      refine JS_ret Tryz.func225 rfl rfl ?_
      intro w hw
      exact ⟨0, 0, 62, rfl, dS hw, .inr ⟨hnd, rfl, .inl ⟨hs0, rfl, rfl⟩⟩⟩
    · have hs0 := ho.1 rfl
      repeat (refine sx ?_; try intro _)
      refine JO_call Tryz.call184 rfl rfl fun w hw => (RCheck5_c p c i B (Rd_weak hr fun w hw => dS hw) hm hB (by omega) w hw).mono ?_
      rintro e w' ⟨r', o, rfl, hw', h⟩
      obtain ⟨rfl, rfl⟩ : r' = 0 ∧ o = decide (tk B = 32768) := by
        rcases h with ⟨h1, h2, h3⟩ | ⟨h1, h2, h3, h4, h5⟩ | ⟨h1, h2, h3, h4, h5⟩
        · exact absurd hk (BADL.not (r := 1) (.inl ⟨by rw [hm]; exact h1, rfl⟩))
        · exact absurd hk.2.2 h3
        · exact ⟨h4, h5⟩
      refine ⟨_, rfl, _, hw', ?_⟩
      clear h hw' hw w w'
      by_cases htk : tk B = 32768
      · rw [decide_eq_true htk]
        repeat (refine sx ?_; try intro _)
        refine JS_ret Tryz.func225 rfl rfl ?_
        intro w hw
        exact ⟨0, left, 20, rfl, dS hw, .inr ⟨hnd, rfl, .inr (.inl ⟨hs0, htk, rfl, rfl⟩)⟩⟩
      · rw [decide_eq_false htk]
        by_cases hl0 : left = 0
        · repeat (refine sx ?_; try intro _)
          refine JS_ret Tryz.func225 rfl rfl ?_
          intro w hw
          exact ⟨0, left, 20, rfl, dS hw, .inr ⟨hnd, rfl, .inr (.inr ⟨hs0, htk, .inl ⟨hl0, hl0, rfl⟩⟩)⟩⟩
        · repeat (refine sx ?_; try intro _)
          refine JS_ret Tryz.func225 rfl rfl ?_
          intro w hw
          exact ⟨0, 1, 62, rfl, dS hw, .inr ⟨hnd, rfl, .inr (.inr ⟨hs0, htk, .inr ⟨by omega, rfl, rfl⟩⟩)⟩⟩
end Go.Proofs.YteelffkghidpfaaGreat

namespace Go.Proofs.YteelffkghidpfaaGreat
open Sx Go
set_option linter.unusedVariables false
set_option linter.unusedSimpArgs false
set_option maxRecDepth 100000
def bnum (f : Nat → Int) : Nat → Int
  | 0 => 0
  | k + 1 => bnum f k + f k * 2 ^ k
theorem num_add (f g : Nat → Int) : ∀ k, bnum (fun t => f t + g t) k = bnum f k + bnum g k
  | 0 => rfl
  | k + 1 => by simp only [bnum, num_add f g k, Int.add_mul]; omega
theorem num_congr {f g : Nat → Int} : ∀ k, (∀ t, t < k → f t = g t) → bnum f k = bnum g k
  | 0, _ => rfl
  | k + 1, h => by simp only [bnum]; rw [num_congr k (fun t ht => h t (by omega)), h k (by omega)]
theorem num_zero : ∀ k, bnum (fun _ => 0) k = 0
  | 0 => rfl
  | k + 1 => by simp only [bnum, num_zero k]; omega
theorem num_one (x : Int) (i : Nat) : ∀ k, bnum (fun t => if t = i then x else 0) k = if i < k then x * 2 ^ i else 0
  | 0 => by simp [bnum]
  | k + 1 => by
    simp only [bnum, num_one x i k]
    by_cases h : k = i
    · subst h; rw [if_neg (by omega), if_pos rfl, if_pos (by omega)]; omega
    · rw [if_neg h]
      by_cases h2 : i < k
      · rw [if_pos h2, if_pos (by omega)]; omega
      · rw [if_neg h2, if_neg (by omega)]; omega
theorem num_bd (f : Nat → Int) (hf : ∀ t, f t = 0 ∨ f t = 1) : ∀ k, 0 ≤ bnum f k ∧ bnum f k < 2 ^ k
  | 0 => ⟨Int.le_refl _, by show (0 : Int) < 1; decide⟩
  | k + 1 => by
    have h := num_bd f hf k
    simp only [bnum, Int.pow_succ]
    rcases hf k with h1 | h1 <;> rw [h1] <;> omega
def byteAt (L : List Int) (j : Nat) : Int := bnum (fun t => L.getD (8 * j + t) 0) 8
def pack (L : List Int) : List Int := tab ((L.length + 7) / 8) (byteAt L)
theorem pack_len (L : List Int) : (pack L).length = (L.length + 7) / 8 := tab_len _ _
theorem getD_app1 (L : List Int) (x : Int) (i : Nat) : (L ++ [x]).getD i 0 = L.getD i 0 + if i = L.length then x else 0 := by
  rw [List.getD_eq_getElem?_getD, List.getD_eq_getElem?_getD]
  rcases Nat.lt_trichotomy i L.length with h | h | h
  · rw [List.getElem?_append_left h, if_neg (by omega)]; omega
  · subst h; simp
  · rw [List.getElem?_append_right (by omega), if_neg (by omega), List.getElem?_eq_none (by simp; omega), List.getElem?_eq_none (by omega)]; rfl
theorem byteAt_app (L : List Int) (x : Int) (j : Nat) : byteAt (L ++ [x]) j = byteAt L j + if j = L.length / 8 then x * 2 ^ (L.length % 8) else 0 := by
  unfold byteAt
  rw [num_congr (g := fun t => L.getD (8 * j + t) 0 + if 8 * j + t = L.length then x else 0) 8 (fun t _ => getD_app1 L x _), num_add]
  congr 1
  by_cases h : j = L.length / 8
  · rw [if_pos h, num_congr (g := fun t => if t = L.length % 8 then x else 0) 8 (fun t ht => by
      by_cases h2 : t = L.length % 8
      · rw [if_pos h2, if_pos (by omega)]
      · rw [if_neg h2, if_neg (by omega)]), num_one, if_pos (by omega)]
  · rw [if_neg h, num_congr (g := fun _ => 0) 8 (fun t ht => if_neg (by omega)), num_zero]
theorem byteAt_bd (L : List Int) (hL : ∀ j, L.getD j 0 = 0 ∨ L.getD j 0 = 1) (j : Nat) : 0 ≤ byteAt L j ∧ byteAt L j < 256 := num_bd _ (fun t => hL _) 8
theorem byteAt_last (L : List Int) (hL : ∀ j, L.getD j 0 = 0 ∨ L.getD j 0 = 1) : byteAt L (L.length / 8) < 2 ^ (L.length % 8) := by
  have h : ∀ d, bnum (fun t => L.getD (8 * (L.length / 8) + t) 0) (L.length % 8 + d) = bnum (fun t => L.getD (8 * (L.length / 8) + t) 0) (L.length % 8) := by
    intro d
    induction d with
    | zero => rfl
    | succ d ih =>
      rw [← Nat.add_assoc]
      simp only [bnum]
      rw [ih, List.getD_eq_getElem?_getD, List.getElem?_eq_none (by omega)]; simp
  have h2 := h (8 - L.length % 8)
  rw [show L.length % 8 + (8 - L.length % 8) = 8 by omega] at h2
  unfold byteAt
  rw [h2]
  exact (num_bd _ (fun t => hL _) _).2
theorem pack_grow (L : List Int) (h : L.length % 8 = 0) : pack L ++ [0] = tab ((L.length + 8) / 8) (byteAt L) := by
  unfold pack
  rw [show (L.length + 8) / 8 = (L.length + 7) / 8 + 1 by omega, tab_succ]
  congr 2
  unfold byteAt
  rw [num_congr (g := fun _ => 0) 8 (fun t _ => by rw [List.getD_eq_getElem?_getD, List.getElem?_eq_none (by omega)]; rfl), num_zero]
theorem pack_same (L : List Int) (h : ¬ L.length % 8 = 0) : pack L = tab ((L.length + 8) / 8) (byteAt L) := by
  unfold pack
  rw [show (L.length + 8) / 8 = (L.length + 7) / 8 by omega]
theorem pack_put (L : List Int) (x : Int) : (tab ((L.length + 8) / 8) (byteAt L)).set (L.length / 8) (byteAt L (L.length / 8) + x * 2 ^ (L.length % 8)) = pack (L ++ [x]) := by
  rw [tab_set]
  unfold pack
  rw [show (L ++ [x]).length + 7 = L.length + 8 by simp]
  apply tab_congr
  intro j hj
  rw [byteAt_app]
  by_cases h : j = L.length / 8
  · rw [if_pos h, if_pos h, h]
  · rw [if_neg h, if_neg h]; omega
theorem mask1_u32 {a : Int} (ha : 0 ≤ a ∧ a < 4294967296) : IntKind.u32.wrap ((BitVec.ofInt IntKind.u32.bits a &&& BitVec.ofInt IntKind.u32.bits 1).toNat) = a % 2 := by
  rw [and_nat .u32 ⟨ha.1, ha.2⟩ ⟨by omega, by decide⟩, show (1 : Int).toNat = 1 from rfl, Nat.and_one_is_mod]
  exact (wu32 (by omega)).trans (by omega)
theorem or_add_u8 {a y : Int} {s : Nat} (hs : s < 8) (ha : 0 ≤ a ∧ a < 2 ^ s) (hy : y = 0 ∨ y = 1) : IntKind.u8.wrap ((BitVec.ofInt IntKind.u8.bits a ||| BitVec.ofInt IntKind.u8.bits (y * 2 ^ s)).toNat) = a + y * 2 ^ s := by
  have hp : (2 : Int) ^ s ≤ 128 := by
    have : ∀ k : Fin 8, (2 : Int) ^ k.val ≤ 128 := by decide
    exact this ⟨s, hs⟩
  have hyb : 0 ≤ y * 2 ^ s ∧ y * 2 ^ s ≤ 128 := by rcases hy with rfl | rfl <;> omega
  rw [or_nat .u8 ⟨ha.1, by show a < 256; omega⟩ ⟨hyb.1, by show y * 2 ^ s < 256; omega⟩]
  obtain ⟨m, rfl⟩ := Int.eq_ofNat_of_zero_le ha.1
  have hpn : ((2 ^ s : Nat) : Int) = 2 ^ s := by simp
  rcases hy with rfl | rfl
  · simp only [Int.zero_mul, Int.toNat_natCast, Int.toNat_zero, Nat.or_zero, Int.add_zero]
    exact wu8 (by omega)
  · have h := Nat.two_pow_add_eq_or_of_lt (i := s) (b := m) (by have := ha.2; rw [← hpn] at this; omega) 1
    rw [Nat.mul_one] at h
    rw [Int.one_mul, Int.toNat_natCast, show ((2 : Int) ^ s).toNat = 2 ^ s by rw [← hpn]; rfl, Nat.or_comm, ← h]
    refine (wu8 (by omega)).trans (by omega)
abbrev wrA (b : Nat) (L : List Int) (q : Option Addr) (d : Nat) : Asn := blk b [.slice q ((L.length + 7) / 8) d, .int .i64 L.length]
abbrev wrV (L : List Int) (q : Option Addr) (d : Nat) : Asn := vec 5 1 (.slice q ((L.length + 7) / 8) d) ((L.length + 7) / 8) (ints .u8 (pack L))
set_option maxHeartbeats 4000000 in
theorem Put_c {w0 : World} {H : List Asn} (b : Nat) (L : List Int) (q : Option Addr) (d : Nat) (x : Int) (hx : 0 ≤ x ∧ x < 4294967296) (hL : ∀ j, L.getD j 0 = 0 ∨ L.getD j 0 = 1) (hl : L.length ≤ 70368744177664) (w : World) (hw : St w0 (wrA b L q d :: wrV L q d :: H) w) :
    Calls Tryz.prog 217 #[.pointer (some ⟨b, 0, none⟩), .int .u32 x] w fun e w' => e = .returned (.tuple #[]) ∧ ∃ q d, St w0 (wrA b (L ++ [x % 2]) q d :: wrV (L ++ [x % 2]) q d :: H) w' := by
  unfold wrA wrV at hw ⊢
  refine enter (vs := [.pointer (some ⟨b, 0, none⟩), .int .u32 x]) Tryz.func217 rfl rfl rfl hw ?_
  have hlast := byteAt_last L hL
  have hbd := byteAt_bd L hL (L.length / 8)
  have hput := pack_put L (x % 2)
  have hx2 : x % 2 = 0 ∨ x % 2 = 1 := by omega
  have hor := or_add_u8 (a := byteAt L (L.length / 8)) (y := x % 2) (s := L.length % 8) (by omega) ⟨hbd.1, hlast⟩ hx2
  have hms : min ((L.length : Int) % 8).toNat IntKind.u8.bits = L.length % 8 := by show min _ 8 = _; omega
  have hpw : 0 ≤ x % 2 * 2 ^ (L.length % 8) ∧ x % 2 * 2 ^ (L.length % 8) < 256 := by
    have : ∀ k : Fin 8, (1 : Int) ≤ 2 ^ k.val ∧ (2 : Int) ^ k.val ≤ 128 := by decide
    have := this ⟨L.length % 8, by omega⟩
    simp only [] at this
    rcases hx2 with h | h <;> rw [h] <;> omega
  have hl1 : (L ++ [x % 2]).length = L.length + 1 := by simp
  have hk : ((L ++ [x % 2]).length + 7) / 8 = (L.length + 8) / 8 := by rw [hl1]
  rw [hl1] at hk ⊢
  rw [hk]
  have htl := tab_len ((L.length + 8) / 8) (byteAt L)
  have g0 : (ints .u8 (tab ((L.length + 8) / 8) (byteAt L)))[L.length / 8]? = some (.int .u8 (byteAt L (L.length / 8))) := by
    rw [ints_get (by omega)]
    congr 2
    unfold tab
    rw [List.getD_eq_getElem?_getD, List.getElem?_map, List.getElem?_range (by omega)]; rfl
  clear hw
  by_cases h8 : L.length % 8 = 0
  case' pos =>
    have hg := pack_grow L h8
    have hpl := pack_len L
    have hk2 : (L.length + 7) / 8 + 1 = (L.length + 8) / 8 := by omega
    repeat (refine sx ?_; try intro _)
    (refine JO_app (tb := tb) rfl rfl rfl rfl rfl rfl (by repeat (first | exact Sel.here _ _ | apply Sel.there)) (by first | exact vec_rd (by repeat (first | apply List.Mem.head | apply List.Mem.tail)) | assumption | exact ArgRd.rd (by assumption) _ | (apply Rd_weak; assumption; intro _ hx; exact dS hx)) (by simp only [ints_len, List.length_cons, List.length_nil]; first | omega | rfl) (by first | exact ints_one | (repeat (first | exact trivial | refine ⟨rfl, ?_⟩))) (by omega) rfl ?_; intro _ _)
    rename_i q2 d2
    rw [show ([] : List Value).append (rep 0 [Value.int IntKind.u8 0]) = [] from rfl, hk2, ints_app1, hg]
    repeat (first | (apply gJR; (refine sx ?_; try intro _)) | (apply gJO; (refine sx ?_; try intro _)) | (apply gJS; apply JS_seq))
  case' neg =>
    rw [pack_same L h8, show (L.length + 7) / 8 = (L.length + 8) / 8 by omega]
    repeat (first | (apply gJR; (refine sx ?_; try intro _)) | (apply gJO; (refine sx ?_; try intro _)) | apply JS_seq | apply JS_region | refine JS_cond_F rfl (by omega) ?_ | apply JS_skip)
  all_goals repeat (first | (apply gQO; first | refine QO_v rfl (V_loadC (tb := tb) rfl (vec_rd (by repeat (first | apply List.Mem.head | apply List.Mem.tail))) rfl rfl g0 rfl) ?_ | refine QO_v rfl (V_and rfl rfl (mask1_u32 hx) rfl) ?_ | refine QO_v rfl (V_shl (m := L.length % 8) rfl rfl (by omega) hms (wu8 hpw) rfl) ?_ | refine QO_v rfl (V_or rfl rfl hor rfl) ?_) | (refine sx ?_; try intro _))
  all_goals refine JS_fin Tryz.func217 rfl rfl (vs := []) ?_
  all_goals intro w hw
  all_goals rw [hput] at hw
  all_goals exact ⟨rfl, _, _, dS hw⟩
theorem Fits_c {w0 : World} {H : List Asn} (n : Int) (k : Nat) (hk : k ≤ 32) (hn : 0 ≤ n ∧ n < 2 ^ k) (hn2 : n < 4294967296) (w : World) (hw : St w0 H w) :
    Calls Tryz.prog 216 #[.int .u32 n, .int .i64 k] w fun e w' => e = .returned (.bool true) ∧ St w0 H w' := by
  refine enter (vs := [.int .u32 n, .int .i64 k]) Tryz.func216 rfl rfl rfl hw ?_
  have hm : min ((k : Int)).toNat IntKind.u64.bits = k := by show min _ 64 = _; omega
  have h0 : n / 2 ^ k = 0 := Int.ediv_eq_zero_of_lt hn.1 hn.2
  repeat (first | (apply gJO; refine JO_v (V_shr (m := k) rfl rfl (by omega) hm h0 rfl) ?_) | (refine sx ?_; try intro _))
  refine JS_ret Tryz.func216 rfl rfl ?_
  intro w hw
  exact ⟨rfl, hw⟩
theorem grp_01 (n : Int) (k j : Nat) : (grp n k).getD j 0 = 0 ∨ (grp n k).getD j 0 = 1 := by
  unfold grp
  rcases Nat.lt_or_ge j k with h | h
  · simp only [List.getD_eq_getElem?_getD, List.getElem?_map, List.getElem?_range h, Option.map_some, Option.getD_some]; omega
  · rw [List.getD_eq_getElem?_getD, List.getElem?_eq_none (by simp; omega)]; exact .inl rfl
theorem app_01 {L M : List Int} (hL : ∀ j, L.getD j 0 = 0 ∨ L.getD j 0 = 1) (hM : ∀ j, M.getD j 0 = 0 ∨ M.getD j 0 = 1) (j : Nat) : (L ++ M).getD j 0 = 0 ∨ (L ++ M).getD j 0 = 1 := by
  rw [List.getD_eq_getElem?_getD]
  rcases Nat.lt_or_ge j L.length with h | h
  · rw [List.getElem?_append_left h, ← List.getD_eq_getElem?_getD]; exact hL j
  · rw [List.getElem?_append_right h, ← List.getD_eq_getElem?_getD]; exact hM _
set_option maxHeartbeats 2000000 in
theorem WGroup_c {w0 : World} {H : List Asn} (b : Nat) (L : List Int) (q : Option Addr) (d : Nat) (n : Int) (k : Nat) (hk : k ≤ 32) (hn : 0 ≤ n ∧ n < 2 ^ k) (hn2 : n < 4294967296) (hL : ∀ j, L.getD j 0 = 0 ∨ L.getD j 0 = 1) (hl : L.length ≤ 70368744177600) (w : World) (hw : St w0 (wrA b L q d :: wrV L q d :: H) w) :
    Calls Tryz.prog 162 #[.pointer (some ⟨b, 0, none⟩), .int .u32 n, .int .i64 k] w fun e w' => e = .returned (.int .i64 0) ∧ ∃ q d, St w0 (wrA b (L ++ grp n k) q d :: wrV (L ++ grp n k) q d :: H) w' := by
  refine enter (vs := [.pointer (some ⟨b, 0, none⟩), .int .u32 n, .int .i64 k]) Tryz.func162 rfl rfl rfl hw ?_
  repeat (refine sx ?_; try intro _)
  refine JO_call Tryz.call216 rfl rfl fun w hw => (Fits_c n k hk hn hn2 w hw).mono ?_
  rintro e w' ⟨rfl, hw'⟩
  refine ⟨_, rfl, _, hw', ?_⟩
  clear hw' hw w w'
  repeat (first | (apply gJR; (refine sx ?_; try intro _)) | (apply gJO; (refine sx ?_; try intro _)) | apply JS_seq | apply JS_region | refine JS_condF rfl ?_ | apply JS_skip)
  refine JS_block ?_
  refine JS_loop3 (fun (i : Nat) (q : Option Addr) (d : Nat) => [(1, .int .u32 n), (7, .func (.func 217) #[.pointer (some ⟨b, 0, none⟩)] #[]), (15, .int .i64 k), (16, .int .i64 i)]) (fun i q d => wrA b (L ++ grp n i) q d :: wrV (L ++ grp n i) q d :: H) (fun i _ _ => i ≤ k) (fun i _ _ => k - i) 0 q d (by omega) (by repeat (first | exact trivial | refine ⟨rfl, ?_⟩ | refine ⟨lookI rfl (by omega), ?_⟩)) (fun w hw => by rw [show grp n 0 = [] from rfl, List.append_nil]; exact hw) ?_
  intro i q d hi again
  by_cases hik : i < k
  · have hm : min ((i : Int)).toNat IntKind.u32.bits = i := by show min _ 32 = _; omega
    have hgs := grp_succ n i
    have hgl := grp_len n i
    have hq0 : 0 ≤ n / 2 ^ i ∧ n / 2 ^ i < 4294967296 := by
      have hp : (0 : Int) < 2 ^ i := Int.pow_pos (by decide)
      exact ⟨Int.ediv_nonneg hn.1 (Int.le_of_lt hp), Int.lt_of_le_of_lt (Int.ediv_le_self _ hn.1) hn2⟩
    repeat (first | (apply gJO; refine JO_v (V_shr (m := i) rfl rfl (by omega) hm rfl rfl) ?_) | (refine sx ?_; try intro _))
    refine JO_callv (us := [.pointer (some ⟨b, 0, none⟩)]) (cs := []) rfl Tryz.call217 rfl rfl fun w hw => (Put_c b (L ++ grp n i) q d (n / 2 ^ i) hq0 (app_01 hL (grp_01 n i)) (by rw [List.length_append, hgl]; omega) w hw).mono ?_
    rintro e w' ⟨rfl, q2, d2, hw'⟩
    rw [List.append_assoc, ← hgs] at hw'
    refine ⟨_, rfl, _, hw', ?_⟩
    clear hw' hw w w'
    repeat (refine sx ?_; try intro _)
    exact JS_again3 again (i + 1) q2 d2 (by omega) (by omega) (by repeat (first | exact trivial | refine ⟨rfl, ?_⟩ | refine ⟨lookI rfl (by omega), ?_⟩)) (fun w hw => hw)
  · obtain rfl : i = k := by omega
    clear again
    repeat (refine sx ?_; try intro _)
    refine JS_ret Tryz.func162 rfl rfl ?_
    intro w hw
    exact ⟨rfl, q, d, hw⟩
theorem bit_bv (v : BitVec 32) (j : Nat) : (v.toNat : Int) / 2 ^ j % 2 = if v.getLsbD j then 1 else 0 := by
  have h : ((v.toNat : Int) / 2 ^ j % 2) = ((v.toNat / 2 ^ j % 2 : Nat) : Int) := by simp
  rw [h, BitVec.getLsbD, Nat.testBit_eq_decide_div_mod_eq]
  by_cases h2 : v.toNat / 2 ^ j % 2 = 1
  · simp [h2]
  · have : v.toNat / 2 ^ j % 2 = 0 := by omega
    simp [this]
theorem turn_grp (v : BitVec 32) (k : Nat) (hk : 0 < k ∧ k ≤ 32) : grp ((rev32 v >>> (32 - k)).toNat : Int) k = bms (v.toNat : Int) k ∧ (rev32 v >>> (32 - k)).toNat < 2 ^ k := by
  constructor
  · unfold grp bms
    apply List.map_congr_left
    intro j hj
    simp only [List.mem_range] at hj
    rw [bit_bv, bit_bv, BitVec.getLsbD_ushiftRight, rev32_bit v _ (by omega), show 31 - (32 - k + j) = k - 1 - j by omega]
  · rw [BitVec.toNat_ushiftRight, Nat.shiftRight_eq_div_pow]
    have := (rev32 v).isLt
    rw [Nat.div_lt_iff_lt_mul (Nat.two_pow_pos _), ← Nat.pow_add, show k + (32 - k) = 32 by omega]
    exact this
theorem Turn_c {w0 : World} {H : List Asn} (n : Int) (k : Nat) (hk : k ≤ 32) (hn : 0 ≤ n ∧ n < 2 ^ k) (hn2 : n < 4294967296) (w : World) (hw : St w0 H w) :
    Calls Tryz.prog 244 #[.int .u32 n, .int .i64 k] w fun e w' => ∃ t, e = .returned (.int .u32 t) ∧ St w0 H w' ∧ 0 ≤ t ∧ t < 2 ^ k ∧ t < 4294967296 ∧ grp t k = bms n k := by
  refine enter (vs := [.int .u32 n, .int .i64 k]) Tryz.func244 rfl rfl rfl hw ?_
  by_cases hk0 : k = 0
  · subst hk0
    repeat (refine sx ?_; try intro _)
    refine JS_ret Tryz.func244 rfl rfl ?_
    intro w hw
    exact ⟨0, rfl, hw, by omega, by decide, by omega, rfl⟩
  · obtain ⟨v, rfl⟩ : ∃ v : BitVec 32, n = (v.toNat : Int) := ⟨BitVec.ofNat 32 n.toNat, by rw [BitVec.toNat_ofNat]; omega⟩
    have hsub : IntKind.i64.wrap ((32 : Int) - (k : Int)) = ((32 - k : Nat) : Int) := (wi64 (by omega)).trans (by omega)
    obtain ⟨ht1, ht2⟩ := turn_grp v k ⟨by omega, hk⟩
    repeat (refine sx ?_; try intro _)
    refine JO_call (vs := [bv v]) Tryz.call252 rfl rfl fun w hw => (Rev_c v w hw).mono ?_
    rintro e w' ⟨rfl, hw'⟩
    refine ⟨_, rfl, _, hw', ?_⟩
    clear hw' hw w w'
    repeat (first | (apply gJO; first | refine JO_v (V_sub rfl rfl hsub rfl) ?_ | refine JO_v (VB_shr (s := 32 - k) rfl rfl (by omega) rfl) ?_) | (refine sx ?_; try intro _))
    refine JS_ret Tryz.func244 rfl rfl ?_
    intro w hw
    have hlt := (rev32 v >>> (32 - k)).isLt
    refine ⟨_, rfl, hw, by omega, ?_, by omega, ht1⟩
    have : ((2 ^ k : Nat) : Int) = 2 ^ k := by simp
    rw [← this]; omega
theorem WBytes_c {w0 : World} {H : List Asn} (b m : Nat) (L : List Int) (q : Option Addr) (d : Nat) (hL : ∀ j, L.getD j 0 = 0 ∨ L.getD j 0 = 1) (hl : L.length ≤ 70368744177664) (hm : (L.length + 7) / 8 = m) (w : World) (hw : St w0 (wrA b L q d :: wrV L q d :: H) w) :
    Calls Tryz.prog 166 #[.pointer (some ⟨b, 0, none⟩)] w fun e w' => ∃ p c, e = .returned (.slice p m c) ∧ St w0 (vec 5 1 (.slice p m c) m (ints .u8 (pack L)) :: wrA b L q d :: wrV L q d :: H) w' := by
  subst hm
  refine enter (vs := [.pointer (some ⟨b, 0, none⟩)]) Tryz.func166 rfl rfl rfl hw ?_
  repeat (refine sx ?_; try intro _)
  have hB : OKB (pack L) := by
    intro j
    unfold pack tab
    rcases Nat.lt_or_ge j ((L.length + 7) / 8) with h | h
    · simp only [List.getD_eq_getElem?_getD, List.getElem?_map, List.getElem?_range h, Option.map_some, Option.getD_some]; exact byteAt_bd L hL j
    · rw [List.getD_eq_getElem?_getD, List.getElem?_eq_none (by simp; omega)]; decide
  refine JO_call Tryz.call128 rfl rfl fun w hw => (Clone_c q d _ (pack L) (vec_rd (List.Mem.tail _ (List.Mem.head _))) (pack_len L) hB (by omega) (Rd.nil (vec_rd (List.Mem.tail _ (List.Mem.head _))) hw) w hw).mono ?_
  rintro e w' ⟨p, c, rfl, hw'⟩
  refine ⟨_, rfl, _, hw', ?_⟩
  clear hw' hw w w'
  repeat (refine sx ?_; try intro _)
  refine JS_ret Tryz.func166 rfl rfl ?_
  intro w hw
  exact ⟨_, _, rfl, hw⟩
end Go.Proofs.YteelffkghidpfaaGreat

namespace Go.Proofs.YteelffkghidpfaaGreat
open Sx Go
set_option linter.unusedVariables false
set_option linter.unusedSimpArgs false
set_option maxRecDepth 100000
attribute [local irreducible] syA fc tk cds
def HAS (B : List Int) (k : Int) (n : Nat) : Prop := 0 ≤ k ∧ k < B.length ∧ 0 < n ∧ B.getD k.toNat 0 = (n : Int)
theorem num_bit (f : Nat → Int) (hf : ∀ t, f t = 0 ∨ f t = 1) (t : Nat) : ∀ k, t < k → bnum f k / 2 ^ t % 2 = f t
  | 0, h => absurd h (by omega)
  | k + 1, h => by
    have hp : (0 : Int) < 2 ^ t := Int.pow_pos (by decide)
    simp only [bnum]
    rcases Nat.lt_or_ge t k with h1 | h1
    · rw [show (2 : Int) ^ k = 2 ^ t * (2 * 2 ^ (k - t - 1)) by rw [show k = t + (1 + (k - t - 1)) by omega, Int.pow_add, Int.pow_add]; simp [show t + (1 + (k - t - 1)) - t - 1 = k - t - 1 by omega],
        show f k * (2 ^ t * (2 * 2 ^ (k - t - 1))) = 2 ^ t * (2 * (f k * 2 ^ (k - t - 1))) by rw [← Int.mul_assoc, ← Int.mul_assoc, Int.mul_comm (f k) (2 ^ t), Int.mul_assoc, Int.mul_assoc, Int.mul_left_comm (f k) 2],
        Int.add_mul_ediv_left _ _ (by omega)]
      have := num_bit f hf t k h1
      omega
    · obtain rfl : t = k := by omega
      have hb := num_bd f hf t
      rw [Int.add_mul_ediv_right _ _ (by omega), Int.ediv_eq_zero_of_lt hb.1 hb.2]
      have := hf t
      omega
theorem pack_bit (L : List Int) (hL : ∀ j, L.getD j 0 = 0 ∨ L.getD j 0 = 1) (n j : Nat) : bitB (pack L) n j = L.getD (n + j) 0 := by
  unfold bitB pack
  rcases Nat.lt_or_ge ((n + j) / 8) ((L.length + 7) / 8) with h | h
  · have : (tab ((L.length + 7) / 8) (byteAt L)).getD ((n + j) / 8) 0 = byteAt L ((n + j) / 8) := by simp [tab, List.getD_eq_getElem?_getD, h]
    rw [this]
    unfold byteAt
    rw [num_bit _ (fun t => hL _) _ 8 (by omega), show 8 * ((n + j) / 8) + (n + j) % 8 = n + j by omega]
  · rw [List.getD_eq_getElem?_getD, List.getElem?_eq_none (by rw [tab_len]; exact h), List.getD_eq_getElem?_getD, List.getElem?_eq_none (by omega)]
    simp
def enc (B : List Int) : List Int → List Int
  | [] => []
  | s :: r => bms (cd B s.toNat) (B.getD s.toNat 0).toNat ++ enc B r
theorem bms_01 (c : Int) (n j : Nat) : (bms c n).getD j 0 = 0 ∨ (bms c n).getD j 0 = 1 := by
  unfold bms
  rcases Nat.lt_or_ge j n with h | h
  · simp only [List.getD_eq_getElem?_getD, List.getElem?_map, List.getElem?_range h, Option.map_some, Option.getD_some]; omega
  · rw [List.getD_eq_getElem?_getD, List.getElem?_eq_none (by simp; omega)]; exact .inl rfl
end Go.Proofs.YteelffkghidpfaaGreat

namespace Go.Proofs.YteelffkghidpfaaGreat
open Sx Go
set_option linter.unusedVariables false
set_option linter.unusedSimpArgs false
set_option maxRecDepth 100000
abbrev wtA (b : Nat) (L : List Int) (q : Option Addr) (d : Nat) (tl : List Value) : Asn := blk b (.slice q ((L.length + 7) / 8) d :: .int .i64 L.length :: tl)
set_option maxHeartbeats 4000000 in
theorem PutT_c {w0 : World} {H : List Asn} {z : Value} {tl : List Value} (b : Nat) (L : List Int) (q : Option Addr) (d : Nat) (x : Int) (hx : 0 ≤ x ∧ x < 4294967296) (hL : ∀ j, L.getD j 0 = 0 ∨ L.getD j 0 = 1) (hl : L.length ≤ 70368744177664) (w : World) (hw : St w0 (wtA b L q d (z :: tl) :: wrV L q d :: H) w) :
    Calls Tryz.prog 217 #[.pointer (some ⟨b, 0, none⟩), .int .u32 x] w fun e w' => e = .returned (.tuple #[]) ∧ ∃ q d, St w0 (wtA b (L ++ [x % 2]) q d (z :: tl) :: wrV (L ++ [x % 2]) q d :: H) w' := by
  unfold wtA wrV at hw ⊢
  refine enter (vs := [.pointer (some ⟨b, 0, none⟩), .int .u32 x]) Tryz.func217 rfl rfl rfl hw ?_
  have hlast := byteAt_last L hL
  have hbd := byteAt_bd L hL (L.length / 8)
  have hput := pack_put L (x % 2)
  have hx2 : x % 2 = 0 ∨ x % 2 = 1 := by omega
  have hor := or_add_u8 (a := byteAt L (L.length / 8)) (y := x % 2) (s := L.length % 8) (by omega) ⟨hbd.1, hlast⟩ hx2
  have hms : min ((L.length : Int) % 8).toNat IntKind.u8.bits = L.length % 8 := by show min _ 8 = _; omega
  have hpw : 0 ≤ x % 2 * 2 ^ (L.length % 8) ∧ x % 2 * 2 ^ (L.length % 8) < 256 := by
    have : ∀ k : Fin 8, (1 : Int) ≤ 2 ^ k.val ∧ (2 : Int) ^ k.val ≤ 128 := by decide
    have := this ⟨L.length % 8, by omega⟩
    simp only [] at this
    rcases hx2 with h | h <;> rw [h] <;> omega
  have hl1 : (L ++ [x % 2]).length = L.length + 1 := by simp
  have hk : ((L ++ [x % 2]).length + 7) / 8 = (L.length + 8) / 8 := by rw [hl1]
  rw [hl1] at hk ⊢
  rw [hk]
  have htl := tab_len ((L.length + 8) / 8) (byteAt L)
  have g0 : (ints .u8 (tab ((L.length + 8) / 8) (byteAt L)))[L.length / 8]? = some (.int .u8 (byteAt L (L.length / 8))) := by
    rw [ints_get (by omega)]
    congr 2
    unfold tab
    rw [List.getD_eq_getElem?_getD, List.getElem?_map, List.getElem?_range (by omega)]; rfl
  clear hw
  by_cases h8 : L.length % 8 = 0
  case' pos =>
    have hg := pack_grow L h8
    have hpl := pack_len L
    have hk2 : (L.length + 7) / 8 + 1 = (L.length + 8) / 8 := by omega
    repeat (refine sx ?_; try intro _)
    (refine JO_app (tb := tb) rfl rfl rfl rfl rfl rfl (by repeat (first | exact Sel.here _ _ | apply Sel.there)) (by first | exact vec_rd (by repeat (first | apply List.Mem.head | apply List.Mem.tail)) | assumption | exact ArgRd.rd (by assumption) _ | (apply Rd_weak; assumption; intro _ hx; exact dS hx)) (by simp only [ints_len, List.length_cons, List.length_nil]; first | omega | rfl) (by first | exact ints_one | (repeat (first | exact trivial | refine ⟨rfl, ?_⟩))) (by omega) rfl ?_; intro _ _)
    rename_i q2 d2
    rw [show ([] : List Value).append (rep 0 [Value.int IntKind.u8 0]) = [] from rfl, hk2, ints_app1, hg]
    repeat (first | (apply gJR; (refine sx ?_; try intro _)) | (apply gJO; (refine sx ?_; try intro _)) | (apply gJS; apply JS_seq))
  case' neg =>
    rw [pack_same L h8, show (L.length + 7) / 8 = (L.length + 8) / 8 by omega]
    repeat (first | (apply gJR; (refine sx ?_; try intro _)) | (apply gJO; (refine sx ?_; try intro _)) | apply JS_seq | apply JS_region | refine JS_cond_F rfl (by omega) ?_ | apply JS_skip)
  all_goals repeat (first | (apply gQO; first | refine QO_v rfl (V_loadC (tb := tb) rfl (vec_rd (by repeat (first | apply List.Mem.head | apply List.Mem.tail))) rfl rfl g0 rfl) ?_ | refine QO_v rfl (V_and rfl rfl (mask1_u32 hx) rfl) ?_ | refine QO_v rfl (V_shl (m := L.length % 8) rfl rfl (by omega) hms (wu8 hpw) rfl) ?_ | refine QO_v rfl (V_or rfl rfl hor rfl) ?_) | (refine sx ?_; try intro _))
  all_goals refine JS_fin Tryz.func217 rfl rfl (vs := []) ?_
  all_goals intro w hw
  all_goals rw [hput] at hw
  all_goals exact ⟨rfl, _, _, dS hw⟩
set_option maxHeartbeats 2000000 in
theorem WGroupT_c {w0 : World} {H : List Asn} {z : Value} {tl : List Value} (b : Nat) (L : List Int) (q : Option Addr) (d : Nat) (n : Int) (k : Nat) (hk : k ≤ 32) (hn : 0 ≤ n ∧ n < 2 ^ k) (hn2 : n < 4294967296) (hL : ∀ j, L.getD j 0 = 0 ∨ L.getD j 0 = 1) (hl : L.length ≤ 70368744177600) (w : World) (hw : St w0 (wtA b L q d (z :: tl) :: wrV L q d :: H) w) :
    Calls Tryz.prog 162 #[.pointer (some ⟨b, 0, none⟩), .int .u32 n, .int .i64 k] w fun e w' => e = .returned (.int .i64 0) ∧ ∃ q d, St w0 (wtA b (L ++ grp n k) q d (z :: tl) :: wrV (L ++ grp n k) q d :: H) w' := by
  refine enter (vs := [.pointer (some ⟨b, 0, none⟩), .int .u32 n, .int .i64 k]) Tryz.func162 rfl rfl rfl hw ?_
  repeat (refine sx ?_; try intro _)
  refine JO_call Tryz.call216 rfl rfl fun w hw => (Fits_c n k hk hn hn2 w hw).mono ?_
  rintro e w' ⟨rfl, hw'⟩
  refine ⟨_, rfl, _, hw', ?_⟩
  clear hw' hw w w'
  repeat (first | (apply gJR; (refine sx ?_; try intro _)) | (apply gJO; (refine sx ?_; try intro _)) | apply JS_seq | apply JS_region | refine JS_condF rfl ?_ | apply JS_skip)
  refine JS_block ?_
  refine JS_loop3 (fun (i : Nat) (q : Option Addr) (d : Nat) => [(1, .int .u32 n), (7, .func (.func 217) #[.pointer (some ⟨b, 0, none⟩)] #[]), (15, .int .i64 k), (16, .int .i64 i)]) (fun i q d => wtA b (L ++ grp n i) q d (z :: tl) :: wrV (L ++ grp n i) q d :: H) (fun i _ _ => i ≤ k) (fun i _ _ => k - i) 0 q d (by omega) (by repeat (first | exact trivial | refine ⟨rfl, ?_⟩ | refine ⟨lookI rfl (by omega), ?_⟩)) (fun w hw => by rw [show grp n 0 = [] from rfl, List.append_nil]; exact hw) ?_
  intro i q d hi again
  by_cases hik : i < k
  · have hm : min ((i : Int)).toNat IntKind.u32.bits = i := by show min _ 32 = _; omega
    have hgs := grp_succ n i
    have hgl := grp_len n i
    have hq0 : 0 ≤ n / 2 ^ i ∧ n / 2 ^ i < 4294967296 := by
      have hp : (0 : Int) < 2 ^ i := Int.pow_pos (by decide)
      exact ⟨Int.ediv_nonneg hn.1 (Int.le_of_lt hp), Int.lt_of_le_of_lt (Int.ediv_le_self _ hn.1) hn2⟩
    repeat (first | (apply gJO; refine JO_v (V_shr (m := i) rfl rfl (by omega) hm rfl rfl) ?_) | (refine sx ?_; try intro _))
    refine JO_callv (us := [.pointer (some ⟨b, 0, none⟩)]) (cs := []) rfl Tryz.call217 rfl rfl fun w hw => (PutT_c b (L ++ grp n i) q d (n / 2 ^ i) hq0 (app_01 hL (grp_01 n i)) (by rw [List.length_append, hgl]; omega) w hw).mono ?_
    rintro e w' ⟨rfl, q2, d2, hw'⟩
    rw [List.append_assoc, ← hgs] at hw'
    refine ⟨_, rfl, _, hw', ?_⟩
    clear hw' hw w w'
    repeat (refine sx ?_; try intro _)
    exact JS_again3 again (i + 1) q2 d2 (by omega) (by omega) (by repeat (first | exact trivial | refine ⟨rfl, ?_⟩ | refine ⟨lookI rfl (by omega), ?_⟩)) (fun w hw => hw)
  · obtain rfl : i = k := by omega
    clear again
    repeat (refine sx ?_; try intro _)
    refine JS_ret Tryz.func162 rfl rfl ?_
    intro w hw
    exact ⟨rfl, q, d, hw⟩
theorem WCodeT_c {w0 : World} {H : List Asn} {z : Value} {tl : List Value} (b : Nat) (L : List Int) (q : Option Addr) (d : Nat) (n : Int) (k : Nat) (hk : k ≤ 32) (hn : 0 ≤ n ∧ n < 2 ^ k) (hn2 : n < 4294967296) (hL : ∀ j, L.getD j 0 = 0 ∨ L.getD j 0 = 1) (hl : L.length ≤ 70368744177600) (w : World) (hw : St w0 (wtA b L q d (z :: tl) :: wrV L q d :: H) w) :
    Calls Tryz.prog 223 #[.pointer (some ⟨b, 0, none⟩), .int .u32 n, .int .i64 k] w fun e w' => e = .returned (.int .i64 0) ∧ ∃ q d, St w0 (wtA b (L ++ bms n k) q d (z :: tl) :: wrV (L ++ bms n k) q d :: H) w' := by
  refine enter (vs := [.pointer (some ⟨b, 0, none⟩), .int .u32 n, .int .i64 k]) Tryz.func223 rfl rfl rfl hw ?_
  repeat (refine sx ?_; try intro _)
  refine JO_call Tryz.call216 rfl rfl fun w hw => (Fits_c n k hk hn hn2 w hw).mono ?_
  rintro e w' ⟨rfl, hw'⟩
  refine ⟨_, rfl, _, hw', ?_⟩
  clear hw' hw w w'
  repeat (refine sx ?_; try intro _)
  refine JO_call Tryz.call244 rfl rfl fun w hw => (Turn_c n k hk hn hn2 w hw).mono ?_
  rintro e w' ⟨t, rfl, hw', h0, h1, h2, h3⟩
  refine ⟨_, rfl, _, hw', ?_⟩
  clear hw' hw w w'
  repeat (refine sx ?_; try intro _)
  refine JO_call Tryz.call162 rfl rfl fun w hw => (WGroupT_c b L q d t k hk ⟨h0, h1⟩ h2 hL hl w hw).mono ?_
  rintro e w' ⟨rfl, q2, d2, hw'⟩
  rw [h3] at hw'
  refine ⟨_, rfl, _, hw', ?_⟩
  clear hw' hw w w'
  repeat (refine sx ?_; try intro _)
  refine JS_ret Tryz.func223 rfl rfl ?_
  intro w hw
  exact ⟨rfl, q2, d2, hw⟩
theorem WBytesT_c {w0 : World} {H : List Asn} {z : Value} {tl : List Value} (b m : Nat) (L : List Int) (q : Option Addr) (d : Nat) (hL : ∀ j, L.getD j 0 = 0 ∨ L.getD j 0 = 1) (hl : L.length ≤ 70368744177664) (hm : (L.length + 7) / 8 = m) (w : World) (hw : St w0 (wtA b L q d (z :: tl) :: wrV L q d :: H) w) :
    Calls Tryz.prog 166 #[.pointer (some ⟨b, 0, none⟩)] w fun e w' => ∃ p c, e = .returned (.slice p m c) ∧ St w0 (vec 5 1 (.slice p m c) m (ints .u8 (pack L)) :: wtA b L q d (z :: tl) :: wrV L q d :: H) w' := by
  subst hm
  refine enter (vs := [.pointer (some ⟨b, 0, none⟩)]) Tryz.func166 rfl rfl rfl hw ?_
  repeat (refine sx ?_; try intro _)
  have hB : OKB (pack L) := by
    intro j
    unfold pack tab
    rcases Nat.lt_or_ge j ((L.length + 7) / 8) with h | h
    · simp only [List.getD_eq_getElem?_getD, List.getElem?_map, List.getElem?_range h, Option.map_some, Option.getD_some]; exact byteAt_bd L hL j
    · rw [List.getD_eq_getElem?_getD, List.getElem?_eq_none (by simp; omega)]; decide
  refine JO_call Tryz.call128 rfl rfl fun w hw => (Clone_c q d _ (pack L) (vec_rd (List.Mem.tail _ (List.Mem.head _))) (pack_len L) hB (by omega) (Rd.nil (vec_rd (List.Mem.tail _ (List.Mem.head _))) hw) w hw).mono ?_
  rintro e w' ⟨p, c, rfl, hw'⟩
  refine ⟨_, rfl, _, hw', ?_⟩
  clear hw' hw w w'
  repeat (refine sx ?_; try intro _)
  refine JS_ret Tryz.func166 rfl rfl ?_
  intro w hw
  exact ⟨_, _, rfl, hw⟩
end Go.Proofs.YteelffkghidpfaaGreat

set_option linter.unusedVariables false
namespace Sx
open Go
inductive FT where
  | leaf (st : List Nat)
  | node (st : List Nat) (i : Nat) (t : FT) (j : Nat) (u : FT)
inductive FTL where
  | leaf (l : List Oper)
  | node (l : List Oper) (o : Oper) (t : FTL) (o' : Oper) (u : FTL)
def FT.len : FT → Nat
  | .leaf st => st.length
  | .node st _ t _ _ => st.length + (t.len + 1)
def KN (P : Program) (E : List PanicEntry → List Deferred → World → Prop) (ops : Array Oper) (kt ku : (World → Prop) → Act → Prop) (o o' : Oper) : (World → Prop) → Act → Prop :=
  fun C a => walkN P E ops [] kt [o] C a ∧ walkN P E ops [] ku [o'] C a
def KT (P : Program) (E : List PanicEntry → List Deferred → World → Prop) (ops : Array Oper) (sy : List Nat) (K : (World → Prop) → Act → Prop) : FTL → (World → Prop) → Act → Prop
  | .leaf l => walkN P E ops sy K l
  | .node l o t o' u => walkN P E ops [] (KN P E ops (KT P E ops sy K t) (KT P E ops sy K u) o o') l
def preB (ops : Array Oper) (k : List Nat → Array Bool → Bool) : List Nat → List Nat → Array Bool → Bool
  | [], done, listed => k done listed
  | x :: st, done, listed =>
    match ops[x]? with
    | none => false
    | some o => !loud o.op && (Region.ready .any ops listed).contains x && Region.free .any ops listed x && preB ops k st (x :: done) (listed.setIfInBounds x true)
def isLoud (ops : Array Oper) (i : Nat) : Bool :=
  match ops[i]? with
  | none => false
  | some o => loud o.op
def tillT (ops : Array Oper) (sy : List Nat) : FT → List Nat → List Nat
  | .leaf st, done => till ops sy done st
  | .node st i t _ _, done => tillT ops sy t (i :: List.reverseAux st done)
def ordT (ops : Array Oper) (sy : List Nat) : FT → List Nat → Array Bool → Bool
  | .leaf st, done, listed => ordB ops sy done st listed
  | .node st i t j u, done, listed => preB ops (fun done listed =>
      isLoud ops i && isLoud ops j && Region.ready .any ops listed == [i, j] && t.len == u.len &&
      ordT ops sy t (i :: done) (listed.setIfInBounds i true) && ordT ops sy u (j :: done) (listed.setIfInBounds j true) &&
      (tillT ops sy t (i :: done)).all (tillT ops sy u (j :: done)).contains) st done listed
section
variable {P : Program} {E : List PanicEntry → List Deferred → World → Prop} {ops : Array Oper}
theorem tillT_sub {sy : List Nat} : ∀ (t : FT) (done : List Nat) (k : Nat), k ∈ done → calmAt ops k = false → k ∈ tillT ops sy t done
  | .leaf st, done, k, h, hc => till_sub _ _ _ h hc
  | .node st i t j u, done, k, h, hc => tillT_sub t _ k (List.mem_cons_of_mem _ (by rw [List.reverseAux_eq]; simp [h])) hc
theorem tillT_calm {sy : List Nat} : ∀ (t : FT) (done : List Nat) (k : Nat), k ∈ tillT ops sy t done → calmAt ops k = false
  | .leaf st, done, k, h => till_calm _ _ _ h
  | .node st i t j u, done, k, h => tillT_calm t _ k h
theorem book {done : List Nat} {listed : Array Bool} {i : Nat} {o : Oper} (ho : ops[i]? = some o) (hrdy : i ∈ Region.ready .any ops listed) (hs : ∀ s ∈ done, s < ops.size) (hd : ∀ j, listed.getD j false = true ↔ j ∈ done) (hG : ∀ S, (∀ s ∈ done, calmAt ops s = false → s ∈ S) → Sofar ops S listed) :
    (∀ s ∈ i :: done, s < ops.size) ∧ (∀ j, (listed.setIfInBounds i true).getD j false = true ↔ j ∈ i :: done) ∧ (∀ S, (∀ s ∈ i :: done, calmAt ops s = false → s ∈ S) → Sofar ops S (listed.setIfInBounds i true)) := by
  have hi : i < ops.size := (Array.getElem?_eq_some_iff.1 ho).1
  have hiun : listed.getD i true = false := (mem_ready.1 hrdy).1
  have hlt : i < listed.size := by
    rcases Nat.lt_or_ge i listed.size with h' | h'
    · exact h'
    · simp [Array.getElem?_eq_none h'] at hiun
  have hd' : ∀ j, (listed.setIfInBounds i true).getD j false = true ↔ j ∈ i :: done := fun j => by
    by_cases hij : i = j
    · subst hij
      simp [hlt]
    · rw [getD_set_ne false hij, hd j]
      simp [Ne.symm hij]
  refine ⟨fun s hs' => (List.mem_cons.1 hs').elim (fun e => e ▸ hi) (hs s), hd', fun S hS => ⟨fun j oj hj hl e he hb => ?_, fun k hk hkc hl => absurd (hS k ((hd' k).1 hl) hkc) hk⟩⟩
  by_cases hij : i = j
  · subst hij
    rw [ho] at hj; cases hj
    obtain ⟨_, o', ho', hall⟩ := mem_ready.1 hrdy
    rw [ho] at ho'; cases ho'
    exact getD_set_true (hall e he hb)
  · rw [getD_set_ne false hij] at hl
    exact getD_set_true ((hG S fun s hs => hS s (List.mem_cons_of_mem _ hs)).down j oj hj hl e he hb)
inductive PickT (l : List Oper) : FT → FTL → Prop where
  | leaf {st : List Nat} {l' : List Oper} (h : Picks l st l') : PickT l (.leaf st) (.leaf l')
  | node {st : List Nat} {l' : List Oper} {i j : Nat} {o o' : Oper} {t u : FT} {t' u' : FTL} (h : Picks l st l') (hi : nthO l i = some o) (ht : PickT l t t') (hj : nthO l j = some o') (hu : PickT l u u') : PickT l (.node st i t j u) (.node l' o t' o' u')
theorem wpS_side {K : (World → Prop) → Act → Prop} {kt : (World → Prop) → Act → Prop} {i : Nat} {listed : Array Bool} {C : World → Prop} {a : Act} {S S' : List Nat} {o : Oper} {m : Nat}
    (ho : ops[i]? = some o) (hlo : loud o.op = true) (hS : ∀ s ∈ S, s ∈ S')
    (hrest : ∀ C a, kt C a → ∀ w, C w → wpS P E ops C S' (fun a w => ∃ C' : World → Prop, C' w ∧ K C' a) m (listed.setIfInBounds i true) a w)
    (h : walkN P E ops [] kt [o] C a) (w : World) (hw : C w) :
    stepN P E ops i (fun a' w' => (i ∈ S → C w') ∧ wpS P E ops C S (fun a w => ∃ C' : World → Prop, C' w ∧ K C' a) m (listed.setIfInBounds i true) a' w') a w := by
  have fin : ∀ (a' : Act) (w' : World) (C' : World → Prop), C' w' → (∀ w, C' w → C w) → kt C' a' →
      ((i ∈ S → C w') ∧ wpS P E ops C S (fun a w => ∃ C' : World → Prop, C' w ∧ K C' a) m (listed.setIfInBounds i true) a' w') := by
    intro a' w' C' hw' hsub hn
    exact ⟨fun _ => hsub _ hw', wpS_weak _ _ _ _ (fun j hj _ => ⟨hS j hj, hsub⟩) (hrest C' a' hn w' hw')⟩
  simp only [walkN] at h
  unfold stepN
  simp only [ho]
  by_cases hwt : Region.wanted o (yielded ops a.tmps) = true
  · rw [if_pos hwt] at h ⊢
    rcases h with ⟨hq, _⟩ | ⟨_, hn⟩
    · rw [hlo] at hq; cases hq
    · exact Oper.wpN_mono (fun a' w' ⟨C', hw', hor, hn'⟩ => fin a' w' C' hw' (hor.resolve_right (by simp)) hn') (hn w hw)
  · rw [if_neg hwt] at h ⊢
    exact fin _ _ C hw (fun _ h => h) h
structure Book (ops : Array Oper) (done : List Nat) (listed : Array Bool) : Prop where
  hs : ∀ s ∈ done, s < ops.size
  hd : ∀ j, listed.getD j false = true ↔ j ∈ done
  hG : ∀ S, (∀ s ∈ done, calmAt ops s = false → s ∈ S) → Sofar ops S listed
theorem Book.step {done : List Nat} {listed : Array Bool} {i : Nat} {o : Oper} (b : Book ops done listed) (ho : ops[i]? = some o) (hrdy : i ∈ Region.ready .any ops listed) : Book ops (i :: done) (listed.setIfInBounds i true) :=
  let ⟨h1, h2, h3⟩ := book ho hrdy b.hs b.hd b.hG
  ⟨h1, h2, h3⟩
theorem mem_reverseAux {k : Nat} : ∀ (st done : List Nat), k ∈ done → k ∈ List.reverseAux st done
  | [], _, h => h
  | _ :: st, _, h => mem_reverseAux st _ (List.mem_cons_of_mem _ h)
theorem preB_end {kb : List Nat → Array Bool → Bool} : ∀ (st done : List Nat) (listed : Array Bool), preB ops kb st done listed = true → Book ops done listed → ∃ listed', kb (List.reverseAux st done) listed' = true ∧ Book ops (List.reverseAux st done) listed'
  | [], _, listed, hB, hb => ⟨listed, hB, hb⟩
  | x :: st, done, listed, hB, hb => by
    cases ho : ops[x]? with
    | none => simp [preB, ho] at hB
    | some o =>
      simp only [preB, ho, Bool.and_eq_true, Bool.not_eq_true'] at hB
      obtain ⟨⟨⟨_, hrd⟩, _⟩, hB3⟩ := hB
      exact preB_end st (x :: done) _ hB3 (hb.step ho (by simpa using hrd))
theorem ordT_gate {sy : List Nat} : ∀ (t : FT) (done : List Nat) (listed : Array Bool), ordT ops sy t done listed = true → Book ops done listed → Gate ops (tillT ops sy t done) ∧ ∀ s ∈ tillT ops sy t done, s < ops.size
  | .leaf st, done, listed, hB, hb => ordB_gate st done listed hB hb.hs
  | .node st i t j u, done, listed, hB, hb => by
    simp only [ordT] at hB
    obtain ⟨listed', hB', hb'⟩ := preB_end st done listed hB hb
    simp only [Bool.and_eq_true, beq_iff_eq] at hB'
    obtain ⟨⟨⟨⟨⟨⟨hli, _⟩, hr⟩, _⟩, hB1⟩, _⟩, _⟩ := hB'
    cases hoi : ops[i]? with
    | none => simp [isLoud, hoi] at hli
    | some oi => exact ordT_gate t _ _ hB1 (hb'.step hoi (by rw [hr]; simp))
theorem wpS_pre {kt : (World → Prop) → Act → Prop} {Q : Act → World → Prop} {S : List Nat} {m : Nat} (hsel : Region.noSelect ops = true) {kb : List Nat → Array Bool → Bool} (hSc : ∀ s ∈ S, calmAt ops s = false) (hg : Gate ops S) (hz : ∀ s ∈ S, s < ops.size) :
    ∀ (st done : List Nat) (l : List Oper) (listed : Array Bool) (C : World → Prop) (a : Act),
    l.map some = st.map (fun i => ops[i]?) → preB ops kb st done listed = true → Book ops done listed → (∀ s ∈ List.reverseAux st done, calmAt ops s = false → s ∈ S) →
    (∀ listed, kb (List.reverseAux st done) listed = true → Book ops (List.reverseAux st done) listed → ∀ C a, kt C a → ∀ w, C w → wpS P E ops C S Q m listed a w) →
    walkN P E ops [] kt l C a → ∀ w, C w → wpS P E ops C S Q (st.length + m) listed a w
  | [], done, l, listed, C, a, hl, hB, hb, hS, hk, h => by
    have : l = [] := by simpa using hl
    subst this
    have h2 := hk listed hB hb
    intro w hw
    rw [List.length_nil, Nat.zero_add]
    exact h2 C a h w hw
  | x :: st, done, [], listed, C, a, hl, hB, hb, hS, hk, h => by simp at hl
  | x :: st, done, o :: l, listed, C, a, hl, hB, hb, hS, hk, h => by
    simp only [List.map_cons, List.cons.injEq] at hl
    have ho : ops[x]? = some o := hl.1.symm
    simp only [preB, ho, Bool.and_eq_true, Bool.not_eq_true'] at hB
    obtain ⟨⟨⟨hlo, hrd⟩, hfr⟩, hB3⟩ := hB
    have hrdy : x ∈ Region.ready .any ops listed := by simpa using hrd
    simp only [walkN] at h
    have key : ∀ v, Stays P ops C o v a → walkN P E ops [] kt l C (a.put o.dst v) → ∀ w, C w → wpS P E ops C S Q ((x :: st).length + m) listed a w := by
      intro v hst hn
      have h1 := wpS_pre hsel hSc hg hz st (x :: done) l (listed.setIfInBounds x true) C (a.put o.dst v) hl.2 hB3 (hb.step ho hrdy) hS hk hn
      intro w hw
      have e : (x :: st).length + m = (st.length + m) + 1 := by simp; omega
      rw [e]
      cases hcal : calm o.op with
      | false =>
        exact wpS_first ho (Region.noSelect_spec hsel) hg hz (hS x (mem_reverseAux st _ (List.mem_cons_self ..)) (by unfold calmAt; simp only [ho]; exact hcal)) _ listed a w (hb.hG _ fun s hs hc => hS s (mem_reverseAux st _ (List.mem_cons_of_mem _ hs)) hc) (Region.free_spec ho hfr) hrdy hst hw (h1 w hw)
      | true =>
        exact wpS_calm ho (Region.noSelect_spec hsel) (fun h => by have h' := hSc _ h; unfold calmAt at h'; simp only [ho, hcal] at h'; cases h') _ listed a w (Region.free_spec ho hfr) hrdy (hst.calm hcal hw) (h1 w hw)
    by_cases hwt : Region.wanted o (yielded ops a.tmps) = true
    · rw [if_pos hwt] at h
      rcases h with ⟨_, v, hv, hn⟩ | ⟨hlo', _⟩
      · exact key v (.inl ⟨hwt, hv⟩) hn
      · rw [hlo] at hlo'; cases hlo'
    · rw [if_neg hwt] at h
      exact key undef (.inr ⟨by simpa using hwt, rfl⟩) h
theorem isLoud_spec {i : Nat} {o : Oper} (ho : ops[i]? = some o) (h : isLoud ops i = true) : loud o.op = true := by
  unfold isLoud at h
  rw [ho] at h; exact h
theorem wpS_tree {sy : List Nat} {K : (World → Prop) → Act → Prop} {l : List Oper} (hops : ops = l.toArray) (hsel : Region.noSelect ops = true) :
    ∀ (t : FT) (t' : FTL), PickT l t t' → ∀ (done : List Nat) (listed : Array Bool), ordT ops sy t done listed = true → Book ops done listed →
    ∀ C a, KT P E ops sy K t' C a → ∀ w, C w → wpS P E ops C (tillT ops sy t done) (fun a w => ∃ C' : World → Prop, C' w ∧ K C' a) t.len listed a w := by
  subst hops
  intro t
  induction t with
  | leaf st =>
    intro t' hp done listed hB hb
    cases hp with
    | leaf h => exact fun C a hk w hw => wpS_walk hsel st done _ listed C a h.map hB hb.hs hb.hd hb.hG hk w hw
  | node st i t j u iht ihu =>
    intro t' hp done listed hB hb C a hk w hw
    cases hp with
    | node h hi ht hj hu =>
      rename_i l' o o' tt uu
      have hoi : l.toArray[i]? = some o := by rw [← nthO_eq]; exact hi
      have hoj : l.toArray[j]? = some o' := by rw [← nthO_eq]; exact hj
      obtain ⟨hg, hz⟩ := ordT_gate _ _ _ hB hb
      simp only [ordT] at hB
      refine wpS_pre hsel (tillT_calm (.node st i t j u) done) hg hz st done l' listed C a h.map hB hb (fun s hs hc => tillT_sub t _ s (List.mem_cons_of_mem _ hs) hc) ?_ hk w hw
      intro listed' hB' hb' C a ⟨hk1, hk2⟩ w hw
      simp only [Bool.and_eq_true, beq_iff_eq, List.all_eq_true] at hB'
      obtain ⟨⟨⟨⟨⟨⟨hli, hlj⟩, hr⟩, hlen⟩, hB1⟩, hB2⟩, hall⟩ := hB'
      have hri : i ∈ Region.ready .any l.toArray listed' := by rw [hr]; simp
      have hrj : j ∈ Region.ready .any l.toArray listed' := by rw [hr]; simp
      have hA := iht tt ht _ _ hB1 (hb'.step hoi hri)
      have hBr := ihu uu hu _ _ hB2 (hb'.step hoj hrj)
      refine ⟨fun h0 => (by rw [h0] at hri; cases hri), fun k hk => ?_⟩
      rw [hr] at hk
      simp only [List.mem_cons, List.not_mem_nil, or_false] at hk
      rcases hk with rfl | rfl
      · exact wpS_side (K := K) hoi (isLoud_spec hoi hli) (fun s h => h) hA hk1 w hw
      · have := wpS_side (K := K) (S := tillT l.toArray sy t (i :: List.reverseAux st done)) hoj (isLoud_spec hoj hlj) (fun s h => by simpa using hall s h) hBr hk2 w hw
        rw [← hlen] at this
        exact this
end
section
variable {P : Program} {f n : Nat} {R : Ending → World → Prop} {D : List Deferred} {w0 : World} {k : List Item} {ov : Ov} {H : List Asn} {K : KC}
theorem QR_leaf {ops : Array Oper} {sy : List Nat} {l : List Oper} (h : QR P n D w0 (ops, sy) l ov H K) : QR P n D w0 (ops, []) [] ov H ⟨KT P K.e ops sy K.k (.leaf l), K.e⟩ := by
  unfold QR at *
  intro a ha
  simp only [walkN, KT]
  exact h a ha
theorem QR_node {ops : Array Oper} {sy : List Nat} {l : List Oper} {o o' : Oper} {t u : FTL} (h : QR P n D w0 (ops, []) l ov H ⟨KN P K.e ops (KT P K.e ops sy K.k t) (KT P K.e ops sy K.k u) o o', K.e⟩) : QR P n D w0 (ops, []) [] ov H ⟨KT P K.e ops sy K.k (.node l o t o' u), K.e⟩ := by
  unfold QR at *
  intro a ha
  simp only [walkN, KT]
  exact h a ha
theorem QR_both {ops : Array Oper} {o o' : Oper} {kt ku : (World → Prop) → Act → Prop} {e : List PanicEntry → List Deferred → World → Prop} (h1 : QR P n D w0 (ops, []) [o] ov H ⟨kt, e⟩) (h2 : QR P n D w0 (ops, []) [o'] ov H ⟨ku, e⟩) : QR P n D w0 (ops, []) [] ov H ⟨KN P e ops kt ku o o', e⟩ := by
  unfold QR at *
  intro a ha
  exact ⟨h1 a ha, h2 a ha⟩
theorem JS_tree {id : Nat} {l : List Oper} (t : FT) (sy : List Nat) {t' : FTL} (hp : PickT l t t') (hm : P.follows .mixedOrders = true) (hs : Region.noSelect l.toArray = true)
    (hlen : t.len = l.length) (hB : ordT l.toArray sy t [] (Array.replicate l.length false) = true) (h : QR P n D w0 (l.toArray, []) [] ov H ⟨KT P (QK P f R k).e l.toArray sy (QK P f R k).k t', (QK P f R k).e⟩) :
    JS P f n R D w0 (.code (.region id l.toArray true) :: k) ov H := by
  unfold JS
  intro a w ha hw
  refine J_of_wpE (Q := QQ P f R k) (wp_region_any hm ?_) fun e a' w' h => h
  have h0 : ∀ j, (Array.replicate l.length false).getD j false = false := fun j => by
    rcases Nat.lt_or_ge j l.length with h | h
    · simp [h]
    · simp [h]
  unfold QR at h
  have hk := h a ha
  simp only [walkN] at hk
  have hws := wpS_tree (P := P) (E := (QK P f R k).e) (K := (QK P f R k).k) (sy := sy) rfl hs t t' hp [] (Array.replicate l.length false) hB ⟨by simp, fun j => by rw [h0 j]; simp, fun S _ => ⟨fun j oj _ hj => (by rw [h0 j] at hj; cases hj), fun k _ _ hk => (by rw [h0 k] at hk; cases hk)⟩⟩ (St w0 H) a hk w.drew hw.drew
  have := wpAny_of_S (Q' := QQ P f R k) (fun ch a w h => by unfold QK at h; exact h) (fun a w ⟨C, hC, hk⟩ => by unfold QK at hk; exact hk w hC) _ _ _ _ hws
  rw [hlen] at this
  simpa using this
end
end Sx

namespace Go.Proofs.YteelffkghidpfaaGreat
open Sx Go
set_option linter.unusedVariables false
set_option linter.unusedSimpArgs false
set_option maxRecDepth 100000
theorem fix_okb : OKB (tab 288 fixF) := OKB_of (by decide +kernel)
theorem fix_okl : OKL (tab 288 fixF) := ⟨by decide +kernel, le15_of (by decide +kernel), .inl (by decide +kernel)⟩
theorem spans_okb : OKB (List.replicate 32 5) := OKB_of (by decide +kernel)
theorem spans_okl : OKL (List.replicate 32 5) := ⟨by decide +kernel, le15_of (by decide +kernel), .inl (by decide +kernel)⟩
attribute [local irreducible] syA fc tk cds tab
end Go.Proofs.YteelffkghidpfaaGreat

namespace Go.Proofs.YteelffkghidpfaaGreat
open Sx Go
set_option linter.unusedVariables false
set_option linter.unusedSimpArgs false
set_option maxRecDepth 100000
attribute [local irreducible] syA fc tk cds
def nbt (bt : Nat → Int) (a : Nat) : Nat → Int
  | 0 => 0
  | c + 1 => nbt bt a c + bt (a + c) * 2 ^ c
theorem nbt_bd (bt : Nat → Int) (hb : ∀ j, bt j = 0 ∨ bt j = 1) (a : Nat) : ∀ c, 0 ≤ nbt bt a c ∧ nbt bt a c < 2 ^ c
  | 0 => ⟨Int.le_refl _, by show (0 : Int) < 1; decide⟩
  | c + 1 => by
    have h := nbt_bd bt hb a c
    simp only [nbt, Int.pow_succ]
    rcases hb (a + c) with h1 | h1 <;> rw [h1] <;> omega
theorem nbt_congr {bt bt' : Nat → Int} {a a' : Nat} : ∀ {c : Nat}, (∀ j, j < c → bt (a + j) = bt' (a' + j)) → nbt bt a c = nbt bt' a' c
  | 0, _ => rfl
  | c + 1, h => by
    simp only [nbt]
    rw [nbt_congr (c := c) (fun j hj => h j (by omega)), h c (by omega)]
inductive Stp where
  | err (e : Int)
  | stop (a : Nat) (o : List Int)
  | go (a : Nat) (o : List Int)
inductive Res where
  | err (e : Int)
  | ok (a : Nat) (o : List Int)
inductive It (f : Nat → List Int → Stp) : Nat → List Int → Res → Prop where
  | err {a : Nat} {o : List Int} {e : Int} (h : f a o = .err e) : It f a o (.err e)
  | stop {a : Nat} {o : List Int} {a' : Nat} {o' : List Int} (h : f a o = .stop a' o') : It f a o (.ok a' o')
  | go {a : Nat} {o : List Int} {a' : Nat} {o' : List Int} {r : Res} (h : f a o = .go a' o') (t : It f a' o' r) : It f a o r
theorem It.one {f : Nat → List Int → Stp} {a : Nat} {o : List Int} {r r' : Res} (h : It f a o r) : It f a o r' → r = r' := by
  induction h with
  | err h => intro h'; cases h' with
    | err h2 => rw [h] at h2; cases h2; rfl
    | stop h2 => rw [h] at h2; cases h2
    | go h2 _ => rw [h] at h2; cases h2
  | stop h => intro h'; cases h' with
    | err h2 => rw [h] at h2; cases h2
    | stop h2 => rw [h] at h2; cases h2; rfl
    | go h2 _ => rw [h] at h2; cases h2
  | go h _ ih => intro h'; cases h' with
    | err h2 => rw [h] at h2; cases h2
    | stop h2 => rw [h] at h2; cases h2
    | go h2 t => rw [h] at h2; cases h2; exact ih t
open Classical in
noncomputable def itF (f : Nat → List Int → Stp) (a : Nat) (o : List Int) : Res := if h : ∃ r, It f a o r then h.choose else .err 0
theorem itF_of {f : Nat → List Int → Stp} {a : Nat} {o : List Int} {r : Res} (h : It f a o r) : itF f a o = r := by
  have hex : ∃ r, It f a o r := ⟨r, h⟩
  unfold itF
  rw [dif_pos hex]
  exact hex.choose_spec.one h
inductive Sy where
  | err (e : Int)
  | ok (i : Int) (a : Nat)
open Classical in
noncomputable def symS (bt : Nat → Int) (N : Nat) (L : List Int) (a : Nat) : Sy :=
  if h : ∃ x : Int × Nat × Int, RD L (fun j => bt (a + j)) (N - a) x.1 x.2.1 x.2.2 then (if h.choose.2.2 = 0 then .ok h.choose.1 (a + h.choose.2.1) else .err h.choose.2.2) else .err 0
theorem symS_of {bt : Nat → Int} {N a : Nat} {L : List Int} (hB : OKB L) (hk : OKL L) (hb : ∀ j, bt j = 0 ∨ bt j = 1) {i : Int} {u : Nat} {r : Int} (h : RD L (fun j => bt (a + j)) (N - a) i u r) :
    symS bt N L a = if r = 0 then .ok i (a + u) else .err r := by
  have hex : ∃ x : Int × Nat × Int, RD L (fun j => bt (a + j)) (N - a) x.1 x.2.1 x.2.2 := ⟨(i, u, r), h⟩
  unfold symS
  rw [dif_pos hex]
  obtain ⟨h1, h2, h3⟩ := RD_fun hB hk (fun j => hb _) hex.choose_spec h
  rw [h1, h2, h3]
def cpy (o : List Int) (back : Nat) : Nat → List Int
  | 0 => o
  | n + 1 => cpy o back n ++ [(cpy o back n).getD ((cpy o back n).length - back) 0]
theorem cpy_len (o : List Int) (back : Nat) : ∀ n, (cpy o back n).length = o.length + n
  | 0 => rfl
  | n + 1 => by simp only [cpy, List.length_append, List.length_cons, List.length_nil, cpy_len o back n]; omega
noncomputable def blk2 (bt : Nat → Int) (N lim : Nat) (D : List Int) (o : List Int) (len : Int) (a : Nat) : Stp :=
  match symS bt N D a with
  | .err e => .err e
  | .ok d a2 =>
    if (lfar d).1 = 0 then .err 62
    else if N < a2 + (lfar d).2.toNat then .err 20
    else if (o.length : Int) < (lfar d).1 + nbt bt a2 (lfar d).2.toNat then .err 63
    else if (lim : Int) - o.length < len then .err 64
    else .go (a2 + (lfar d).2.toNat) (cpy o ((lfar d).1 + nbt bt a2 (lfar d).2.toNat).toNat len.toNat)
noncomputable def blkF (bt : Nat → Int) (N lim : Nat) (L D : List Int) (a : Nat) (o : List Int) : Stp :=
  match symS bt N L a with
  | .err e => .err e
  | .ok i a1 =>
    if i = 256 then .stop a1 o
    else if i < 256 then (if (lim : Int) - o.length < 1 then .err 64 else .go a1 (o ++ [i]))
    else if (lbase i).1 = 0 then .err 62
    else if N < a1 + (lbase i).2.toNat then .err 20
    else blk2 bt N lim D o ((lbase i).1 + nbt bt a1 (lbase i).2.toNat) (a1 + (lbase i).2.toNat)
def lenP (many : Nat) (l : List Int) (x : Int) (t : Int) (a : Nat) : Stp :=
  if (many : Int) < l.length + t then .err 62 else .go a (l ++ List.replicate t.toNat x)
noncomputable def lenF (bt : Nat → Int) (N : Nat) (C : List Int) (many : Nat) (a : Nat) (l : List Int) : Stp :=
  if many ≤ l.length then .stop a l else
  match symS bt N C a with
  | .err e => .err e
  | .ok i a1 =>
    if i = 16 then (if l.length = 0 then .err 62 else if N < a1 + 2 then .err 20 else lenP many l (l.getD (l.length - 1) 0) (3 + nbt bt a1 2) (a1 + 2))
    else if i = 17 then (if N < a1 + 3 then .err 20 else lenP many l 0 (3 + nbt bt a1 3) (a1 + 3))
    else if i = 18 then (if N < a1 + 7 then .err 20 else lenP many l 0 (11 + nbt bt a1 7) (a1 + 7))
    else lenP many l i 1 a1
def byts (bt : Nat → Int) (a n : Nat) : List Int := (List.range n).map fun j => nbt bt (a + 8 * j) 8
theorem byts_len (bt : Nat → Int) (a n : Nat) : (byts bt a n).length = n := by simp [byts]
def upto8 (a : Nat) : Nat := (a + 7) / 8 * 8
def stoF (bt : Nat → Int) (N lim : Nat) (a : Nat) (o : List Int) : Res :=
  if N < upto8 a + 16 then .err 20
  else if N < upto8 a + 32 then .err 20
  else if nbt bt (upto8 a) 16 + nbt bt (upto8 a + 16) 16 ≠ 65535 then .err 61
  else if (lim : Int) - o.length < nbt bt (upto8 a) 16 then .err 64
  else if (N : Int) < upto8 a + 32 + 8 * nbt bt (upto8 a) 16 then .err 20
  else .ok (upto8 a + 32 + 8 * (nbt bt (upto8 a) 16).toNat) (o ++ byts bt (upto8 a + 32) (nbt bt (upto8 a) 16).toNat)
def ordL : List Nat := [16, 17, 18, 0, 8, 7, 9, 6, 10, 5, 11, 4, 12, 3, 13, 2, 14, 1, 15]
def ccl (bt : Nat → Int) (a : Nat) : Nat → List Int
  | 0 => List.replicate 19 0
  | i + 1 => (ccl bt a i).set (ordL.getD i 0) (nbt bt (a + 3 * i) 3)
theorem ccl_len (bt : Nat → Int) (a : Nat) : ∀ n, (ccl bt a n).length = 19
  | 0 => by simp [ccl]
  | n + 1 => by simp [ccl, ccl_len bt a n]
open Classical in
noncomputable def des2 (bt : Nat → Int) (N lim lit : Nat) (l : List Int) (a : Nat) (o : List Int) : Res :=
  if l.getD 256 0 = 0 then .err 62
  else if ¬ OKL (l.take lit) then .err 62
  else if ¬ OKL (l.drop lit) then .err 62
  else itF (blkF bt N lim (l.take lit) (l.drop lit)) a o
open Classical in
noncomputable def des1 (bt : Nat → Int) (N lim lit sp ln : Nat) (a : Nat) (o : List Int) : Res :=
  if 286 < lit ∨ 30 < sp then .err 62
  else if N < a + 3 * ln then .err 20
  else if ¬ OKL (ccl bt a ln) ∨ ¬ tk (ccl bt a ln) = 32768 then .err 62
  else match itF (lenF bt N (ccl bt a ln) (lit + sp)) (a + 3 * ln) [] with
    | .err e => .err e
    | .ok a' l => des2 bt N lim lit l a' o
noncomputable def desF (bt : Nat → Int) (N lim : Nat) (a : Nat) (o : List Int) : Res :=
  if N < a + 5 then .err 20
  else if N < a + 10 then .err 20
  else if N < a + 14 then .err 20
  else des1 bt N lim (nbt bt a 5 + 257).toNat (nbt bt (a + 5) 5 + 1).toNat (nbt bt (a + 10) 4 + 4).toNat (a + 14) o
noncomputable def kndF (bt : Nat → Int) (N lim : Nat) (k : Int) (a : Nat) (o : List Int) : Res :=
  if k = 0 then stoF bt N lim a o
  else if k = 1 then itF (blkF bt N lim (tab 288 fixF) (List.replicate 32 5)) a o
  else if k = 2 then desF bt N lim a o
  else .err 60
noncomputable def rdF (bt : Nat → Int) (N lim : Nat) (a : Nat) (o : List Int) : Stp :=
  if N < a + 1 then .err 20
  else if N < a + 3 then .err 20
  else match kndF bt N lim (nbt bt (a + 1) 2) (a + 3) o with
    | .err e => .err e
    | .ok a' o' => if nbt bt a 1 = 0 then .go a' o' else .stop a' o'
def ALLR (B : List Int) (lim : Nat) (r : Res) : Prop := It (rdF (bitB B 0) (8 * B.length) lim) 0 [] r
theorem bitB_add (B : List Int) (a j : Nat) : bitB B 0 (a + j) = bitB B a j := by
  unfold bitB; simp only [Nat.zero_add]
theorem bitB_fun (B : List Int) (a : Nat) : (fun j => bitB B 0 (a + j)) = bitB B a := funext fun j => bitB_add B a j
end Go.Proofs.YteelffkghidpfaaGreat

namespace Go.Proofs.YteelffkghidpfaaGreat
open Sx Go
set_option linter.unusedVariables false
set_option linter.unusedSimpArgs false
set_option maxRecDepth 100000
attribute [local irreducible] syA fc tk cds
theorem or_add_u32 {a y : Int} {s : Nat} (hs : s < 32) (ha : 0 ≤ a ∧ a < 2 ^ s) (hy : y = 0 ∨ y = 1) : IntKind.u32.wrap ((BitVec.ofInt IntKind.u32.bits a ||| BitVec.ofInt IntKind.u32.bits (y * 2 ^ s)).toNat) = a + y * 2 ^ s := by
  have hp : (2 : Int) ^ s ≤ 2147483648 := by
    have : ∀ k : Fin 32, (2 : Int) ^ k.val ≤ 2147483648 := by decide
    exact this ⟨s, hs⟩
  have hyb : 0 ≤ y * 2 ^ s ∧ y * 2 ^ s ≤ 2147483648 := by rcases hy with rfl | rfl <;> omega
  rw [or_nat .u32 ⟨ha.1, by show a < 4294967296; omega⟩ ⟨hyb.1, by show y * 2 ^ s < 4294967296; omega⟩]
  obtain ⟨m, rfl⟩ := Int.eq_ofNat_of_zero_le ha.1
  have hpn : ((2 ^ s : Nat) : Int) = 2 ^ s := by simp
  rcases hy with rfl | rfl
  · simp only [Int.zero_mul, Int.toNat_natCast, Int.toNat_zero, Nat.or_zero, Int.add_zero]
    exact wu32 (by omega)
  · have h := Nat.two_pow_add_eq_or_of_lt (i := s) (b := m) (by have := ha.2; rw [← hpn] at this; omega) 1
    rw [Nat.mul_one] at h
    rw [Int.one_mul, Int.toNat_natCast, show ((2 : Int) ^ s).toNat = 2 ^ s by rw [← hpn]; rfl, Nat.or_comm, ← h]
    refine (wu32 (by omega)).trans (by omega)
theorem pw32 (i : Nat) (h : i < 32) : (1 : Int) ≤ 2 ^ i ∧ (2 : Int) ^ i ≤ 2147483648 := by
  have : ∀ k : Fin 32, (1 : Int) ≤ 2 ^ k.val ∧ (2 : Int) ^ k.val ≤ 2147483648 := by decide
  exact this ⟨i, h⟩
set_option maxHeartbeats 4000000 in
theorem RGrp_c {w0 : World} {H : List Asn} (b : Nat) (q : Option Addr) (d m : Nat) (B : List Int) (hr : Rd w0 H (.slice q m d) m (ints .u8 B)) (hm : B.length = m) (hB : OKB B) (hm1 : m ≤ 140737488355328) (a c : Nat) (hc : c ≤ 32) (ha : a ≤ 8 * m) (w : World) (hw : St w0 (blk b [.slice q m d, .int .i64 a] :: H) w) :
    Calls Tryz.prog 236 #[.pointer (some ⟨b, 0, none⟩), .int .i64 c] w fun e w' =>
      (8 * m < a + c ∧ e = .returned (.tuple #[.int .u32 0, .int .i64 20]) ∧ St w0 (blk b [.slice q m d, .int .i64 a] :: H) w') ∨
      (a + c ≤ 8 * m ∧ e = .returned (.tuple #[.int .u32 (nbt (bitB B 0) a c), .int .i64 0]) ∧ St w0 (blk b [.slice q m d, .int .i64 (a + c : Nat)] :: H) w') := by
  refine enter (vs := [.pointer (some ⟨b, 0, none⟩), .int .i64 c]) Tryz.func236 rfl rfl rfl hw ?_
  repeat (refine sx ?_; try intro _)
  refine JO_call Tryz.call246 rfl rfl fun w hw => (Left_c b q d m a (List.Mem.head _) hm1 (by omega) w hw).mono ?_
  rintro e w' ⟨rfl, hw'⟩
  refine ⟨_, rfl, _, hw', ?_⟩
  clear hw' hw w w'
  by_cases hend : 8 * m < a + c
  · repeat (refine sx ?_; try intro _)
    refine JS_ret Tryz.func236 rfl rfl ?_
    intro w hw
    exact .inl ⟨hend, rfl, hw⟩
  repeat (first | (apply gJR; (refine sx ?_; try intro _)) | (apply gJO; (refine sx ?_; try intro _)) | apply JS_seq | apply JS_region | refine JS_condF rfl ?_ | refine JS_cond_F rfl (by omega) ?_ | apply JS_skip)
  refine JS_block ?_
  refine JS_loop1 (fun (i : Nat) => [(0, .pointer (some ⟨b, 0, none⟩)), (6, .int .u32 (nbt (bitB B 0) a i)), (18, .int .i64 c), (19, .int .i64 i)]) (fun i => blk b [.slice q m d, .int .i64 (a + i : Nat)] :: H)
    (fun i => i ≤ c) (fun i => c - i) 0 (Nat.zero_le _) (by repeat (first | exact trivial | refine ⟨rfl, ?_⟩ | refine ⟨lookI rfl (by omega), ?_⟩)) (fun _ h => h) ?_
  intro i hi again
  by_cases hic : i < c
  · have hr' : Rd w0 (blk b [.slice q m d, .int .i64 (a + i : Nat)] :: H) (.slice q m d) m (ints .u8 B) := Rd_weak hr fun w hw => dS hw
    have hb := hB ((a + i) / 8)
    have gi : (ints .u8 B)[(a + i) / 8]? = some (.int .u8 (B.getD ((a + i) / 8) 0)) := ints_get (by omega)
    have hs : min (((a + i : Nat) : Int) % 8).toNat IntKind.u8.bits = (a + i) % 8 := by show min _ 8 = _; omega
    obtain ⟨y, hy⟩ : ∃ y, B.getD ((a + i) / 8) 0 / 2 ^ ((a + i) % 8) = y := ⟨_, rfl⟩
    have hpos : (0 : Int) < 2 ^ ((a + i) % 8) := Int.pow_pos (by decide)
    have hy0 : 0 ≤ y := by rw [← hy]; exact Int.ediv_nonneg hb.1 (Int.le_of_lt hpos)
    have hy1 : y < 256 := by
      rw [← hy]
      exact Int.lt_of_le_of_lt (Int.ediv_le_self _ hb.1) hb.2
    have hz : y % 2 = 0 ∨ y % 2 = 1 := by omega
    have hbt : bitB B 0 (a + i) = y % 2 := by unfold bitB; rw [Nat.zero_add, hy]
    obtain ⟨hn0, hn1⟩ := nbt_bd (bitB B 0) (bitB_01 B 0) a i
    obtain ⟨hp0, hp1⟩ := pw32 i (by omega)
    have hs2 : min ((i : Int)).toNat IntKind.u32.bits = i := by show min _ 32 = _; omega
    have hwr : IntKind.u32.wrap (y % 2 * 2 ^ i) = y % 2 * 2 ^ i := wu32 (by rcases hz with h | h <;> rw [h] <;> omega)
    have hor := or_add_u32 (s := i) (by omega) ⟨hn0, hn1⟩ hz
    repeat (first | (apply gQO; refine QO_v rfl (V_loadC (tb := tb) rfl hr' rfl rfl gi rfl) ?_) | (apply gQO; refine QO_v rfl (V_shr (m := (a + i) % 8) rfl rfl (by omega) hs hy rfl) ?_) | (apply gQO; refine QO_v rfl (V_and rfl rfl (mask1_u8 ⟨hy0, hy1⟩) rfl) ?_) | (apply gQO; refine QO_v rfl (V_shl (m := i) (c := y % 2 * 2 ^ i) rfl rfl (by omega) hs2 hwr rfl) ?_) | (apply gQO; refine QO_v rfl (V_or rfl rfl hor rfl) ?_) | (refine sx ?_; try intro _))
    refine JS_again1 again (i + 1) (by omega) (by omega) ?_ (fun w hw => hw)
    refine ⟨rfl, ?_, rfl, rfl, trivial⟩
    simp only [nbt, hbt]; rfl
  · obtain rfl : i = c := by omega
    clear again
    repeat (refine sx ?_; try intro _)
    refine JS_ret Tryz.func236 rfl rfl ?_
    intro w hw
    exact .inr ⟨by omega, rfl, hw⟩
theorem Align_c {w0 : World} {H : List Asn} (b : Nat) (u : Value) (a : Nat) (ha : a ≤ 4611686018427387904) (w : World) (hw : St w0 (blk b [u, .int .i64 a] :: H) w) :
    Calls Tryz.prog 229 #[.pointer (some ⟨b, 0, none⟩)] w fun e w' => e = .returned (.tuple #[]) ∧ St w0 (blk b [u, .int .i64 (upto8 a : Nat)] :: H) w' := by
  refine enter (vs := [.pointer (some ⟨b, 0, none⟩)]) Tryz.func229 rfl rfl rfl hw ?_
  repeat (refine sx ?_; try intro _)
  refine JS_fin Tryz.func229 rfl rfl ?_
  intro w hw
  refine ⟨rfl, ?_⟩
  rwa [show ((a : Int) + 7) / 8 * 8 = (upto8 a : Nat) by unfold upto8; omega] at hw
theorem upto8_le {a m : Nat} (h : a ≤ 8 * m) : upto8 a ≤ 8 * m := by unfold upto8; omega
theorem upto8_8 (a : Nat) : upto8 a % 8 = 0 := by unfold upto8; omega
set_option maxHeartbeats 2000000 in
theorem Text_c {w0 : World} {H : List Asn} (b : Nat) (q : Option Addr) (d m : Nat) (B : List Int) (hr : Rd w0 H (.slice q m d) m (ints .u8 B)) (hm : B.length = m) (hB : OKB B) (hm1 : m ≤ 140737488355328) (a n : Nat) (hn : n ≤ 140737488355328) (ha : a ≤ 8 * m) (w : World) (hw : St w0 (blk b [.slice q m d, .int .i64 a] :: H) w) :
    Calls Tryz.prog 230 #[.pointer (some ⟨b, 0, none⟩), .int .i64 n] w fun e w' =>
      (8 * m < upto8 a + 8 * n ∧ e = .returned (.tuple #[.slice none 0 0, .int .i64 20]) ∧ St w0 (blk b [.slice q m d, .int .i64 (upto8 a : Nat)] :: H) w') ∨
      (upto8 a + 8 * n ≤ 8 * m ∧ ∃ p c, e = .returned (.tuple #[.slice p n c, .int .i64 0]) ∧ St w0 (vec 5 1 (.slice p n c) n (ints .u8 ((B.drop (upto8 a / 8)).take n)) :: blk b [.slice q m d, .int .i64 (upto8 a + 8 * n : Nat)] :: H) w') := by
  have hu := upto8_le ha
  have hu8 := upto8_8 a
  refine enter (vs := [.pointer (some ⟨b, 0, none⟩), .int .i64 n]) Tryz.func230 rfl rfl rfl hw ?_
  repeat (refine sx ?_; try intro _)
  refine JO_call Tryz.call229 rfl rfl fun w hw => (Align_c b _ a (by omega) w hw).mono ?_
  rintro e w' ⟨rfl, hw'⟩
  refine ⟨_, rfl, _, hw', ?_⟩
  clear hw' hw w w'
  generalize upto8 a = u at *
  repeat (refine sx ?_; try intro _)
  refine JO_call Tryz.call246 rfl rfl fun w hw => (Left_c b q d m u (List.Mem.head _) hm1 (by omega) w hw).mono ?_
  rintro e w' ⟨rfl, hw'⟩
  refine ⟨_, rfl, _, hw', ?_⟩
  clear hw' hw w w'
  by_cases hend : 8 * m < u + 8 * n
  · repeat (refine sx ?_; try intro _)
    refine JS_ret Tryz.func230 rfl rfl ?_
    intro w hw
    exact .inl ⟨hend, rfl, hw⟩
  have hr' : Rd w0 (blk b [.slice q m d, .int .i64 (u + 8 * n : Nat)] :: H) (.slice q m d) m (ints .u8 B) := Rd_weak hr fun w hw => dS hw
  have hrs := Rd_sub (lo := u / 8) (hi := u / 8 + n) (sz := 1) hr' (by omega) (by omega)
  have hsub : ((ints .u8 B).drop (u / 8 * 1)).take ((u / 8 + n - u / 8) * 1) = ints .u8 ((B.drop (u / 8)).take n) := by
    rw [show u / 8 + n - u / 8 = n by omega, Nat.mul_one, Nat.mul_one, ints_drop, ints_take]
  rw [hsub, show u / 8 + n - u / 8 = n by omega] at hrs
  have hcap : ∀ w, St w0 (blk b [.slice q m d, .int .i64 (u + 8 * n : Nat)] :: H) w → u / 8 + n ≤ d := fun w hw => by
    have := (hr'.lcap hw).1; omega
  have hst : ((u : Int) + 8 * n) = ((u + 8 * n : Nat) : Int) := by omega
  repeat (first | (apply gJO; refine JO_v (V_slice (tb := tb) (lo := u / 8) (hi := u / 8 + n) rfl rfl rfl rfl rfl (by omega) (by omega) (fun w hw => ⟨by omega, hcap w (by rw [← hst]; exact hw)⟩) rfl) ?_) | (refine sx ?_; try intro _))
  have e3 : u / 8 + n - u / 8 = n := by omega
  simp only [hst, e3]
  have hl : ((B.drop (u / 8)).take n).length = n := by rw [List.length_take, List.length_drop]; omega
  have hok : OKB ((B.drop (u / 8)).take n) := Byt_take (Byt_drop hB _) _
  refine JO_call Tryz.call128 rfl rfl fun w hw => (Clone_c _ _ n _ hrs hl hok (by omega) (hrs.nil hw) w hw).mono ?_
  rintro e w' ⟨p, c, rfl, hw'⟩
  refine ⟨_, rfl, _, hw', ?_⟩
  clear hw' hw w w'
  repeat (refine sx ?_; try intro _)
  refine JS_ret Tryz.func230 rfl rfl ?_
  intro w hw
  exact .inr ⟨by omega, p, c, rfl, hw⟩
end Go.Proofs.YteelffkghidpfaaGreat

namespace Go.Proofs.YteelffkghidpfaaGreat
open Sx Go
set_option linter.unusedVariables false
set_option linter.unusedSimpArgs false
set_option maxRecDepth 100000
attribute [local irreducible] syA fc tk cds
def FLT (r : Int) : List PanicEntry := [{ v := .iface 264 (.int .i64 r), recovered := false }]
theorem Give_c {w0 : World} {H : List Asn} (r : Int) (w : World) (hw : St w0 H w) :
    Calls Tryz.prog 210 #[.int .i64 r] w fun e w' => (r = 0 ∧ e = .returned (.tuple #[]) ∧ St w0 H w') ∨ (r ≠ 0 ∧ e = .panicked (FLT r) ∧ St w0 H w') := by
  refine enter (vs := [.int .i64 r]) Tryz.func210 rfl rfl rfl hw ?_
  by_cases h : r = 0
  · repeat (refine sx ?_; try intro _)
    refine JS_fin Tryz.func210 rfl rfl ?_
    intro w hw
    exact .inl ⟨h, rfl, hw⟩
  · repeat (first | (apply gJO; refine JO_v (V_mkI (tb := tb) rfl rfl (by simp) rfl) ?_) | (refine sx ?_; try intro _))
    refine JO_panic Tryz.func210 rfl ?_
    intro a w _ hw
    exact .inr ⟨h, rfl, hw⟩
abbrev infL (bf br : Nat) (q : Option Addr) (d m : Nat) (B : List Int) (lim : Int) (a : Nat) (po : Option Addr) (co : Nat) (o : List Int) (H : List Asn) : List Asn :=
  blk br [.slice q m d, .int .i64 a] :: blk bf [.pointer (some ⟨br, 0, none⟩), .slice po o.length co, .int .i64 lim] :: vec 5 1 (.slice po o.length co) o.length (ints .u8 o) :: vec 5 1 (.slice q m d) m (ints .u8 B) :: H
theorem infL_drop {w0 : World} {w : World} {bf br : Nat} {q : Option Addr} {d m : Nat} {B : List Int} {lim : Int} {a : Nat} {po : Option Addr} {co : Nat} {o : List Int} {H : List Asn} (h : St w0 (infL bf br q d m B lim a po co o H) w) : St w0 H w := h.drop.drop.drop.drop
theorem infL_in {w0 : World} {w : World} {bf br : Nat} {q : Option Addr} {d m : Nat} {B : List Int} {lim : Int} {a : Nat} {po : Option Addr} {co : Nat} {o : List Int} {H : List Asn} {x : Asn} (h : St w0 (x :: infL bf br q d m B lim a po co o H) w) : St w0 (infL bf br q d m B lim a po co o (x :: H)) w :=
  h.perm (List.Perm.trans (List.Perm.swap _ _ _) (List.Perm.cons _ (List.Perm.trans (List.Perm.swap _ _ _) (List.Perm.cons _ (List.Perm.trans (List.Perm.swap _ _ _) (List.Perm.cons _ (List.Perm.swap _ _ _)))))))
theorem infL_out {w0 : World} {w : World} {bf br : Nat} {q : Option Addr} {d m : Nat} {B : List Int} {lim : Int} {a : Nat} {po : Option Addr} {co : Nat} {o : List Int} {H : List Asn} {x : Asn} (h : St w0 (infL bf br q d m B lim a po co o (x :: H)) w) : St w0 (infL bf br q d m B lim a po co o H) w := dS h
structure InfK (m : Nat) (B : List Int) (lim : Nat) : Prop where
  hm : B.length = m
  hB : OKB B
  hm1 : m ≤ 140737488355328
  hl : lim ≤ 1048576
theorem pw16 (i : Nat) (h : i ≤ 16) : (1 : Int) ≤ 2 ^ i ∧ (2 : Int) ^ i ≤ 65536 := by
  have : ∀ k : Fin 17, (1 : Int) ≤ 2 ^ k.val ∧ (2 : Int) ^ k.val ≤ 65536 := by decide
  exact this ⟨i, by omega⟩
section
variable {w0 : World} {H : List Asn} {bf br : Nat} {q : Option Addr} {d m : Nat} {B : List Int} {lim : Nat} {po : Option Addr} {co : Nat} {o : List Int}
theorem Grp_c (hK : InfK m B lim) (a c : Nat) (hc : c ≤ 16) (ha : a ≤ 8 * m) (w : World) (hw : St w0 (infL bf br q d m B lim a po co o H) w) :
    Calls Tryz.prog 209 #[.pointer (some ⟨bf, 0, none⟩), .int .i64 c] w fun e w' => (8 * m < a + c ∧ e = .panicked (FLT 20) ∧ St w0 H w') ∨
      (a + c ≤ 8 * m ∧ e = .returned (.int .i64 (nbt (bitB B 0) a c)) ∧ St w0 (infL bf br q d m B lim (a + c) po co o H) w') := by
  obtain ⟨hn0, hn1⟩ := nbt_bd (bitB B 0) (bitB_01 B 0) a c
  have hp := (pw16 c hc).2
  refine enter (vs := [.pointer (some ⟨bf, 0, none⟩), .int .i64 c]) Tryz.func209 rfl rfl rfl hw ?_
  repeat (refine sx ?_; try intro _)
  refine JO_call Tryz.call236 rfl rfl fun w hw => (RGrp_c br q d m B (vec_rd (by repeat (first | apply List.Mem.head | apply List.Mem.tail))) hK.hm hK.hB hK.hm1 a c (by omega) ha w hw).mono ?_
  rintro e w' (⟨h, rfl, hw'⟩ | ⟨h, rfl, hw'⟩)
  · refine ⟨_, rfl, _, hw', ?_⟩
    clear hw' hw w w'
    repeat (refine sx ?_; try intro _)
    refine JO_callE Tryz.func209 Tryz.call210 rfl rfl fun A hA w hw => (Give_c 20 w hw).mono ?_
    rintro e w' (⟨h, rfl, hw'⟩ | ⟨_, rfl, hw'⟩)
    · exact absurd h (by decide)
    · exact .inr ⟨_, rfl, .inl ⟨h, rfl, infL_drop hw'⟩⟩
  · refine ⟨_, rfl, _, hw', ?_⟩
    clear hw' hw w w'
    generalize nbt (bitB B 0) a c = x at *
    repeat (refine sx ?_; try intro _)
    refine JO_callE Tryz.func209 Tryz.call210 rfl rfl fun A hA w hw => (Give_c 0 w hw).mono ?_
    rintro e w' (⟨_, rfl, hw'⟩ | ⟨h, rfl, hw'⟩)
    · refine .inl ⟨_, rfl, _, hw', ?_⟩
      clear hw' hw w w'
      repeat (refine sx ?_; try intro _)
      refine JS_ret Tryz.func209 rfl rfl ?_
      intro w hw
      exact .inr ⟨h, rfl, hw⟩
    · exact absurd rfl h
def symP (bt : Nat → Int) (m : Nat) (L : List Int) (a : Nat) (E : Int → Prop) (K : Int → Nat → Prop) : Prop :=
  match symS bt (8 * m) L a with
  | .err r => E r
  | .ok i a1 => 0 ≤ i ∧ i < L.length ∧ a < a1 ∧ a1 ≤ 8 * m ∧ K i a1
theorem Sym_c (hK : InfK m B lim) (a : Nat) (ha : a ≤ 8 * m) (b : Nat) (L : List Int) (hs : IsSet w0 H b L) (w : World) (hw : St w0 (infL bf br q d m B lim a po co o H) w) :
    Calls Tryz.prog 247 #[.pointer (some ⟨bf, 0, none⟩), .pointer (some ⟨b, 0, none⟩)] w fun e w' =>
      symP (bitB B 0) m L a (fun r => e = .panicked (FLT r) ∧ St w0 H w') (fun i a1 => e = .returned (.int .i64 i) ∧ St w0 (infL bf br q d m B lim a1 po co o H) w') := by
  refine enter (vs := [.pointer (some ⟨bf, 0, none⟩), .pointer (some ⟨b, 0, none⟩)]) Tryz.func247 rfl rfl rfl hw ?_
  repeat (refine sx ?_; try intro _)
  refine JO_call Tryz.call253 rfl rfl fun w hw => (Read2_c b br L B (hs.sub (by repeat (first | exact List.Sublist.refl _ | apply List.Sublist.cons))) q d m (vec_rd (by repeat (first | apply List.Mem.head | apply List.Mem.tail))) hK.hm hK.hB hK.hm1 a ha w hw).mono ?_
  rintro e w' ⟨i, u, r, rfl, hw', hu, hrd⟩
  refine ⟨_, rfl, _, hw', ?_⟩
  clear hw' hw w w'
  rw [← bitB_fun] at hrd
  have hsy := symS_of hs.hB hs.hl (bitB_01 B 0) hrd
  by_cases hr : r = 0
  · subst hr
    rw [if_pos rfl] at hsy
    have hi : 0 ≤ i ∧ i < L.length ∧ 0 < u := by
      rcases hrd with ⟨j, rfl, _, ⟨n, hj, h0, hn, _⟩, hu⟩ | ⟨_, _, h | h | ⟨_, _, h | h⟩⟩
      · rw [hu] at hn; omega
      · omega
      · omega
      · omega
      · omega
    repeat (refine sx ?_; try intro _)
    refine JO_callE Tryz.func247 Tryz.call210 rfl rfl fun A hA w hw => (Give_c 0 w hw).mono ?_
    rintro e w' (⟨_, rfl, hw'⟩ | ⟨h, rfl, hw'⟩)
    · refine .inl ⟨_, rfl, _, hw', ?_⟩
      clear hw' hw w w'
      repeat (refine sx ?_; try intro _)
      refine JS_ret Tryz.func247 rfl rfl ?_
      intro w hw
      unfold symP
      rw [hsy]
      exact ⟨hi.1, hi.2.1, by omega, hu, rfl, hw⟩
    · exact absurd rfl h
  · rw [if_neg hr] at hsy
    repeat (refine sx ?_; try intro _)
    refine JO_callE Tryz.func247 Tryz.call210 rfl rfl fun A hA w hw => (Give_c r w hw).mono ?_
    rintro e w' (⟨h, rfl, hw'⟩ | ⟨_, rfl, hw'⟩)
    · exact absurd h hr
    · refine .inr ⟨_, rfl, ?_⟩
      show symP _ _ _ _ _ _
      unfold symP
      rw [hsy]
      exact ⟨rfl, infL_drop hw'⟩
theorem Tell_c (hK : InfK m B lim) (a : Nat) (u : Option Addr) (cu n : Nat) (X : List Int) (hr : Rd w0 H (.slice u n cu) n (ints .u8 X)) (hX : X.length = n) (ho : o.length ≤ lim) (hn : n ≤ 140737488355328) (w : World) (hw : St w0 (infL bf br q d m B lim a po co o H) w) :
    Calls Tryz.prog 231 #[.pointer (some ⟨bf, 0, none⟩), .slice u n cu] w fun e w' => ((lim : Int) - o.length < n ∧ e = .panicked (FLT 64) ∧ St w0 H w') ∨
      (¬ (lim : Int) - o.length < n ∧ e = .returned (.tuple #[]) ∧ ∃ po co, St w0 (infL bf br q d m B lim a po co (o ++ X) H) w') := by
  have hl := hK.hl
  refine enter (vs := [.pointer (some ⟨bf, 0, none⟩), .slice u n cu]) Tryz.func231 rfl rfl rfl hw ?_
  by_cases h : (lim : Int) - o.length < n
  · repeat (refine sx ?_; try intro _)
    refine JO_callE Tryz.func231 Tryz.call210 rfl rfl fun A hA w hw => (Give_c 64 w hw).mono ?_
    rintro e w' (⟨h, rfl, hw'⟩ | ⟨_, rfl, hw'⟩)
    · exact absurd h (by decide)
    · exact .inr ⟨_, rfl, .inl ⟨h, rfl, infL_drop hw'⟩⟩
  · repeat (refine sx ?_; try intro _)
    have hr' : Rd w0 (infL bf br q d m B lim a po co o H) (.slice u n cu) n (ints .u8 X) := Rd_weak hr fun w hw => infL_drop hw
    refine JO_app (tb := tb) rfl rfl rfl rfl rfl rfl (by repeat (first | exact Sel.here _ _ | apply Sel.there)) hr' (by rw [ints_len]; omega) (by first | exact ints_one | (repeat (first | exact trivial | refine ⟨rfl, ?_⟩))) (by omega) rfl ?_
    intro p c
    repeat (refine sx ?_; try intro _)
    refine JS_fin Tryz.func231 rfl rfl ?_
    intro w hw
    refine .inr ⟨h, rfl, p, c, ?_⟩
    unfold infL
    rw [List.length_append, hX, ← ints_app]
    exact hw
end
end Go.Proofs.YteelffkghidpfaaGreat

namespace Go.Proofs.YteelffkghidpfaaGreat
open Sx Go
set_option linter.unusedVariables false
set_option linter.unusedSimpArgs false
set_option maxRecDepth 100000
attribute [local irreducible] syA fc tk cds
def resP (r : Res) (E : Int → Prop) (K : Nat → List Int → Prop) : Prop :=
  match r with
  | .err e => E e
  | .ok a o => K a o
theorem xor16 {n : Nat} (h : n < 65536) : n ^^^ 65535 = 65535 - n := by
  have h1 : (BitVec.ofNat 16 n ^^^ BitVec.allOnes 16).toNat = n ^^^ 65535 := by
    rw [BitVec.toNat_xor, BitVec.toNat_ofNat, Nat.mod_eq_of_lt (by omega)]; rfl
  rw [← h1, BitVec.xor_allOnes, BitVec.toNat_not, BitVec.toNat_ofNat, Nat.mod_eq_of_lt (by omega)]
theorem xor16_i64 {a : Int} (h : 0 ≤ a ∧ a < 65536) : IntKind.i64.wrap ((BitVec.ofInt IntKind.i64.bits a ^^^ BitVec.ofInt IntKind.i64.bits 65535).toNat) = 65535 - a := by
  rw [xor_nat .i64 ⟨h.1, Int.lt_trans h.2 (by decide)⟩ ⟨by omega, by decide⟩, show (65535 : Int).toNat = 65535 from rfl, xor16 (by omega)]
  exact (wi64 (by omega)).trans (by omega)
theorem nbt_byte (B : List Int) (hB : OKB B) (j : Nat) : nbt (bitB B 0) (8 * j) 8 = B.getD j 0 := by
  have h := hB j
  simp only [nbt, bitB, Nat.zero_add]
  have e : ∀ t, t < 8 → (8 * j + t) / 8 = j ∧ (8 * j + t) % 8 = t := fun t ht => by omega
  rw [(e 0 (by omega)).1, (e 0 (by omega)).2, (e 1 (by omega)).1, (e 1 (by omega)).2, (e 2 (by omega)).1, (e 2 (by omega)).2, (e 3 (by omega)).1, (e 3 (by omega)).2, (e 4 (by omega)).1, (e 4 (by omega)).2, (e 5 (by omega)).1, (e 5 (by omega)).2, (e 6 (by omega)).1, (e 6 (by omega)).2, (e 7 (by omega)).1, (e 7 (by omega)).2]
  simp only [Int.reducePow]
  omega
theorem byts_eq (B : List Int) (hB : OKB B) (j n : Nat) (h : j + n ≤ B.length) : byts (bitB B 0) (8 * j) n = (B.drop j).take n := by
  apply List.ext_getElem?
  intro k
  simp only [byts, List.getElem?_map, List.getElem?_take, List.getElem?_drop]
  by_cases hk : k < n
  · rw [List.getElem?_range hk, if_pos hk, Option.map_some, show 8 * j + 8 * k = 8 * (j + k) by omega, nbt_byte B hB]
    rw [List.getD_eq_getElem?_getD, List.getElem?_eq_getElem (by omega)]; rfl
  · rw [if_neg hk, List.getElem?_eq_none (by simp; omega)]; rfl
section
variable {w0 : World} {H : List Asn} {bf br : Nat} {q : Option Addr} {d m : Nat} {B : List Int} {lim : Nat} {po : Option Addr} {co : Nat} {o : List Int}
set_option maxHeartbeats 2000000 in
theorem Sto_c (hK : InfK m B lim) (a : Nat) (ha : a ≤ 8 * m) (ho : o.length ≤ lim) (w : World) (hw : St w0 (infL bf br q d m B lim a po co o H) w) :
    Calls Tryz.prog 206 #[.pointer (some ⟨bf, 0, none⟩)] w fun e w' => resP (stoF (bitB B 0) (8 * m) lim a o) (fun r => e = .panicked (FLT r) ∧ St w0 H w')
      (fun a' o' => a' ≤ 8 * m ∧ o'.length ≤ lim ∧ e = .returned (.tuple #[]) ∧ ∃ po co, St w0 (infL bf br q d m B lim a' po co o' H) w') := by
  have hl := hK.hl
  have hm1 := hK.hm1
  have hu := upto8_le ha
  have hu8 := upto8_8 a
  refine enter (vs := [.pointer (some ⟨bf, 0, none⟩)]) Tryz.func206 rfl rfl rfl hw ?_
  repeat (refine sx ?_; try intro _)
  refine JO_call Tryz.call229 rfl rfl fun w hw => (Align_c br _ a (by omega) w hw).mono ?_
  rintro e w' ⟨rfl, hw'⟩
  refine ⟨_, rfl, _, hw', ?_⟩
  clear hw' hw w w'
  have hS : ∀ r, stoF (bitB B 0) (8 * m) lim a o = r → stoF (bitB B 0) (8 * m) lim a o = r := fun _ h => h
  unfold stoF at hS ⊢
  generalize upto8 a = u at *
  have huu : upto8 (u + 32) = u + 32 := by unfold upto8; omega
  obtain ⟨n, hn⟩ := Int.eq_ofNat_of_zero_le (nbt_bd (bitB B 0) (bitB_01 B 0) u 16).1
  have hn1 := (nbt_bd (bitB B 0) (bitB_01 B 0) u 16).2
  obtain ⟨x, hx⟩ := Int.eq_ofNat_of_zero_le (nbt_bd (bitB B 0) (bitB_01 B 0) (u + 16) 16).1
  have hx1 := (nbt_bd (bitB B 0) (bitB_01 B 0) (u + 16) 16).2
  have hp16 : (2 : Int) ^ 16 = 65536 := by decide
  rw [hn, hp16] at hn1
  rw [hx, hp16] at hx1
  rw [hn, hx]
  repeat (refine sx ?_; try intro _)
  refine JO_callE Tryz.func206 Tryz.call209 rfl rfl fun A hA w hw => (Grp_c hK u 16 (by omega) (by omega) w hw).mono ?_
  rintro e w' (⟨h, rfl, hw'⟩ | ⟨h1, he, hw'⟩)
  · refine .inr ⟨_, rfl, ?_⟩
    show resP _ _ _
    rw [if_pos h]; exact ⟨rfl, hw'⟩
  rw [hn] at he; subst he
  refine .inl ⟨_, rfl, _, hw', ?_⟩
  clear hw' hw w w' hA A
  rw [if_neg (by omega)]
  repeat (refine sx ?_; try intro _)
  refine JO_callE Tryz.func206 Tryz.call209 rfl rfl fun A hA w hw => (Grp_c hK (u + 16) 16 (by omega) (by omega) w hw).mono ?_
  rintro e w' (⟨h, rfl, hw'⟩ | ⟨h2, he, hw'⟩)
  · refine .inr ⟨_, rfl, ?_⟩
    show resP _ _ _
    rw [if_pos (by omega)]; exact ⟨rfl, hw'⟩
  rw [hx] at he; subst he
  refine .inl ⟨_, rfl, _, hw', ?_⟩
  clear hw' hw w w' hA A
  rw [if_neg (by omega)]
  have hxor := xor16_i64 (a := (n : Int)) ⟨by omega, hn1⟩
  by_cases h3 : (n : Int) + x ≠ 65535
  · repeat (first | (apply gJO; refine JO_v (V_xor rfl rfl hxor rfl) ?_) | (refine sx ?_; try intro _))
    refine JO_callE Tryz.func206 Tryz.call210 rfl rfl fun A hA w hw => (Give_c 61 w hw).mono ?_
    rintro e w' (⟨h, rfl, hw'⟩ | ⟨_, rfl, hw'⟩)
    · exact absurd h (by decide)
    · refine .inr ⟨_, rfl, ?_⟩
      show resP _ _ _
      rw [if_pos h3]; exact ⟨rfl, infL_drop hw'⟩
  rw [if_neg h3]
  have h3' : (n : Int) + x = 65535 := by omega
  by_cases h4 : (lim : Int) - o.length < n
  · repeat (first | (apply gJO; refine JO_v (V_xor rfl rfl hxor rfl) ?_) | (refine sx ?_; try intro _))
    refine JO_callE Tryz.func206 Tryz.call210 rfl rfl fun A hA w hw => (Give_c 64 w hw).mono ?_
    rintro e w' (⟨h, rfl, hw'⟩ | ⟨_, rfl, hw'⟩)
    · exact absurd h (by decide)
    · refine .inr ⟨_, rfl, ?_⟩
      show resP _ _ _
      rw [if_pos h4]; exact ⟨rfl, infL_drop hw'⟩
  rw [if_neg h4]
  repeat (first | (apply gJO; refine JO_v (V_xor rfl rfl hxor rfl) ?_) | (refine sx ?_; try intro _))
  refine JO_call Tryz.call230 rfl rfl fun w hw => (Text_c br q d m B (vec_rd (by repeat (first | apply List.Mem.head | apply List.Mem.tail))) hK.hm hK.hB hK.hm1 (u + 16 + 16) n (by omega) (by omega) w hw).mono ?_
  rw [show u + 16 + 16 = u + 32 by omega, huu]
  rintro e w' (⟨h5, rfl, hw'⟩ | ⟨h5, p, c, rfl, hw'⟩)
  · refine ⟨_, rfl, _, hw', ?_⟩
    clear hw' hw w w'
    repeat (refine sx ?_; try intro _)
    refine JO_callE Tryz.func206 Tryz.call210 rfl rfl fun A hA w hw => (Give_c 20 w hw).mono ?_
    rintro e w' (⟨h, rfl, hw'⟩ | ⟨_, rfl, hw'⟩)
    · exact absurd h (by decide)
    · refine .inr ⟨_, rfl, ?_⟩
      show resP _ _ _
      rw [if_pos (by omega)]; exact ⟨rfl, infL_drop hw'⟩
  refine ⟨_, rfl, _, hw', ?_⟩
  clear hw' hw w w'
  have hby := byts_eq B hK.hB ((u + 32) / 8) n (by rw [hK.hm]; omega)
  rw [show 8 * ((u + 32) / 8) = u + 32 by omega] at hby
  rw [← hby]
  rw [if_neg (by omega), Int.toNat_natCast]
  repeat (refine sx ?_; try intro _)
  refine JO_callE Tryz.func206 Tryz.call210 rfl rfl fun A hA w hw => (Give_c 0 w hw).mono ?_
  rintro e w' (⟨_, rfl, hw'⟩ | ⟨h, rfl, hw'⟩)
  rotate_left
  · exact absurd rfl h
  refine .inl ⟨_, rfl, _, hw', ?_⟩
  clear hw' hw w w' hA A
  repeat (refine sx ?_; try intro _)
  refine JO_callE Tryz.func206 Tryz.call231 rfl rfl fun A hA w hw => (Tell_c hK (u + 32 + 8 * n) p c n _ (vec_rd (List.Mem.head _)) (byts_len _ _ _) ho (by omega) w (infL_in hw)).mono ?_
  rintro e w' (⟨h, rfl, hw'⟩ | ⟨_, rfl, p', c', hw'⟩)
  · exact absurd h h4
  refine .inl ⟨_, rfl, _, hw', ?_⟩
  clear hw' hw w w' hA A
  repeat (refine sx ?_; try intro _)
  refine JS_fin Tryz.func206 rfl rfl ?_
  intro w hw
  refine ⟨h5, ?_, rfl, p', c', infL_out hw⟩
  rw [List.length_append, byts_len]; omega
theorem MakeS_c (p : Option Addr) (c m : Nat) (B : List Int) (hr : Rd w0 H (.slice p m c) m (ints .u8 B)) (hm : B.length = m) (hB : OKB B) (hm1 : m ≤ 140737488355328) (hpm : p = none → m = 0) (w : World) (hw : St w0 H w) :
    Calls Tryz.prog 214 #[.slice p m c] w fun e w' => ∃ u r, e = .returned (.tuple #[u, .int .i64 r]) ∧
      ((BADL B r ∧ u = .pointer none ∧ St w0 H w') ∨ (OKL B ∧ r = 0 ∧ ∃ b a1 a2 a3, u = .pointer (some ⟨b, 0, none⟩) ∧ IsSet w0 [a1, a2, a3] b B ∧ St w0 (a1 :: a2 :: a3 :: H) w')) := by
  refine (Make_c p c m B hr hm hB hm1 hpm w hw).mono ?_
  rintro e w' ⟨u, r, rfl, h⟩
  refine ⟨u, r, rfl, ?_⟩
  subst hm
  rcases h with ⟨h1, rfl, rfl, h2⟩ | ⟨h1, h15, h2, rfl, rfl, h3⟩ | ⟨h1, h15, h2, rfl, b, q, d, s, k, rfl, h3⟩
  · exact .inl ⟨.inl ⟨h1, rfl⟩, rfl, h2⟩
  · exact .inl ⟨.inr ⟨h1, h15, fun h => h2 ((fine_iff B hB h15).2 h), rfl⟩, rfl, h3⟩
  · refine .inr ⟨⟨h1, h15, (fine_iff B hB h15).1 h2⟩, rfl, b, _, _, _, rfl, ⟨⟨q, d, s, k, (by repeat (first | apply List.Mem.head | apply List.Mem.tail)), vec_rd (by repeat (first | apply List.Mem.head | apply List.Mem.tail)), vec_rd (by repeat (first | apply List.Mem.head | apply List.Mem.tail))⟩, hB, ⟨h1, h15, (fine_iff B hB h15).1 h2⟩⟩, h3⟩
theorem Made_c (p : Option Addr) (c n : Nat) (L : List Int) (hr : Rd w0 H (.slice p n c) n (ints .u8 L)) (hL : L.length = n) (hB : OKB L) (hn : n ≤ 140737488355328) (w : World) (hw : St w0 H w) :
    Calls Tryz.prog 233 #[.slice p n c] w fun e w' => (¬ OKL L ∧ e = .panicked (FLT 62) ∧ St w0 H w') ∨ (OKL L ∧ ∃ b a1 a2 a3, e = .returned (.pointer (some ⟨b, 0, none⟩)) ∧ IsSet w0 [a1, a2, a3] b L ∧ St w0 (a1 :: a2 :: a3 :: H) w') := by
  refine enter (vs := [.slice p n c]) Tryz.func233 rfl rfl rfl hw ?_
  repeat (refine sx ?_; try intro _)
  refine JO_call Tryz.call214 rfl rfl fun w hw => (MakeS_c p c n L hr hL hB hn (hr.nil hw) w hw).mono ?_
  rintro e w' ⟨u, r, rfl, h⟩
  rcases h with ⟨hbad, rfl, hw'⟩ | ⟨hok, rfl, b, a1, a2, a3, rfl, hs, hw'⟩
  · refine ⟨_, rfl, _, hw', ?_⟩
    clear hw' hw w w'
    have hr0 := hbad.pos
    repeat (refine sx ?_; try intro _)
    refine JO_callE Tryz.func233 Tryz.call210 rfl rfl fun A hA w hw => (Give_c 62 w hw).mono ?_
    rintro e w' (⟨h, rfl, hw'⟩ | ⟨_, rfl, hw'⟩)
    · exact absurd h (by decide)
    · exact .inr ⟨_, rfl, .inl ⟨hbad.not, rfl, hw'⟩⟩
  · refine ⟨_, rfl, _, hw', ?_⟩
    clear hw' hw w w'
    repeat (refine sx ?_; try intro _)
    refine JS_ret Tryz.func233 rfl rfl ?_
    intro w hw
    exact .inr ⟨hok, b, a1, a2, a3, rfl, hs, hw⟩
set_option maxRecDepth 10000 in
set_option maxHeartbeats 4000000 in
theorem Again_c (hK : InfK m B lim) (a len bk : Nat) (hbk : 0 < bk) (ho : o.length ≤ lim) (hlen : len ≤ 1000) (hbk2 : bk ≤ 100000) (w : World) (hw : St w0 (infL bf br q d m B lim a po co o H) w) :
    Calls Tryz.prog 248 #[.pointer (some ⟨bf, 0, none⟩), .int .i64 len, .int .i64 bk] w fun e w' => (o.length < bk ∧ e = .panicked (FLT 63) ∧ St w0 H w') ∨ (bk ≤ o.length ∧ (lim : Int) - o.length < len ∧ e = .panicked (FLT 64) ∧ St w0 H w') ∨
      (bk ≤ o.length ∧ ¬ (lim : Int) - o.length < len ∧ e = .returned (.tuple #[]) ∧ ∃ po co, St w0 (infL bf br q d m B lim a po co (cpy o bk len) H) w') := by
  have hl := hK.hl
  refine enter (vs := [.pointer (some ⟨bf, 0, none⟩), .int .i64 len, .int .i64 bk]) Tryz.func248 rfl rfl rfl hw ?_
  by_cases h1 : o.length < bk
  · repeat (refine sx ?_; try intro _)
    refine JO_callE Tryz.func248 Tryz.call210 rfl rfl fun A hA w hw => (Give_c 63 w hw).mono ?_
    rintro e w' (⟨h, rfl, hw'⟩ | ⟨_, rfl, hw'⟩)
    · exact absurd h (by decide)
    · exact .inr ⟨_, rfl, .inl ⟨h1, rfl, infL_drop hw'⟩⟩
  by_cases h2 : (lim : Int) - o.length < len
  · repeat (refine sx ?_; try intro _)
    refine JO_callE Tryz.func248 Tryz.call210 rfl rfl fun A hA w hw => (Give_c 64 w hw).mono ?_
    rintro e w' (⟨h, rfl, hw'⟩ | ⟨_, rfl, hw'⟩)
    · exact absurd h (by decide)
    · exact .inr ⟨_, rfl, .inr (.inl ⟨by omega, h2, rfl, infL_drop hw'⟩)⟩
  repeat (first | (apply gJR; (refine sx ?_; try intro _)) | (apply gJO; (refine sx ?_; try intro _)) | (apply gQR; (refine sx ?_; try intro _)) | (apply gQO; (refine sx ?_; try intro _)) | apply JS_seq | apply JS_region | refine JS_draw [] (by kernel_rfl) (by kernel_rfl) (by decide +kernel) ?_ | refine JS_condF rfl ?_ | refine JS_cond_F rfl (by omega) ?_ | apply JS_skip)
  refine JS_block ?_
  refine JS_loop3 (fun (i : Nat) (p : Option Addr) (c : Nat) => [(0, .pointer (some ⟨bf, 0, none⟩)), (2, .int .i64 bk), (27, .int .i64 len), (28, .int .i64 i)]) (fun i p c => infL bf br q d m B lim a p c (cpy o bk i) H)
    (fun i _ _ => i ≤ len) (fun i _ _ => len - i) 0 po co (Nat.zero_le _) (by repeat (first | exact trivial | refine ⟨rfl, ?_⟩ | refine ⟨lookI rfl (by omega), ?_⟩)) (fun _ h => h) ?_
  intro i p c hi again
  have hcl := cpy_len o bk i
  by_cases hil : i < len
  · have hcs : cpy o bk (i + 1) = cpy o bk i ++ [(cpy o bk i).getD ((cpy o bk i).length - bk) 0] := rfl
    generalize cpy o bk i = L at *
    have gi : (ints .u8 L)[L.length - bk]? = some (.int .u8 (L.getD (L.length - bk) 0)) := ints_get (by omega)
    generalize L.getD (L.length - bk) 0 = x at *
    repeat (first | (apply gQO; first | refine QO_v rfl (V_index (tb := tb) (j := L.length - bk) rfl rfl rfl rfl (Rd.sl (vec_rd (by repeat (first | apply List.Mem.head | apply List.Mem.tail)))) (by omega) (by omega) rfl) ?_ | refine QO_v rfl (V_loadC (tb := tb) rfl (vec_rd (by repeat (first | apply List.Mem.head | apply List.Mem.tail))) rfl rfl gi rfl) ?_ | (refine QO_e (E_buildSlice (tb := tb) rfl rfl rfl rfl rfl rfl rfl rfl rfl) rfl (.inr fun _ _ hw => dS hw) ?_; intro _) | (refine QO_e (E_appendB (tb := tb) rfl rfl rfl rfl rfl rfl (by repeat (first | exact Sel.here _ _ | apply Sel.there)) (by first | exact vec_rd (by repeat (first | apply List.Mem.head | apply List.Mem.tail)) | assumption | exact ArgRd.rd (by assumption) _ | (apply Rd_weak; assumption; intro _ hx; exact dS hx)) (by simp only [ints_len, List.length_cons, List.length_nil]; first | omega | rfl) (by first | exact ints_one | (repeat (first | exact trivial | refine ⟨rfl, ?_⟩))) (by omega) (by omega) rfl) rfl (.inr fun _ _ hw => vecB_back (by repeat (first | exact Sel.here _ _ | apply Sel.there)) hw) ?_; intro _)) | (refine sx ?_; try intro _))
    rename_i p1 c1
    exact JS_again3 again (i + 1) c1.1 c1.2 (by omega) (by omega) (by exact ⟨rfl, rfl, rfl, rfl, trivial⟩) (fun w hw => by rw [hcs]; unfold infL; rw [show (L ++ [x]).length = L.length + 1 by simp, ← ints_app1]; have g := vecB_fwd (by repeat (first | exact Sel.here _ _ | apply Sel.there)) hw; exact dS g)
  · obtain rfl : i = len := by omega
    clear again
    repeat (refine sx ?_; try intro _)
    refine JS_fin Tryz.func248 rfl rfl ?_
    intro w hw
    exact .inr (.inr ⟨by omega, h2, rfl, p, c, hw⟩)
end
end Go.Proofs.YteelffkghidpfaaGreat

namespace Go.Proofs.YteelffkghidpfaaGreat
open Sx Go
set_option linter.unusedVariables false
set_option linter.unusedSimpArgs false
set_option maxRecDepth 100000
attribute [local irreducible] syA fc tk cds pack bms
set_option maxHeartbeats 2000000 in
theorem WLit_c {w0 : World} {H : List Asn} (b : Nat) (L : List Int) (q : Option Addr) (d : Nat) (u : Value) (u' : Value) (p1 p3 : Option Addr) (c1 c3 m1 : Nat) (B A : List Int) (hrB : Rd w0 H (.slice p1 m1 c1) m1 (ints .u8 B)) (hrA : Rd w0 H (.slice p3 m1 c3) m1 (ints .u32 A)) (hB : B.length = m1) (hA : A.length = m1)
    (k x : Nat) (hk : k < m1) (hx : B.getD k 0 = x) (hx15 : x ≤ 15) (hAk : 0 ≤ A.getD k 0 ∧ A.getD k 0 < 2 ^ x) (hL : ∀ j, L.getD j 0 = 0 ∨ L.getD j 0 = 1) (hl : L.length ≤ 70368744177600) (w : World)
    (hw : St w0 (wtA b L q d [.slice p1 m1 c1, u, .slice p3 m1 c3, u'] :: wrV L q d :: H) w) :
    Calls Tryz.prog 165 #[.pointer (some ⟨b, 0, none⟩), .int .i64 k] w fun e w' => e = .returned (.tuple #[]) ∧ ∃ q d, St w0 (wtA b (L ++ bms (A.getD k 0) x) q d [.slice p1 m1 c1, u, .slice p3 m1 c3, u'] :: wrV (L ++ bms (A.getD k 0) x) q d :: H) w' := by
  refine enter (vs := [.pointer (some ⟨b, 0, none⟩), .int .i64 k]) Tryz.func165 rfl rfl rfl hw ?_
  have gB : (ints .u8 B)[k]? = some (.int .u8 x) := by rw [← hx]; exact ints_get (by omega)
  have gA : (ints .u32 A)[k]? = some (.int .u32 (A.getD k 0)) := ints_get (by omega)
  have hrB' : Rd w0 (wtA b L q d [.slice p1 m1 c1, u, .slice p3 m1 c3, u'] :: wrV L q d :: H) (.slice p1 m1 c1) m1 (ints .u8 B) := Rd_weak hrB fun w hw => dS hw
  have hrA' : Rd w0 (wtA b L q d [.slice p1 m1 c1, u, .slice p3 m1 c3, u'] :: wrV L q d :: H) (.slice p3 m1 c3) m1 (ints .u32 A) := Rd_weak hrA fun w hw => dS hw
  have hpw : (2 : Int) ^ x ≤ 32768 := by
    have h : ∀ k : Fin 16, (2 : Int) ^ k.val ≤ 32768 := by decide
    exact h ⟨x, by omega⟩
  repeat (first | (apply gQO; refine QO_v rfl (V_loadC (tb := tb) rfl hrB' rfl rfl gB rfl) ?_) | (apply gQO; refine QO_v rfl (V_loadC (tb := tb) rfl hrA' rfl rfl gA rfl) ?_) | (refine sx ?_; try intro _))
  refine QO_call Tryz.call223 rfl rfl fun w hw => (WCodeT_c b L q d (A.getD k 0) x (by omega) hAk (by omega) hL hl w hw).mono ?_
  rintro e w' ⟨rfl, q2, d2, hw'⟩
  refine ⟨_, rfl, _, hw', .inr rfl, ?_⟩
  clear hw' hw w w'
  repeat (refine sx ?_; try intro _)
  refine JS_fin Tryz.func165 rfl rfl (vs := []) ?_
  intro w hw
  exact ⟨rfl, q2, d2, hw⟩
set_option maxHeartbeats 2000000 in
theorem WSpan_c {w0 : World} {H : List Asn} (b : Nat) (L : List Int) (q : Option Addr) (d : Nat) (u : Value) (u' : Value) (p1 p3 : Option Addr) (c1 c3 m1 : Nat) (B A : List Int) (hrB : Rd w0 H (.slice p1 m1 c1) m1 (ints .u8 B)) (hrA : Rd w0 H (.slice p3 m1 c3) m1 (ints .u32 A)) (hB : B.length = m1) (hA : A.length = m1)
    (k x : Nat) (hk : k < m1) (hx : B.getD k 0 = x) (hx15 : x ≤ 15) (hAk : 0 ≤ A.getD k 0 ∧ A.getD k 0 < 2 ^ x) (hL : ∀ j, L.getD j 0 = 0 ∨ L.getD j 0 = 1) (hl : L.length ≤ 70368744177600) (w : World)
    (hw : St w0 (wtA b L q d [u, .slice p1 m1 c1, u', .slice p3 m1 c3] :: wrV L q d :: H) w) :
    Calls Tryz.prog 222 #[.pointer (some ⟨b, 0, none⟩), .int .i64 k] w fun e w' => e = .returned (.tuple #[]) ∧ ∃ q d, St w0 (wtA b (L ++ bms (A.getD k 0) x) q d [u, .slice p1 m1 c1, u', .slice p3 m1 c3] :: wrV (L ++ bms (A.getD k 0) x) q d :: H) w' := by
  refine enter (vs := [.pointer (some ⟨b, 0, none⟩), .int .i64 k]) Tryz.func222 rfl rfl rfl hw ?_
  have gB : (ints .u8 B)[k]? = some (.int .u8 x) := by rw [← hx]; exact ints_get (by omega)
  have gA : (ints .u32 A)[k]? = some (.int .u32 (A.getD k 0)) := ints_get (by omega)
  have hrB' : Rd w0 (wtA b L q d [u, .slice p1 m1 c1, u', .slice p3 m1 c3] :: wrV L q d :: H) (.slice p1 m1 c1) m1 (ints .u8 B) := Rd_weak hrB fun w hw => dS hw
  have hrA' : Rd w0 (wtA b L q d [u, .slice p1 m1 c1, u', .slice p3 m1 c3] :: wrV L q d :: H) (.slice p3 m1 c3) m1 (ints .u32 A) := Rd_weak hrA fun w hw => dS hw
  have hpw : (2 : Int) ^ x ≤ 32768 := by
    have h : ∀ k : Fin 16, (2 : Int) ^ k.val ≤ 32768 := by decide
    exact h ⟨x, by omega⟩
  repeat (first | (apply gQO; refine QO_v rfl (V_loadC (tb := tb) rfl hrB' rfl rfl gB rfl) ?_) | (apply gQO; refine QO_v rfl (V_loadC (tb := tb) rfl hrA' rfl rfl gA rfl) ?_) | (refine sx ?_; try intro _))
  refine QO_call Tryz.call223 rfl rfl fun w hw => (WCodeT_c b L q d (A.getD k 0) x (by omega) hAk (by omega) hL hl w hw).mono ?_
  rintro e w' ⟨rfl, q2, d2, hw'⟩
  refine ⟨_, rfl, _, hw', .inr rfl, ?_⟩
  clear hw' hw w w'
  repeat (refine sx ?_; try intro _)
  refine JS_fin Tryz.func222 rfl rfl (vs := []) ?_
  intro w hw
  exact ⟨rfl, q2, d2, hw⟩

theorem FCodes_c {w0 : World} {H : List Asn} (p : Option Addr) (c m : Nat) (B : List Int) (hr : Rd w0 H (.slice p m c) m (ints .u8 B)) (hm : B.length = m) (hB : OKB B) (hok : OKL B) (hpm : p = none → m = 0) (w : World) (hw : St w0 H w) :
    Calls Tryz.prog 161 #[.slice p m c] w fun e w' => ∃ p c, e = .returned (.slice p m c) ∧ St w0 (vec 31 1 (.slice p m c) m (ints .u32 (cds B 16 0)) :: H) w' := by
  have h320 := hok.1
  refine enter (vs := [.slice p m c]) Tryz.func161 rfl rfl rfl hw ?_
  repeat (refine sx ?_; try intro _)
  refine JO_call Tryz.call214 rfl rfl fun w hw => (MakeS_c p c m B hr hm hB (by omega) hpm w hw).mono ?_
  rintro e w' ⟨u, r, rfl, ⟨h, _⟩ | ⟨_, rfl, b, a1, a2, a3, rfl, hs, hw'⟩⟩
  · exact absurd hok h.not
  refine ⟨_, rfl, _, hw', ?_⟩
  clear hw' hw w w'
  repeat (refine sx ?_; try intro _)
  refine JO_call Tryz.call215 rfl rfl fun w hw => (Codes2_c b m B hm (hs.sub ((((List.nil_sublist H).cons_cons a3).cons_cons a2).cons_cons a1)) w hw).mono ?_
  rintro e w' ⟨p2, c2, rfl, hw'⟩
  refine ⟨_, rfl, _, hw', ?_⟩
  clear hw' hw w w'
  repeat (refine sx ?_; try intro _)
  refine JS_ret Tryz.func161 rfl rfl ?_
  intro w hw
  exact ⟨_, _, rfl, dS hw⟩
end Go.Proofs.YteelffkghidpfaaGreat

namespace Go.Proofs.YteelffkghidpfaaGreat
open Sx Go
set_option linter.unusedVariables false
set_option linter.unusedSimpArgs false
set_option maxRecDepth 100000
def fxB : List Int := tab 288 fixF
def fxC : List Int := cds fxB 16 0
def spB : List Int := List.replicate 32 5
def spC : List Int := cds spB 16 0
theorem fxB_len : fxB.length = 288 := tab_len _ _
theorem fxC_len : fxC.length = 288 := (cds_len _ _ _).trans fxB_len
theorem spB_len : spB.length = 32 := List.length_replicate
theorem spC_len : spC.length = 32 := (cds_len _ _ _).trans spB_len
theorem fxB_get (k : Nat) (hk : k < 288) : fxB.getD k 0 = fixF k := by
  unfold fxB tab
  rw [List.getD_eq_getElem?_getD, List.getElem?_map, List.getElem?_range hk]; rfl
theorem fx_at (k : Nat) (hk : k < 288) : ∃ x : Nat, fxB.getD k 0 = x ∧ 7 ≤ x ∧ x ≤ 9 ∧ 0 ≤ fxC.getD k 0 ∧ fxC.getD k 0 < 2 ^ x := by
  have hg := fxB_get k hk
  obtain ⟨x, hx, h7, h9⟩ : ∃ x : Nat, fixF k = x ∧ 7 ≤ x ∧ x ≤ 9 := by
    unfold fixF
    split
    · exact ⟨8, rfl, by omega, by omega⟩
    · split
      · exact ⟨9, rfl, by omega, by omega⟩
      · split
        · exact ⟨7, rfl, by omega, by omega⟩
        · exact ⟨8, rfl, by omega, by omega⟩
  rw [hx] at hg
  have h := cd_lt fxB fix_okb fix_okl k x (by rw [fxB_len]; exact hk) (by omega) hg
  have hc : fxC.getD k 0 = cd fxB k := by
    unfold fxC
    rw [cds_get fxB fix_okl.2.1 k (by rw [fxB_len]; exact hk), if_pos (by omega)]
  exact ⟨x, hg, h7, h9, by rw [hc]; exact h.1, by rw [hc]; exact h.2⟩
theorem sp_at (k : Nat) (hk : k < 32) : spB.getD k 0 = (5 : Nat) ∧ 0 ≤ spC.getD k 0 ∧ spC.getD k 0 < 2 ^ 5 := by
  have hg : spB.getD k 0 = (5 : Nat) := by
    unfold spB
    rw [List.getD_eq_getElem?_getD, List.getElem?_replicate, if_pos hk]; rfl
  have h := cd_lt spB spans_okb spans_okl k 5 (by rw [spB_len]; exact hk) (by omega) hg
  have hc : spC.getD k 0 = cd spB k := by
    unfold spC
    rw [cds_get spB spans_okl.2.1 k (by rw [spB_len]; exact hk), if_pos (by omega)]
  exact ⟨hg, by rw [hc]; exact h.1, by rw [hc]; exact h.2⟩
attribute [irreducible] fxB fxC spB spC
def fxS (k : Nat) : List Int := bms (fxC.getD k 0) (fxB.getD k 0).toNat
def spS (k : Nat) : List Int := bms (spC.getD k 0) 5
theorem fxS_len (k : Nat) (hk : k < 288) : 7 ≤ (fxS k).length ∧ (fxS k).length ≤ 9 := by
  obtain ⟨x, h1, h2, h3, _⟩ := fx_at k hk
  unfold fxS bms
  rw [h1, List.length_map, List.length_range]; omega
abbrev fwL (b : Nat) (L : List Int) (q : Option Addr) (d : Nat) (pl ps pa pb : Option Addr) (cl cs ca cb : Nat) (H : List Asn) : List Asn :=
  wtA b L q d [.slice pl 288 cl, .slice ps 32 cs, .slice pa 288 ca, .slice pb 32 cb] :: wrV L q d :: vec 5 1 (.slice pl 288 cl) 288 (ints .u8 fxB) :: vec 5 1 (.slice ps 32 cs) 32 (ints .u8 spB) ::
    vec 31 1 (.slice pa 288 ca) 288 (ints .u32 fxC) :: vec 31 1 (.slice pb 32 cb) 32 (ints .u32 spC) :: H
section
variable {w0 : World} {H : List Asn} {b : Nat} {L : List Int} {q : Option Addr} {d : Nat} {pl ps pa pb : Option Addr} {cl cs ca cb : Nat}
theorem FLit_c (k : Nat) (hk : k < 288) (hL : ∀ j, L.getD j 0 = 0 ∨ L.getD j 0 = 1) (hl : L.length ≤ 70368744177600) (w : World) (hw : St w0 (fwL b L q d pl ps pa pb cl cs ca cb H) w) :
    Calls Tryz.prog 165 #[.pointer (some ⟨b, 0, none⟩), .int .i64 k] w fun e w' => e = .returned (.tuple #[]) ∧ ∃ q d, St w0 (fwL b (L ++ fxS k) q d pl ps pa pb cl cs ca cb H) w' := by
  obtain ⟨x, h1, h7, h9, hc⟩ := fx_at k hk
  unfold fxS
  rw [h1, Int.toNat_natCast]
  exact WLit_c b L q d _ _ pl pa cl ca 288 fxB fxC (vec_rd (by repeat (first | apply List.Mem.head | apply List.Mem.tail))) (vec_rd (by repeat (first | apply List.Mem.head | apply List.Mem.tail))) fxB_len fxC_len k x hk h1 (by omega) hc hL hl w hw
theorem FSpan_c (k : Nat) (hk : k < 32) (hL : ∀ j, L.getD j 0 = 0 ∨ L.getD j 0 = 1) (hl : L.length ≤ 70368744177600) (w : World) (hw : St w0 (fwL b L q d pl ps pa pb cl cs ca cb H) w) :
    Calls Tryz.prog 222 #[.pointer (some ⟨b, 0, none⟩), .int .i64 k] w fun e w' => e = .returned (.tuple #[]) ∧ ∃ q d, St w0 (fwL b (L ++ spS k) q d pl ps pa pb cl cs ca cb H) w' := by
  obtain ⟨h1, hc⟩ := sp_at k hk
  unfold spS
  exact WSpan_c b L q d _ _ ps pb cs cb 32 spB spC (vec_rd (by repeat (first | apply List.Mem.head | apply List.Mem.tail))) (vec_rd (by repeat (first | apply List.Mem.head | apply List.Mem.tail))) spB_len spC_len k 5 hk h1 (by omega) hc hL hl w hw
theorem Tok0_c (x : Nat) (hx : x < 256) (hL : ∀ j, L.getD j 0 = 0 ∨ L.getD j 0 = 1) (hl : L.length ≤ 70368744177600) (w : World) (hw : St w0 (fwL b L q d pl ps pa pb cl cs ca cb H) w) :
    Calls Tryz.prog 164 #[.pointer (some ⟨b, 0, none⟩), .agg #[.int .u8 x, .int .i64 0, .int .i64 0]] w fun e w' => e = .returned (.tuple #[]) ∧ ∃ q d, St w0 (fwL b (L ++ fxS x) q d pl ps pa pb cl cs ca cb H) w' := by
  refine enter (vs := [.pointer (some ⟨b, 0, none⟩), .agg #[.int .u8 x, .int .i64 0, .int .i64 0]]) Tryz.func164 rfl rfl rfl hw ?_
  repeat (refine sx ?_; try intro _)
  rename_i bx
  refine JO_call Tryz.call165 rfl rfl fun w hw => (FLit_c x (by omega) hL hl w hw.drop).mono ?_
  rintro e w' ⟨rfl, q2, d2, hw'⟩
  refine ⟨_, rfl, _, hw', ?_⟩
  clear hw' hw w w'
  repeat (refine sx ?_; try intro _)
  refine JS_ret Tryz.func164 rfl rfl fun w hw => ⟨rfl, q2, d2, hw⟩
end
end Go.Proofs.YteelffkghidpfaaGreat

set_option linter.unusedVariables false
set_option linter.unusedSimpArgs false
set_option maxRecDepth 100000
namespace Go.Proofs.YteelffkghidpfaaGreat
open Sx Go
def sam (B : List Int) (i k : Nat) : Nat → Nat
  | 0 => 0
  | f + 1 => if k < B.length ∧ B.getD i 0 = B.getD k 0 then 1 + sam B (i + 1) (k + 1) f else 0
theorem sam_le (B : List Int) : ∀ (f i k : Nat), sam B i k f ≤ f
  | 0, _, _ => Nat.le_refl _
  | f + 1, i, k => by
    rw [sam]
    split
    · have := sam_le B f (i + 1) (k + 1); omega
    · omega
theorem sam_len (B : List Int) : ∀ (f i k : Nat), k ≤ B.length → k + sam B i k f ≤ B.length
  | 0, _, _, h => h
  | f + 1, i, k, h => by
    rw [sam]
    split
    · rename_i hc
      have := sam_len B f (i + 1) (k + 1) (by omega); omega
    · omega
def bst (B : List Int) (at_ : Nat) : Nat → Nat × Nat → Nat × Nat
  | 0, s => s
  | i + 1, s => if 32768 < at_ - i then s else bst B at_ i (if s.1 < sam B i at_ 258 then (sam B i at_ 258, at_ - i) else s)
def pst (B : List Int) (at_ : Nat) : List Nat → Nat × Nat → Nat × Nat
  | [], s => s
  | i :: r, s => if 32768 < at_ - i then s else if (if s.1 < sam B i at_ 258 then (sam B i at_ 258, at_ - i) else s).1 = 258 then (if s.1 < sam B i at_ 258 then (sam B i at_ 258, at_ - i) else s) else pst B at_ r (if s.1 < sam B i at_ 258 then (sam B i at_ 258, at_ - i) else s)
abbrev K3 := Int × Int × Int
def k3 (B : List Int) (i : Nat) : K3 := (B.getD i 0, B.getD (i + 1) 0, B.getD (i + 2) 0)
theorem sam_3 (B : List Int) (i k f : Nat) (hk : k + 3 ≤ B.length) : 3 ≤ sam B i k (f + 3) ↔ k3 B i = k3 B k := by
  rw [sam, sam, sam]
  unfold k3
  simp only [Prod.mk.injEq]
  by_cases h0 : B.getD i 0 = B.getD k 0
  · rw [if_pos ⟨by omega, h0⟩]
    by_cases h1 : B.getD (i + 1) 0 = B.getD (k + 1) 0
    · rw [if_pos ⟨by omega, h1⟩]
      by_cases h2 : B.getD (i + 1 + 1) 0 = B.getD (k + 1 + 1) 0
      · rw [if_pos ⟨by omega, h2⟩]
        exact ⟨fun _ => ⟨h0, h1, h2⟩, fun _ => by omega⟩
      · rw [if_neg (fun h => h2 h.2)]
        exact ⟨fun h => by omega, fun h => absurd h.2.2 h2⟩
    · rw [if_neg (fun h => h1 h.2)]
      exact ⟨fun h => by omega, fun h => absurd h.2.1 h1⟩
  · rw [if_neg (fun h => h0 h.2)]
    exact ⟨fun h => by omega, fun h => absurd h.1 h0⟩
theorem sam_short (B : List Int) (i k f : Nat) (hk : B.length < k + 3) : sam B i k f < 3 := by
  rcases Nat.lt_or_ge B.length k with h | h
  · cases f with
    | zero => simp [sam]
    | succ f => rw [sam, if_neg (by omega)]; omega
  · have := sam_len B f i k h; omega
def plc (B : List Int) (at_ : Nat) (x : K3) : List Nat := (List.range at_).filter fun i => decide (i + 3 ≤ B.length ∧ k3 B i = x)
theorem plc_lt {B : List Int} {at_ : Nat} {x : K3} {i : Nat} (h : i ∈ plc B at_ x) : i < at_ := by
  unfold plc at h; simp at h; exact h.1
theorem plc_0 (B : List Int) (x : K3) : plc B 0 x = [] := rfl
theorem plc_s (B : List Int) (at_ : Nat) (x : K3) : plc B (at_ + 1) x = if at_ + 3 ≤ B.length ∧ k3 B at_ = x then plc B at_ x ++ [at_] else plc B at_ x := by
  unfold plc
  rw [List.range_succ, List.filter_append]
  split
  · rename_i h; rw [List.filter_cons_of_pos (by simpa using h), List.filter_nil]
  · rename_i h; rw [List.filter_cons_of_neg (by simpa using h), List.filter_nil, List.append_nil]
theorem bst_stop (B : List Int) (at_ : Nat) : ∀ (i : Nat) (s : Nat × Nat), s.1 = 258 → bst B at_ i s = s
  | 0, s, h => rfl
  | i + 1, s, h => by
    have hs := sam_le B 258 i at_
    unfold bst
    rw [if_neg (by omega : ¬ s.1 < sam B i at_ 258)]
    split
    · rfl
    · exact bst_stop B at_ i s h
theorem pst_far (B : List Int) (at_ : Nat) : ∀ (l : List Nat) (s : Nat × Nat), (∀ i ∈ l, 32768 < at_ - i) → pst B at_ l s = s
  | [], s, h => rfl
  | i :: r, s, h => by
    unfold pst
    rw [if_pos (h i (by simp))]
theorem bst_pst (B : List Int) (at_ : Nat) (h3 : at_ + 3 ≤ B.length) : ∀ (i : Nat), i ≤ at_ → ∀ s p : Nat × Nat, (s.1 < 3 ∧ p = (0, 0)) ∨ (s = p ∧ 3 ≤ s.1) →
    ((bst B at_ i s).1 < 3 ∧ pst B at_ (plc B i (k3 B at_)).reverse p = (0, 0)) ∨ (bst B at_ i s = pst B at_ (plc B i (k3 B at_)).reverse p ∧ 3 ≤ (bst B at_ i s).1)
  | 0, _, s, p, h => by rw [plc_0]; exact h
  | i + 1, hi, s, p, h => by
    have hl := sam_le B 258 i at_
    have h3i : 3 ≤ sam B i at_ 258 ↔ k3 B i = k3 B at_ := sam_3 B i at_ 255 h3
    have hfar : 32768 < at_ - i → pst B at_ (plc B (i + 1) (k3 B at_)).reverse p = p := fun hf => pst_far B at_ _ _ fun j hj => by
      have := plc_lt (List.mem_reverse.1 hj); omega
    by_cases hf : 32768 < at_ - i
    · rw [hfar hf, bst, if_pos hf]; exact h
    · rw [bst, if_neg hf]
      by_cases hk : k3 B i = k3 B at_
      · have ep : plc B (i + 1) (k3 B at_) = plc B i (k3 B at_) ++ [i] := by rw [plc_s, if_pos ⟨by omega, hk⟩]
        rw [ep, List.reverse_append, List.reverse_singleton, List.singleton_append, pst, if_neg hf]
        have hs3 := h3i.2 hk
        have hsp : (if s.1 < sam B i at_ 258 then (sam B i at_ 258, at_ - i) else s) = (if p.1 < sam B i at_ 258 then (sam B i at_ 258, at_ - i) else p) ∧ 3 ≤ (if s.1 < sam B i at_ 258 then (sam B i at_ 258, at_ - i) else s).1 := by
          rcases h with ⟨h1, rfl⟩ | ⟨rfl, h1⟩
          · rw [if_pos (by omega), if_pos (by show 0 < _; omega)]
            exact ⟨rfl, hs3⟩
          · refine ⟨rfl, ?_⟩
            split <;> first | omega | (show 3 ≤ sam B i at_ 258; omega)
        rw [← hsp.1]
        obtain ⟨u, hu⟩ : ∃ u, (if s.1 < sam B i at_ 258 then (sam B i at_ 258, at_ - i) else s) = u := ⟨_, rfl⟩
        rw [hu] at hsp ⊢
        by_cases h258 : u.1 = 258
        · rw [if_pos h258, bst_stop B at_ i u h258]
          exact .inr ⟨rfl, hsp.2⟩
        · rw [if_neg h258]
          exact bst_pst B at_ h3 i (by omega) u u (.inr ⟨rfl, hsp.2⟩)
      · have ep : plc B (i + 1) (k3 B at_) = plc B i (k3 B at_) := by rw [plc_s, if_neg (fun h => hk h.2)]
        rw [ep]
        have hlt : sam B i at_ 258 < 3 := by
          rcases Nat.lt_or_ge (sam B i at_ 258) 3 with h' | h'
          · exact h'
          · exact absurd (h3i.1 h') hk
        refine bst_pst B at_ h3 i (by omega) _ p ?_
        rcases h with ⟨h1, h2⟩ | ⟨h1, h2⟩
        · left
          refine ⟨?_, h2⟩
          split <;> first | omega | (show sam B i at_ 258 < 3; omega)
        · rw [if_neg (by omega)]
          exact .inr ⟨h1, h2⟩
theorem bst_short (B : List Int) (at_ : Nat) (h3 : B.length < at_ + 3) : ∀ (i : Nat) (s : Nat × Nat), s.1 < 3 → (bst B at_ i s).1 < 3
  | 0, s, h => h
  | i + 1, s, h => by
    have := sam_short B i at_ 258 h3
    unfold bst
    split
    · exact h
    · refine bst_short B at_ h3 i _ ?_
      split <;> first | omega | (show sam B i at_ 258 < 3; omega)
def tok (B : List Int) (at_ : Nat) : Int × Nat × Nat :=
  if (bst B at_ at_ (0, 0)).1 < 3 then (B.getD at_ 0, 0, 0) else (0, (bst B at_ at_ (0, 0)).1, (bst B at_ at_ (0, 0)).2)
theorem tok_far (B : List Int) (at_ : Nat) (h3 : at_ + 3 ≤ B.length) : tok B at_ = if pst B at_ (plc B at_ (k3 B at_)).reverse (0, 0) = (0, 0) then (B.getD at_ 0, 0, 0) else (0, (pst B at_ (plc B at_ (k3 B at_)).reverse (0, 0)).1, (pst B at_ (plc B at_ (k3 B at_)).reverse (0, 0)).2) := by
  unfold tok
  rcases bst_pst B at_ h3 at_ (Nat.le_refl _) (0, 0) (0, 0) (.inl ⟨by decide, rfl⟩) with ⟨h1, h2⟩ | ⟨h1, h2⟩
  · rw [if_pos h1, if_pos h2]
  · rw [if_neg (by omega), ← h1, if_neg (fun h => by rw [h] at h2; simp at h2)]
theorem tok_near (B : List Int) (at_ : Nat) (h3 : B.length < at_ + 3) : tok B at_ = (B.getD at_ 0, 0, 0) := by
  unfold tok
  rw [if_pos (bst_short B at_ h3 at_ (0, 0) (by decide))]
theorem bst_bd (B : List Int) (at_ : Nat) (ha : at_ ≤ B.length) : ∀ (i : Nat), i ≤ at_ → ∀ s : Nat × Nat, (s.1 ≤ 258 ∧ at_ + s.1 ≤ B.length ∧ (0 < s.1 → 0 < s.2 ∧ s.2 ≤ at_ ∧ s.2 ≤ 32768)) →
    (bst B at_ i s).1 ≤ 258 ∧ at_ + (bst B at_ i s).1 ≤ B.length ∧ (0 < (bst B at_ i s).1 → 0 < (bst B at_ i s).2 ∧ (bst B at_ i s).2 ≤ at_ ∧ (bst B at_ i s).2 ≤ 32768)
  | 0, _, s, h => h
  | i + 1, hi, s, h => by
    have h1 := sam_le B 258 i at_
    have h2 := sam_len B 258 i at_ ha
    unfold bst
    split
    · exact h
    · refine bst_bd B at_ ha i (by omega) _ ?_
      split
      · exact ⟨h1, h2, fun _ => by omega⟩
      · exact h
theorem tok_bd (B : List Int) (at_ : Nat) (ha : at_ < B.length) : (tok B at_ = (B.getD at_ 0, 0, 0)) ∨ (∃ n d, tok B at_ = (0, n, d) ∧ 3 ≤ n ∧ n ≤ 258 ∧ at_ + n ≤ B.length ∧ 1 ≤ d ∧ d ≤ at_ ∧ d ≤ 32768) := by
  obtain ⟨h1, h2, h3⟩ := bst_bd B at_ (by omega) at_ (Nat.le_refl _) (0, 0) ⟨by omega, by omega, fun h => absurd h (by simp)⟩
  unfold tok
  split
  · exact .inl rfl
  · exact .inr ⟨_, _, rfl, by omega, h1, h2, by omega, by omega, by omega⟩
def toks (B : List Int) : Nat → Nat → List (Int × Nat × Nat)
  | 0, _ => []
  | f + 1, at_ => if at_ < B.length then tok B at_ :: toks B f (at_ + max 1 (tok B at_).2.1) else []
theorem toks_fuel (B : List Int) : ∀ (f g at_ : Nat), B.length - at_ ≤ f → B.length - at_ ≤ g → toks B f at_ = toks B g at_
  | 0, 0, _, _, _ => rfl
  | 0, g + 1, at_, h, _ => by rw [toks, toks, if_neg (by omega)]
  | f + 1, 0, at_, _, h => by rw [toks, toks, if_neg (by omega)]
  | f + 1, g + 1, at_, hf, hg => by
    rw [toks, toks]
    split
    · rw [toks_fuel B f g _ (by omega) (by omega)]
    · rfl
def tkv (l : List (Int × Nat × Nat)) : List Value := l.flatMap fun t => [.int .u8 t.1, .int .i64 t.2.1, .int .i64 t.2.2]
theorem tkv_app (l : List (Int × Nat × Nat)) (t : Int × Nat × Nat) : tkv (l ++ [t]) = tkv l ++ [.int .u8 t.1, .int .i64 t.2.1, .int .i64 t.2.2] := by
  unfold tkv; simp
theorem tkv_len (l : List (Int × Nat × Nat)) : (tkv l).length = l.length * 3 := by
  unfold tkv
  induction l with
  | nil => rfl
  | cons t l ih => rw [List.flatMap_cons, List.length_append, ih]; simp; omega
end Go.Proofs.YteelffkghidpfaaGreat

set_option linter.unusedVariables false
set_option linter.unusedSimpArgs false
set_option maxRecDepth 100000
namespace Go.Proofs.YteelffkghidpfaaGreat
open Sx Go
section
variable {w0 : World} {H : List Asn}
set_option maxRecDepth 10000 in
set_option maxHeartbeats 2000000 in
theorem Same_c (b : Nat) (u : Value) (p : Option Addr) (c m : Nat) (B : List Int) (hr : Rd w0 H (.slice p m c) m (ints .u8 B)) (hb : blk b [.slice p m c, u] ∈ H) (hm : B.length = m) (i k : Nat) (hik : i < k) (hk : k ≤ m) (h4 : m ≤ 1100000) (w : World) (hw : St w0 H w) :
    Calls Tryz.prog 240 #[.pointer (some ⟨b, 0, none⟩), .int .i64 i, .int .i64 k] w fun e w' => e = .returned (.int .i64 (sam B i k 258)) ∧ St w0 H w' := by
  refine enter (vs := [.pointer (some ⟨b, 0, none⟩), .int .i64 i, .int .i64 k]) Tryz.func240 rfl rfl rfl hw ?_
  repeat (refine sx ?_; try intro _)
  refine JS_loop1 (fun (n : Nat) => [(0, .pointer (some ⟨b, 0, none⟩)), (1, .int .i64 i), (2, .int .i64 k), (7, .int .i64 n)]) (fun _ => H) (fun n => n ≤ 258 ∧ k + n ≤ m ∧ sam B i k 258 = n + sam B (i + n) (k + n) (258 - n)) (fun n => 258 - n) 0 ⟨by omega, by omega, by simp⟩ (by repeat (first | exact trivial | refine ⟨rfl, ?_⟩ | refine ⟨lookI rfl (by omega), ?_⟩)) (fun _ h => h) ?_
  intro n ⟨hn, hkn, he⟩ again
  by_cases h258 : n = 258
  case' pos =>
    clear again
    repeat (first | (apply gQO; refine QO_v rfl (oL (V_load (tb := tb) rfl hb rfl rfl rfl rfl)) ?_) | (refine sx ?_; try intro _))
    have hfin : sam B i k 258 = n := by rw [he, h258]; rfl
  case' neg =>
    by_cases hkm : k + n = m
    case' pos =>
      clear again
      repeat (first | (apply gQO; refine QO_v rfl (oL (V_load (tb := tb) rfl hb rfl rfl rfl rfl)) ?_) | (refine sx ?_; try intro _))
      have hfin : sam B i k 258 = n := by
        rw [he, show 258 - n = (257 - n) + 1 by omega, sam, if_neg (by omega)]; rfl
    case' neg =>
      have g1 : (ints .u8 B)[i + n]? = some (.int .u8 (B.getD (i + n) 0)) := ints_get (by omega)
      have g2 : (ints .u8 B)[k + n]? = some (.int .u8 (B.getD (k + n) 0)) := ints_get (by omega)
      by_cases heq : B.getD (i + n) 0 = B.getD (k + n) 0
      case' neg =>
        clear again
        repeat (first | (apply gQO; refine QO_v rfl (oL (V_load (tb := tb) rfl hb rfl rfl rfl rfl)) ?_) | (apply gQO; refine QO_v rfl (oL (V_loadC (tb := tb) rfl hr rfl rfl g1 rfl)) ?_) | (apply gQO; refine QO_v rfl (oL (V_loadC (tb := tb) rfl hr rfl rfl g2 rfl)) ?_) | (refine sx ?_; try intro _))
        have hfin : sam B i k 258 = n := by
          rw [he, show 258 - n = (257 - n) + 1 by omega, sam, if_neg (fun h => heq h.2)]; rfl
      case' pos =>
        repeat (first | (apply gQO; refine QO_v rfl (oL (V_load (tb := tb) rfl hb rfl rfl rfl rfl)) ?_) | (apply gQO; refine QO_v rfl (oL (V_loadC (tb := tb) rfl hr rfl rfl g1 rfl)) ?_) | (apply gQO; refine QO_v rfl (oL (V_loadC (tb := tb) rfl hr rfl rfl g2 rfl)) ?_) | (refine sx ?_; try intro _))
        exact JS_again1 again (n + 1) ⟨by omega, by omega, by rw [he, show 258 - n = (258 - (n + 1)) + 1 by omega, sam, if_pos ⟨by omega, heq⟩, show i + n + 1 = i + (n + 1) by omega, show k + n + 1 = k + (n + 1) by omega]; omega⟩ (by omega) (by repeat (first | exact trivial | refine ⟨rfl, ?_⟩ | refine ⟨lookI rfl (by omega), ?_⟩)) (fun w hw => hw)
  all_goals
    refine JS_ret Tryz.func240 rfl rfl fun w hw => ⟨?_, hw⟩
    rw [hfin]
    rfl
end
abbrev PX := MapEntry × List Nat
def vx (x : PX) : Asn := vec 3 1 x.1.val x.2.length (ints .i64 (x.2.map Int.ofNat))
def kv (x : K3) : Value := .agg #[.int .u8 x.1, .int .u8 x.2.1, .int .u8 x.2.2]
theorem kv_inj {x y : K3} (h : kv x = kv y) : x = y := by
  obtain ⟨x1, x2, x3⟩ := x
  obtain ⟨y1, y2, y3⟩ := y
  simp [kv] at h
  simp [h]
abbrev plA (bp bm : Nat) (p : Option Addr) (c m : Nat) (X : List PX) (clock : Nat) (H : List Asn) : List Asn := blk bp [.slice p m c, .map (some bm)] :: mapL bm (X.map Prod.fst) clock :: bigA (X.map vx) :: H
structure PI (B : List Int) (at_ : Nat) (X : List PX) (clock : Nat) : Prop where
  ok : MOk Tryz.prog 282 (X.map Prod.fst) clock
  key : ∀ x ∈ X, ∃ i, i + 3 ≤ B.length ∧ i < at_ ∧ x.1.key = kv (k3 B i) ∧ x.2 = plc B at_ (k3 B i) ∧ ∃ q d, x.1.val = .slice q x.2.length d
  all : ∀ i, i < at_ → i + 3 ≤ B.length → ∃ x ∈ X, x.1.key = kv (k3 B i)
theorem PI.nil (B : List Int) (clock : Nat) : PI B 0 [] clock := ⟨MOk.nil, by simp, by simp⟩
theorem kund : Tryz.prog.underlying 282 = some (.array 3 5) := by kernel_rfl
theorem kundb : Tryz.prog.underlying 5 = some (.int .u8) := by kernel_rfl
theorem kcell : Tryz.prog.cellsOf 282 = 3 := by kernel_rfl
theorem kcellb : Tryz.prog.cellsOf 5 = 1 := by kernel_rfl
theorem ktype : Tryz.prog.keyType 282 = true := by kernel_rfl
theorem klaw : WideMaps.KeyLaw Tryz.prog 282 := deep_law_laid (by kernel_rfl) (m := 2) (by omega) (by decide +kernel) (by kernel_rfl) (by kernel_rfl)
theorem kkt : KeyT Tryz.prog 282 := KeyT.of (Maps.Keyed.of_law klaw)
theorem okb_wf {a : Int} (h : 0 ≤ a ∧ a < 256) : (Lit.int .u8 a).wf = true := by
  simp [Lit.wf, IntKind.min, IntKind.max, IntKind.bits, IntKind.signed]; omega
theorem kv_key {x : K3} (h1 : 0 ≤ x.1 ∧ x.1 < 256) (h2 : 0 ≤ x.2.1 ∧ x.2.1 < 256) (h3 : 0 ≤ x.2.2 ∧ x.2.2 < 256) : isKey Tryz.prog 282 (kv x) := by
  unfold isKey keyOf
  obtain ⟨n, hn⟩ : ∃ n, Tryz.prog.types.size = n := ⟨_, rfl⟩
  have w1 := okb_wf h1
  have w2 := okb_wf h2
  have w3 := okb_wf h3
  have hk := ktype
  have hf : (kv x).formed Tryz.prog 282 = true := by
    unfold kv Value.formed
    simp [kund, kcell]
  have hc : (kv x).cells.toList = [.int .u8 x.1, .int .u8 x.2.1, .int .u8 x.2.2] := rfl
  have hn1 : 1 ≤ n := by rw [← hn]; decide +kernel
  obtain ⟨n', rfl⟩ : ∃ n', n = n' + 1 := ⟨n - 1, by omega⟩
  simp only [kund]
  rw [hk, hf, hn, hc]
  have kl' : ∀ a : Int, (Lit.int .u8 a).wf = true → Tryz.prog.keyLits (n' + 1) 5 [.int .u8 a] = some [.int .u8 a] := fun a h => by
    simp [Program.keyLits, kundb, h]
  have kl3' : Tryz.prog.keyLits (n' + 1 + 1) 282 [.int .u8 x.1, .int .u8 x.2.1, .int .u8 x.2.2] = some [.int .u8 x.1, .int .u8 x.2.1, .int .u8 x.2.2] := by
    rw [Program.keyLits.eq_def]
    simp only [kund, kcell, kcellb]
    simp [kl' _ w1, kl' _ w2, kl' _ w3, List.range, List.range.loop]
  rw [kl3']
  exact ⟨_, rfl⟩
end Go.Proofs.YteelffkghidpfaaGreat
