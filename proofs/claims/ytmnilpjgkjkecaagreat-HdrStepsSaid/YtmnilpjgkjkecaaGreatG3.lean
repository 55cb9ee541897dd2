import Derived.WalkKit
import Derived.ProofKit
import Derived.OpenShut
import Derived.ChangeSlices
import Derived.Test.YtmnilpjgkjkecaaGreatG2
namespace Go.Proofs.YtmnilpjgkjkecaaGreat
open Sx Go Hd
set_option linter.unusedVariables false
set_option linter.unusedSimpArgs false
/-- all lies between -/
theorem btw_all {a b : Int} : ∀ {T : List (Int × Int)}, (∀ x ∈ T, a ≤ x.1 ∧ x.1 ≤ b) → btw a b T = sw T
  | [], _ => rfl
  | x :: r, h => by rw [btw, sw, btw_all fun y hy => h y (List.mem_cons_of_mem _ hy), if_pos (h x List.mem_cons_self)]
theorem last_ge {T : List (Int × Int)} (hs : Srt T) : ∀ x ∈ T, x.1 ≤ (T.getD (T.length - 1) (0, 0)).1 := fun x hx => by
  obtain ⟨i, hi, rfl⟩ := List.getElem_of_mem hx
  rw [List.getD_eq_getElem?_getD, List.getElem?_eq_getElem (by omega), Option.getD_some]
  rcases Nat.lt_or_ge i (T.length - 1) with h | h
  · exact Int.le_of_lt (List.pairwise_iff_getElem.1 hs i (T.length - 1) (by omega) (by omega) h)
  · have e : i = T.length - 1 := by omega
    simp [e]
theorem BT_full {u g : Nat} {T : List (Int × Int)} (hs : Srt T) (hK : KSI u g T) (hg : 1 ≤ g) {v : Int} (hv : (ival u g (kHi T) : Int) ≤ v) : BT u g T 0 v = sw T := by
  unfold BT
  rw [if_neg (by omega)]
  refine btw_all fun x hx => ?_
  obtain ⟨k, hk, hi⟩ := hK x hx
  have hne : 0 < T.length := List.length_pos_of_mem hx
  obtain ⟨e1, e2⟩ := hK.at (i := T.length - 1) (by omega)
  have h1 := (ival_idx hg hi).1
  have h2 := (ival_idx hg e2).1
  have h3 := last_ge hs x hx
  have h4 := idx_mono (u := u) (g := g) hg (Nat.zero_le (ival u g k))
  have h5 : idx u g (ival u g (kHi T)) ≤ idx u g v.toNat := idx_mono hg (by omega)
  have h6 : kHi T = (T.getD (T.length - 1) (0, 0)).1.toNat := rfl
  rw [← h6] at e1 h2
  rw [h2] at h5
  rw [show (0 : Int).toNat = 0 from rfl]
  constructor <;> omega
theorem KY_last {T : List (Int × Int)} (hG : GT T) (hT : T ≠ []) {k : Int} (h : KY T (sw T) k) : k = (T.getD (T.length - 1) (0, 0)).1 := by
  have hl := List.length_pos_iff.2 hT
  have h1 := sw_take T (T.length - 1) (by omega)
  have h2 := hG.pos _ (getD_mem (T := T) (i := T.length - 1) (by omega))
  rw [show T.length - 1 + 1 = T.length by omega, List.take_length] at h1
  refine KY_fun hG.okt h (.inl ⟨T.length - 1, by omega, .inr (by omega), ?_, rfl⟩)
  rw [show T.length - 1 + 1 = T.length by omega, List.take_length]
  exact Int.le_refl _
theorem hiI_low {u g k : Nat} (hg : 1 ≤ g) (h : isI u g k) : low u g (hiI u g k) = ival u g k := by
  have h1 := (ival_idx hg h).2
  have hc := cel_lt (u := u) (g := g) (v := ival u g k)
  unfold hiI
  generalize ival u g k = V at *
  have hp := p2pos (bkt u g V + u)
  unfold low at h1
  have hb : bkt u g (V + (siz u g V - 1)) = bkt u g V := by
    have m := bkt_mono (u := u) (g := g) (Nat.le_add_right V (siz u g V - 1))
    have h2 : V + (siz u g V - 1) < 2 ^ (bkt u g V + u + g) := by
      rw [Nat.pow_add]
      unfold siz
      have h3 : (V / 2 ^ (bkt u g V + u) + 1) * 2 ^ (bkt u g V + u) ≤ 2 ^ g * 2 ^ (bkt u g V + u) := Nat.mul_le_mul_right _ hc
      rw [Nat.add_mul, h1, Nat.one_mul] at h3
      rw [Nat.mul_comm (2 ^ (bkt u g V + u))]
      omega
    have h4 := bl_le.2 h2
    have h5 : bkt u g (V + (siz u g V - 1)) = bitLen (V + (siz u g V - 1)) - (u + g) := rfl
    omega
  unfold low
  rw [hb]
  show (V + (2 ^ (bkt u g V + u) - 1)) / 2 ^ (bkt u g V + u) * 2 ^ (bkt u g V + u) = V
  generalize 2 ^ (bkt u g V + u) = p at *
  generalize hq : V / p = c at *
  rw [← h1, Nat.add_comm, Nat.add_mul_div_right _ _ hp, Nat.div_eq_of_lt (by omega), Nat.zero_add]
theorem hiI_ge {u g k : Nat} : ival u g k ≤ hiI u g k := Nat.le_add_right _ _
/-! ## steps: what was told before, and when all is told -/
def wz (b : Nat → Int) : Nat → Int
  | 0 => 0
  | i + 1 => b i
structure SN (b : Nat → Int) (S : Int) (n : Nat) : Prop where
  lt : ∀ i, i < n → wz b i ≠ S
  eq : wz b n = S
theorem least_ex {p : Nat → Prop} (m : Nat) (hm : p m) : ∃ n, n ≤ m ∧ p n ∧ ∀ i, i < n → ¬ p i := by
  have key : ∀ k, (∃ n, n ≤ k ∧ p n ∧ ∀ i, i < n → ¬ p i) ∨ ∀ i, i ≤ k → ¬ p i := by
    intro k
    induction k with
    | zero =>
      by_cases h : p 0
      · exact .inl ⟨0, Nat.le_refl _, h, fun i hi => absurd hi (by omega)⟩
      · exact .inr fun i hi => by rw [show i = 0 by omega]; exact h
    | succ k ih =>
      rcases ih with ⟨n, h1, h2⟩ | ih
      · exact .inl ⟨n, by omega, h2⟩
      · by_cases h : p (k + 1)
        · exact .inl ⟨k + 1, Nat.le_refl _, h, fun i hi => ih i (by omega)⟩
        · refine .inr fun i hi => ?_
          rcases Nat.lt_or_ge i (k + 1) with h1 | h1
          · exact ih i (by omega)
          · rw [show i = k + 1 by omega]; exact h
  rcases key m with h | h
  · exact h
  · exact absurd hm (h m (Nat.le_refl _))
theorem SN_ex {b : Nat → Int} {S : Int} (m : Nat) (hm : wz b m = S) : ∃ n, n ≤ m ∧ SN b S n := by
  obtain ⟨n, h1, h2, h3⟩ := least_ex (p := fun i => wz b i = S) m hm
  exact ⟨n, h1, ⟨h3, h2⟩⟩
theorem KY_ex (T : List (Int × Int)) (r : Int) : ∃ v, KY T r v := by
  by_cases h : ∃ i, i < T.length ∧ r ≤ sw (T.take (i + 1))
  · obtain ⟨i, hi⟩ := h
    obtain ⟨n, _, ⟨h1, h2⟩, h3⟩ := least_ex (p := fun i => i < T.length ∧ r ≤ sw (T.take (i + 1))) i hi
    refine ⟨_, .inl ⟨n, h1, ?_, h2, rfl⟩⟩
    rcases Nat.eq_zero_or_pos n with h4 | h4
    · exact .inl h4
    · have := h3 (n - 1) (by omega)
      rw [show n - 1 + 1 = n by omega] at this
      exact .inr (Int.not_le.1 fun h5 => this ⟨by omega, h5⟩)
  · exact ⟨0, .inr ⟨fun i hi => Int.not_le.1 fun h5 => h ⟨i, hi, h5⟩, rfl⟩⟩
noncomputable def kyV (T : List (Int × Int)) (r : Int) : Int := Classical.choose (KY_ex T r)
theorem kyV_spec (T : List (Int × Int)) (r : Int) : KY T r (kyV T r) := Classical.choose_spec (KY_ex T r)
/-- the rank of a part -/
def rkV (a b n : Int) : Int := if a * n % b = 0 then (if a * n / b = 0 then 1 else a * n / b) else a * n / b + 1
theorem rkV_spec {a b n : Int} (h1 : 0 < b) (h2 : a ≤ b) (h3 : n ≠ 0) : RK a b n (rkV a b n) 0 := by
  refine .inr (.inr ⟨h1, h2, h3, rfl, ?_⟩)
  unfold RV rkV
  generalize a * n / b = x
  generalize a * n % b = y
  split
  · split <;> omega
  · omega
/-! ## halves of what is left -/
def hN (c i : Nat) : Int := ((2 ^ (i / c) - 1 : Nat) : Int) * 2 * c + (i % c : Nat)
def hD (c i : Nat) : Int := (c : Int) * 2 * (2 ^ (i / c) : Nat)
noncomputable def halT (u g : Nat) (T : List (Int × Int)) (c i : Nat) : Int := (hiI u g (kyV T (rkV (hN c i) (hD c i) (sw T))).toNat : Nat)
theorem hND {c i : Nat} (hc : 1 ≤ c ∧ c ≤ 64) (hi : i / c ≤ 20) : 1 ≤ 2 ^ (i / c) ∧ 2 ^ (i / c) ≤ 1048576 ∧ 0 ≤ ((2 ^ (i / c) - 1 : Nat) : Int) * 2 * c ∧ ((2 ^ (i / c) - 1 : Nat) : Int) * 2 * c ≤ 134217728 ∧ 0 ≤ hN c i ∧ hN c i ≤ hD c i ∧ 0 < hD c i ∧ hD c i ≤ 134217728 := by
  have h1 := p2pos (i / c)
  have h2 : 2 ^ (i / c) ≤ 2 ^ 20 := Nat.pow_le_pow_right (by decide) hi
  have h3 := Nat.mod_lt i (show c > 0 by omega)
  unfold hN hD
  generalize 2 ^ (i / c) = p at *
  generalize i % c = t at *
  have e1 : ((p - 1 : Nat) : Int) * 2 * c = (((p - 1) * 2 * c : Nat) : Int) := by simp
  have e2 : (c : Int) * 2 * (p : Nat) = ((c * 2 * p : Nat) : Int) := by simp
  have h4 : (p - 1) * 2 * c ≤ (1048576 - 1) * 2 * 64 := Nat.mul_le_mul (Nat.mul_le_mul_right _ (by omega)) hc.2
  have h5 : c * 2 * p ≤ 64 * 2 * 1048576 := Nat.mul_le_mul (Nat.mul_le_mul_right _ hc.2) (by omega)
  have h6 : c * 2 * p = (p - 1) * 2 * c + 2 * c := by
    obtain ⟨q, rfl⟩ : ∃ q, p = q + 1 := ⟨p - 1, by omega⟩
    rw [Nat.add_sub_cancel, Nat.mul_add, Nat.mul_comm (c * 2) q, Nat.mul_one, Nat.mul_comm c 2, ← Nat.mul_assoc]
  rw [e1, e2]
  omega
theorem halT_reach {u g : Nat} {T : List (Int × Int)} (hG : GT T) (hK : KSI u g T) (hg : 1 ≤ g) (hT : T ≠ []) {c : Nat} (hc : 1 ≤ c ∧ c ≤ 64) (hs : sw T ≤ 100000) : BT u g T 0 (halT u g T c (17 * c)) = sw T := by
  have hp := List.length_pos_iff.2 hT
  have hpos : 0 < sw T := by
    have h1 := sw_take T 0 hp
    have h2 := hG.pos _ (getD_mem (T := T) (i := 0) hp)
    have h3 := sw_mono hG.okt 1 (T.length - 1) (by omega)
    rw [show 1 + (T.length - 1) = T.length by omega, List.take_length] at h3
    have h4 : sw (T.take 0) = 0 := rfl
    rw [h4] at h1
    rw [show 0 + 1 = 1 from rfl] at h1
    omega
  have hrk : rkV (hN c (17 * c)) (hD c (17 * c)) (sw T) = sw T := by
    have e1 : 17 * c / c = 17 := by rw [Nat.mul_div_cancel _ (by omega)]
    have e2 : 17 * c % c = 0 := Nat.mul_mod_left _ _
    unfold rkV hN hD
    rw [e1, e2]
    generalize sw T = S at *
    have a1 : (((2 ^ 17 - 1 : Nat) : Int) * 2 * c + (0 : Nat)) * S = (2 * (c : Int) * 131072 - 2 * c * S) + (2 * (c : Int) * 131072) * (S - 1) := by
      have : (((2 ^ 17 - 1 : Nat) : Int) * 2 * c + (0 : Nat)) = 131071 * (2 * c) := by rw [show ((2 ^ 17 - 1 : Nat) : Int) = 131071 from rfl]; omega
      rw [this]
      generalize (2 * (c : Int)) = z
      rw [Int.mul_sub, Int.mul_one, Int.mul_assoc, Int.mul_assoc, ← Int.mul_assoc z 131072 S, Int.mul_comm z 131072, Int.mul_assoc]
      generalize z * S = y
      omega
    have a2 : (c : Int) * 2 * ((2 ^ 17 : Nat) : Int) = 2 * (c : Int) * 131072 := by
      rw [show ((2 ^ 17 : Nat) : Int) = 131072 from rfl, Int.mul_comm (c : Int) 2]
    have hz : 0 < 2 * (c : Int) := by omega
    rw [a1, a2]
    generalize (2 * (c : Int)) = z at *
    have b1 : 0 < z * S := Int.mul_pos hz hpos
    have b2 : z * S ≤ z * 100000 := Int.mul_le_mul_of_nonneg_left hs (Int.le_of_lt hz)
    rw [Int.add_mul_emod_self_left, Int.add_mul_ediv_left _ _ (by omega), Int.emod_eq_of_lt (by omega) (by omega), Int.ediv_eq_zero_of_lt (by omega) (by omega), if_neg (by omega)]
    omega
  refine BT_full hG.srt hK hg ?_
  unfold halT
  rw [hrk]
  have h1 := KY_last hG hT (kyV_spec T (sw T))
  rw [h1]
  exact Int.ofNat_le.2 hiI_ge
/-- the cells of a step, of steps -/
def stC (t b : Nat → Int) (i : Nat) : List Value := [.int .i64 (t i), .int .u64 ((b i - wz b i) % 18446744073709551616), .int .u64 (b i)]
def stF (t b : Nat → Int) : Nat → List Value
  | 0 => []
  | n + 1 => stF t b n ++ stC t b n
theorem stF_len (t b : Nat → Int) : ∀ n, (stF t b n).length = 3 * n
  | 0 => rfl
  | n + 1 => by rw [stF, List.length_append, stF_len t b n]; show 3 * n + 3 = _; omega
theorem stF_get (t b : Nat → Int) : ∀ {n i : Nat}, i < n → ∀ {j : Nat}, j < 3 → (stF t b n)[3 * i + j]? = (stC t b i)[j]?
  | n + 1, i, h, j, hj => by
    have hl := stF_len t b n
    rcases Nat.lt_or_ge i n with h1 | h1
    · rw [stF, List.getElem?_append_left (by omega), stF_get t b h1 hj]
    · obtain rfl : i = n := by omega
      rw [stF, List.getElem?_append_right (by omega), hl]
      congr 1
      omega
theorem stF_g0 (t b : Nat → Int) {n i : Nat} (h : i < n) : (stF t b n)[i * 3]? = some (.int .i64 (t i)) := by
  have := stF_get t b h (j := 0) (by decide)
  rw [show i * 3 = 3 * i + 0 by omega, this]; rfl
theorem stF_g1 (t b : Nat → Int) {n i : Nat} (h : i < n) : (stF t b n)[i * 3 + 1]? = some (.int .u64 ((b i - wz b i) % 18446744073709551616)) := by
  have := stF_get t b h (j := 1) (by decide)
  rw [show i * 3 + 1 = 3 * i + 1 by omega, this]; rfl
theorem stF_g2 (t b : Nat → Int) {n i : Nat} (h : i < n) : (stF t b n)[i * 3 + 2]? = some (.int .u64 (b i)) := by
  have := stF_get t b h (j := 2) (by decide)
  rw [show i * 3 + 2 = 3 * i + 2 by omega, this]; rfl
/-! ## steps that are alike, steps that are ever greater -/
def ahd (n d : Int) : Int := if 9223372036854775807 - d < n then 9223372036854775807 else n + d
def linT (d : Int) : Nat → Int
  | 0 => ahd (-1) d
  | i + 1 => ahd (linT d i) d
theorem linT_bd {d : Int} (h : 1 ≤ d ∧ d ≤ 9223372036854775807) : ∀ i, 0 ≤ linT d i ∧ linT d i ≤ 9223372036854775807
  | 0 => by unfold linT ahd; split <;> omega
  | i + 1 => by
    have := linT_bd h i
    unfold linT ahd; split <;> omega
theorem linT_ge {d : Int} (h : 1 ≤ d ∧ d ≤ 9223372036854775807) : ∀ i : Nat, linT d i = 9223372036854775807 ∨ linT d i = ((i : Int) + 1) * d - 1
  | 0 => by unfold linT ahd; split <;> omega
  | i + 1 => by
    have h1 := linT_ge h i
    have h2 := linT_bd h i
    unfold linT ahd
    split
    · exact .inl rfl
    · rcases h1 with h1 | h1
      · omega
      · right
        rw [h1, show ((i + 1 : Nat) : Int) = (i : Int) + 1 by omega, Int.add_mul ((i : Int) + 1) 1 d]; omega
theorem linT_reach {d z : Int} (h : 1 ≤ d ∧ d ≤ 9223372036854775807) (hz : 0 ≤ z ∧ z ≤ 9223372036854775807) : z ≤ linT d (z / d).toNat := by
  have h0 : 0 ≤ z / d := Int.ediv_nonneg hz.1 (by omega)
  have h1 := Int.mul_ediv_add_emod z d
  have h2 := Int.emod_lt_of_pos z (show 0 < d by omega)
  rcases linT_ge h (z / d).toNat with h3 | h3
  · omega
  · rw [h3, Int.toNat_of_nonneg h0, Int.add_mul, Int.mul_comm (z / d) d]; omega
def tms (n b : Int) : Int := if 9223372036854775807 < (n + 1) * b then 9223372036854775807 else (n + 1) * b - 1
def dblT (f b : Int) : Nat → Int
  | 0 => f - 1
  | i + 1 => tms (dblT f b i) b
theorem tms_bd {n b : Int} (hn : 0 ≤ n ∧ n ≤ 9223372036854775807) (hb : 2 ≤ b) : n ≤ tms n b ∧ tms n b ≤ 9223372036854775807 := by
  have := Int.mul_le_mul_of_nonneg_left (show 1 ≤ b by omega) (show 0 ≤ n + 1 by omega)
  unfold tms
  split <;> omega
theorem dblT_bd {f b : Int} (hf : 1 ≤ f ∧ f ≤ 9223372036854775807) (hb : 2 ≤ b) : ∀ i, 0 ≤ dblT f b i ∧ dblT f b i ≤ 9223372036854775807
  | 0 => by unfold dblT; omega
  | i + 1 => by
    have h1 := dblT_bd hf hb i
    have h2 := tms_bd h1 hb
    unfold dblT; omega
theorem dblT_ge {f b : Int} (hf : 1 ≤ f ∧ f ≤ 9223372036854775807) (hb : 2 ≤ b) : ∀ i, dblT f b i = 9223372036854775807 ∨ ((2 ^ i : Nat) : Int) ≤ dblT f b i + 1
  | 0 => by unfold dblT; omega
  | i + 1 => by
    have h1 := dblT_bd hf hb i
    have h2 := dblT_ge hf hb i
    have h3 := tms_bd h1 hb
    unfold dblT
    rcases h2 with h2 | h2
    · left; omega
    · unfold tms
      split
      · exact .inl rfl
      · right
        have h4 := Int.mul_le_mul_of_nonneg_left hb (show 0 ≤ dblT f b i + 1 by omega)
        rw [Nat.pow_succ]
        omega
theorem dblT_63 {f b : Int} (hf : 1 ≤ f ∧ f ≤ 9223372036854775807) (hb : 2 ≤ b) : dblT f b 63 = 9223372036854775807 := by
  have h1 := dblT_bd hf hb 63
  have h2 := dblT_ge hf hb 63
  omega
end Go.Proofs.YtmnilpjgkjkecaaGreat

namespace Go.Proofs.YtmnilpjgkjkecaaGreat
open Sx Go Hd
set_option linter.unusedVariables false
set_option linter.unusedSimpArgs false
section
variable {w0 : World} {lo hi dg : Int} {u g : Nat}
set_option maxRecDepth 10000 in
set_option maxHeartbeats 4000000 in
/-- steps up to levels, till all is told -/
theorem HSteps_c (bh mb bm : Nat) (gr : Bool) (bu : Nat) (es : List MapEntry) (clock : Nat) (T : List (Int × Int)) (K : Nat → List Asn) (hh : ∀ i, blk bh (hc mb bm gr bu (sw T)) ∈ K i) (hm : ∀ i, mapL bm es clock ∈ K i) (hM : ∀ i, blk mb (mc lo hi dg u g) ∈ K i) (hE : HM es clock T) (hG : GT T) (hug : u + g ≤ 62) (hg : 1 ≤ g ∧ g ≤ 18) (hl : T.length ≤ 1000000)
    (q : Nat) (cs : List Value) (t : Nat → Int) (n : Nat) (hS : SN (fun i => BT u g T 0 (t i)) (sw T) n) (hn : n ≤ 4096) (ht : ∀ i, i < n → -9223372036854775808 ≤ t i ∧ t i < 9223372036854775808)
    (hq1 : ∀ args w, (callFunc q args).run Tryz.prog w = .ok (.enter q args) w)
    (hq : ∀ (i : Nat) (A : Asn) w, i < n → St w0 (A :: K i) w → Calls Tryz.prog q (.int .i64 i :: cs).toArray w fun e w' => e = .returned (.int .i64 (t i)) ∧ St w0 (A :: K (i + 1)) w') (w : World) (hw : St w0 (K 0) w) :
    Calls Tryz.prog 49 #[.pointer (some ⟨bh, 0, none⟩), .func (.func q) #[] cs.toArray] w fun e w' => ∃ p d, e = .returned (.tuple #[.slice p n d, .int .i64 0]) ∧ St w0 (vec 103 3 (.slice p n d) n (stF t (fun i => BT u g T 0 (t i)) n) :: K n) w' := by
  have hbd := fun i => BT_bd u g hG.pos 0 (t i)
  have hwz : ∀ i, 0 ≤ wz (fun i => BT u g T 0 (t i)) i ∧ wz (fun i => BT u g T 0 (t i)) i ≤ sw T := fun i => by
    cases i with
    | zero => exact ⟨Int.le_refl _, sw_nn hG.pos⟩
    | succ i => exact hbd i
  have htot := hG.tot
  have hB := fun (i : Nat) (A : Asn) (hi : i < n) w hw => HBetween_c (w0 := w0) (H := A :: K (i + 1)) bh mb bm gr bu (sw T) es clock T (List.Mem.tail _ (hh _)) (List.Mem.tail _ (hm _)) (List.Mem.tail _ (hM _)) hE hG hug hg hl 0 (t i) (by omega) (ht i hi) w hw
  refine enter (vs := [.pointer (some ⟨bh, 0, none⟩), .func (.func q) #[] cs.toArray]) Tryz.func49 rfl rfl rfl hw ?_
  clear hw w hE hG hM hm
  generalize hbe : (fun i => BT u g T 0 (t i)) = b at *
  have hbi : ∀ i, BT u g T 0 (t i) = b i := fun i => by rw [← hbe]
  generalize hSe : sw T = S at *
  repeat (first | (apply gJR; first | (refine sx ?_; try intro _)) | (apply gJO; first | (refine sx ?_; try intro _)) | apply JS_seq | apply JS_region)
  refine JS_block ?_
  refine JS_loop3 (fun (i : Nat) (p : Option Addr) (d : Nat) => [(0, .pointer (some ⟨bh, 0, none⟩)), (1, .func (.func q) #[] cs.toArray), (6, .slice p i d), (7, .int .u64 (wz b i))])
    (fun i p d => vec 103 3 (.slice p i d) i (stF t b i) :: K i) (fun i _ _ => i ≤ n) (fun i _ _ => n - i) 0 none 0 (Nat.zero_le _) (by repeat (first | exact trivial | refine ⟨rfl, ?_⟩ | refine ⟨lookI rfl (by omega), ?_⟩)) (fun w hw => St.nilvec hw) ?_
  intro i p d hi again
  have hwi := hwz i
  have hhi : blk bh (hc mb bm gr bu S) ∈ vec 103 3 (.slice p i d) i (stF t b i) :: K i := List.Mem.tail _ (hh i)
  by_cases hin : i < n
  · have hne := hS.lt i hin
    have hti := ht i hin
    have hb1 := hbd i
    rw [hbi] at hb1
    have c1 : IntKind.u64.wrap (b i - wz b i) = (b i - wz b i) % 18446744073709551616 := mu64 _
    repeat (first | (apply gJO; first | refine JO_v (oL (V_load (tb := tb) rfl hhi rfl rfl rfl rfl)) ?_) | first | (refine sx ?_; try intro _))
    refine JO_callv (us := []) (cs := cs) rfl hq1 rfl rfl fun w hw => (hq i _ w hin hw).mono ?_
    rintro e w' ⟨rfl, hw'⟩
    (refine ⟨_, rfl, _, hw', ?_⟩; clear hw' hw w w')
    repeat (first | (refine sx ?_; try intro _))
    refine JO_call Tryz.call19 rfl rfl fun w hw => (hB i _ hin w hw).mono ?_
    rintro e w' ⟨rfl, hw'⟩
    (refine ⟨_, rfl, _, hw', ?_⟩; clear hw' hw w w')
    rw [hbi]
    repeat (first | (apply gJO; refine JO_v (V_sub rfl rfl c1 rfl) ?_) | first | (refine sx ?_; try intro _))
    (refine JO_app (tb := tb) rfl rfl rfl rfl rfl rfl (by repeat (first | exact Sel.here _ _ | apply Sel.there)) (by first | exact vec_rd (by repeat (first | apply List.Mem.head | apply List.Mem.tail)) | assumption | exact ArgRd.rd (by assumption) _ | (apply Rd_weak; assumption; intro _ hx; exact St.sub (by repeat (first | exact List.Sublist.refl _ | apply List.Sublist.cons_cons | apply List.Sublist.cons)) hx)) (by simp only [ints_len, List.length_cons, List.length_nil]; first | omega | rfl) (by first | exact ints_one | (repeat (first | exact trivial | refine ⟨rfl, ?_⟩))) (by omega) rfl ?_; intro _ _)
    repeat (first | (refine sx ?_; try intro _))
    exact JS_again3 again (i + 1) _ _ (by omega) (by omega) (by repeat (first | exact trivial | refine ⟨rfl, ?_⟩ | refine ⟨lookI rfl (by omega), ?_⟩)) (fun w hw => St.sub (by repeat (first | exact List.Sublist.refl _ | apply List.Sublist.cons_cons | apply List.Sublist.cons)) hw)
  · obtain rfl : i = n := by omega
    have hne := hS.eq
    repeat (first | (apply gJO; first | refine JO_v (oL (V_load (tb := tb) rfl hhi rfl rfl rfl rfl)) ?_) | first | (refine sx ?_; try intro _))
    exact JS_ret Tryz.func49 rfl rfl fun w hw => ⟨p, d, rfl, hw⟩
set_option maxRecDepth 10000 in
set_option maxHeartbeats 2000000 in
theorem Part_c {H : List Asn} (c i : Nat) (hc : 1 ≤ c ∧ c ≤ 64) (hi : i / c ≤ 20) (w : World) (hw : St w0 H w) :
    Calls Tryz.prog 51 #[.int .i64 c, .int .i64 (i / c : Nat), .int .i64 (i % c : Nat)] w fun e w' => e = .returned (.tuple #[.int .u64 (hN c i), .int .u64 (hD c i)]) ∧ St w0 H w' := by
  have hb := hND hc hi
  have hm := Nat.mod_lt i (show c > 0 by omega)
  refine enter (vs := [.int .i64 c, .int .i64 (i / c : Nat), .int .i64 (i % c : Nat)]) Tryz.func51 rfl rfl rfl hw ?_
  clear hw w
  unfold hN hD at *
  have ej : min ((i / c : Nat) : Int).toNat IntKind.u64.bits = i / c := by rw [Int.toNat_natCast]; exact Nat.min_eq_left (by simp [IntKind.bits]; omega)
  have e2 : (1 : Int) * 2 ^ (i / c) = ((2 ^ (i / c) : Nat) : Int) := by simp
  generalize i / c = h at *
  generalize i % c = r at *
  generalize 2 ^ h = P at *
  have c0 : IntKind.u64.wrap ((1 : Int) * 2 ^ h) = P := by rw [e2]; exact wu64 (by omega)
  have e3 : ((P - 1 : Nat) : Int) = (P : Int) - 1 := by omega
  rw [e3] at hb ⊢
  have c3 : IntKind.u64.wrap (((P : Int) - 1) * 2 * c) = ((P : Int) - 1) * 2 * c := wu64 (by omega)
  have c4 : IntKind.u64.wrap ((c : Int) * 2 * P) = (c : Int) * 2 * P := wu64 (by omega)
  have c5 : IntKind.u64.wrap (((P : Int) - 1) * 2 * c + r) = ((P : Int) - 1) * 2 * c + r := wu64 (by omega)
  repeat (first | (apply gJO; first | refine JO_v (V_shl rfl rfl (by omega) ej c0 rfl) ?_ | refine JO_v (V_mul rfl rfl c3 rfl) ?_ | refine JO_v (V_mul rfl rfl c4 rfl) ?_ | refine JO_v (V_add rfl rfl c5 rfl) ?_) | first | (refine sx ?_; try intro _))
  exact JS_ret Tryz.func51 rfl rfl fun w hw => ⟨rfl, hw⟩
set_option maxRecDepth 10000 in
set_option maxHeartbeats 2000000 in
/-- a part of all: its closure -/
theorem HalvesC_c {H : List Asn} (bh mb bm : Nat) (gr : Bool) (bu : Nat) (es : List MapEntry) (clock : Nat) (T : List (Int × Int)) (hh : blk bh (hc mb bm gr bu (sw T)) ∈ H) (hm : mapL bm es clock ∈ H) (hM : blk mb (mc lo hi dg u g) ∈ H) (hE : HM es clock T) (hG : GT T) (hK : KSI u g T) (hug : u + g ≤ 62) (hg : 1 ≤ g ∧ g ≤ 18) (hl : T.length ≤ 1000000) (hnz : sw T ≠ 0)
    (c : Nat) (hcc : 1 ≤ c ∧ c ≤ 64) (tb' xb : Nat) (ht : blk tb' [.int .i64 c] ∈ H) (hx : blk xb [.pointer (some ⟨bh, 0, none⟩)] ∈ H) (i : Nat) (hi : i / c ≤ 20) (hi2 : i < 4611686018427387904) (w : World) (hw : St w0 H w) :
    Calls Tryz.prog 50 #[.int .i64 i, .pointer (some ⟨tb', 0, none⟩), .pointer (some ⟨xb, 0, none⟩)] w fun e w' => e = .returned (.int .i64 (halT u g T c i)) ∧ St w0 H w' := by
  have hb := hND hcc hi
  have hP := fun w hw => Part_c (w0 := w0) (H := H) c i hcc hi w hw
  have q1 : ((i : Int) / (c : Int)) = ((i / c : Nat) : Int) := by simp
  have q2 : ((i : Int) % (c : Int)) = ((i % c : Nat) : Int) := by simp
  have qm := Nat.mod_lt i (show c > 0 by omega)
  have qd := Nat.div_le_self i c
  refine enter (vs := [.int .i64 i, .pointer (some ⟨tb', 0, none⟩), .pointer (some ⟨xb, 0, none⟩)]) Tryz.func50 rfl rfl rfl hw ?_
  clear hw w
  have hha : halT u g T c i = (hiI u g (kyV T (rkV (hN c i) (hD c i) (sw T))).toNat : Nat) := rfl
  rw [hha]
  clear hha
  have hrk := rkV_spec hb.2.2.2.2.2.2.1 hb.2.2.2.2.2.1 hnz
  generalize hN c i = a at *
  generalize hD c i = d at *
  generalize i / c = h at *
  generalize i % c = r at *
  have c1 : Int.tdiv (i : Int) (c : Int) = (h : Int) := by rw [Int.tdiv_eq_ediv_of_nonneg (by omega)]; exact q1
  repeat (first | (apply gJO; first | refine JO_v (oL (V_load (tb := tb) rfl ht rfl rfl rfl rfl)) ?_ | refine JO_v (oL (V_load (tb := tb) rfl hx rfl rfl rfl rfl)) ?_) | (apply gQO; first | refine QO_v rfl (oL (V_load (tb := tb) rfl ht rfl rfl rfl rfl)) ?_ | refine QO_v rfl (oL (V_load (tb := tb) rfl hx rfl rfl rfl rfl)) ?_) | first | (refine sx ?_; try intro _))
  rw [q1, q2]
  refine QO_call Tryz.call51 rfl rfl fun w hw => (hP w hw).mono ?_
  rintro e w' ⟨rfl, hw'⟩
  (refine ⟨_, rfl, _, hw', .inl fun w hw => hw, ?_⟩; clear hw' hw w w')
  repeat (first | (apply gJO; first | refine JO_v (oL (V_load (tb := tb) rfl ht rfl rfl rfl rfl)) ?_ | refine JO_v (oL (V_load (tb := tb) rfl hx rfl rfl rfl rfl)) ?_) | first | (refine sx ?_; try intro _))
  refine JO_call Tryz.call10 rfl rfl fun w hw => (HAt_c bh mb bm gr bu (sw T) es clock T hh hm hM hE hG hK hug hg hl a d (by omega) (by omega) w hw).mono ?_
  rintro e w' ⟨v, f, rr, rfl, hw', hRK, hf1, hf0⟩
  obtain ⟨rfl, rfl⟩ := RK_fun hRK hrk
  obtain ⟨k, hk, hky, rfl⟩ := hf0 rfl
  rw [KY_fun hG.okt (kyV_spec T _) hky, Int.toNat_natCast]
  (refine ⟨_, rfl, _, hw', ?_⟩; clear hw' hw w w')
  repeat (first | (refine sx ?_; try intro _))
  exact JS_ret Tryz.func50 rfl rfl fun w hw => ⟨rfl, hw⟩
set_option maxRecDepth 10000 in
set_option maxHeartbeats 2000000 in
theorem Halves_c {H : List Asn} (bh mb bm : Nat) (gr : Bool) (bu : Nat) (es : List MapEntry) (clock : Nat) (T : List (Int × Int)) (hh : blk bh (hc mb bm gr bu (sw T)) ∈ H) (hm : mapL bm es clock ∈ H) (hM : blk mb (mc lo hi dg u g) ∈ H) (hE : HM es clock T) (hG : GT T) (hK : KSI u g T) (hug : u + g ≤ 62) (hg : 1 ≤ g ∧ g ≤ 18) (hl : T.length ≤ 1000000) (hs : sw T ≤ 100000)
    (c : Nat) (hcc : 1 ≤ c ∧ c ≤ 64) (w : World) (hw : St w0 H w) :
    Calls Tryz.prog 21 #[.pointer (some ⟨bh, 0, none⟩), .int .i64 c] w fun e w' => ∃ (n : Nat) (p : Option Addr) (d : Nat), n ≤ 17 * c + 1 ∧ SN (fun i => BT u g T 0 (halT u g T c i)) (sw T) n ∧ e = .returned (.tuple #[.slice p n d, .int .i64 0]) ∧ St w0 (vec 103 3 (.slice p n d) n (stF (halT u g T c) (fun i => BT u g T 0 (halT u g T c i)) n) :: H) w' := by
  have hS : ∃ n, n ≤ 17 * c + 1 ∧ SN (fun i => BT u g T 0 (halT u g T c i)) (sw T) n ∧ (sw T = 0 → n = 0) := by
    by_cases hT : T = []
    · subst hT
      exact ⟨0, Nat.zero_le _, ⟨fun i hi => absurd hi (by omega), rfl⟩, fun _ => rfl⟩
    · by_cases h0 : sw T = 0
      · exact ⟨0, Nat.zero_le _, ⟨fun i hi => absurd hi (by omega), h0.symm⟩, fun _ => rfl⟩
      · obtain ⟨n, h1, h2⟩ := SN_ex (b := fun i => BT u g T 0 (halT u g T c i)) (17 * c + 1) (halT_reach hG hK hg.1 hT hcc hs)
        exact ⟨n, h1, h2, fun h => absurd h h0⟩
  obtain ⟨n, hn1, hn2, hn3⟩ := hS
  have hnn := sw_nn hG.pos
  refine enter (vs := [.pointer (some ⟨bh, 0, none⟩), .int .i64 c]) Tryz.func21 rfl rfl rfl hw ?_
  clear hw w
  repeat (first | (apply gJO; first | refine JO_v (oL (V_load (tb := tb) rfl (List.Mem.tail _ (List.Mem.tail _ hh)) rfl rfl rfl rfl)) ?_) | first | (refine sx ?_; try intro _))
  rename_i xb tb'
  refine JO_call Tryz.call49 rfl rfl fun w hw => (HSteps_c bh mb bm gr bu es clock T (fun _ => blk tb' [.int .i64 c] :: blk xb [.pointer (some ⟨bh, 0, none⟩)] :: H) (fun _ => List.Mem.tail _ (List.Mem.tail _ hh)) (fun _ => List.Mem.tail _ (List.Mem.tail _ hm)) (fun _ => List.Mem.tail _ (List.Mem.tail _ hM)) hE hG hug hg hl _ [.pointer (some ⟨tb', 0, none⟩), .pointer (some ⟨xb, 0, none⟩)] (halT u g T c) n hn2 (by omega)
    (fun i hi => ?_) Tryz.call50 (fun i A w hi hw => HalvesC_c bh mb bm gr bu es clock T (List.Mem.tail _ (List.Mem.tail _ (List.Mem.tail _ hh))) (List.Mem.tail _ (List.Mem.tail _ (List.Mem.tail _ hm))) (List.Mem.tail _ (List.Mem.tail _ (List.Mem.tail _ hM))) hE hG hK hug hg hl (fun h => by have := hn3 h; omega) c hcc tb' xb (by repeat (first | apply List.Mem.head | apply List.Mem.tail)) (by repeat (first | apply List.Mem.head | apply List.Mem.tail)) i ?_ (by omega) w hw) w hw).mono ?_
  · have hnz : sw T ≠ 0 := fun h => by have := hn3 h; omega
    have hd : i / c ≤ 20 := by
      have := Nat.div_le_div_right (c := c) (show i ≤ 17 * c by omega)
      rw [Nat.mul_div_cancel _ (by omega)] at this; omega
    have hb := hND hcc hd
    have hrk := rkV_spec hb.2.2.2.2.2.2.1 hb.2.2.2.2.2.1 hnz
    have hbb := RK_bd hb.2.2.2.2.1 hnn hrk
    have hne : T ≠ [] := fun h => by subst h; exact hnz rfl
    obtain ⟨x, hx, hxk⟩ := KY_mem (kyV_spec T _) hbb.2.2.2.2 hne
    obtain ⟨k, hk1, hk2⟩ := hK x hx
    have hlt := hiI_lt hug hg.1 hk2
    unfold halT
    rw [← hxk, hk1, Int.toNat_natCast]
    omega
  · have := Nat.div_le_div_right (c := c) (show i ≤ 17 * c by omega)
    rw [Nat.mul_div_cancel _ (by omega)] at this; omega
  rintro e w' ⟨p, d, rfl, hw'⟩
  (refine ⟨_, rfl, _, hw', ?_⟩; clear hw' hw w w')
  repeat (first | (refine sx ?_; try intro _))
  exact JS_ret Tryz.func21 rfl rfl fun w hw => ⟨n, p, d, hn1, hn2, rfl, St.sub (by repeat (first | exact List.Sublist.refl _ | apply List.Sublist.cons_cons | apply List.Sublist.cons)) hw⟩
end
end Go.Proofs.YtmnilpjgkjkecaaGreat

namespace Go.Proofs.YtmnilpjgkjkecaaGreat
open Sx Go Hd
set_option linter.unusedVariables false
set_option linter.unusedSimpArgs false
/-- a walk stops in front of a loop's beginning -/
theorem hIz {P : Program} {f n : Nat} {R : Ending → World → Prop} {D : List Deferred} {w0 : World} {k : List Item} {ov : Ov} {H : List Asn} (i : Nat) {l : Array Oper} {b : Bool} {y z : Code} (h : Hold (JS P f n R D w0 (.code (.seq (.seq (.region i l b) y) z) :: k) ov H)) : JS P f n R D w0 (.code (.seq (.seq (.region i l b) y) z) :: k) ov H := by
  unfold Hold at h; exact h
section
variable {w0 : World} {H : List Asn} {lo hi dg : Int} {u g : Nat}
set_option maxRecDepth 10000 in
set_option maxHeartbeats 8000000 in
/-- the law's look at steps -/
theorem LSteps_c (T : List (Int × Int)) (bh mb bm : Nat) (gr : Bool) (bu : Nat) (hh : blk bh (hc mb bm gr bu (sw T)) ∈ H) (r : Nat) (q : Option Addr) (d : Nat) (hr1 : blk r (rc lo hi dg u g gr bu (.slice q T.length d)) ∈ H) (hR1 : Rd w0 H (.slice q T.length d) T.length (flat T)) (hG : GT T) (hug : u + g ≤ 62) (hg : 1 ≤ g ∧ g ≤ 18) (hl : T.length ≤ 1000000)
    (t : Nat → Int) (n : Nat) (hS : SN (fun i => BT u g T 0 (t i)) (sw T) n) (p1 : Option Addr) (d1 : Nat) (hL : Rd w0 H (.slice p1 n d1) n (stF t (fun i => BT u g T 0 (t i)) n)) (p2 : Option Addr) (d2 m : Nat) (TO : List Int) (hR2 : Rd w0 H (.slice p2 m d2) m (ints .i64 TO)) (hTO : TO.length = m) (hnm : n ≤ m) (hm : m ≤ 1000000) (hTt : ∀ i, i < n → TO.getD i 0 = t i) (ht : ∀ i, i < n → -9223372036854775808 ≤ t i ∧ t i < 9223372036854775808) (w : World) (hw : St w0 H w) :
    Calls Tryz.prog 23 #[.pointer (some ⟨bh, 0, none⟩), .pointer (some ⟨r, 0, none⟩), .slice p1 n d1, .slice p2 m d2] w fun e w' => e = .returned (.bool true) ∧ St w0 H w' := by
  have hbd := fun i => BT_bd u g hG.pos 0 (t i)
  have hnn := sw_nn hG.pos
  have htot := hG.tot
  have hB := fun i (hi : i < n) w hw => RBetween_c (w0 := w0) (H := H) r gr bu q d T.length T hr1 hR1 rfl hG hug hg hl 0 (t i) (by omega) (ht i hi) w hw
  have hTot := fun w hw => RTotal_c (w0 := w0) (H := H) q d T.length T hR1 rfl hG.okt hG.right hl w hw
  have hHT := fun w hw => HTotal_c (w0 := w0) (H := H) bh mb bm gr bu (sw T) hh w hw
  have hz : sw T = 0 → n = 0 := fun h => by
    rcases Nat.eq_zero_or_pos n with h1 | h1
    · exact h1
    · exact absurd h.symm (hS.lt 0 h1)
  have hz2 : sw T ≠ 0 → n ≠ 0 := fun h h1 => by
    subst h1; exact h hS.eq.symm
  refine enter (vs := [.pointer (some ⟨bh, 0, none⟩), .pointer (some ⟨r, 0, none⟩), .slice p1 n d1, .slice p2 m d2]) Tryz.func23 rfl rfl rfl hw ?_
  clear hw w
  repeat (first | (apply gJO; first | refine JO_v (oL (V_load (tb := tb) rfl hr1 rfl rfl rfl rfl)) ?_ | refine JO_v (oL (V_loadC (tb := tb) rfl hR2 rfl rfl gT rfl)) ?_ | refine JO_v (oIA (V_index (tb := tb) rfl rfl rfl rfl hR2.sl (by omega) (by (try simp only [tn, tna, tn1, tn2, tn3, tn4, tnd16, tnd8, Int.reduceToNat]); first | exact Nat.mul_one _ | exact rfl) rfl)) ?_) | first | (refine sx ?_; try intro _))
  refine JO_call Tryz.call9 rfl rfl fun w hw => (hTot w hw).mono ?_
  rintro e w' ⟨rfl, hw'⟩
  (refine ⟨_, rfl, _, hw', ?_⟩; clear hw' hw w w')
  clear hTot
  have hK : JS Tryz.prog 23 Tryz.f23.ntmps (fun e w' => e = .returned (.bool true) ∧ St w0 H w') [] w0 (todo Tryz.f23 [.b, .b, .b]) [(0, .pointer (some ⟨bh, 0, none⟩)), (1, .pointer (some ⟨r, 0, none⟩)), (2, .slice p1 n d1), (3, .slice p2 m d2), (9, .int .u64 0), (10, .int .u64 (sw T))] H := by
    generalize hbe : (fun i => BT u g T 0 (t i)) = b at *
    have hbi : ∀ i, BT u g T 0 (t i) = b i := fun i => by rw [← hbe]
    generalize hSe : sw T = S at *
    clear hz hz2
    refine JS_at rfl ?_
    repeat (first | (apply gJR; first | (refine sx ?_; try intro _)) | (apply gJO; first | (refine sx ?_; try intro _)) | apply JS_seq | apply JS_region)
    refine JS_block ?_
    refine JS_loop1 (fun (i : Nat) => [(0, .pointer (some ⟨bh, 0, none⟩)), (1, .pointer (some ⟨r, 0, none⟩)), (2, .slice p1 n d1), (3, .slice p2 m d2), (9, .int .u64 (wz b i)), (10, .int .u64 S), (11, .int .i64 i)]) (fun _ => H) (fun i => i ≤ n) (fun i => n - i) 0 (Nat.zero_le _) (by repeat (first | exact trivial | refine ⟨rfl, ?_⟩ | refine ⟨lookI rfl (by omega), ?_⟩)) (fun w hw => hw) ?_
    intro i hi again
    by_cases hin : i < n
    · have hne := hS.lt i hin
      have g0 := stF_g0 t b hin
      have g1 := stF_g1 t b hin
      have g2 := stF_g2 t b hin
      have hti := hTt i hin
      have gT : (ints .i64 TO)[i]? = some (.int .i64 (t i)) := by rw [ints_get (by omega), hti]
      have c1 : IntKind.u64.wrap (b i - wz b i) = (b i - wz b i) % 18446744073709551616 := mu64 _
      repeat (first | (apply gJO; first | refine JO_v (oL (V_load (tb := tb) rfl hr1 rfl rfl rfl rfl)) ?_ | refine JO_v (oL (V_loadC (tb := tb) rfl hR2 rfl rfl gT rfl)) ?_ | refine JO_v (oIA (V_index (tb := tb) rfl rfl rfl rfl hR2.sl (by omega) (by (try simp only [tn, tna, tn1, tn2, tn3, tn4, tnd16, tnd8, Int.reduceToNat]); first | exact Nat.mul_one _ | exact rfl) rfl)) ?_) | first | (refine sx ?_; try intro _))
      refine JO_call Tryz.call16 rfl rfl fun w hw => (hB i hin w hw).mono ?_
      rintro e w' ⟨rfl, hw'⟩
      (refine ⟨_, rfl, _, hw', ?_⟩; clear hw' hw w w')
      rw [hbi]
      repeat (first | (apply gQO; first | refine QO_v rfl (oL (V_loadC (tb := tb) rfl hR2 rfl rfl gT rfl)) ?_ | refine QO_v rfl (oL (V_loadC (tb := tb) rfl hL rfl rfl g0 rfl)) ?_ | refine QO_v rfl (oL (V_loadC (tb := tb) rfl hL rfl rfl g1 rfl)) ?_ | refine QO_v rfl (oL (V_loadC (tb := tb) rfl hL rfl rfl g2 rfl)) ?_ | refine QO_v rfl (V_sub rfl rfl c1 rfl) ?_ | refine QO_v rfl (oIA (V_index (tb := tb) rfl rfl rfl rfl hL.sl (by omega) (by (try simp only [tn, tna, tn1, tn2, tn3, tn4, tnd16, tnd8, Int.reduceToNat]); first | exact Nat.mul_one _ | exact rfl) rfl)) ?_) | first | (refine sx ?_; try intro _))
      exact JS_again1 again (i + 1) (by omega) (by omega) (by repeat (first | exact trivial | refine ⟨rfl, ?_⟩ | refine ⟨lookI rfl (by omega), ?_⟩)) (fun w hw => hw)
    · obtain rfl : i = n := by omega
      have he := hS.eq
      rw [he]
      clear again
      repeat (first | (refine sx ?_; try intro _))
      refine JO_call Tryz.call52 rfl rfl fun w hw => (hHT w hw).mono ?_
      rintro e w' ⟨rfl, hw'⟩
      (refine ⟨_, rfl, _, hw', ?_⟩; clear hw' hw w w')
      repeat (first | (refine sx ?_; try intro _))
      exact JS_ret Tryz.func23 rfl rfl fun w hw => ⟨rfl, hw⟩
  by_cases h0 : sw T = 0
  · obtain rfl := hz h0
    rw [h0] at hK ⊢
    repeat (first | apply hIz 4 | first | (refine sx ?_; try intro _))
    refine Hold.go ?_
    exact JS_weak (JS_of_at hK rfl) (by repeat (first | exact trivial | refine ⟨rfl, ?_⟩ | refine ⟨lookI rfl (by omega), ?_⟩)) (fun w hw => hw)
  · have := hz2 h0
    repeat (first | apply hIz 4 | first | (refine sx ?_; try intro _))
    refine Hold.go ?_
    exact JS_weak (JS_of_at hK rfl) (by repeat (first | exact trivial | refine ⟨rfl, ?_⟩ | refine ⟨lookI rfl (by omega), ?_⟩)) (fun w hw => hw)
end
end Go.Proofs.YtmnilpjgkjkecaaGreat

namespace Go.Proofs.YtmnilpjgkjkecaaGreat
open Sx Go Hd
set_option linter.unusedVariables false
set_option linter.unusedSimpArgs false
theorem u1 : uOf 1 = 0 := by decide
theorem g3 : gOf 3 = 11 := by decide
theorem shOK_alive : shOK 1 2000 3 := by decide
theorem b2000 : 1 + bkt 0 11 (Int.toNat 2000) = 1 := by decide
theorem chkA : chk 0 11 false 1 (sw []) 7 2 = 0 := by decide
theorem chkB : chk 0 11 false 1 2 1500 1 = 0 := by decide
theorem chkC : chk 0 11 false 1 3 2048 1 = 5 := by decide
theorem chkD : chk 0 11 true 1 (sw []) 5000 1 = 0 := by decide
theorem nxA : max 1 (1 + bkt 0 11 (Int.toNat 7)) = 1 ∧ putT (idx 0 11 (Int.toNat 7) : Nat) 2 [] = [(7, 2)] := by decide
theorem nxB : max 1 (1 + bkt 0 11 (Int.toNat 1500)) = 1 ∧ putT (idx 0 11 (Int.toNat 1500) : Nat) 1 [(7, 2)] = [(7, 2), (1500, 1)] := by decide
theorem nxD : max 1 (1 + bkt 0 11 (Int.toNat 5000)) = 3 ∧ putT (idx 0 11 (Int.toNat 5000) : Nat) 1 [] = [(3298, 1)] := by decide
theorem gtB : GT [(7, 2), (1500, 1)] := ⟨by decide, by decide, by decide, by decide⟩
theorem gtA : GT [(7, 2)] := ⟨by decide, by decide, by decide, by decide⟩
theorem gtD : GT [(3298, 1)] := ⟨by decide, by decide, by decide, by decide⟩
instance (u g k : Nat) : Decidable (isI u g k) := by unfold isI; infer_instance
theorem ksB : KSI 0 11 [(7, 2), (1500, 1)] := fun x hx => by
  rcases List.mem_cons.1 hx with rfl | hx
  · exact ⟨7, rfl, by decide⟩
  · rw [List.mem_singleton.1 hx]; exact ⟨1500, rfl, by decide⟩
theorem ksD : KSI 0 11 [(3298, 1)] := fun x hx => by rw [List.mem_singleton.1 hx]; exact ⟨3298, rfl, by decide⟩
theorem at_1 {rr f : Int} (h : RK 1 2 (sw [(7, 2), (1500, 1)]) rr f) : f = 0 ∧ rr = 2 := by
  rw [show sw [(7, 2), (1500, 1)] = 3 by decide] at h
  unfold RK RV at h; omega
theorem at_2 {rr f : Int} (h : RK 1 1 (sw [(7, 2), (1500, 1)]) rr f) : f = 0 ∧ rr = 3 := by
  rw [show sw [(7, 2), (1500, 1)] = 3 by decide] at h
  unfold RK RV at h; omega
theorem at_3 {rr f : Int} (h : RK 1 1 (sw [(3298, 1)]) rr f) : f = 0 ∧ rr = 1 := by
  rw [show sw [(3298, 1)] = 1 by decide] at h
  unfold RK RV at h; omega
theorem ky_1 {k : Nat} (h : KY [(7, 2), (1500, 1)] 2 k) : (hiI 0 11 k : Int) = 7 := by
  have h1 := KY_fun gtB.okt h (v' := 7) (.inl ⟨0, by decide, .inl rfl, by decide, rfl⟩)
  obtain rfl : k = 7 := by omega
  decide
theorem ky_2 {k : Nat} (h : KY [(7, 2), (1500, 1)] 3 k) : (hiI 0 11 k : Int) = 1500 := by
  have h1 := KY_fun gtB.okt h (v' := 1500) (.inl ⟨1, by decide, .inr (by decide), by decide, rfl⟩)
  obtain rfl : k = 1500 := by omega
  decide
theorem ky_3 {k : Nat} (h : KY [(3298, 1)] 1 k) : (hiI 0 11 k : Int) = 5003 := by
  have h1 := KY_fun gtD.okt h (v' := 3298) (.inl ⟨0, by decide, .inl rfl, by decide, rfl⟩)
  obtain rfl : k = 3298 := by omega
  decide
theorem rch3 : rchv 0 11 2000 3 = 8191 := by decide
section
variable {w0 : World} {H : List Asn}
set_option maxRecDepth 10000 in
set_option maxHeartbeats 8000000 in
theorem alive18_c (w : World) (hw : St w0 H w) : Calls Tryz.prog 6 #[] w fun e w' => e = .returned (.bool true) ∧ St w0 H w' := by
  have hN1 := fun {H} w hw => HNew_c (w0 := w0) (H := H) 1 2000 3 false (by omega) (by omega) (by omega) w hw
  have hN2 := fun {H} w hw => HNew_c (w0 := w0) (H := H) 1 2000 3 true (by omega) (by omega) (by omega) w hw
  rw [u1, g3, b2000] at hN1 hN2
  refine enter (vs := []) Tryz.func6 rfl rfl rfl hw ?_
  clear hw w
  repeat (first | (refine sx ?_; try intro _))
  rename_i bx
  refine JO_call Tryz.call24 rfl rfl fun w hw => (hN1 w hw).mono ?_
  rintro e w' (⟨hno, _⟩ | ⟨_, h1, m1, b1, rfl, hw'⟩)
  · exact absurd shOK_alive hno
  (refine ⟨_, rfl, _, hw', ?_⟩; clear hw' hw w w')
  repeat (first | (refine sx ?_; try intro _))
  refine JO_call Tryz.call24 rfl rfl fun w hw => (hN2 w hw).mono ?_
  rintro e w' (⟨hno, _⟩ | ⟨_, h2, m2, b2, rfl, hw'⟩)
  · exact absurd shOK_alive hno
  clear hN1 hN2
  generalize hR : (blk m1 (mc 1 2000 3 0 11) :: blk m2 (mc 1 2000 3 0 11) :: H) = R
  have hM1 : blk m1 (mc 1 2000 3 0 11) ∈ R := hR ▸ List.Mem.head _
  have hM2 : blk m2 (mc 1 2000 3 0 11) ∈ R := hR ▸ List.Mem.tail _ (List.Mem.head _)
  have hRH : H.Sublist R := by rw [← hR]; exact (by repeat (first | exact List.Sublist.refl _ | apply List.Sublist.cons_cons | apply List.Sublist.cons))
  have hw2 : St w0 (blk h1 (hc m1 b1 false 1 (sw [])) :: mapL b1 [] 0 :: blk h2 (hc m2 b2 true 1 (sw [])) :: mapL b2 [] 0 :: R) w' := by
    rw [← hR]
    exact (hw'.perm (H' := blk bx [.int .i64 1, .int .i64 2000, .int .i64 3] :: blk h1 (hc m1 b1 false 1 0) :: mapL b1 [] 0 :: blk h2 (hc m2 b2 true 1 0) :: mapL b2 [] 0 :: blk m1 (mc 1 2000 3 0 11) :: blk m2 (mc 1 2000 3 0 11) :: H) (by (repeat (first | exact List.Perm.refl _ | refine List.Perm.cons _ ?_ | refine (List.perm_middle (l₁ := [_])).trans (List.Perm.cons _ ?_) | refine (List.perm_middle (l₁ := [_, _])).trans (List.Perm.cons _ ?_) | refine (List.perm_middle (l₁ := [_, _, _])).trans (List.Perm.cons _ ?_) | refine (List.perm_middle (l₁ := [_, _, _, _])).trans (List.Perm.cons _ ?_) | refine (List.perm_middle (l₁ := [_, _, _, _, _])).trans (List.Perm.cons _ ?_) | refine (List.perm_middle (l₁ := [_, _, _, _, _, _])).trans (List.Perm.cons _ ?_) | refine (List.perm_middle (l₁ := [_, _, _, _, _, _, _])).trans (List.Perm.cons _ ?_) | refine (List.perm_middle (l₁ := [_, _, _, _, _, _, _, _])).trans (List.Perm.cons _ ?_) | refine (List.perm_middle (l₁ := [_, _, _, _, _, _, _, _, _])).trans (List.Perm.cons _ ?_) | refine (List.perm_middle (l₁ := [_, _, _, _, _, _, _, _, _, _])).trans (List.Perm.cons _ ?_) | refine (List.perm_middle (l₁ := [_, _, _, _, _, _, _, _, _, _, _])).trans (List.Perm.cons _ ?_) | refine (List.perm_middle (l₁ := [_, _, _, _, _, _, _, _, _, _, _, _])).trans (List.Perm.cons _ ?_) | refine (List.perm_middle (l₁ := [_, _, _, _, _, _, _, _, _, _, _, _, _])).trans (List.Perm.cons _ ?_))))).drop
  refine ⟨_, rfl, _, hw2, ?_⟩
  clear hw2 hw' hw w w' hR
  repeat (first | (refine sx ?_; try intro _))
  refine JO_call Tryz.call25 rfl rfl fun w hw => (HRecord_c h1 m1 b1 false 1 [] 0 [] (List.Mem.tail _ (List.Mem.tail _ hM1)) (by decide) (by decide) (by decide) HM.nil GT.nil 7 2 (by decide) (by decide) w hw).mono ?_
  rintro e w' ⟨rfl, ⟨hne, _⟩ | ⟨_, es1, c1, hE1, hw'⟩⟩
  · exact absurd chkA hne
  rw [nxA.1, nxA.2] at *
  rw [chkA]
  (refine ⟨_, rfl, _, hw', ?_⟩; clear hw' hw w w')
  repeat (first | (refine sx ?_; try intro _))
  refine JO_call Tryz.call25 rfl rfl fun w hw => (HRecord_c h1 m1 b1 false 1 es1 c1 [(7, 2)] (List.Mem.tail _ (List.Mem.tail _ hM1)) (by decide) (by decide) (by decide) hE1 gtA 1500 1 (by decide) (by decide) w hw).mono ?_
  rintro e w' ⟨rfl, ⟨hne, _⟩ | ⟨_, es2, c2, hE2, hw'⟩⟩
  · exact absurd chkB hne
  rw [nxB.1, nxB.2] at *
  rw [show chk 0 11 false 1 (sw [(7, 2)]) 1500 1 = 0 from chkB]
  (refine ⟨_, rfl, _, hw', ?_⟩; clear hw' hw w w')
  repeat (first | (refine sx ?_; try intro _))
  refine JO_call Tryz.call25 rfl rfl fun w hw => (HRecord_c h1 m1 b1 false 1 es2 c2 [(7, 2), (1500, 1)] (List.Mem.tail _ (List.Mem.tail _ hM1)) (by decide) (by decide) (by decide) hE2 gtB 2048 1 (by decide) (by decide) w hw).mono ?_
  rintro e w' ⟨rfl, hor⟩
  have hw' := hor.elim (fun h => h.2) (fun h => absurd h.1 (by decide))
  clear hor
  rw [show chk 0 11 false 1 (sw [(7, 2), (1500, 1)]) 2048 1 = 5 from chkC]
  have hw2 := hw'.perm (H' := blk h2 (hc m2 b2 true 1 (sw [])) :: mapL b2 [] 0 :: blk h1 (hc m1 b1 false 1 (sw [(7, 2), (1500, 1)])) :: mapL b1 es2 c2 :: R) (by (repeat (first | exact List.Perm.refl _ | refine List.Perm.cons _ ?_ | refine (List.perm_middle (l₁ := [_])).trans (List.Perm.cons _ ?_) | refine (List.perm_middle (l₁ := [_, _])).trans (List.Perm.cons _ ?_) | refine (List.perm_middle (l₁ := [_, _, _])).trans (List.Perm.cons _ ?_) | refine (List.perm_middle (l₁ := [_, _, _, _])).trans (List.Perm.cons _ ?_) | refine (List.perm_middle (l₁ := [_, _, _, _, _])).trans (List.Perm.cons _ ?_) | refine (List.perm_middle (l₁ := [_, _, _, _, _, _])).trans (List.Perm.cons _ ?_) | refine (List.perm_middle (l₁ := [_, _, _, _, _, _, _])).trans (List.Perm.cons _ ?_) | refine (List.perm_middle (l₁ := [_, _, _, _, _, _, _, _])).trans (List.Perm.cons _ ?_) | refine (List.perm_middle (l₁ := [_, _, _, _, _, _, _, _, _])).trans (List.Perm.cons _ ?_) | refine (List.perm_middle (l₁ := [_, _, _, _, _, _, _, _, _, _])).trans (List.Perm.cons _ ?_) | refine (List.perm_middle (l₁ := [_, _, _, _, _, _, _, _, _, _, _])).trans (List.Perm.cons _ ?_) | refine (List.perm_middle (l₁ := [_, _, _, _, _, _, _, _, _, _, _, _])).trans (List.Perm.cons _ ?_) | refine (List.perm_middle (l₁ := [_, _, _, _, _, _, _, _, _, _, _, _, _])).trans (List.Perm.cons _ ?_))))
  refine ⟨_, rfl, _, hw2, ?_⟩
  clear hw2 hw' hw w w'
  repeat (first | (refine sx ?_; try intro _))
  refine JO_call Tryz.call25 rfl rfl fun w hw => (HRecord_c h2 m2 b2 true 1 [] 0 [] (List.Mem.tail _ (List.Mem.tail _ hM2)) (by decide) (by decide) (by decide) HM.nil GT.nil 5000 1 (by decide) (by decide) w hw).mono ?_
  rintro e w' ⟨rfl, ⟨hne, _⟩ | ⟨_, es3, c3, hE3, hw'⟩⟩
  · exact absurd chkD hne
  rw [nxD.1, nxD.2] at *
  rw [chkD]
  (refine ⟨_, rfl, _, hw', ?_⟩; clear hw' hw w w')
  repeat (first | (refine sx ?_; try intro _))
  refine JO_call Tryz.call10 rfl rfl fun w hw => (HAt_c h1 m1 b1 false 1 _ es2 c2 [(7, 2), (1500, 1)] (List.Mem.tail _ (List.Mem.tail _ (List.Mem.head _))) (List.Mem.tail _ (List.Mem.tail _ (List.Mem.tail _ (List.Mem.head _)))) (List.Mem.tail _ (List.Mem.tail _ (List.Mem.tail _ (List.Mem.tail _ hM1)))) hE2 gtB ksB (by decide) (by decide) (by decide) 1 2 (by decide) (by decide) w hw).mono ?_
  rintro e w' ⟨v, f, rr, rfl, hw', hRK, _, hk⟩
  obtain ⟨rfl, rfl⟩ := at_1 hRK
  obtain ⟨k, _, hky, rfl⟩ := hk rfl
  rw [ky_1 hky]
  (refine ⟨_, rfl, _, hw', ?_⟩; clear hw' hw w w')
  clear hRK hk hky
  repeat (first | (refine sx ?_; try intro _))
  refine JO_call Tryz.call10 rfl rfl fun w hw => (HAt_c h1 m1 b1 false 1 _ es2 c2 [(7, 2), (1500, 1)] (List.Mem.tail _ (List.Mem.tail _ (List.Mem.head _))) (List.Mem.tail _ (List.Mem.tail _ (List.Mem.tail _ (List.Mem.head _)))) (List.Mem.tail _ (List.Mem.tail _ (List.Mem.tail _ (List.Mem.tail _ hM1)))) hE2 gtB ksB (by decide) (by decide) (by decide) 1 1 (by decide) (by decide) w hw).mono ?_
  rintro e w' ⟨v, f, rr, rfl, hw', hRK, _, hk⟩
  obtain ⟨rfl, rfl⟩ := at_2 hRK
  obtain ⟨k, _, hky, rfl⟩ := hk rfl
  rw [ky_2 hky]
  (refine ⟨_, rfl, _, hw', ?_⟩; clear hw' hw w w')
  clear hRK hk hky
  repeat (first | (refine sx ?_; try intro _))
  refine JO_call Tryz.call10 rfl rfl fun w hw => (HAt_c h2 m2 b2 true 3 _ es3 c3 [(3298, 1)] (List.Mem.head _) (List.Mem.tail _ (List.Mem.head _)) (List.Mem.tail _ (List.Mem.tail _ (List.Mem.tail _ (List.Mem.tail _ hM2)))) hE3 gtD ksD (by decide) (by decide) (by decide) 1 1 (by decide) (by decide) w hw).mono ?_
  rintro e w' ⟨v, f, rr, rfl, hw', hRK, _, hk⟩
  obtain ⟨rfl, rfl⟩ := at_3 hRK
  obtain ⟨k, _, hky, rfl⟩ := hk rfl
  rw [ky_3 hky]
  (refine ⟨_, rfl, _, hw', ?_⟩; clear hw' hw w w')
  clear hRK hk hky
  repeat (first | (refine sx ?_; try intro _))
  refine JO_call Tryz.call29 rfl rfl fun w hw => (HBuckets_c h2 m2 b2 true 3 _ (List.Mem.head _) w hw).mono ?_
  rintro e w' ⟨rfl, hw'⟩
  (refine ⟨_, rfl, _, hw', ?_⟩; clear hw' hw w w')
  repeat (first | (refine sx ?_; try intro _))
  refine JO_call Tryz.call30 rfl rfl fun w hw => (HReach_c h2 m2 b2 true 3 _ (List.Mem.head _) (List.Mem.tail _ (List.Mem.tail _ (List.Mem.tail _ (List.Mem.tail _ hM2)))) (by decide) (by decide) (by decide) (by decide) w hw).mono ?_
  rw [rch3]
  rintro e w' ⟨rfl, hw'⟩
  (refine ⟨_, rfl, _, hw', ?_⟩; clear hw' hw w w')
  repeat (first | (refine sx ?_; try intro _))
  exact JS_ret Tryz.func6 rfl rfl fun w hw => ⟨rfl, St.sub ((((hRH.cons _).cons _).cons _).cons _) hw⟩
end
end Go.Proofs.YtmnilpjgkjkecaaGreat

namespace Go.Proofs.YtmnilpjgkjkecaaGreat
open Sx Go Go.ChangeShapes Go.WideShapes
set_option linter.unusedVariables false
set_option linter.unusedSimpArgs false
theorem cell_lt {w : World} {a : Addr} {v : Value} (h : w.cell? a = some v) : a.block < w.heap.size := by
  rcases Nat.lt_or_ge a.block w.heap.size with h1 | h1
  · exact h1
  · simp [World.cell?, Array.getElem?_eq_none h1] at h
theorem wf64 {a : Int} (h : (Lit.int .i64 a).wf = true) : -9223372036854775808 ≤ a ∧ a < 9223372036854775808 := by
  simp only [Lit.wf, Bool.and_eq_true, decide_eq_true_eq] at h
  have h1 : IntKind.i64.min = -9223372036854775808 := by decide
  have h2 : IntKind.i64.max = 9223372036854775808 - 1 := by decide
  omega
theorem wfu64 {a : Int} (h : (Lit.int .u64 a).wf = true) : 0 ≤ a ∧ a < 18446744073709551616 := by
  simp only [Lit.wf, Bool.and_eq_true, decide_eq_true_eq] at h
  have h1 : IntKind.u64.min = 0 := by decide
  have h2 : IntKind.u64.max = 18446744073709551616 - 1 := by decide
  omega
theorem argRd_mk {w0 : World} {u : Value} {m : Nat} {cs : List Value} (h1 : isSl u m) (h2 : ∀ j v, cs[j]? = some v → ∃ a, cellPtr u j = .pointer (some a) ∧ a.block < w0.heap.size ∧ w0.cell? a = some v) : ArgRd w0 u m cs := by
  unfold ArgRd; exact ⟨h1, h2⟩
def iv : Value → Int
  | .int _ n => n
  | _ => 0
theorem wfu8 {a : Int} (h : (Lit.int .u8 a).wf = true) : 0 ≤ a ∧ a < 256 := by
  simp only [Lit.wf, Bool.and_eq_true, decide_eq_true_eq] at h
  have h1 : IntKind.u8.min = 0 := by decide
  have h2 : IntKind.u8.max = 256 - 1 := by decide
  omega
end Go.Proofs.YtmnilpjgkjkecaaGreat

namespace Go.Proofs.YtmnilpjgkjkecaaGreat
open Sx Go
set_option linter.unusedVariables false
set_option linter.unusedSimpArgs false
/-- bytes -/
def OKB (B : List Int) : Prop := ∀ j, 0 ≤ B.getD j 0 ∧ B.getD j 0 < 256
end Go.Proofs.YtmnilpjgkjkecaaGreat

namespace Go.Proofs.YtmnilpjgkjkecaaGreat
open Sx Go Go.ChangeShapes Go.WideShapes
set_option linter.unusedVariables false
set_option linter.unusedSimpArgs false
theorem cells3 : Tryz.prog.cellsOf 3 = 1 := by kernel_rfl
def OKI (B : List Int) : Prop := ∀ j, -9223372036854775808 ≤ B.getD j 0 ∧ B.getD j 0 < 9223372036854775808
set_option maxRecDepth 100000 in
/-- a slice of numbers that came in -/
theorem open_ints {H : Type} {enc : TypeId × Value → H} {W : World} {base : Nat} {v : Value} {d : DataW H} {p : List MemPlace} (hval : Value.okWide Tryz.prog W .any base 131 v) (h : DataW.Trod enc Tryz.prog W 0 (fun _ => true) true 131 v d p) :
    ∃ (b : Option Addr) (c m : Nat) (B : List Int), v = .slice b m c ∧ ArgRd W (.slice b m c) m (ints .i64 B) ∧ B.length = m ∧ (OKI B ∧ (b = none → m = 0)) ∧ (m = 0 ∨ ∃ E S, d = .slice E S ∧ E.length = m) := by
  obtain ⟨b, m, c, rfl⟩ := okWide_slice Tryz.underlying131 hval
  obtain ⟨fuel, hf⟩ := h
  rcases Go.ChangeShapes.open_ints Tryz.underlying131 Tryz.underlying3 cells3 hf with ⟨hcs, _⟩ | ⟨a, len', cap', zs, hcs, _, hl, hm, hz, hx, hcell, hwz⟩
  · simp [Value.cells] at hcs
    obtain ⟨rfl, rfl, rfl⟩ := hcs
    exact ⟨none, 0, 0, [], rfl, argRd_mk ⟨none, 0, rfl, fun _ => rfl, Nat.le_refl _⟩ (fun j v h => by simp [ints] at h), rfl, ⟨fun j => by simp, fun _ => rfl⟩, .inl rfl⟩
  · simp [Value.cells] at hcs
    obtain ⟨rfl, rfl, rfl⟩ := hcs
    simp only [if_true] at hz
    refine ⟨some a, c, m, zs.take m, rfl, argRd_mk ⟨some a, c, rfl, (fun h => by cases h), hl⟩ (fun j v hv => ?_), by simp; omega, ⟨fun j => ?_, fun h => (by cases h)⟩, .inr ⟨_, _, congrArg Prod.fst hx, by simp [lits]; omega⟩⟩
    · have hj : j < m := by
        have := (List.getElem?_eq_some_iff.1 hv).1
        simp [ints] at this; omega
      have e : (ints .i64 (zs.take m))[j]? = some (.int .i64 (zs.getD j 0)) := by
        have := ints_get (K := .i64) (l := zs.take m) (j := j) (by simp; omega)
        rw [this]
        congr 2
        simp [List.getD_eq_getElem?_getD, List.getElem?_take, hj]
      rw [e] at hv
      obtain rfl := Option.some.inj hv
      exact ⟨a.add j, cellPtr_eq a m c j, by simpa using cell_lt (hcell j (by omega)), hcell j (by omega)⟩
    · rcases Nat.lt_or_ge j m with hj | hj
      · have : (zs.take m).getD j 0 = zs[j]'(by omega) := by simp [List.getD_eq_getElem?_getD, List.getElem?_take, hj, show j < zs.length by omega]
        rw [this]
        exact wf64 (hwz _ (List.getElem_mem _))
      · have : (zs.take m).getD j 0 = 0 := by
          rw [List.getD_eq_getElem?_getD, List.getElem?_eq_none (by simp; omega)]; rfl
        rw [this]; decide
end Go.Proofs.YtmnilpjgkjkecaaGreat

namespace Go.Proofs.YtmnilpjgkjkecaaGreat
open Sx Go Go.ChangeShapes Go.WideShapes
set_option linter.unusedVariables false
set_option linter.unusedSimpArgs false
theorem cellsI2 : Tryz.prog.cellsOf 2 = 1 := by kernel_rfl
theorem cellsI82 : Tryz.prog.cellsOf 74 = 1 := by kernel_rfl
def OKH (B : List Int) : Prop := ∀ j, 0 ≤ B.getD j 0 ∧ B.getD j 0 < 65536
theorem wfu16' {a : Int} (h : (Lit.int .u16 a).wf = true) : 0 ≤ a ∧ a < 65536 := by
  simp only [Lit.wf, Bool.and_eq_true, decide_eq_true_eq] at h
  have h1 : IntKind.u16.min = 0 := by decide
  have h2 : IntKind.u16.max = 65535 := by decide
  omega
set_option maxRecDepth 100000 in
/-- a slice of numbers with a sign that came in -/
theorem open_i64s {H : Type} {enc : TypeId × Value → H} {W : World} {base : Nat} {v : Value} {d : DataW H} {p : List MemPlace} (hval : Value.okWide Tryz.prog W .any base 23 v) (h : DataW.Trod enc Tryz.prog W 0 (fun _ => true) true 23 v d p) :
    ∃ (b : Option Addr) (c m : Nat) (B : List Int), v = .slice b m c ∧ ArgRd W (.slice b m c) m (ints .i64 B) ∧ B.length = m ∧ (OKI B ∧ (b = none → m = 0)) ∧ (m = 0 ∨ ∃ E S, d = .slice E S ∧ E.length = m) := by
  obtain ⟨b, m, c, rfl⟩ := okWide_slice Tryz.underlying23 hval
  obtain ⟨fuel, hf⟩ := h
  rcases Go.ChangeShapes.open_ints Tryz.underlying23 Tryz.underlying2 cellsI2 hf with ⟨hcs, _⟩ | ⟨a, len', cap', zs, hcs, _, hl, hm, hz, hx, hcell, hwz⟩
  · simp [Value.cells] at hcs
    obtain ⟨rfl, rfl, rfl⟩ := hcs
    exact ⟨none, 0, 0, [], rfl, argRd_mk ⟨none, 0, rfl, fun _ => rfl, Nat.le_refl _⟩ (fun j v h => by simp [ints] at h), rfl, ⟨fun j => by simp, fun _ => rfl⟩, .inl rfl⟩
  · simp [Value.cells] at hcs
    obtain ⟨rfl, rfl, rfl⟩ := hcs
    simp only [if_true] at hz
    refine ⟨some a, c, m, zs.take m, rfl, argRd_mk ⟨some a, c, rfl, (fun h => by cases h), hl⟩ (fun j v hv => ?_), by simp; omega, ⟨fun j => ?_, fun h => (by cases h)⟩, .inr ⟨_, _, congrArg Prod.fst hx, by simp [lits]; omega⟩⟩
    · have hj : j < m := by
        have := (List.getElem?_eq_some_iff.1 hv).1
        simp [ints] at this; omega
      have e : (ints .i64 (zs.take m))[j]? = some (.int .i64 (zs.getD j 0)) := by
        have := ints_get (K := .i64) (l := zs.take m) (j := j) (by simp; omega)
        rw [this]
        congr 2
        simp [List.getD_eq_getElem?_getD, List.getElem?_take, hj]
      rw [e] at hv
      obtain rfl := Option.some.inj hv
      exact ⟨a.add j, cellPtr_eq a m c j, by simpa using cell_lt (hcell j (by omega)), hcell j (by omega)⟩
    · rcases Nat.lt_or_ge j m with hj | hj
      · have : (zs.take m).getD j 0 = zs[j]'(by omega) := by simp [List.getD_eq_getElem?_getD, List.getElem?_take, hj, show j < zs.length by omega]
        rw [this]
        exact wf64 (hwz _ (List.getElem_mem _))
      · have : (zs.take m).getD j 0 = 0 := by
          rw [List.getD_eq_getElem?_getD, List.getElem?_eq_none (by simp; omega)]; rfl
        rw [this]; decide
set_option maxRecDepth 100000 in
/-- a slice of short numbers that came in -/
theorem open_u16s {H : Type} {enc : TypeId × Value → H} {W : World} {base : Nat} {v : Value} {d : DataW H} {p : List MemPlace} (hval : Value.okWide Tryz.prog W .any base 24 v) (h : DataW.Trod enc Tryz.prog W 0 (fun _ => true) true 24 v d p) :
    ∃ (b : Option Addr) (c m : Nat) (B : List Int), v = .slice b m c ∧ ArgRd W (.slice b m c) m (ints .u16 B) ∧ B.length = m ∧ (OKH B ∧ (b = none → m = 0)) ∧ (m = 0 ∨ ∃ E S, d = .slice E S ∧ E.length = m) := by
  obtain ⟨b, m, c, rfl⟩ := okWide_slice Tryz.underlying24 hval
  obtain ⟨fuel, hf⟩ := h
  rcases Go.ChangeShapes.open_ints Tryz.underlying24 Tryz.underlying74 cellsI82 hf with ⟨hcs, _⟩ | ⟨a, len', cap', zs, hcs, _, hl, hm, hz, hx, hcell, hwz⟩
  · simp [Value.cells] at hcs
    obtain ⟨rfl, rfl, rfl⟩ := hcs
    exact ⟨none, 0, 0, [], rfl, argRd_mk ⟨none, 0, rfl, fun _ => rfl, Nat.le_refl _⟩ (fun j v h => by simp [ints] at h), rfl, ⟨fun j => by simp, fun _ => rfl⟩, .inl rfl⟩
  · simp [Value.cells] at hcs
    obtain ⟨rfl, rfl, rfl⟩ := hcs
    simp only [if_true] at hz
    refine ⟨some a, c, m, zs.take m, rfl, argRd_mk ⟨some a, c, rfl, (fun h => by cases h), hl⟩ (fun j v hv => ?_), by simp; omega, ⟨fun j => ?_, fun h => (by cases h)⟩, .inr ⟨_, _, congrArg Prod.fst hx, by simp [lits]; omega⟩⟩
    · have hj : j < m := by
        have := (List.getElem?_eq_some_iff.1 hv).1
        simp [ints] at this; omega
      have e : (ints .u16 (zs.take m))[j]? = some (.int .u16 (zs.getD j 0)) := by
        have := ints_get (K := .u16) (l := zs.take m) (j := j) (by simp; omega)
        rw [this]
        congr 2
        simp [List.getD_eq_getElem?_getD, List.getElem?_take, hj]
      rw [e] at hv
      obtain rfl := Option.some.inj hv
      exact ⟨a.add j, cellPtr_eq a m c j, by simpa using cell_lt (hcell j (by omega)), hcell j (by omega)⟩
    · rcases Nat.lt_or_ge j m with hj | hj
      · have : (zs.take m).getD j 0 = zs[j]'(by omega) := by simp [List.getD_eq_getElem?_getD, List.getElem?_take, hj, show j < zs.length by omega]
        rw [this]
        exact wfu16' (hwz _ (List.getElem_mem _))
      · have : (zs.take m).getD j 0 = 0 := by
          rw [List.getD_eq_getElem?_getD, List.getElem?_eq_none (by simp; omega)]; rfl
        rw [this]; decide
end Go.Proofs.YtmnilpjgkjkecaaGreat

namespace Go.Proofs.YtmnilpjgkjkecaaGreat
open Sx Go Hd
set_option linter.unusedVariables false
set_option linter.unusedSimpArgs false
/-- the first of some values, as a list -/
def tol (f : Nat → Int) (m : Nat) : List Int := (List.range m).map f
theorem tol_succ (f : Nat → Int) (m : Nat) : tol f (m + 1) = tol f m ++ [f m] := by unfold tol; rw [List.range_succ, List.map_append]; rfl
theorem tol_len (f : Nat → Int) (m : Nat) : (tol f m).length = m := by unfold tol; simp
theorem tol_get (f : Nat → Int) {m i : Nat} (h : i < m) : (tol f m).getD i 0 = f i := by
  unfold tol
  rw [List.getD_eq_getElem?_getD, List.getElem?_map, List.getElem?_range h]; rfl
theorem hal_key {u g : Nat} {T : List (Int × Int)} (hG : GT T) (hK : KSI u g T) (hug : u + g ≤ 62) (hg : 1 ≤ g) (hnz : sw T ≠ 0) {c i : Nat} (hc : 1 ≤ c ∧ c ≤ 64) (hi : i / c ≤ 20) :
    ∃ k : Nat, kyV T (rkV (hN c i) (hD c i) (sw T)) = k ∧ isI u g k ∧ halT u g T c i = (hiI u g k : Nat) ∧ hiI u g k < 9223372036854775808 := by
  have hb := hND hc hi
  have hrk := rkV_spec hb.2.2.2.2.2.2.1 hb.2.2.2.2.2.1 hnz
  have hbb := RK_bd hb.2.2.2.2.1 (sw_nn hG.pos) hrk
  have hne : T ≠ [] := fun h => by subst h; exact hnz rfl
  obtain ⟨x, hx, hxk⟩ := KY_mem (kyV_spec T _) hbb.2.2.2.2 hne
  obtain ⟨k, hk1, hk2⟩ := hK x hx
  refine ⟨k, by rw [← hxk, hk1], hk2, ?_, hiI_lt hug hg hk2⟩
  unfold halT
  rw [← hxk, hk1, Int.toNat_natCast]
section
variable {w0 : World} {H : List Asn} {lo hi dg : Int} {u g : Nat}
set_option maxRecDepth 10000 in
theorem HalvesN_c (bh mb bm : Nat) (gr : Bool) (bu : Nat) (tot : Int) (hh : blk bh (hc mb bm gr bu tot) ∈ H) (c : Int) (hcb : -9223372036854775808 ≤ c ∧ c < 9223372036854775808) (hcc : c < 1 ∨ 64 < c) (w : World) (hw : St w0 H w) :
    Calls Tryz.prog 21 #[.pointer (some ⟨bh, 0, none⟩), .int .i64 c] w fun e w' => e = .returned (.tuple #[.slice none 0 0, .int .i64 1]) ∧ St w0 H w' := by
  refine enter (vs := [.pointer (some ⟨bh, 0, none⟩), .int .i64 c]) Tryz.func21 rfl rfl rfl hw ?_
  clear hw w
  by_cases h1 : c < 1
  · repeat (first | (refine sx ?_; try intro _))
    exact JS_ret Tryz.func21 rfl rfl fun w hw => ⟨rfl, St.sub (by repeat (first | exact List.Sublist.refl _ | apply List.Sublist.cons_cons | apply List.Sublist.cons)) hw⟩
  · have h2 : 64 < c := by omega
    repeat (first | (refine sx ?_; try intro _))
    exact JS_ret Tryz.func21 rfl rfl fun w hw => ⟨rfl, St.sub (by repeat (first | exact List.Sublist.refl _ | apply List.Sublist.cons_cons | apply List.Sublist.cons)) hw⟩
set_option maxRecDepth 10000 in
theorem HalvesX_c (bh mb bm : Nat) (gr : Bool) (bu : Nat) (tot : Int) (hh : blk bh (hc mb bm gr bu tot) ∈ H) (ht : 1125899906842624 < tot) (c : Nat) (hcc : 1 ≤ c ∧ c ≤ 64) (w : World) (hw : St w0 H w) :
    Calls Tryz.prog 21 #[.pointer (some ⟨bh, 0, none⟩), .int .i64 c] w fun e w' => e = .returned (.tuple #[.slice none 0 0, .int .i64 6]) ∧ St w0 H w' := by
  refine enter (vs := [.pointer (some ⟨bh, 0, none⟩), .int .i64 c]) Tryz.func21 rfl rfl rfl hw ?_
  clear hw w
  repeat (first | (apply gJO; first | refine JO_v (oL (V_load (tb := tb) rfl (List.Mem.tail _ (List.Mem.tail _ hh)) rfl rfl rfl rfl)) ?_) | first | (refine sx ?_; try intro _))
  exact JS_ret Tryz.func21 rfl rfl fun w hw => ⟨rfl, St.sub (by repeat (first | exact List.Sublist.refl _ | apply List.Sublist.cons_cons | apply List.Sublist.cons)) hw⟩
end
set_option maxRecDepth 10000 in
set_option maxHeartbeats 8000000 in
theorem HdrHalves_l (a0 a1 : Int) (lp : Option Addr) (lc lm : Nat) (L : List Int) (np : Option Addr) (nc nm : Nat) (N : List Int) (a4 : Int) (w0 : World) (h0 : 0 ≤ a0 ∧ a0 < 18446744073709551616) (h1 : 0 ≤ a1 ∧ a1 < 256)
    (hL : ArgRd w0 (.slice lp lm lc) lm (ints .i64 L)) (lL : L.length = lm) (kL : OKI L ∧ (lp = none → lm = 0) ∧ lm ≤ 17592186043904) (hN : ArgRd w0 (.slice np nm nc) nm (ints .u16 N)) (lN : N.length = nm) (kN : OKH N ∧ (np = none → nm = 0) ∧ nm ≤ 70368744175616)
    (h4 : -9223372036854775808 ≤ a4 ∧ a4 < 9223372036854775808) :
    Calls Tryz.prog 4 #[.int .u64 a0, .int .u8 a1, .slice lp lm lc, .slice np nm nc, .int .i64 a4] w0 fun e w' => e = .returned (.bool true) ∧ RowKit.Below w0.heap.size w0 w' := by
  subst lL lN
  have hs := law_sh a0 a1 1000000 h0 h1 (by decide)
  have hl1 : 1 ≤ lawLo a0 ∧ lawLo a0 ≤ 100000 := by unfold lawLo; omega
  have hhi : lawHi a0 1000000 < 9223372036854775808 := by unfold lawHi; omega
  have hhi0 : 0 ≤ lawHi a0 1000000 := by unfold lawHi; omega
  have hd1 : 1 ≤ lawDg a1 ∧ lawDg a1 ≤ 5 := by unfold lawDg; omega
  have hSh := fun {H} w hw => Shape17_c (w0 := w0) (H := H) a0 a1 1000000 h0 h1 (by decide) w hw
  refine enter (vs := [.int .u64 a0, .int .u8 a1, .slice lp L.length lc, .slice np N.length nc, .int .i64 a4]) Tryz.func4 rfl rfl rfl (St.start w0) ?_
  generalize lawLo a0 = lo at *
  generalize lawHi a0 1000000 = hi at *
  generalize lawDg a1 = dg at *
  have hug := hs.2
  have hgd := gOf_bd hd1
  have hg' : 1 ≤ gOf dg ∧ gOf dg ≤ 18 := by omega
  repeat (first | (refine sx ?_; try intro _))
  refine JO_call Tryz.call6 rfl rfl fun w hw => (alive18_c w hw).mono ?_
  rintro e w' ⟨rfl, hw'⟩
  (refine ⟨_, rfl, _, hw', ?_⟩; clear hw' hw w w')
  repeat (first | (refine sx ?_; try intro _))
  refine JO_call Tryz.call7 rfl rfl fun w hw => (hSh w hw).mono ?_
  rintro e w' ⟨rfl, hw'⟩
  (refine ⟨_, rfl, _, hw', ?_⟩; clear hw' hw w w')
  repeat (first | (refine sx ?_; try intro _))
  refine JO_call Tryz.call8 rfl rfl fun w hw => (Recorded_c lo hi dg true hs hhi lp np lc nc L N (hL.rd _) (hN.rd _) kL.1 kN.1 (by omega) (by omega) w hw).mono ?_
  rintro e w' ⟨h, m, b, r, es, clock, q, d, rfl, hE, hw'⟩
  have hb0 : 1 + bkt (uOf lo) (gOf dg) hi.toNat ≤ 64 := by
    have := bkt_63 (u := uOf lo) (g := gOf dg) (v := hi.toNat) (by omega) (by omega)
    omega
  obtain ⟨⟨ob, ogt⟩, ol⟩ := recS_ok (u := uOf lo) (g := gOf dg) (gr := true) (bu := 1 + bkt (uOf lo) (gOf dg) hi.toNat) (L := L) (W := wtN N) hug hg' hb0 (fun j => (kL.1 j).2) (fun j => by have := wtN_bd N j; omega) (min L.length 40)
  have hrg := recS_rg (u := uOf lo) (g := gOf dg) (bu := 1 + bkt (uOf lo) (gOf dg) hi.toNat) (L := L) (W := wtN N) (wtN_bd N) (min L.length 40) (by omega)
  have hks := hrg.ksi hug hg'.1 (fun j => (kL.1 j).2)
  have hsw4 := hrg.tot
  clear hrg
  have hNewN := fun {H} w hw => HNew_c (w0 := w0) (H := H) lo hi dg true (by omega) ⟨by omega, hhi⟩ (by omega) w hw
  generalize recS (uOf lo) (gOf dg) true (1 + bkt (uOf lo) (gOf dg) hi.toNat) L (wtN N) (min L.length 40) = s at *
  obtain ⟨bu, T⟩ := s
  dsimp only at ob ogt ol hks hE hw' hsw4
  generalize 1 + bkt (uOf lo) (gOf dg) hi.toNat = bu0 at *
  generalize uOf lo = u at *
  generalize gOf dg = g at *
  have hl : T.length ≤ 1000000 := by omega
  clear hSh hgd hL hN kL kN
  have hR0 : hA h m b r lo hi dg u g true bu es clock T q d = hA h m b r lo hi dg u g true bu es clock T q d := rfl
  refine ⟨_, rfl, hA h m b r lo hi dg u g true bu es clock T q d, St.sub (by repeat (first | exact List.Sublist.refl _ | apply List.Sublist.cons_cons | apply List.Sublist.cons)) hw', ?_⟩
  clear hw' hw w w' hR0
  have hh1 : blk h (hc m b true bu (sw T)) ∈ hA h m b r lo hi dg u g true bu es clock T q d := List.Mem.head _
  have hm1 : mapL b es clock ∈ hA h m b r lo hi dg u g true bu es clock T q d := List.Mem.tail _ (List.Mem.head _)
  have hr1 : blk r (rc lo hi dg u g true bu (.slice q T.length d)) ∈ hA h m b r lo hi dg u g true bu es clock T q d := List.Mem.tail _ (List.Mem.tail _ (List.Mem.head _))
  have hR1 : Rd w0 (hA h m b r lo hi dg u g true bu es clock T q d) (.slice q T.length d) T.length (flat T) := vec_rd (List.Mem.tail _ (List.Mem.tail _ (List.Mem.tail _ (List.Mem.head _))))
  have hM1 : blk m (mc lo hi dg u g) ∈ hA h m b r lo hi dg u g true bu es clock T q d := List.Mem.tail _ (List.Mem.tail _ (List.Mem.tail _ (List.Mem.tail _ (List.Mem.head _))))
  generalize hA h m b r lo hi dg u g true bu es clock T q d = R at *
  have hsw := sw_nn ogt.pos
  by_cases hbad : a4 < 1 ∨ 64 < a4
  · have hcase : a4 < 1 ∨ (¬ a4 < 1 ∧ 64 < a4) := by omega
    repeat (first | (apply gJO; first | refine JO_v (oL (V_load (tb := tb) rfl hr1 rfl rfl rfl rfl)) ?_ | refine JO_v (oL (V_loadA (tb := tb) rfl hr1 rfl rfl rfl rfl)) ?_) | first | (refine sx ?_; try intro _))
    refine JO_call Tryz.call21 rfl rfl fun w hw => (HalvesN_c h m b true bu (sw T) hh1 a4 h4 hbad w hw).mono ?_
    rintro e w' ⟨rfl, hw'⟩
    (refine ⟨_, rfl, _, hw', ?_⟩; clear hw' hw w w')
    rcases hcase with hx | ⟨hx1, hx2⟩
    all_goals (
      clear hbad
      repeat (first | (apply gJO; first | refine JO_v (oL (V_load (tb := tb) rfl hr1 rfl rfl rfl rfl)) ?_ | refine JO_v (oL (V_loadA (tb := tb) rfl hr1 rfl rfl rfl rfl)) ?_) | first | (refine sx ?_; try intro _))
      exact JS_ret Tryz.func4 rfl rfl fun w hw => ⟨rfl, hw.grown⟩)
  obtain ⟨c, rfl⟩ := Int.eq_ofNat_of_zero_le (show 0 ≤ a4 by omega)
  have hcc : 1 ≤ c ∧ c ≤ 64 := by omega
  repeat (first | (apply gJO; first | refine JO_v (oL (V_load (tb := tb) rfl hr1 rfl rfl rfl rfl)) ?_ | refine JO_v (oL (V_loadA (tb := tb) rfl hr1 rfl rfl rfl rfl)) ?_) | first | (refine sx ?_; try intro _))
  refine JO_call Tryz.call21 rfl rfl fun w hw => (Halves_c h m b true bu es clock T hh1 hm1 hM1 hE ogt hks hug hg' hl (by omega) c hcc w hw).mono ?_
  rintro e w' ⟨n, p1, d1, hn1, hS, rfl, hw'⟩
  (refine ⟨_, rfl, _, hw', ?_⟩; clear hw' hw w w')
  have hk := fun (hnz : sw T ≠ 0) i hi => hal_key ogt hks hug hg'.1 hnz hcc (i := i) hi
  have hz : sw T = 0 → n = 0 := fun h => by
    rcases Nat.eq_zero_or_pos n with h1 | h1
    · exact h1
    · exact absurd h.symm (hS.lt 0 h1)
  have hTt : ∀ i, i < n → -9223372036854775808 ≤ halT u g T c i ∧ halT u g T c i < 9223372036854775808 := fun i hi => by
    have hnz : sw T ≠ 0 := fun h => by have := hz h; omega
    have hd : i / c ≤ 20 := by
      have := Nat.div_le_div_right (c := c) (show i ≤ 17 * c by omega)
      rw [Nat.mul_div_cancel _ (by omega)] at this; omega
    obtain ⟨k, _, _, e, hlt⟩ := hk hnz i hd
    rw [e]; omega
  have hLS := fun (p2 : Option Addr) (d2 mm : Nat) (H' : List Asn) (hR2 : Rd w0 H' (.slice p2 mm d2) mm (ints .i64 (tol (halT u g T c) mm))) (hnm : n ≤ mm) (hmm : mm ≤ 1000000) (x1 : blk h (hc m b true bu (sw T)) ∈ H') (x2 : blk r (rc lo hi dg u g true bu (.slice q T.length d)) ∈ H') (x3 : Rd w0 H' (.slice q T.length d) T.length (flat T)) (x4 : Rd w0 H' (.slice p1 n d1) n (stF (halT u g T c) (fun i => BT u g T 0 (halT u g T c i)) n)) w hw => LSteps_c (w0 := w0) T h m b true bu x1 r q d x2 x3 ogt hug hg' hl (halT u g T c) n hS p1 d1 x4 p2 d2 mm (tol (halT u g T c) mm) hR2 (tol_len _ _) hnm hmm (fun i hi => tol_get _ (by omega)) hTt w hw
  have hTo := fun {H'} (x3 : Rd w0 H' (.slice q T.length d) T.length (flat T)) w hw => RTotal_c (w0 := w0) q d T.length T x3 rfl ogt.okt ogt.right hl w hw
  have hKy := fun {H'} rr (x3 : Rd w0 H' (.slice q T.length d) T.length (flat T)) w hw => RKey_c (w0 := w0) q d T.length T rr x3 rfl ogt.okt ogt.right hl w hw
  generalize (fun i => BT u g T 0 (halT u g T c i)) = bt at *
  generalize hVd : vec 103 3 (.slice p1 n d1) n (stF (halT u g T c) bt n) = V at *
  have hrS : Rd w0 (V :: R) (.slice p1 n d1) n (stF (halT u g T c) bt n) := by rw [← hVd]; exact vec_rd (List.Mem.head _)
  have hRk := fun {H'} x y (hx : 0 ≤ x ∧ x < 18446744073709551616) (hy : 0 ≤ y ∧ y < 18446744073709551616) w hw => RRank_c (w0 := w0) (H := H') x y (sw T) hx hy ⟨hsw, by have := ogt.tot; omega⟩ w hw
  have hEn := fun {H'} (x2 : blk r (rc lo hi dg u g true bu (.slice q T.length d)) ∈ H') k (hk : isI u g k) w hw => REnds_c (w0 := w0) r true bu _ x2 hug hg' k hk w hw
  -- behind the loop
  have hK : ∀ (mm : Nat) (p2 : Option Addr) (d2 : Nat), n ≤ mm → mm ≤ 1000000 → JS Tryz.prog 4 Tryz.f4.ntmps (fun e w' => e = .returned (.bool true) ∧ RowKit.Below w0.heap.size w0 w') [] w0 (todo Tryz.f4 [.b, .b, .b, .b, .b, .b, .b, .b, .b])
      [(4, .int .i64 c), (11, .pointer (some ⟨h, 0, none⟩)), (12, .pointer (some ⟨r, 0, none⟩)), (13, .slice p1 n d1), (14, .int .i64 0), (16, .slice p2 mm d2)] (vec 2 1 (.slice p2 mm d2) mm (ints .i64 (tol (halT u g T c) mm)) :: V :: R) := by
    intro mm p2 d2 hn2 hmm
    refine JS_at rfl ?_
    repeat (first | (apply gJO; first | refine JO_v (oL (V_load (tb := tb) rfl hr1 rfl rfl rfl rfl)) ?_ | refine JO_v (oL (V_loadA (tb := tb) rfl hr1 rfl rfl rfl rfl)) ?_) | first | (refine sx ?_; try intro _))
    refine JO_call Tryz.call23 rfl rfl fun w hw => (hLS p2 d2 mm _ (vec_rd (List.Mem.head _)) hn2 hmm (List.Mem.tail _ (List.Mem.tail _ hh1)) (List.Mem.tail _ (List.Mem.tail _ hr1)) (Rd_weak hR1 fun w hw => St.sub (by repeat (first | exact List.Sublist.refl _ | apply List.Sublist.cons_cons | apply List.Sublist.cons)) hw) (Rd_weak hrS fun w hw => St.sub (by repeat (first | exact List.Sublist.refl _ | apply List.Sublist.cons_cons | apply List.Sublist.cons)) hw) w hw).mono ?_
    rintro e w' ⟨rfl, hw'⟩
    (refine ⟨_, rfl, _, hw', ?_⟩; clear hw' hw w w')
    have hr3 : blk r (rc lo hi dg u g true bu (.slice q T.length d)) ∈ vec 2 1 (.slice p2 mm d2) mm (ints .i64 (tol (halT u g T c) mm)) :: V :: R := List.Mem.tail _ (List.Mem.tail _ hr1)
    generalize vec 2 1 (.slice p2 mm d2) mm (ints .i64 (tol (halT u g T c) mm)) :: V :: R = Q at *
    repeat (first | (apply gJO; first | refine JO_v (oL (V_loadA (tb := tb) rfl hr3 rfl rfl rfl rfl)) ?_) | first | (refine sx ?_; try intro _))
    refine JO_call Tryz.call24 rfl rfl fun w hw => (hNewN w hw).mono ?_
    rintro e w' (⟨hno, _⟩ | ⟨_, bh, mb, bm, rfl, hw'⟩)
    · exact absurd hs hno
    (refine ⟨_, rfl, _, hw', ?_⟩; clear hw' hw w w')
    repeat (first | (apply gJO; first | refine JO_v (oL (V_load (tb := tb) rfl hr1 rfl rfl rfl rfl)) ?_ | refine JO_v (oL (V_loadA (tb := tb) rfl hr1 rfl rfl rfl rfl)) ?_) | first | (refine sx ?_; try intro _))
    refine JO_call Tryz.call25 rfl rfl fun w hw => (HRecord_c bh mb bm true bu0 [] 0 [] (List.Mem.head _) hug hg' hb0 HM.nil GT.nil 1 1125899906842625 (by omega) (by omega) w hw).mono ?_
    have hchk : chk u g true bu0 (sw []) 1 1125899906842625 = 0 := by rw [chk_grow (by decide) (by decide)]; rfl
    rw [hchk]
    rintro e w' ⟨rfl, ⟨hno, _⟩ | ⟨_, es', clock', hE', hw'⟩⟩
    · exact absurd rfl hno
    (refine ⟨_, rfl, _, hw', ?_⟩; clear hw' hw w w')
    repeat (first | (apply gJO; first | refine JO_v (oL (V_load (tb := tb) rfl hr1 rfl rfl rfl rfl)) ?_ | refine JO_v (oL (V_loadA (tb := tb) rfl hr1 rfl rfl rfl rfl)) ?_) | first | (refine sx ?_; try intro _))
    refine JO_call Tryz.call21 rfl rfl fun w hw => (HalvesX_c bh mb bm true _ _ (List.Mem.head _) (by decide) c hcc w hw).mono ?_
    rintro e w' ⟨rfl, hw'⟩
    (refine ⟨_, rfl, _, hw', ?_⟩; clear hw' hw w w')
    repeat (first | (apply gJO; first | refine JO_v (oL (V_load (tb := tb) rfl hr1 rfl rfl rfl rfl)) ?_ | refine JO_v (oL (V_loadA (tb := tb) rfl hr1 rfl rfl rfl rfl)) ?_) | first | (refine sx ?_; try intro _))
    exact JS_ret Tryz.func4 rfl rfl fun w hw => ⟨rfl, hw.grown⟩
  clear hLS hNewN
  have hrV : blk r (rc lo hi dg u g true bu (.slice q T.length d)) ∈ V :: R := List.Mem.tail _ hr1
  repeat (first | (apply gJO; first | refine JO_v (oL (V_load (tb := tb) rfl hrV rfl rfl rfl rfl)) ?_) | first | (refine sx ?_; try intro _))
  refine JO_call Tryz.call9 rfl rfl fun w hw => (hTo (Rd_weak hR1 fun w hw => St.sub (by repeat (first | exact List.Sublist.refl _ | apply List.Sublist.cons_cons | apply List.Sublist.cons)) hw) w hw).mono ?_
  rintro e w' ⟨rfl, hw'⟩
  (refine ⟨_, rfl, _, hw', ?_⟩; clear hw' hw w w')
  repeat (first | apply hIz 11 | (apply gJO; first | refine JO_v (oL (V_load (tb := tb) rfl hr1 rfl rfl rfl rfl)) ?_ | refine JO_v (oL (V_loadA (tb := tb) rfl hr1 rfl rfl rfl rfl)) ?_) | first | (refine sx ?_; try intro _))
  refine Hold.go ?_
  by_cases hS0 : sw T = 0
  · rw [hS0]
    have hn0 := hz hS0
    have hK0 := hK 0 none 0 (by omega) (by omega)
    repeat (first | (apply gJR; first | (refine sx ?_; try intro _)) | (apply gJO; first | (refine sx ?_; try intro _)) | apply JS_seq | apply JS_region)
    refine JS_block ?_
    refine JS_loop' ?_
    repeat (first | exact JS_of_at (JS_weak hK0 (by repeat (first | exact trivial | refine ⟨rfl, ?_⟩ | refine ⟨lookI rfl (by omega), ?_⟩)) (fun w hw => St.nilvec hw)) rfl | first | (refine sx ?_; try intro _))
  · have hpos : 0 < sw T := by omega
    have hKS := hK (c * 20)
    repeat (first | (apply gJR; first | (refine sx ?_; try intro _)) | (apply gJO; first | (refine sx ?_; try intro _)) | apply JS_seq | apply JS_region)
    refine JS_block ?_
    refine JS_loop3 (fun (x : Nat) (p2 : Option Addr) (d2 : Nat) => [(4, .int .i64 c), (11, .pointer (some ⟨h, 0, none⟩)), (12, .pointer (some ⟨r, 0, none⟩)), (13, .slice p1 n d1), (14, .int .i64 0), (15, .int .u64 (sw T)), (16, .slice p2 (c * x) d2), (17, .int .i64 x)])
      (fun x p2 d2 => vec 2 1 (.slice p2 (c * x) d2) (c * x) (ints .i64 (tol (halT u g T c) (c * x))) :: V :: R) (fun x _ _ => x ≤ 20) (fun x _ _ => 20 - x) 0 none 0 (Nat.zero_le _) (by repeat (first | exact trivial | refine ⟨rfl, ?_⟩ | refine ⟨lookI rfl (by omega), ?_⟩)) (fun w hw => St.nilvec hw) ?_
    intro x p2 d2 hx again
    have hcx : c * x ≤ 64 * 20 := Nat.mul_le_mul hcc.2 hx
    by_cases hxl : x < 20
    · repeat (first | (apply gJS; first | refine JS_condT rfl ?_ | refine JS_condF rfl ?_ | refine JS_cond_T rfl (by omega) ?_) | (apply gJR; first | (refine sx ?_; try intro _)) | (apply gJO; first | (refine sx ?_; try intro _)) | apply JS_seq | apply JS_region | apply JS_skip)
      refine JS_block ?_
      repeat (first | (apply gJR; first | (refine sx ?_; try intro _)) | (apply gJO; first | (refine sx ?_; try intro _)) | apply JS_seq | apply JS_region)
      refine JS_block ?_
      refine JS_loop3 (fun (y : Nat) (p2 : Option Addr) (d2 : Nat) => [(4, .int .i64 c), (11, .pointer (some ⟨h, 0, none⟩)), (12, .pointer (some ⟨r, 0, none⟩)), (13, .slice p1 n d1), (14, .int .i64 0), (15, .int .u64 (sw T)), (16, .slice p2 (c * x + y) d2), (17, .int .i64 x), (18, .int .i64 y)])
        (fun y p2 d2 => vec 2 1 (.slice p2 (c * x + y) d2) (c * x + y) (ints .i64 (tol (halT u g T c) (c * x + y))) :: V :: R) (fun y _ _ => y ≤ c) (fun y _ _ => c - y) 0 p2 d2 (Nat.zero_le _) (by repeat (first | exact trivial | refine ⟨rfl, ?_⟩ | refine ⟨lookI rfl (by omega), ?_⟩)) (fun w hw => hw) ?_
      intro y p2 d2 hy again2
      by_cases hyc : y < c
      · have e1 : (c * x + y) / c = x := by rw [Nat.mul_add_div (by omega), Nat.div_eq_of_lt hyc]; rfl
        have e2 : (c * x + y) % c = y := by rw [Nat.mul_add_mod, Nat.mod_eq_of_lt hyc]
        have hb := hND hcc (i := c * x + y) (by omega)
        obtain ⟨k, hk1, hk2, hk3, hk4⟩ := hk hS0 (c * x + y) (by omega)
        have hrk := rkV_spec hb.2.2.2.2.2.2.1 hb.2.2.2.2.2.1 hS0
        have hto := tol_succ (halT u g T c) (c * x + y)
        rw [hk3] at hto
        have eN : hN c (c * x + y) = ((2 ^ x - 1 : Nat) : Int) * 2 * c + y := by unfold hN; rw [e1, e2]
        have eD : hD c (c * x + y) = 2 * ((2 ^ x : Nat) : Int) * c := by
          unfold hD; rw [e1, Int.mul_comm (c : Int) 2, Int.mul_assoc, Int.mul_comm (c : Int), ← Int.mul_assoc]
        rw [e1] at hb
        have e3 : ((2 ^ x - 1 : Nat) : Int) = ((2 ^ x : Nat) : Int) - 1 := by omega
        rw [e3] at hb eN
        have c3 : IntKind.u64.wrap ((((2 ^ x : Nat) : Int) - 1) * 2 * c) = (((2 ^ x : Nat) : Int) - 1) * 2 * c := wu64 (by omega)
        have c4 : IntKind.u64.wrap (2 * ((2 ^ x : Nat) : Int) * c) = hD c (c * x + y) := by rw [eD] at hb ⊢; exact wu64 (by omega)
        have c5 : IntKind.u64.wrap ((((2 ^ x : Nat) : Int) - 1) * 2 * c + y) = hN c (c * x + y) := by rw [eN] at hb ⊢; exact wu64 (by omega)
        clear eN eD e3
        repeat (first | (apply gJS; first | refine JS_condT rfl ?_ | refine JS_condF rfl ?_ | refine JS_cond_T rfl (by omega) ?_) | (apply gJR; first | (refine sx ?_; try intro _)) | (apply gJO; first | (refine sx ?_; try intro _)) | apply JS_seq | apply JS_region | apply JS_skip | apply JS_block)
        refine JO_call Tryz.call22 rfl rfl fun w hw => (RPow2_c x (by omega) w hw).mono ?_
        rintro e w' ⟨rfl, hw'⟩
        (refine ⟨_, rfl, _, hw', ?_⟩; clear hw' hw w w')
        generalize 2 ^ x = P at *
        generalize hN c (c * x + y) = a at *
        generalize hD c (c * x + y) = dd at *
        generalize halT u g T c = ht at *
        repeat (first | (apply gJO; first | refine JO_v (V_mul rfl rfl c3 rfl) ?_ | refine JO_v (V_mul rfl rfl c4 rfl) ?_ | refine JO_v (V_add rfl rfl c5 rfl) ?_) | first | (refine sx ?_; try intro _))
        refine JO_call Tryz.call11 rfl rfl fun w hw => (hRk a dd (by omega) (by omega) w hw).mono ?_
        rintro e w' ⟨rr, f, rfl, hw', hRK⟩
        obtain ⟨rfl, rfl⟩ := RK_fun hRK hrk
        (refine ⟨_, rfl, _, hw', ?_⟩; clear hw' hw w w')
        generalize rkV a dd (sw T) = rr at *
        repeat (first | (apply gJO; first | refine JO_v (oL (V_load (tb := tb) rfl (List.Mem.tail _ hrV) rfl rfl rfl rfl)) ?_) | first | (refine sx ?_; try intro _))
        refine JO_call Tryz.call13 rfl rfl fun w hw => (hKy rr (Rd_weak hR1 fun w hw => St.sub (by repeat (first | exact List.Sublist.refl _ | apply List.Sublist.cons_cons | apply List.Sublist.cons)) hw) w hw).mono ?_
        rintro e w' ⟨v, rfl, hw', hky⟩
        obtain rfl := KY_fun ogt.okt hky (kyV_spec T rr)
        rw [hk1]
        (refine ⟨_, rfl, _, hw', ?_⟩; clear hw' hw w w')
        repeat (first | (refine sx ?_; try intro _))
        refine JO_call Tryz.call12 rfl rfl fun w hw => (hEn (List.Mem.tail _ hrV) k hk2 w hw).mono ?_
        rintro e w' ⟨rfl, hw'⟩
        (refine ⟨_, rfl, _, hw', ?_⟩; clear hw' hw w w')
        generalize hiI u g k = z at *
        repeat (first | (refine sx ?_; try intro _))
        (refine JO_app (tb := tb) rfl rfl rfl rfl rfl rfl (by repeat (first | exact Sel.here _ _ | apply Sel.there)) (by first | exact vec_rd (by repeat (first | apply List.Mem.head | apply List.Mem.tail)) | assumption | exact ArgRd.rd (by assumption) _ | (apply Rd_weak; assumption; intro _ hx; exact St.sub (by repeat (first | exact List.Sublist.refl _ | apply List.Sublist.cons_cons | apply List.Sublist.cons)) hx)) (by simp only [ints_len, List.length_cons, List.length_nil]; first | omega | rfl) (by first | exact ints_one | (repeat (first | exact trivial | refine ⟨rfl, ?_⟩))) (by omega) rfl ?_; intro _ _)
        have hap : ints .i64 (tol ht (c * x + y)) ++ [Value.int .i64 (z : Int)] = ints .i64 (tol ht (c * x + (y + 1))) := by rw [show c * x + (y + 1) = c * x + y + 1 from rfl, hto, ← ints_app]; rfl
        repeat (first | (refine sx ?_; try intro _))
        exact JS_again3 again2 (y + 1) _ _ (by omega) (by omega) (by repeat (first | exact trivial | refine ⟨rfl, ?_⟩ | refine ⟨lookI rfl (by omega), ?_⟩)) (fun w hw => by rw [← hap]; exact St.sub (by repeat (first | exact List.Sublist.refl _ | apply List.Sublist.cons_cons | apply List.Sublist.cons)) hw)
      · obtain rfl : y = c := by omega
        clear hk
        repeat (first | (refine sx ?_; try intro _))
        exact JS_again3 again (x + 1) _ _ (by omega) (by omega) (by repeat (first | exact trivial | refine ⟨rfl, ?_⟩ | refine ⟨lookI rfl (by omega), ?_⟩)) (fun w hw => hw)
    · obtain rfl : x = 20 := by omega
      have hK2 := hKS p2 d2 (by omega) (by omega)
      repeat (first | exact JS_of_at (JS_weak hK2 (by repeat (first | exact trivial | refine ⟨rfl, ?_⟩ | refine ⟨lookI rfl (by omega), ?_⟩)) (fun w hw => hw)) rfl | first | (refine sx ?_; try intro _))
end Go.Proofs.YtmnilpjgkjkecaaGreat

namespace Go.Proofs.YtmnilpjgkjkecaaGreat
open Sx Go Hd
set_option linter.unusedVariables false
set_option linter.unusedSimpArgs false
section
variable {w0 : World} {H : List Asn} {lo hi dg : Int} {u g : Nat}
set_option maxRecDepth 10000 in
theorem HLow_c (b : Nat) (hM : blk b (mc lo hi dg u g) ∈ H) (hug : u + g ≤ 62) (hg : 1 ≤ g) (v : Nat) (hv : v < 9223372036854775808) (w : World) (hw : St w0 H w) :
    Calls Tryz.prog 58 #[.pointer (some ⟨b, 0, none⟩), .int .i64 v] w fun e w' => e = .returned (.int .i64 (low u g v : Nat)) ∧ St w0 H w' := by
  refine enter (vs := [.pointer (some ⟨b, 0, none⟩), .int .i64 v]) Tryz.func58 rfl rfl rfl hw ?_
  clear hw w
  have hL := fun w hw => MLow_c (w0 := w0) b hM hug hg v hv w hw
  have hlt := low_le u g v
  generalize low u g v = x at *
  repeat (first | (refine sx ?_; try intro _))
  refine JO_call Tryz.call92 rfl rfl fun w hw => (hL w hw).mono ?_
  rintro e w' ⟨rfl, hw'⟩
  (refine ⟨_, rfl, _, hw', ?_⟩; clear hw' hw w w')
  repeat (first | (refine sx ?_; try intro _))
  exact JS_ret Tryz.func58 rfl rfl fun w hw => ⟨rfl, hw⟩
set_option maxRecDepth 10000 in
theorem Ahead_c (n d : Int) (hn : -1 ≤ n ∧ n ≤ 9223372036854775807) (hd : 1 ≤ d ∧ d ≤ 9223372036854775807) (w : World) (hw : St w0 H w) :
    Calls Tryz.prog 60 #[.int .i64 n, .int .i64 d] w fun e w' => e = .returned (.int .i64 (ahd n d)) ∧ St w0 H w' := by
  refine enter (vs := [.int .i64 n, .int .i64 d]) Tryz.func60 rfl rfl rfl hw ?_
  clear hw w
  unfold ahd
  by_cases h : 9223372036854775807 - d < n
  · rw [if_pos h]
    repeat (first | (refine sx ?_; try intro _))
    exact JS_ret Tryz.func60 rfl rfl fun w hw => ⟨rfl, hw⟩
  · rw [if_neg h]
    repeat (first | (refine sx ?_; try intro _))
    exact JS_ret Tryz.func60 rfl rfl fun w hw => ⟨rfl, hw⟩
theorem tms_q {n b : Int} (hb : 2 ≤ b) : (9223372036854775807 / b < n + 1) ↔ 9223372036854775807 < (n + 1) * b := by
  rw [Int.ediv_lt_iff_lt_mul (by omega)]
set_option maxRecDepth 10000 in
theorem Times_c (n b : Int) (hn : 0 ≤ n ∧ n ≤ 9223372036854775807) (hb : 2 ≤ b ∧ b ≤ 2147483648) (w : World) (hw : St w0 H w) :
    Calls Tryz.prog 62 #[.int .i64 n, .int .i64 b] w fun e w' => e = .returned (.int .i64 (tms n b)) ∧ St w0 H w' := by
  have hq := tms_q (n := n) hb.1
  have hmul : 0 ≤ (n + 1) * b := Int.mul_nonneg (by omega) (by omega)
  have c1 : Int.tdiv 9223372036854775807 b = 9223372036854775807 / b := Int.tdiv_eq_ediv_of_nonneg (by omega)
  have hq0 : 0 ≤ 9223372036854775807 / b := Int.ediv_nonneg (by omega) (by omega)
  have hq1 : 9223372036854775807 / b ≤ 9223372036854775807 := Int.ediv_le_self _ (by omega)
  refine enter (vs := [.int .i64 n, .int .i64 b]) Tryz.func62 rfl rfl rfl hw ?_
  clear hw w
  unfold tms
  by_cases hM : n = 9223372036854775807
  · subst hM
    rw [if_pos (by omega)]
    repeat (first | (refine sx ?_; try intro _))
    exact JS_ret Tryz.func62 rfl rfl fun w hw => ⟨rfl, hw⟩
  · generalize hQ : 9223372036854775807 / b = Q at *
    generalize hP : (n + 1) * b = P at *
    have c2 : IntKind.i64.wrap (9223372036854775807 / b) = Q := by rw [hQ]; exact wi64 (by omega)
    have c4 : IntKind.i64.wrap Q = Q := wi64 (by omega)
    by_cases h : 9223372036854775807 < P
    · rw [if_pos h]
      have h2 := hq.2 h
      repeat (first | (apply gJO; first | refine JO_v (V_quo rfl rfl (by omega) (by exact (IntWalk.i64_quo _ _ (by omega)).trans hQ) rfl) ?_) | first | (refine sx ?_; try intro _))
      exact JS_ret Tryz.func62 rfl rfl fun w hw => ⟨rfl, hw⟩
    · rw [if_neg h]
      have h2 : ¬ Q < n + 1 := fun h' => h (hq.1 h')
      have c3 : IntKind.i64.wrap ((n + 1) * b) = P := by rw [hP]; exact wi64 (by omega)
      repeat (first | (apply gJO; first | refine JO_v (V_quo rfl rfl (by omega) (by exact (IntWalk.i64_quo _ _ (by omega)).trans hQ) rfl) ?_ | refine JO_v (V_mul rfl rfl c3 rfl) ?_) | first | (refine sx ?_; try intro _))
      exact JS_ret Tryz.func62 rfl rfl fun w hw => ⟨rfl, hw⟩
/-- where steps that are alike stand before each one -/
def linP (d : Int) : Nat → Int
  | 0 => -1
  | i + 1 => linT d i
theorem linT_P (d : Int) : ∀ i, linT d i = ahd (linP d i) d
  | 0 => rfl
  | i + 1 => rfl
def dblP (f b : Int) : Nat → Int
  | 0 => f - 1
  | i + 1 => dblT f b i
set_option maxRecDepth 10000 in
theorem LinearC_c (A : Asn) (tb' wb : Nat) (d : Int) (hd : 1 ≤ d ∧ d ≤ 9223372036854775807) (i : Nat) (w : World) (hw : St w0 (A :: blk tb' [.int .i64 (linP d i)] :: blk wb [.int .i64 d] :: H) w) :
    Calls Tryz.prog 59 #[.int .i64 i, .pointer (some ⟨tb', 0, none⟩), .pointer (some ⟨wb, 0, none⟩)] w fun e w' => e = .returned (.int .i64 (linT d i)) ∧ St w0 (A :: blk tb' [.int .i64 (linP d (i + 1))] :: blk wb [.int .i64 d] :: H) w' := by
  have hb : -1 ≤ linP d i ∧ linP d i ≤ 9223372036854775807 := by
    cases i with
    | zero => have h : linP d 0 = -1 := rfl; omega
    | succ i => have := linT_bd hd i; have h : linP d (i + 1) = linT d i := rfl; omega
  rw [show linP d (i + 1) = linT d i from rfl, linT_P]
  have hA := fun {H} w hw => Ahead_c (w0 := w0) (H := H) (linP d i) d hb hd w hw
  refine enter (vs := [.int .i64 i, .pointer (some ⟨tb', 0, none⟩), .pointer (some ⟨wb, 0, none⟩)]) Tryz.func59 rfl rfl rfl hw ?_
  clear hw w
  generalize linP d i = x at *
  repeat (first | (refine sx ?_; try intro _))
  refine JO_call Tryz.call60 rfl rfl fun w hw => (hA w hw).mono ?_
  rintro e w' ⟨rfl, hw'⟩
  (refine ⟨_, rfl, _, hw', ?_⟩; clear hw' hw w w')
  repeat (first | (refine sx ?_; try intro _))
  exact JS_ret Tryz.func59 rfl rfl fun w hw => ⟨rfl, hw⟩
set_option maxRecDepth 10000 in
theorem DoublingC_c (A : Asn) (tb' wb : Nat) (f d : Int) (hf : 1 ≤ f ∧ f ≤ 9223372036854775807) (hd : 2 ≤ d ∧ d ≤ 2147483648) (i : Nat) (w : World) (hw : St w0 (A :: blk tb' [.int .i64 (dblP f d i)] :: blk wb [.int .i64 d] :: H) w) :
    Calls Tryz.prog 61 #[.int .i64 i, .pointer (some ⟨tb', 0, none⟩), .pointer (some ⟨wb, 0, none⟩)] w fun e w' => e = .returned (.int .i64 (dblT f d i)) ∧ St w0 (A :: blk tb' [.int .i64 (dblP f d (i + 1))] :: blk wb [.int .i64 d] :: H) w' := by
  rw [show dblP f d (i + 1) = dblT f d i from rfl]
  cases i with
  | zero =>
    rw [show dblP f d 0 = f - 1 from rfl] at hw
    rw [show dblT f d 0 = f - 1 from rfl]
    refine enter (vs := [.int .i64 (0 : Nat), .pointer (some ⟨tb', 0, none⟩), .pointer (some ⟨wb, 0, none⟩)]) Tryz.func61 rfl rfl rfl hw ?_
    clear hw w
    repeat (first | (refine sx ?_; try intro _))
    exact JS_ret Tryz.func61 rfl rfl fun w hw => ⟨rfl, hw⟩
  | succ i =>
    have hb := dblT_bd hf hd.1 i
    rw [show dblP f d (i + 1) = dblT f d i from rfl] at hw
    rw [show dblT f d (i + 1) = tms (dblT f d i) d from rfl]
    have hA := fun {H} w hw => Times_c (w0 := w0) (H := H) (dblT f d i) d hb hd w hw
    refine enter (vs := [.int .i64 (i + 1 : Nat), .pointer (some ⟨tb', 0, none⟩), .pointer (some ⟨wb, 0, none⟩)]) Tryz.func61 rfl rfl rfl hw ?_
    clear hw w
    generalize dblT f d i = x at *
    repeat (first | (refine sx ?_; try intro _))
    refine JO_call Tryz.call62 rfl rfl fun w hw => (hA w hw).mono ?_
    rintro e w' ⟨rfl, hw'⟩
    (refine ⟨_, rfl, _, hw', ?_⟩; clear hw' hw w w')
    repeat (first | (refine sx ?_; try intro _))
    exact JS_ret Tryz.func61 rfl rfl fun w hw => ⟨rfl, hw⟩
/-- where the greatest cell begins -/
def begV (u g : Nat) (T : List (Int × Int)) : Int := if T = [] then 0 else (ival u g (kHi T) : Nat)
set_option maxRecDepth 10000 in
theorem LinearN_c (bh : Nat) (d : Int) (hdb : -9223372036854775808 ≤ d ∧ d < 9223372036854775808) (hd : d < 1) (w : World) (hw : St w0 H w) :
    Calls Tryz.prog 26 #[.pointer (some ⟨bh, 0, none⟩), .int .i64 d] w fun e w' => e = .returned (.tuple #[.slice none 0 0, .int .i64 1]) ∧ St w0 H w' := by
  refine enter (vs := [.pointer (some ⟨bh, 0, none⟩), .int .i64 d]) Tryz.func26 rfl rfl rfl hw ?_
  clear hw w
  repeat (first | (refine sx ?_; try intro _))
  exact JS_ret Tryz.func26 rfl rfl fun w hw => ⟨rfl, hw.drop⟩
set_option maxRecDepth 10000 in
set_option maxHeartbeats 4000000 in
theorem Linear_c (bh mb bm : Nat) (gr : Bool) (bu : Nat) (es : List MapEntry) (clock : Nat) (T : List (Int × Int)) (hh : blk bh (hc mb bm gr bu (sw T)) ∈ H) (hm : mapL bm es clock ∈ H) (hM : blk mb (mc lo hi dg u g) ∈ H) (hE : HM es clock T) (hG : GT T) (hK : KSI u g T) (hug : u + g ≤ 62) (hg : 1 ≤ g ∧ g ≤ 18) (hl : T.length ≤ 1000000)
    (d : Int) (hd : 1 ≤ d ∧ d ≤ 9223372036854775807) (w : World) (hw : St w0 H w) :
    Calls Tryz.prog 26 #[.pointer (some ⟨bh, 0, none⟩), .int .i64 d] w fun e w' => (T ≠ [] ∧ 4096 ≤ begV u g T / d ∧ e = .returned (.tuple #[.slice none 0 0, .int .i64 1]) ∧ St w0 H w') ∨
      ((T = [] ∨ begV u g T / d < 4096) ∧ ∃ (n : Nat) (p : Option Addr) (c : Nat), (n : Int) ≤ begV u g T / d + 1 ∧ SN (fun i => BT u g T 0 (linT d i)) (sw T) n ∧ e = .returned (.tuple #[.slice p n c, .int .i64 0]) ∧ St w0 (vec 103 3 (.slice p n c) n (stF (linT d) (fun i => BT u g T 0 (linT d i)) n) :: H) w') := by
  have hMost := fun {H} (x1 : blk bh (hc mb bm gr bu (sw T)) ∈ H) (x2 : mapL bm es clock ∈ H) (x3 : blk mb (mc lo hi dg u g) ∈ H) w hw => HMost_c (w0 := w0) (H := H) bh mb bm gr bu (sw T) es clock T x1 x2 x3 hE hG hK hug hg hl w hw
  have hlt := fun i => linT_bd hd i
  have hgo : ∀ (n : Nat) (_ : SN (fun i => BT u g T 0 (linT d i)) (sw T) n) (_ : n ≤ 4096) (_ : (n : Int) ≤ begV u g T / d + 1) (_ : T = [] ∨ begV u g T / d < 4096) (wb : Nat), JS Tryz.prog 26 Tryz.f26.ntmps (fun e w' => (T ≠ [] ∧ 4096 ≤ begV u g T / d ∧ e = .returned (.tuple #[.slice none 0 0, .int .i64 1]) ∧ St w0 H w') ∨
      ((T = [] ∨ begV u g T / d < 4096) ∧ ∃ (n : Nat) (p : Option Addr) (c : Nat), (n : Int) ≤ begV u g T / d + 1 ∧ SN (fun i => BT u g T 0 (linT d i)) (sw T) n ∧ e = .returned (.tuple #[.slice p n c, .int .i64 0]) ∧ St w0 (vec 103 3 (.slice p n c) n (stF (linT d) (fun i => BT u g T 0 (linT d i)) n) :: H) w')) [] w0 (todo Tryz.f26 [.b, .b, .b]) [(0, .pointer (some ⟨bh, 0, none⟩)), (3, .pointer (some ⟨wb, 0, none⟩))] (blk wb [.int .i64 d] :: H) := by
    intro n hS hn hnb hor wb
    refine JS_at rfl ?_
    repeat (first | (refine sx ?_; try intro _))
    rename_i tb'
    refine JO_call Tryz.call49 rfl rfl fun w hw => (HSteps_c bh mb bm gr bu es clock T (fun i => blk tb' [.int .i64 (linP d i)] :: blk wb [.int .i64 d] :: H) (fun _ => List.Mem.tail _ (List.Mem.tail _ hh)) (fun _ => List.Mem.tail _ (List.Mem.tail _ hm)) (fun _ => List.Mem.tail _ (List.Mem.tail _ hM)) hE hG hug hg hl _ [.pointer (some ⟨tb', 0, none⟩), .pointer (some ⟨wb, 0, none⟩)] (linT d) n hS hn
      (fun i hi => by have := hlt i; omega) Tryz.call59 (fun i A w hi hw => LinearC_c A tb' wb d hd i w hw) w hw).mono ?_
    rintro e w' ⟨p, c, rfl, hw'⟩
    (refine ⟨_, rfl, _, hw', ?_⟩; clear hw' hw w w')
    repeat (first | (refine sx ?_; try intro _))
    exact JS_ret Tryz.func26 rfl rfl fun w hw => .inr ⟨hor, n, p, c, hnb, hS, rfl, St.sub (by repeat (first | exact List.Sublist.refl _ | apply List.Sublist.cons_cons | apply List.Sublist.cons)) hw⟩
  refine enter (vs := [.pointer (some ⟨bh, 0, none⟩), .int .i64 d]) Tryz.func26 rfl rfl rfl hw ?_
  clear hw w
  repeat (first | (refine sx ?_; try intro _))
  rename_i wb
  refine JO_call Tryz.call57 rfl rfl fun w hw => (hMost (List.Mem.tail _ hh) (List.Mem.tail _ hm) (List.Mem.tail _ hM) w hw).mono ?_
  rintro e w' ⟨rfl, hw'⟩
  (refine ⟨_, rfl, _, hw', ?_⟩; clear hw' hw w w')
  by_cases hT : T = []
  · rw [if_pos hT]
    have hg0 := hgo 0 ⟨fun i hi => absurd hi (by omega), by rw [hT]; rfl⟩ (by omega) (by unfold begV; rw [if_pos hT]; simp) (.inl hT) wb
    repeat (first | apply hIx 4 | first | (refine sx ?_; try intro _))
    refine Hold.go ?_
    refine JS_seq ?_
    refine JS_order [0, 1, 2, 3, 4, 5, 6, 7, 9, 8, 10, 11, 12] [] (Picks.cons rfl (Picks.cons rfl (Picks.cons rfl (Picks.cons rfl (Picks.cons rfl (Picks.cons rfl (Picks.cons rfl (Picks.cons rfl (Picks.cons rfl (Picks.cons rfl (Picks.cons rfl (Picks.cons rfl (Picks.cons rfl (Picks.nil)))))))))))))) (by kernel_rfl) (by kernel_rfl) rfl (by decide +kernel) ?_
    repeat (first | apply hIx 6 | first | (refine sx ?_; try intro _))
    refine Hold.go ?_
    exact JS_weak (JS_of_at hg0 rfl) (by repeat (first | exact trivial | refine ⟨rfl, ?_⟩ | refine ⟨lookI rfl (by omega), ?_⟩)) (fun w hw => hw)
  · rw [if_neg hT]
    have hk := (hK.at (i := T.length - 1) (by have := List.length_pos_iff.2 hT; omega)).2
    have hb : begV u g T = (ival u g (kHi T) : Nat) := if_neg hT
    have hiv : ival u g (kHi T) < 9223372036854775808 := ival_lt hk
    have hhl : hiI u g (kHi T) < 9223372036854775808 := hiI_lt hug hg.1 hk
    have hlw := fun w hw => HLow_c (w0 := w0) (H := blk wb [.int .i64 d] :: H) mb (List.Mem.tail _ hM) hug hg.1 (hiI u g (kHi T)) hhl w hw
    rw [show low u g (hiI u g (kHi T)) = ival u g (kHi T) from hiI_low hg.1 hk] at hlw
    have q1 : Int.tdiv (ival u g (kHi T) : Nat) d = (ival u g (kHi T) : Nat) / d := Int.tdiv_eq_ediv_of_nonneg (by omega)
    have q2 : 0 ≤ ((ival u g (kHi T) : Nat) : Int) / d := Int.ediv_nonneg (by omega) (by omega)
    have q3 : ((ival u g (kHi T) : Nat) : Int) / d ≤ (ival u g (kHi T) : Nat) := Int.ediv_le_self _ (by omega)
    have hre := linT_reach hd (z := begV u g T) (by rw [hb]; omega)
    have hfull := BT_full hG.srt hK hg.1 (v := linT d (begV u g T / d).toNat) (by rw [← hb]; exact hre)
    obtain ⟨n, hn1, hn2⟩ := SN_ex (b := fun i => BT u g T 0 (linT d i)) ((begV u g T / d).toNat + 1) hfull
    rw [hb] at hn1 hgo ⊢
    clear hre hfull hb hlt
    have hgn := hgo n hn2
    clear hgo
    generalize hiI u g (kHi T) = y at *
    generalize ival u g (kHi T) = z at *
    generalize hQ : ((z : Nat) : Int) / d = Q at *
    by_cases h4 : 4096 ≤ Q
    · clear hgn
      repeat (first | apply hIx 4 | first | (refine sx ?_; try intro _))
      refine Hold.go ?_
      refine JS_seq ?_
      refine JS_order [0, 1, 2, 3, 4, 5, 6, 7, 9, 8, 10, 11, 12] [] (Picks.cons rfl (Picks.cons rfl (Picks.cons rfl (Picks.cons rfl (Picks.cons rfl (Picks.cons rfl (Picks.cons rfl (Picks.cons rfl (Picks.cons rfl (Picks.cons rfl (Picks.cons rfl (Picks.cons rfl (Picks.cons rfl (Picks.nil)))))))))))))) (by kernel_rfl) (by kernel_rfl) rfl (by decide +kernel) ?_
      repeat (first | (apply gQO; first | refine QO_v rfl (oL (V_load (tb := tb) rfl (List.Mem.tail _ hh) rfl rfl rfl rfl)) ?_) | first | (refine sx ?_; try intro _))
      refine QO_call Tryz.call58 rfl rfl fun w hw => (hlw w hw).mono ?_
      rintro e w' ⟨rfl, hw'⟩
      (refine ⟨_, rfl, _, hw', .inl fun w hw => hw, ?_⟩; clear hw' hw w w')
      repeat (first | (apply gQO; first | refine QO_v rfl (V_quo rfl rfl (by omega) (by exact (IntWalk.i64_quo _ _ (by omega)).trans hQ) rfl) ?_) | first | (refine sx ?_; try intro _))
      exact JS_ret Tryz.func26 rfl rfl fun w hw => .inl ⟨hT, h4, rfl, hw.drop⟩
    · have hg0 := hgn (by omega) (by omega) (.inr (by omega)) wb
      repeat (first | apply hIx 4 | first | (refine sx ?_; try intro _))
      refine Hold.go ?_
      refine JS_seq ?_
      refine JS_order [0, 1, 2, 3, 4, 5, 6, 7, 9, 8, 10, 11, 12] [] (Picks.cons rfl (Picks.cons rfl (Picks.cons rfl (Picks.cons rfl (Picks.cons rfl (Picks.cons rfl (Picks.cons rfl (Picks.cons rfl (Picks.cons rfl (Picks.cons rfl (Picks.cons rfl (Picks.cons rfl (Picks.cons rfl (Picks.nil)))))))))))))) (by kernel_rfl) (by kernel_rfl) rfl (by decide +kernel) ?_
      repeat (first | (apply gQO; first | refine QO_v rfl (oL (V_load (tb := tb) rfl (List.Mem.tail _ hh) rfl rfl rfl rfl)) ?_) | first | (refine sx ?_; try intro _))
      refine QO_call Tryz.call58 rfl rfl fun w hw => (hlw w hw).mono ?_
      rintro e w' ⟨rfl, hw'⟩
      (refine ⟨_, rfl, _, hw', .inl fun w hw => hw, ?_⟩; clear hw' hw w w')
      repeat (first | apply hIx 6 | (apply gQO; first | refine QO_v rfl (V_quo rfl rfl (by omega) (by exact (IntWalk.i64_quo _ _ (by omega)).trans hQ) rfl) ?_) | first | (refine sx ?_; try intro _))
      refine Hold.go ?_
      exact JS_weak (JS_of_at hg0 rfl) (by repeat (first | exact trivial | refine ⟨rfl, ?_⟩ | refine ⟨lookI rfl (by omega), ?_⟩)) (fun w hw => hw)
set_option maxRecDepth 10000 in
theorem DoublingN_c (bh : Nat) (f d : Int) (hfb : -9223372036854775808 ≤ f ∧ f < 9223372036854775808) (hdb : -9223372036854775808 ≤ d ∧ d < 9223372036854775808) (hd : f < 1 ∨ d < 2 ∨ 2147483648 < d) (w : World) (hw : St w0 H w) :
    Calls Tryz.prog 27 #[.pointer (some ⟨bh, 0, none⟩), .int .i64 f, .int .i64 d] w fun e w' => e = .returned (.tuple #[.slice none 0 0, .int .i64 1]) ∧ St w0 H w' := by
  refine enter (vs := [.pointer (some ⟨bh, 0, none⟩), .int .i64 f, .int .i64 d]) Tryz.func27 rfl rfl rfl hw ?_
  clear hw w
  by_cases h1 : f < 1
  · clear hd
    repeat (first | (refine sx ?_; try intro _))
    exact JS_ret Tryz.func27 rfl rfl fun w hw => ⟨rfl, hw.drop⟩
  · by_cases h2 : d < 2
    · clear hd
      repeat (first | (refine sx ?_; try intro _))
      exact JS_ret Tryz.func27 rfl rfl fun w hw => ⟨rfl, hw.drop⟩
    · have h3 : 2147483648 < d := by omega
      clear hd
      repeat (first | (refine sx ?_; try intro _))
      exact JS_ret Tryz.func27 rfl rfl fun w hw => ⟨rfl, hw.drop⟩
set_option maxRecDepth 10000 in
set_option maxHeartbeats 4000000 in
theorem Doubling_c (bh mb bm : Nat) (gr : Bool) (bu : Nat) (es : List MapEntry) (clock : Nat) (T : List (Int × Int)) (hh : blk bh (hc mb bm gr bu (sw T)) ∈ H) (hm : mapL bm es clock ∈ H) (hM : blk mb (mc lo hi dg u g) ∈ H) (hE : HM es clock T) (hG : GT T) (hK : KSI u g T) (hug : u + g ≤ 62) (hg : 1 ≤ g ∧ g ≤ 18) (hl : T.length ≤ 1000000)
    (f d : Int) (hf : 1 ≤ f ∧ f ≤ 9223372036854775807) (hd : 2 ≤ d ∧ d ≤ 2147483648) (w : World) (hw : St w0 H w) :
    Calls Tryz.prog 27 #[.pointer (some ⟨bh, 0, none⟩), .int .i64 f, .int .i64 d] w fun e w' => ∃ (n : Nat) (p : Option Addr) (c : Nat), n ≤ 64 ∧ SN (fun i => BT u g T 0 (dblT f d i)) (sw T) n ∧ e = .returned (.tuple #[.slice p n c, .int .i64 0]) ∧ St w0 (vec 103 3 (.slice p n c) n (stF (dblT f d) (fun i => BT u g T 0 (dblT f d i)) n) :: H) w' := by
  have hlt := fun i => dblT_bd hf hd.1 i
  have hS : ∃ n, n ≤ 64 ∧ SN (fun i => BT u g T 0 (dblT f d i)) (sw T) n := by
    by_cases hT : T = []
    · subst hT
      exact ⟨0, Nat.zero_le _, ⟨fun i hi => absurd hi (by omega), rfl⟩⟩
    · have hk := (hK.at (i := T.length - 1) (by have := List.length_pos_iff.2 hT; omega)).2
      have hiv : ival u g (kHi T) < 9223372036854775808 := ival_lt hk
      exact SN_ex (b := fun i => BT u g T 0 (dblT f d i)) 64 (BT_full hG.srt hK hg.1 (v := dblT f d 63) (by rw [dblT_63 hf hd.1]; omega))
  obtain ⟨n, hn, hS⟩ := hS
  refine enter (vs := [.pointer (some ⟨bh, 0, none⟩), .int .i64 f, .int .i64 d]) Tryz.func27 rfl rfl rfl hw ?_
  clear hw w
  repeat (first | (refine sx ?_; try intro _))
  rename_i wb tb'
  refine JO_call Tryz.call49 rfl rfl fun w hw => (HSteps_c bh mb bm gr bu es clock T (fun i => blk tb' [.int .i64 (dblP f d i)] :: blk wb [.int .i64 d] :: H) (fun _ => List.Mem.tail _ (List.Mem.tail _ hh)) (fun _ => List.Mem.tail _ (List.Mem.tail _ hm)) (fun _ => List.Mem.tail _ (List.Mem.tail _ hM)) hE hG hug hg hl _ [.pointer (some ⟨tb', 0, none⟩), .pointer (some ⟨wb, 0, none⟩)] (dblT f d) n hS (by omega)
    (fun i hi => by have := hlt i; omega) Tryz.call61 (fun i A w hi hw => DoublingC_c A tb' wb f d hf hd i w hw) w hw).mono ?_
  rintro e w' ⟨p, c, rfl, hw'⟩
  (refine ⟨_, rfl, _, hw', ?_⟩; clear hw' hw w w')
  repeat (first | (refine sx ?_; try intro _))
  exact JS_ret Tryz.func27 rfl rfl fun w hw => ⟨n, p, c, hn, hS, rfl, St.sub (by repeat (first | exact List.Sublist.refl _ | apply List.Sublist.cons_cons | apply List.Sublist.cons)) hw⟩
set_option maxRecDepth 10000 in
set_option maxHeartbeats 4000000 in
theorem RTimes_c (n b : Int) (hn : 0 ≤ n ∧ n ≤ 9223372036854775807) (hb : 2 ≤ b ∧ b ≤ 2147483648) (w : World) (hw : St w0 H w) :
    Calls Tryz.prog 28 #[.int .i64 n, .int .i64 b] w fun e w' => e = .returned (.int .i64 (tms n b)) ∧ St w0 H w' := by
  have hmul : 0 ≤ (n + 1) * b := Int.mul_nonneg (by omega) (by omega)
  refine enter (vs := [.int .i64 n, .int .i64 b]) Tryz.func28 rfl rfl rfl hw ?_
  clear hw w
  unfold tms
  by_cases hM : n = 9223372036854775807
  · subst hM
    rw [if_pos (by omega)]
    repeat (first | (refine sx ?_; try intro _))
    exact JS_ret Tryz.func28 rfl rfl fun w hw => ⟨rfl, hw⟩
  · repeat (first | (refine sx ?_; try intro _))
    refine JO_call Tryz.call44 rfl rfl fun w hw => (RMul_c (n + 1) b (by omega) (by omega) w hw).mono ?_
    rintro e w' ⟨p, c, X, rfl, hw', lX, dX, vX⟩
    (refine ⟨_, rfl, _, hw', ?_⟩; clear hw' hw w w')
    obtain ⟨n0e, n4e⟩ := num4_of lX dX vX
    generalize (n + 1) * b = P at *
    repeat (first | (refine sx ?_; try intro _))
    refine JO_call Tryz.call63 rfl rfl fun w hw => (Number_c p c X (vec_rd (by repeat (first | apply List.Mem.head | apply List.Mem.tail))) lX dX 4 (by omega) w hw).mono ?_
    rintro e w' ⟨n4, rfl, hw', e4⟩
    (refine ⟨_, rfl, _, hw', ?_⟩; clear hw' hw w w')
    rw [n4e] at e4
    by_cases h4 : 18446744073709551616 ≤ P
    · rw [if_pos (by omega)]
      repeat (first | (refine sx ?_; try intro _))
      exact JS_ret Tryz.func28 rfl rfl fun w hw => ⟨rfl, St.sub (by repeat (first | exact List.Sublist.refl _ | apply List.Sublist.cons_cons | apply List.Sublist.cons)) hw⟩
    · repeat (first | (refine sx ?_; try intro _))
      refine JO_call Tryz.call63 rfl rfl fun w hw => (Number_c p c X (vec_rd (by repeat (first | apply List.Mem.head | apply List.Mem.tail))) lX dX 0 (by omega) w hw).mono ?_
      rintro e w' ⟨n0, rfl, hw', e0⟩
      (refine ⟨_, rfl, _, hw', ?_⟩; clear hw' hw w w')
      obtain rfl : n0 = P := by omega
      by_cases h0 : 9223372036854775807 < n0
      · rw [if_pos h0]
        repeat (first | (refine sx ?_; try intro _))
        exact JS_ret Tryz.func28 rfl rfl fun w hw => ⟨rfl, St.sub (by repeat (first | exact List.Sublist.refl _ | apply List.Sublist.cons_cons | apply List.Sublist.cons)) hw⟩
      · rw [if_neg h0]
        repeat (first | (refine sx ?_; try intro _))
        refine JO_call Tryz.call63 rfl rfl fun w hw => (Number_c p c X (vec_rd (by repeat (first | apply List.Mem.head | apply List.Mem.tail))) lX dX 0 (by omega) w hw).mono ?_
        rintro e w' ⟨n0', rfl, hw', e0'⟩
        (refine ⟨_, rfl, _, hw', ?_⟩; clear hw' hw w w')
        obtain rfl : n0' = n0 := by omega
        repeat (first | (refine sx ?_; try intro _))
        exact JS_ret Tryz.func28 rfl rfl fun w hw => ⟨rfl, St.sub (by repeat (first | exact List.Sublist.refl _ | apply List.Sublist.cons_cons | apply List.Sublist.cons)) hw⟩
end
end Go.Proofs.YtmnilpjgkjkecaaGreat

namespace Go.Proofs.YtmnilpjgkjkecaaGreat
open Sx Go Hd
set_option linter.unusedVariables false
set_option linter.unusedSimpArgs false
set_option maxRecDepth 10000 in
set_option maxHeartbeats 8000000 in
theorem HdrSteps_l (a0 a1 : Int) (lp : Option Addr) (lc lm : Nat) (L : List Int) (np : Option Addr) (nc nm : Nat) (N : List Int) (a4 a5 a6 : Int) (w0 : World) (h0 : 0 ≤ a0 ∧ a0 < 18446744073709551616) (h1 : 0 ≤ a1 ∧ a1 < 256)
    (hL : ArgRd w0 (.slice lp lm lc) lm (ints .i64 L)) (lL : L.length = lm) (kL : OKI L ∧ (lp = none → lm = 0) ∧ lm ≤ 17592186043904) (hN : ArgRd w0 (.slice np nm nc) nm (ints .u16 N)) (lN : N.length = nm) (kN : OKH N ∧ (np = none → nm = 0) ∧ nm ≤ 70368744175616)
    (h4 : -9223372036854775808 ≤ a4 ∧ a4 < 9223372036854775808) (h5 : -9223372036854775808 ≤ a5 ∧ a5 < 9223372036854775808) (h6 : -9223372036854775808 ≤ a6 ∧ a6 < 9223372036854775808) :
    Calls Tryz.prog 5 #[.int .u64 a0, .int .u8 a1, .slice lp lm lc, .slice np nm nc, .int .i64 a4, .int .i64 a5, .int .i64 a6] w0 fun e w' => e = .returned (.bool true) ∧ RowKit.Below w0.heap.size w0 w' := by
  subst lL lN
  have hs := law_sh a0 a1 1000000 h0 h1 (by decide)
  have hl1 : 1 ≤ lawLo a0 ∧ lawLo a0 ≤ 100000 := by unfold lawLo; omega
  have hhi : lawHi a0 1000000 < 9223372036854775808 := by unfold lawHi; omega
  have hhi0 : 0 ≤ lawHi a0 1000000 := by unfold lawHi; omega
  have hd1 : 1 ≤ lawDg a1 ∧ lawDg a1 ≤ 5 := by unfold lawDg; omega
  have hSh := fun {H} w hw => Shape17_c (w0 := w0) (H := H) a0 a1 1000000 h0 h1 (by decide) w hw
  refine enter (vs := [.int .u64 a0, .int .u8 a1, .slice lp L.length lc, .slice np N.length nc, .int .i64 a4, .int .i64 a5, .int .i64 a6]) Tryz.func5 rfl rfl rfl (St.start w0) ?_
  generalize lawLo a0 = lo at *
  generalize lawHi a0 1000000 = hi at *
  generalize lawDg a1 = dg at *
  have hug := hs.2
  have hgd := gOf_bd hd1
  have hg' : 1 ≤ gOf dg ∧ gOf dg ≤ 18 := by omega
  repeat (first | (refine sx ?_; try intro _))
  refine JO_call Tryz.call6 rfl rfl fun w hw => (alive18_c w hw).mono ?_
  rintro e w' ⟨rfl, hw'⟩
  (refine ⟨_, rfl, _, hw', ?_⟩; clear hw' hw w w')
  repeat (first | (refine sx ?_; try intro _))
  refine JO_call Tryz.call7 rfl rfl fun w hw => (hSh w hw).mono ?_
  rintro e w' ⟨rfl, hw'⟩
  (refine ⟨_, rfl, _, hw', ?_⟩; clear hw' hw w w')
  repeat (first | (refine sx ?_; try intro _))
  refine JO_call Tryz.call8 rfl rfl fun w hw => (Recorded_c lo hi dg true hs hhi lp np lc nc L N (hL.rd _) (hN.rd _) kL.1 kN.1 (by omega) (by omega) w hw).mono ?_
  rintro e w' ⟨h, m, b, r, es, clock, q, d, rfl, hE, hw'⟩
  have hb0 : 1 + bkt (uOf lo) (gOf dg) hi.toNat ≤ 64 := by
    have := bkt_63 (u := uOf lo) (g := gOf dg) (v := hi.toNat) (by omega) (by omega)
    omega
  obtain ⟨⟨ob, ogt⟩, ol⟩ := recS_ok (u := uOf lo) (g := gOf dg) (gr := true) (bu := 1 + bkt (uOf lo) (gOf dg) hi.toNat) (L := L) (W := wtN N) hug hg' hb0 (fun j => (kL.1 j).2) (fun j => by have := wtN_bd N j; omega) (min L.length 40)
  have hrg := recS_rg (u := uOf lo) (g := gOf dg) (bu := 1 + bkt (uOf lo) (gOf dg) hi.toNat) (L := L) (W := wtN N) (wtN_bd N) (min L.length 40) (by omega)
  have hks := hrg.ksi hug hg'.1 (fun j => (kL.1 j).2)
  have hsw4 := hrg.tot
  clear hrg
  generalize recS (uOf lo) (gOf dg) true (1 + bkt (uOf lo) (gOf dg) hi.toNat) L (wtN N) (min L.length 40) = s at *
  obtain ⟨bu, T⟩ := s
  dsimp only at ob ogt ol hks hE hw' hsw4
  generalize 1 + bkt (uOf lo) (gOf dg) hi.toNat = bu0 at *
  generalize uOf lo = u at *
  generalize gOf dg = g at *
  have hl : T.length ≤ 1000000 := by omega
  clear hSh hgd hL hN kL kN
  have hR0 : hA h m b r lo hi dg u g true bu es clock T q d = hA h m b r lo hi dg u g true bu es clock T q d := rfl
  refine ⟨_, rfl, hA h m b r lo hi dg u g true bu es clock T q d, St.sub (by repeat (first | exact List.Sublist.refl _ | apply List.Sublist.cons_cons | apply List.Sublist.cons)) hw', ?_⟩
  clear hw' hw w w' hR0
  have hh1 : blk h (hc m b true bu (sw T)) ∈ hA h m b r lo hi dg u g true bu es clock T q d := List.Mem.head _
  have hm1 : mapL b es clock ∈ hA h m b r lo hi dg u g true bu es clock T q d := List.Mem.tail _ (List.Mem.head _)
  have hr1 : blk r (rc lo hi dg u g true bu (.slice q T.length d)) ∈ hA h m b r lo hi dg u g true bu es clock T q d := List.Mem.tail _ (List.Mem.tail _ (List.Mem.head _))
  have hR1 : Rd w0 (hA h m b r lo hi dg u g true bu es clock T q d) (.slice q T.length d) T.length (flat T) := vec_rd (List.Mem.tail _ (List.Mem.tail _ (List.Mem.tail _ (List.Mem.head _))))
  have hM1 : blk m (mc lo hi dg u g) ∈ hA h m b r lo hi dg u g true bu es clock T q d := List.Mem.tail _ (List.Mem.tail _ (List.Mem.tail _ (List.Mem.tail _ (List.Mem.head _))))
  generalize hA h m b r lo hi dg u g true bu es clock T q d = R at *
  have hsw := sw_nn ogt.pos
  have hLS := fun (n : Nat) (t : Nat → Int) (hS : SN (fun i => BT u g T 0 (t i)) (sw T) n) (p1 : Option Addr) (d1 : Nat) (p2 : Option Addr) (d2 mm : Nat) (H' : List Asn) (hR2 : Rd w0 H' (.slice p2 mm d2) mm (ints .i64 (tol t mm))) (hnm : n ≤ mm) (hmm : mm ≤ 1000000) (hTt : ∀ i, i < n → -9223372036854775808 ≤ t i ∧ t i < 9223372036854775808) (x1 : blk h (hc m b true bu (sw T)) ∈ H') (x2 : blk r (rc lo hi dg u g true bu (.slice q T.length d)) ∈ H') (x3 : Rd w0 H' (.slice q T.length d) T.length (flat T)) (x4 : Rd w0 H' (.slice p1 n d1) n (stF t (fun i => BT u g T 0 (t i)) n)) w hw => LSteps_c (w0 := w0) T h m b true bu x1 r q d x2 x3 ogt hug hg' hl t n hS p1 d1 x4 p2 d2 mm (tol t mm) hR2 (tol_len _ _) hnm hmm (fun i hi => tol_get _ (by omega)) hTt w hw
  have hDo := fun (f c : Int) (hf : 1 ≤ f ∧ f ≤ 9223372036854775807) (hd : 2 ≤ c ∧ c ≤ 2147483648) w hw => Doubling_c (w0 := w0) h m b true bu es clock T hh1 hm1 hM1 hE ogt hks hug hg' hl f c hf hd w hw
  have hLi := fun (c : Int) (hd : 1 ≤ c ∧ c ≤ 9223372036854775807) w hw => Linear_c (w0 := w0) h m b true bu es clock T hh1 hm1 hM1 hE ogt hks hug hg' hl c hd w hw
  have hbeg : 0 ≤ begV u g T ∧ begV u g T < 9223372036854775808 := by
    unfold begV
    split
    · omega
    · rename_i hT
      have hk := (hks.at (i := T.length - 1) (by have := List.length_pos_iff.2 hT; omega)).2
      have hiv : ival u g (kHi T) < 9223372036854775808 := ival_lt hk
      omega
  have hreach : ∀ (t : Nat → Int) (n mm : Nat), SN (fun i => BT u g T 0 (t i)) (sw T) n → begV u g T ≤ t mm → n ≤ mm + 1 := by
    intro t n mm hS hge
    rcases Nat.lt_or_ge (mm + 1) n with h1 | h1
    · by_cases hT : T = []
      · subst hT
        exact absurd rfl (hS.lt 0 (by omega))
      · have hb : begV u g T = (ival u g (kHi T) : Nat) := if_neg hT
        exact absurd (BT_full ogt.srt hks hg'.1 (by omega)) (hS.lt (mm + 1) h1)
    · exact h1
  have hem0 : ∀ (t : Nat → Int) (n : Nat), SN (fun i => BT u g T 0 (t i)) (sw T) n → T = [] → n = 0 := by
    intro t n hS hT
    subst hT
    rcases Nat.eq_zero_or_pos n with h1 | h1
    · exact h1
    · exact absurd rfl (hS.lt 0 h1)
  -- the second half
  have hEnd : JS Tryz.prog 5 Tryz.f5.ntmps (fun e w' => e = .returned (.bool true) ∧ RowKit.Below w0.heap.size w0 w') [] w0 (todo Tryz.f5 [.b, .b, .b, .b, .b, .b, .b, .b])
      [(5, .int .i64 a5), (6, .int .i64 a6), (15, .pointer (some ⟨h, 0, none⟩)), (16, .pointer (some ⟨r, 0, none⟩))] R := by
    clear hLi hreach hem0
    refine JS_at rfl ?_
    by_cases hbad : a5 < 1 ∨ a6 < 2 ∨ 2147483648 < a6
    · repeat (first | (refine sx ?_; try intro _))
      refine JO_call Tryz.call27 rfl rfl fun w hw => (DoublingN_c h a5 a6 h5 h6 hbad w hw).mono ?_
      rintro e w' ⟨rfl, hw'⟩
      (refine ⟨_, rfl, _, hw', ?_⟩; clear hw' hw w w')
      have hcase : a5 < 1 ∨ (¬ a5 < 1 ∧ a6 < 2) ∨ (¬ a5 < 1 ∧ ¬ a6 < 2 ∧ 2147483648 < a6) := by omega
      clear hbad
      rcases hcase with hx | ⟨hx1, hx2⟩ | ⟨hx1, hx2, hx3⟩
      all_goals (
        repeat (first | (refine sx ?_; try intro _))
        exact JS_ret Tryz.func5 rfl rfl fun w hw => ⟨rfl, hw.grown⟩)
    · have hf : 1 ≤ a5 ∧ a5 ≤ 9223372036854775807 := by omega
      have hd : 2 ≤ a6 ∧ a6 ≤ 2147483648 := by omega
      clear hbad
      repeat (first | (refine sx ?_; try intro _))
      refine JO_call Tryz.call27 rfl rfl fun w hw => (hDo a5 a6 hf hd w hw).mono ?_
      rintro e w' ⟨n, p1, d1, hn, hS, rfl, hw'⟩
      (refine ⟨_, rfl, _, hw', ?_⟩; clear hw' hw w w')
      have hls := hLS n (dblT a5 a6) hS p1 d1
      clear hLS hDo
      have hbd := dblT_bd hf hd.1
      generalize (fun i => BT u g T 0 (dblT a5 a6 i)) = bt at *
      repeat (first | (apply gJS; first | refine JS_condT rfl ?_ | refine JS_condF rfl ?_) | (apply gJR; first | (refine sx ?_; try intro _)) | (apply gJO; first | (refine sx ?_; try intro _)) | apply JS_seq | apply JS_region | apply JS_skip)
      refine JS_block ?_
      refine JS_loop3 (fun (x : Nat) (p2 : Option Addr) (d2 : Nat) => [(6, .int .i64 a6), (15, .pointer (some ⟨h, 0, none⟩)), (16, .pointer (some ⟨r, 0, none⟩)), (23, .slice p1 n d1), (24, .int .i64 0), (25, .slice p2 x d2), (26, .int .i64 (dblT a5 a6 x)), (27, .int .i64 x)])
        (fun x p2 d2 => vec 2 1 (.slice p2 x d2) x (ints .i64 (tol (dblT a5 a6) x)) :: vec 103 3 (.slice p1 n d1) n (stF (dblT a5 a6) bt n) :: R) (fun x _ _ => x ≤ 70) (fun x _ _ => 70 - x) 0 none 0 (Nat.zero_le _) (by repeat (first | exact trivial | refine ⟨rfl, ?_⟩ | refine ⟨lookI rfl (by omega), ?_⟩)) (fun w hw => St.nilvec hw) ?_
      intro x p2 d2 hx again
      by_cases hxl : x < 70
      · have hb := hbd x
        have hto := tol_succ (dblT a5 a6) x
        have hsu : dblT a5 a6 (x + 1) = tms (dblT a5 a6 x) a6 := rfl
        have hTm := fun {H} w hw => RTimes_c (w0 := w0) (H := H) (dblT a5 a6 x) a6 hb hd w hw
        rw [← hsu] at hTm
        clear hsu
        have hb2 := hbd (x + 1)
        generalize hq1 : dblT a5 a6 x = y at *
        generalize hq2 : dblT a5 a6 (x + 1) = y2 at *
        repeat (first | (refine sx ?_; try intro _))
        (refine JO_app (tb := tb) rfl rfl rfl rfl rfl rfl (by repeat (first | exact Sel.here _ _ | apply Sel.there)) (by first | exact vec_rd (by repeat (first | apply List.Mem.head | apply List.Mem.tail)) | assumption | exact ArgRd.rd (by assumption) _ | (apply Rd_weak; assumption; intro _ hx; exact St.sub (by repeat (first | exact List.Sublist.refl _ | apply List.Sublist.cons_cons | apply List.Sublist.cons)) hx)) (by simp only [ints_len, List.length_cons, List.length_nil]; first | omega | rfl) (by first | exact ints_one | (repeat (first | exact trivial | refine ⟨rfl, ?_⟩))) (by omega) rfl ?_; intro _ _)
        have hap : ints .i64 (tol (dblT a5 a6) x) ++ [Value.int .i64 y] = ints .i64 (tol (dblT a5 a6) (x + 1)) := by rw [hto, ← ints_app]; rfl
        repeat (first | (refine sx ?_; try intro _))
        refine JO_call Tryz.call28 rfl rfl fun w hw => (hTm w hw).mono ?_
        rintro e w' ⟨rfl, hw'⟩
        (refine ⟨_, rfl, _, hw', ?_⟩; clear hw' hw w w')
        repeat (first | (refine sx ?_; try intro _))
        exact JS_again3 again (x + 1) _ _ (by omega) (by omega) (by exact ⟨rfl, rfl, rfl, rfl, rfl, rfl, lookI rfl hq2.symm, lookI rfl (by omega), trivial⟩) (fun w hw => by rw [← hap]; exact St.sub (by repeat (first | exact List.Sublist.refl _ | apply List.Sublist.cons_cons | apply List.Sublist.cons)) hw)
      · obtain rfl : x = 70 := by omega
        have hls2 := hls p2 d2 70 (vec 2 1 (.slice p2 70 d2) 70 (ints .i64 (tol (dblT a5 a6) 70)) :: vec 103 3 (.slice p1 n d1) n (stF (dblT a5 a6) bt n) :: R) (vec_rd (List.Mem.head _)) (by omega) (by omega) (fun i hi => by have := hbd i; omega) (List.Mem.tail _ (List.Mem.tail _ hh1)) (List.Mem.tail _ (List.Mem.tail _ hr1)) (Rd_weak hR1 fun w hw => St.sub (by repeat (first | exact List.Sublist.refl _ | apply List.Sublist.cons_cons | apply List.Sublist.cons)) hw) (vec_rd (List.Mem.tail _ (List.Mem.head _)))
        clear hls again
        repeat (first | (refine sx ?_; try intro _))
        refine JO_call Tryz.call23 rfl rfl fun w hw => (hls2 w hw).mono ?_
        rintro e w' ⟨rfl, hw'⟩
        (refine ⟨_, rfl, _, hw', ?_⟩; clear hw' hw w w')
        repeat (first | (refine sx ?_; try intro _))
        exact JS_ret Tryz.func5 rfl rfl fun w hw => ⟨rfl, hw.grown⟩
  clear hDo
  -- the first half
  have hMid : JS Tryz.prog 5 Tryz.f5.ntmps (fun e w' => e = .returned (.bool true) ∧ RowKit.Below w0.heap.size w0 w') [] w0 (todo Tryz.f5 [.b, .b, .b, .b, .b, .b])
      [(4, .int .i64 a4), (5, .int .i64 a5), (6, .int .i64 a6), (15, .pointer (some ⟨h, 0, none⟩)), (16, .pointer (some ⟨r, 0, none⟩)), (17, .int .i64 (begV u g T))] R := by
    refine JS_at rfl ?_
    by_cases hw1 : a4 < 1
    · clear hLi hreach hem0 hLS
      repeat (first | (refine sx ?_; try intro _))
      refine JO_call Tryz.call26 rfl rfl fun w hw => (LinearN_c h a4 h4 hw1 w hw).mono ?_
      rintro e w' ⟨rfl, hw'⟩
      (refine ⟨_, rfl, _, hw', ?_⟩; clear hw' hw w w')
      repeat (first | apply hIx 24 | first | (refine sx ?_; try intro _))
      refine Hold.go ?_
      exact JS_weak (JS_of_at hEnd rfl) (by repeat (first | exact trivial | refine ⟨rfl, ?_⟩ | refine ⟨lookI rfl (by omega), ?_⟩)) (fun w hw => hw)
    · have hc4 : 1 ≤ a4 ∧ a4 ≤ 9223372036854775807 := by omega
      have q2 : 0 ≤ begV u g T / a4 := Int.ediv_nonneg hbeg.1 (by omega)
      have q3 : begV u g T / a4 ≤ begV u g T := Int.ediv_le_self _ hbeg.1
      repeat (first | (refine sx ?_; try intro _))
      refine JO_call Tryz.call26 rfl rfl fun w hw => (hLi a4 hc4 w hw).mono ?_
      rintro e w' (⟨hT, h40, rfl, hw'⟩ | ⟨hor, n, p1, d1, hn, hS, rfl, hw'⟩)
      · (refine ⟨_, rfl, _, hw', ?_⟩; clear hw' hw w w')
        have hlen := List.length_pos_iff.2 hT
        clear hLi hreach hem0 hLS
        generalize begV u g T = B at *
        generalize hQ : B / a4 = Q at *
        repeat (first | apply hIx 24 | (apply gJO; first | refine JO_v (oL (V_load (tb := tb) rfl hr1 rfl rfl rfl rfl)) ?_ | refine JO_v (V_quo rfl rfl (by omega) (by exact (IntWalk.i64_quo _ _ (by omega)).trans hQ) rfl) ?_) | first | (refine sx ?_; try intro _))
        refine Hold.go ?_
        exact JS_weak (JS_of_at hEnd rfl) (by repeat (first | exact trivial | refine ⟨rfl, ?_⟩ | refine ⟨lookI rfl (by omega), ?_⟩)) (fun w hw => hw)
      · (refine ⟨_, rfl, _, hw', ?_⟩; clear hw' hw w w')
        clear hLi
        have hls := hLS n (linT a4) hS p1 d1
        have hre := fun mm => hreach (linT a4) n mm hS
        have hem := hem0 (linT a4) n hS
        have hn4 : n ≤ 4096 := by
          rcases hor with hT | hlt
          · have := hem hT; omega
          · omega
        clear hreach hem0 hLS
        have hbd := linT_bd hc4
        have hLo : JS Tryz.prog 5 Tryz.f5.ntmps (fun e w' => e = .returned (.bool true) ∧ RowKit.Below w0.heap.size w0 w') [] w0 (todo Tryz.f5 [.b, .b, .b, .b, .b, .b, .b, .a, .b, .e])
            [(4, .int .i64 a4), (5, .int .i64 a5), (6, .int .i64 a6), (15, .pointer (some ⟨h, 0, none⟩)), (16, .pointer (some ⟨r, 0, none⟩)), (17, .int .i64 (begV u g T)), (18, .slice p1 n d1), (19, .int .i64 0)] (vec 103 3 (.slice p1 n d1) n (stF (linT a4) (fun i => BT u g T 0 (linT a4 i)) n) :: R) := by
          refine JS_at rfl ?_
          generalize (fun i => BT u g T 0 (linT a4 i)) = bt at *
          repeat (first | (apply gJR; first | (refine sx ?_; try intro _)) | (apply gJO; first | (refine sx ?_; try intro _)) | apply JS_seq | apply JS_region)
          refine JS_block ?_
          refine JS_loop3 (fun (x : Nat) (p2 : Option Addr) (d2 : Nat) => [(4, .int .i64 a4), (5, .int .i64 a5), (6, .int .i64 a6), (15, .pointer (some ⟨h, 0, none⟩)), (16, .pointer (some ⟨r, 0, none⟩)), (17, .int .i64 (begV u g T)), (18, .slice p1 n d1), (19, .int .i64 0), (20, .slice p2 x d2), (21, .int .i64 (linP a4 x)), (22, .int .i64 x)])
            (fun x p2 d2 => vec 2 1 (.slice p2 x d2) x (ints .i64 (tol (linT a4) x)) :: vec 103 3 (.slice p1 n d1) n (stF (linT a4) bt n) :: R) (fun x _ _ => x ≤ 4096) (fun x _ _ => 4096 - x) 0 none 0 (Nat.zero_le _) (by repeat (first | exact trivial | refine ⟨rfl, ?_⟩ | refine ⟨lookI rfl (by omega), ?_⟩)) (fun w hw => St.nilvec hw) ?_
          intro x p2 d2 hx again
          have hout : n ≤ x → JS Tryz.prog 5 Tryz.f5.ntmps (fun e w' => e = .returned (.bool true) ∧ RowKit.Below w0.heap.size w0 w') [] w0 (todo Tryz.f5 [.b, .b, .b, .b, .b, .b, .b, .a, .b, .e, .b, .b, .b])
            [(5, .int .i64 a5), (6, .int .i64 a6), (15, .pointer (some ⟨h, 0, none⟩)), (16, .pointer (some ⟨r, 0, none⟩)), (18, .slice p1 n d1), (19, .int .i64 0), (20, .slice p2 x d2)] (vec 2 1 (.slice p2 x d2) x (ints .i64 (tol (linT a4) x)) :: vec 103 3 (.slice p1 n d1) n (stF (linT a4) bt n) :: R) := by
            intro hnx
            have hls2 := hls p2 d2 x (vec 2 1 (.slice p2 x d2) x (ints .i64 (tol (linT a4) x)) :: vec 103 3 (.slice p1 n d1) n (stF (linT a4) bt n) :: R) (vec_rd (List.Mem.head _)) hnx (by omega) (fun i hi => by have := hbd i; omega) (List.Mem.tail _ (List.Mem.tail _ hh1)) (List.Mem.tail _ (List.Mem.tail _ hr1)) (Rd_weak hR1 fun w hw => St.sub (by repeat (first | exact List.Sublist.refl _ | apply List.Sublist.cons_cons | apply List.Sublist.cons)) hw) (vec_rd (List.Mem.tail _ (List.Mem.head _)))
            clear hls again hre
            refine JS_at rfl ?_
            repeat (first | (refine sx ?_; try intro _))
            refine JO_call Tryz.call23 rfl rfl fun w hw => (hls2 w hw).mono ?_
            rintro e w' ⟨rfl, hw'⟩
            (refine ⟨_, rfl, _, hw', ?_⟩; clear hw' hw w w')
            repeat (first | apply hIx 24 | first | (refine sx ?_; try intro _))
            refine Hold.go ?_
            exact JS_weak (JS_of_at hEnd rfl) (by repeat (first | exact trivial | refine ⟨rfl, ?_⟩ | refine ⟨lookI rfl (by omega), ?_⟩)) (fun w hw => St.sub (by repeat (first | exact List.Sublist.refl _ | apply List.Sublist.cons_cons | apply List.Sublist.cons)) hw)
          clear hls hEnd
          have hgoon : x < 4096 → JS Tryz.prog 5 Tryz.f5.ntmps (fun e w' => e = .returned (.bool true) ∧ RowKit.Below w0.heap.size w0 w') [] w0 (todo Tryz.f5 [.b, .b, .b, .b, .b, .b, .b, .a, .b, .e, .b, .b, .a, .b, .k, .l, .b])
            [(4, .int .i64 a4), (5, .int .i64 a5), (6, .int .i64 a6), (15, .pointer (some ⟨h, 0, none⟩)), (16, .pointer (some ⟨r, 0, none⟩)), (17, .int .i64 (begV u g T)), (18, .slice p1 n d1), (19, .int .i64 0), (20, .slice p2 x d2), (21, .int .i64 (linP a4 x)), (22, .int .i64 x)]
            (vec 2 1 (.slice p2 x d2) x (ints .i64 (tol (linT a4) x)) :: vec 103 3 (.slice p1 n d1) n (stF (linT a4) bt n) :: R) := by
            intro hxl
            clear hout hre
            have hb := hbd x
            have hbp : -1 ≤ linP a4 x ∧ linP a4 x ≤ 9223372036854775807 := by
              cases x with
              | zero => have h : linP a4 0 = -1 := rfl; omega
              | succ i => have := hbd i; have h : linP a4 (i + 1) = linT a4 i := rfl; omega
            have hto := tol_succ (linT a4) x
            have hsu := linT_P a4 x
            have hp1 : linP a4 (x + 1) = linT a4 x := rfl
            generalize linP a4 x = y at *
            generalize hq2 : linT a4 x = y2 at *
            have hap : ints .i64 (tol (linT a4) x) ++ [Value.int .i64 y2] = ints .i64 (tol (linT a4) (x + 1)) := by rw [hto, ← ints_app]; rfl
            refine JS_at rfl ?_
            unfold ahd at hsu
            by_cases hov : 9223372036854775807 - a4 < y
            · rw [if_pos hov] at hsu
              rw [hsu] at hap hp1
              repeat (first | (refine sx ?_; try intro _))
              (refine JO_app (tb := tb) rfl rfl rfl rfl rfl rfl (by repeat (first | exact Sel.here _ _ | apply Sel.there)) (by first | exact vec_rd (by repeat (first | apply List.Mem.head | apply List.Mem.tail)) | assumption | exact ArgRd.rd (by assumption) _ | (apply Rd_weak; assumption; intro _ hx; exact St.sub (by repeat (first | exact List.Sublist.refl _ | apply List.Sublist.cons_cons | apply List.Sublist.cons)) hx)) (by simp only [ints_len, List.length_cons, List.length_nil]; first | omega | rfl) (by first | exact ints_one | (repeat (first | exact trivial | refine ⟨rfl, ?_⟩))) (by omega) rfl ?_; intro _ _)
              repeat (first | (refine sx ?_; try intro _))
              exact JS_again3 again (x + 1) _ _ (by omega) (by omega) (by exact ⟨rfl, rfl, rfl, rfl, rfl, rfl, rfl, rfl, rfl, lookI rfl (by omega), lookI rfl (by omega), trivial⟩) (fun w hw => by rw [← hap]; exact St.sub (by repeat (first | exact List.Sublist.refl _ | apply List.Sublist.cons_cons | apply List.Sublist.cons)) hw)
            · rw [if_neg hov] at hsu
              rw [hsu] at hap hp1
              repeat (first | (refine sx ?_; try intro _))
              (refine JO_app (tb := tb) rfl rfl rfl rfl rfl rfl (by repeat (first | exact Sel.here _ _ | apply Sel.there)) (by first | exact vec_rd (by repeat (first | apply List.Mem.head | apply List.Mem.tail)) | assumption | exact ArgRd.rd (by assumption) _ | (apply Rd_weak; assumption; intro _ hx; exact St.sub (by repeat (first | exact List.Sublist.refl _ | apply List.Sublist.cons_cons | apply List.Sublist.cons)) hx)) (by simp only [ints_len, List.length_cons, List.length_nil]; first | omega | rfl) (by first | exact ints_one | (repeat (first | exact trivial | refine ⟨rfl, ?_⟩))) (by omega) rfl ?_; intro _ _)
              repeat (first | (refine sx ?_; try intro _))
              exact JS_again3 again (x + 1) _ _ (by omega) (by omega) (by exact ⟨rfl, rfl, rfl, rfl, rfl, rfl, rfl, rfl, rfl, lookI rfl (by omega), lookI rfl (by omega), trivial⟩) (fun w hw => by rw [← hap]; exact St.sub (by repeat (first | exact List.Sublist.refl _ | apply List.Sublist.cons_cons | apply List.Sublist.cons)) hw)
          by_cases hxl : x < 4096
          · have hgo2 := hgoon hxl
            clear hgoon again
            rcases Nat.eq_zero_or_pos x with hx0 | hx0
            · repeat (first | exact JS_of_at (JS_weak hgo2 (by repeat (first | exact trivial | refine ⟨rfl, ?_⟩ | refine ⟨lookI rfl (by omega), ?_⟩)) (fun w hw => hw)) rfl | first | (refine sx ?_; try intro _))
            · have gT : (ints .i64 (tol (linT a4) x))[x - 1]? = some (.int .i64 (linT a4 (x - 1))) := by rw [ints_get (by rw [tol_len]; omega), tol_get _ (by omega)]
              have c1 : IntKind.i64.wrap ((x : Int) - 1) = ((x - 1 : Nat) : Int) := (wi64 (by omega)).trans (by omega)
              have hre1 := hre (x - 1)
              clear hre
              generalize linT a4 (x - 1) = z at *
              by_cases hlt : z < begV u g T
              · repeat (first | exact JS_of_at (JS_weak hgo2 (by repeat (first | exact trivial | refine ⟨rfl, ?_⟩ | refine ⟨lookI rfl (by omega), ?_⟩)) (fun w hw => hw)) rfl | (apply gJO; first | refine JO_v (V_sub rfl rfl c1 rfl) ?_ | refine JO_v (oIA (V_index (tb := tb) rfl rfl rfl rfl (Rd.sl (vec_rd (List.Mem.head _))) (by omega) (by (try simp only [tn, tna, tn1, tn2, tn3, tn4, tnd16, tnd8, Int.reduceToNat]); first | exact Nat.mul_one _ | exact rfl) rfl)) ?_ | refine JO_v (oL (V_loadC (tb := tb) rfl (vec_rd (List.Mem.head _)) rfl rfl gT rfl)) ?_) | first | (refine sx ?_; try intro _))
              · have ho := hout (by have := hre1 (by omega); omega)
                repeat (first | exact JS_of_at (JS_weak ho (by repeat (first | exact trivial | refine ⟨rfl, ?_⟩ | refine ⟨lookI rfl (by omega), ?_⟩)) (fun w hw => hw)) rfl | (apply gJO; first | refine JO_v (V_sub rfl rfl c1 rfl) ?_ | refine JO_v (oIA (V_index (tb := tb) rfl rfl rfl rfl (Rd.sl (vec_rd (List.Mem.head _))) (by omega) (by (try simp only [tn, tna, tn1, tn2, tn3, tn4, tnd16, tnd8, Int.reduceToNat]); first | exact Nat.mul_one _ | exact rfl) rfl)) ?_ | refine JO_v (oL (V_loadC (tb := tb) rfl (vec_rd (List.Mem.head _)) rfl rfl gT rfl)) ?_) | first | (refine sx ?_; try intro _))
          · obtain rfl : x = 4096 := by omega
            have ho := hout hn4
            clear hgoon again
            repeat (first | exact JS_of_at (JS_weak ho (by repeat (first | exact trivial | refine ⟨rfl, ?_⟩ | refine ⟨lookI rfl (by omega), ?_⟩)) (fun w hw => hw)) rfl | first | (refine sx ?_; try intro _))
        clear hls hre
        by_cases hT : T = []
        · have hlen : T.length = 0 := by rw [hT]; rfl
          have hr2 : blk r (rc lo hi dg u g true bu (.slice q T.length d)) ∈ vec 103 3 (.slice p1 n d1) n (stF (linT a4) (fun i => BT u g T 0 (linT a4 i)) n) :: R := List.Mem.tail _ hr1
          repeat (first | exact JS_of_at (JS_weak hLo (by repeat (first | exact trivial | refine ⟨rfl, ?_⟩ | refine ⟨lookI rfl (by omega), ?_⟩)) (fun w hw => hw)) rfl | (apply gJO; first | refine JO_v (oL (V_load (tb := tb) rfl hr2 rfl rfl rfl rfl)) ?_) | first | (refine sx ?_; try intro _))
        · have hlen := List.length_pos_iff.2 hT
          have hlt : begV u g T / a4 < 4096 := hor.resolve_left hT
          have hr2 : blk r (rc lo hi dg u g true bu (.slice q T.length d)) ∈ vec 103 3 (.slice p1 n d1) n (stF (linT a4) (fun i => BT u g T 0 (linT a4 i)) n) :: R := List.Mem.tail _ hr1
          clear hem hn hor
          generalize begV u g T = B at *
          generalize hQ : B / a4 = Q at *
          repeat (first | exact JS_of_at (JS_weak hLo (by repeat (first | exact trivial | refine ⟨rfl, ?_⟩ | refine ⟨lookI rfl (by omega), ?_⟩)) (fun w hw => hw)) rfl | (apply gJO; first | refine JO_v (oL (V_load (tb := tb) rfl hr2 rfl rfl rfl rfl)) ?_ | refine JO_v (V_quo rfl rfl (by omega) (by exact (IntWalk.i64_quo _ _ (by omega)).trans hQ) rfl) ?_) | first | (refine sx ?_; try intro _))
  clear hLi hreach hem0 hLS hEnd
  by_cases hT : T = []
  · have hlen : T.length = 0 := by rw [hT]; rfl
    have hb : begV u g T = 0 := if_pos hT
    rw [hb] at hMid
    repeat (first | exact JS_of_at (JS_weak hMid (by repeat (first | exact trivial | refine ⟨rfl, ?_⟩ | refine ⟨lookI rfl (by omega), ?_⟩)) (fun w hw => hw)) rfl | (apply gJO; first | refine JO_v (oL (V_load (tb := tb) rfl hr1 rfl rfl rfl rfl)) ?_) | first | (refine sx ?_; try intro _))
  · have hlen := List.length_pos_iff.2 hT
    have hb : begV u g T = (ival u g (kHi T) : Nat) := if_neg hT
    rw [hb] at hMid
    have hkH := hks.at (show T.length - 1 < T.length by omega)
    have gl := flat_get0 T (T.length - 1) (by omega)
    rw [hkH.1] at gl
    have c1 : IntKind.i64.wrap ((T.length : Int) - 1) = ((T.length - 1 : Nat) : Int) := (wi64 (by omega)).trans (by omega)
    have hEH := fun w hw => REnds_c (w0 := w0) (H := R) r true bu _ hr1 hug hg' (kHi T) hkH.2 w hw
    have e2 : (T.getD (T.length - 1) (0, 0)).1.toNat = kHi T := rfl
    rw [e2] at gl
    generalize kHi T = kh at *
    generalize hiI u g kh = yh at *
    generalize ival u g kh = zh at *
    repeat (first | (apply gQO; first | refine QO_v rfl (oL (V_load (tb := tb) rfl hr1 rfl rfl rfl rfl)) ?_ | refine QO_v rfl (V_sub rfl rfl c1 rfl) ?_ | refine QO_v rfl (oIA (V_index (tb := tb) rfl rfl rfl rfl (Rd.sl hR1) (by omega) rfl rfl)) ?_ | refine QO_v rfl (oFA (V_fieldC (tb := tb) rfl (Rd.sl hR1) (by omega) rfl rfl rfl rfl rfl)) ?_ | refine QO_v rfl (oL (V_loadC (tb := tb) rfl hR1 rfl rfl gl rfl)) ?_) | (apply gJO; first | refine JO_v (oL (V_load (tb := tb) rfl hr1 rfl rfl rfl rfl)) ?_) | first | (refine sx ?_; try intro _))
    refine QO_call Tryz.call12 rfl rfl fun w hw => (hEH w hw).mono ?_
    rintro e w' ⟨rfl, hw'⟩
    (refine ⟨_, rfl, _, hw', .inl fun w hw => hw, ?_⟩; clear hw' hw w w')
    repeat (first | exact JS_of_at (JS_weak hMid (by repeat (first | exact trivial | refine ⟨rfl, ?_⟩ | refine ⟨lookI rfl (by omega), ?_⟩)) (fun w hw => hw)) rfl | first | (refine sx ?_; try intro _))
end Go.Proofs.YtmnilpjgkjkecaaGreat
