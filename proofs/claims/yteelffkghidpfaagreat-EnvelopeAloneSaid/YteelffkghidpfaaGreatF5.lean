import Derived.Lib.AppendZeros
import Derived.WalkKit
import Derived.ProofKit
import Derived.OpenShut
import Derived.ChangeSlices
import Derived.Test.YteelffkghidpfaaGreatF4
namespace Go.Proofs.YteelffkghidpfaaGreat
open Sx Go
set_option linter.unusedVariables false
set_option linter.unusedSimpArgs false
theorem mod_step {n : Int} (h : 0 ≤ n) (s : Nat) : n % 256 ^ (s + 1) = n % 256 ^ s + lowF n s * 256 ^ s := by
  obtain ⟨k, rfl⟩ := Int.eq_ofNat_of_zero_le h
  unfold lowF
  have e : ((256 : Int) ^ s) = ((256 ^ s : Nat) : Int) := by simp
  rw [Int.pow_succ, e]
  generalize 256 ^ s = p
  have h1 := Nat.mod_mul (x := k) (a := p) (b := 256)
  have e1 : ((p : Int) * 256) = ((p * 256 : Nat) : Int) := by simp
  rw [e1, ← Int.natCast_emod, h1, Int.natCast_add, Int.natCast_emod, Int.natCast_mul, Int.natCast_emod, Int.natCast_ediv, Int.mul_comm]
  rfl
theorem lowN_lowB {n : Int} (h : 0 ≤ n) : ∀ s, lowN (lowB s n) = n % 256 ^ s
  | 0 => by simp [lowB, tab, lowN]
  | s + 1 => by
    rw [lowB_snoc, lowN_app, lowN_lowB h s, mod_step h]
    congr 2
    exact congrArg _ (tab_len _ _)
theorem hiN_cons (x : Int) (L : List Int) : hiN (x :: L) = x * 256 ^ L.length + hiN L := by
  refine snoc_in2 (p := fun L => hiN (x :: L) = x * 256 ^ L.length + hiN L) (by simp [hiN]) (fun A y ih => ?_) L
  rw [← List.cons_append, hiN_app, hiN_app, ih, List.length_append, List.length_singleton, Int.pow_succ, Int.add_mul, Int.mul_assoc]
  omega
theorem hiN_hiB {n : Int} (h : 0 ≤ n) : ∀ s, hiN (hiB s n) = n % 256 ^ s
  | 0 => by simp [hiB, tab, hiN]
  | s + 1 => by
    rw [hiB_cons, hiN_cons, hiN_hiB h s, mod_step h, show (hiB s n).length = s from tab_len _ _]
    omega
theorem take_app {A R : List Int} {s : Nat} (h : A.length = s) : (A ++ R).take s = A := by rw [← h, List.take_left']; rfl
theorem dFix_low {s : Nat} {n : Int} (h : 0 ≤ n ∧ n < 256 ^ s) (R : List Int) : dFix false s (lowB s n ++ R) = (n, s, 0) := by
  have hl : (lowB s n).length = s := tab_len _ _
  unfold dFix
  rw [if_neg (by rw [List.length_append]; omega), take_app hl, if_neg (by decide), lowN_lowB h.1, Int.emod_eq_of_lt h.1 h.2]
theorem dFix_hi {s : Nat} {n : Int} (h : 0 ≤ n ∧ n < 256 ^ s) (R : List Int) : dFix true s (hiB s n ++ R) = (n, s, 0) := by
  have hl : (hiB s n).length = s := tab_len _ _
  unfold dFix
  rw [if_neg (by rw [List.length_append]; omega), take_app hl, if_pos rfl, hiN_hiB h.1, Int.emod_eq_of_lt h.1 h.2]
theorem mul_parts (m z : Int) : m % 128 * z + m / 128 * (z * 128) = m * z := by
  have h := Int.mul_ediv_add_emod m 128
  have : m / 128 * (z * 128) = 128 * (m / 128) * z := by rw [Int.mul_comm z 128, ← Int.mul_assoc, Int.mul_comm (m / 128) 128]
  rw [this, ← Int.add_mul, Int.add_comm, h]
theorem dNine_var : ∀ (f i : Nat) (a m : Int) (R : List Int), i + f = 8 → 0 ≤ m → m < 256 * 128 ^ f → (m = 0 → i = 0) → dNine i a (varB f m ++ R) = (uns (a + m * 128 ^ i), i + (varB f m).length, 0)
  | 0, i, a, m, R, hi, h0, h1, hz => by
    obtain rfl : i = 8 := by omega
    have hm : m ≠ 0 := fun h => by have := hz h; omega
    rw [varB, List.singleton_append, dNine, if_neg (by omega), if_neg (by omega), if_pos rfl]; rfl
  | f + 1, i, a, m, R, hi, h0, h1, hz => by
    by_cases h7 : m ≤ 127
    · rw [varB_last h7, List.singleton_append, dNine, if_neg (by omega), if_neg (fun h => by have := hz h.1; omega), if_neg (by omega), show m % 128 = m by omega]; rfl
    · rw [varB_step h7, List.cons_append, dNine, if_pos ⟨by omega, by omega⟩]
      rw [dNine_var f (i + 1) _ (m / 128) R (by omega) (by omega) (by
        rw [Int.pow_succ] at h1
        generalize (128 : Int) ^ f = z at *
        omega) (by omega)]
      have e1 : (m % 128 + 128) % 128 = m % 128 := by omega
      rw [e1, Int.pow_succ, Int.add_assoc, mul_parts, List.length_cons]
      congr 2
      omega
theorem dLeb_var : ∀ (f i : Nat) (a m : Int) (R : List Int), i + f = 9 → 0 ≤ m → m < 2 * 128 ^ f → (m = 0 → i = 0) → dLeb i a (varB f m ++ R) = (a + m * 128 ^ i, i + (varB f m).length, 0)
  | 0, i, a, m, R, hi, h0, h1, hz => by
    obtain rfl : i = 9 := by omega
    have hm : m ≠ 0 := fun h => by have := hz h; omega
    simp at h1
    rw [varB, List.singleton_append, dLeb, if_neg (by omega), if_neg (by omega), if_neg (by omega), show m % 128 = m by omega]; rfl
  | f + 1, i, a, m, R, hi, h0, h1, hz => by
    by_cases h7 : m ≤ 127
    · rw [varB_last h7, List.singleton_append, dLeb, if_neg (by omega), if_neg (by omega), if_neg (fun h => by have := hz h.1; omega), show m % 128 = m by omega]; rfl
    · rw [varB_step h7, List.cons_append, dLeb, if_neg (by omega), if_pos (by omega)]
      rw [dLeb_var f (i + 1) _ (m / 128) R (by omega) (by omega) (by
        rw [Int.pow_succ] at h1
        generalize (128 : Int) ^ f = z at *
        omega) (by omega)]
      have e1 : (m % 128 + 128) % 128 = m % 128 := by omega
      rw [e1, Int.pow_succ, Int.add_assoc, mul_parts, List.length_cons]
      congr 2
      omega
theorem dec_enc {k : Nat} (hk : k < 10) {n : Int} (hn : 0 ≤ n ∧ n < 18446744073709551616) (hf : fitA k n) (R : List Int) : dec k (encN k n ++ R) = (n, (encN k n).length, 0) := by
  have h8 : (256 : Int) ^ 8 = 18446744073709551616 := by decide
  have hs := sgn_bd hn
  have hus := uns_sgn hn
  have p9 : (18446744073709551616 : Int) = 2 * 128 ^ 9 := by decide
  have p8 : (18446744073709551616 : Int) = 256 * 128 ^ 8 := by decide
  have hfit : ∀ s : Nat, szA k = s → 0 < s → n < 256 ^ s := fun s h h0 => by
    rcases hf with h1 | h1 | ⟨_, _, h1⟩
    · omega
    · have : s = 8 := by omega
      subst this; rw [h8]; exact hn.2
    · rw [h, Int.toNat_natCast] at h1; exact h1
  match k, hk with
  | 0, _ => exact (dFix_low (s := 1) ⟨hn.1, hfit 1 rfl (by decide)⟩ R).trans (by rw [show (encN 0 n).length = 1 from tab_len _ _])
  | 1, _ => exact (dFix_low (s := 2) ⟨hn.1, hfit 2 rfl (by decide)⟩ R).trans (by rw [show (encN 1 n).length = 2 from tab_len _ _])
  | 2, _ => exact (dFix_hi (s := 2) ⟨hn.1, hfit 2 rfl (by decide)⟩ R).trans (by rw [show (encN 2 n).length = 2 from tab_len _ _])
  | 3, _ => exact (dFix_low (s := 4) ⟨hn.1, hfit 4 rfl (by decide)⟩ R).trans (by rw [show (encN 3 n).length = 4 from tab_len _ _])
  | 4, _ => exact (dFix_hi (s := 4) ⟨hn.1, hfit 4 rfl (by decide)⟩ R).trans (by rw [show (encN 4 n).length = 4 from tab_len _ _])
  | 5, _ => exact (dFix_low (s := 8) ⟨hn.1, hfit 8 rfl (by decide)⟩ R).trans (by rw [show (encN 5 n).length = 8 from tab_len _ _])
  | 6, _ => exact (dFix_hi (s := 8) ⟨hn.1, hfit 8 rfl (by decide)⟩ R).trans (by rw [show (encN 6 n).length = 8 from tab_len _ _])
  | 7, _ =>
    have := dLeb_var 9 0 0 n R rfl hn.1 (p9 ▸ hn.2) (fun _ => rfl)
    show dLeb 0 0 (varB 9 n ++ R) = _
    rw [this]; simp; rfl
  | 8, _ =>
    have := dLeb_var 9 0 0 (sgn n) R rfl hs.1 (p9 ▸ hs.2) (fun _ => rfl)
    show (uns (dLeb 0 0 (varB 9 (sgn n) ++ R)).1, (dLeb 0 0 (varB 9 (sgn n) ++ R)).2.1, (dLeb 0 0 (varB 9 (sgn n) ++ R)).2.2) = _
    rw [this]; simp [hus]; rfl
  | 9, _ =>
    have := dNine_var 8 0 0 (sgn n) R rfl hs.1 (p8 ▸ hs.2) (fun _ => rfl)
    show dNine 0 0 (varB 8 (sgn n) ++ R) = _
    rw [this]; simp [hus]; rfl
  | k + 10, h => exact absurd h (by omega)
end Go.Proofs.YteelffkghidpfaaGreat

namespace Go.Proofs.YteelffkghidpfaaGreat
open Sx Go
set_option linter.unusedVariables false
set_option linter.unusedSimpArgs false
set_option maxRecDepth 100000
def hdE (v : Nat) (k : Int) (n z : Nat) : List Int :=
  if v = 1 then [81, 83, 1] ++ encs [0, 3] [k, (n : Int)] else if v = 2 then [81, 83, 2] ++ encs [0, 0, 7] [k, 0, (n : Int)] else [81, 83, 2] ++ encs [0, 0, 7, 7] [k, 1, (n : Int), (z : Int)]
def bdE (v : Nat) (T : List Int) : List Int := if v = 3 then pkB T else T
def envB (v : Nat) (k : Int) (T : List Int) : List Int := sealB (hdE v k T.length (pkB T).length ++ bdE v T)
structure EV (B : List Int) (v : Nat) (k : Int) (T : List Int) : Prop where
  ok : OKB T
  kd : 1 ≤ k ∧ k ≤ 4
  len : T.length ≤ 1048576
  vs : v = 1 ∨ v = 2 ∨ v = 3
  eq : B = envB v k T
def LT (C : List Int) (v : Nat) (k n : Int) (a z : Nat) : Prop :=
  4 ≤ C.length ∧ C.getD 0 0 = 81 ∧ C.getD 1 0 = 83 ∧ dec 0 (C.drop 3) = (k, 1, 0) ∧
  ((v = 1 ∧ C.getD 2 0 = 1 ∧ dec 3 (C.drop 4) = (n, 4, 0) ∧ a = 8 ∧ (z : Int) = n) ∨
   (v = 2 ∧ C.getD 2 0 = 2 ∧ dec 0 (C.drop 4) = (0, 1, 0) ∧ ∃ u, dec 7 (C.drop 5) = (n, u, 0) ∧ a = 5 + u ∧ (z : Int) = n) ∨
   (v = 3 ∧ C.getD 2 0 = 2 ∧ dec 0 (C.drop 4) = (1, 1, 0) ∧ ∃ u t, dec 7 (C.drop 5) = (n, u, 0) ∧ dec 7 (C.drop (5 + u)) = ((z : Int), t, 0) ∧ a = 5 + u + t))
theorem LT.fun {C : List Int} {v v' : Nat} {k n k' n' : Int} {a z a' z' : Nat} (h : LT C v k n a z) (g : LT C v' k' n' a' z') : v = v' ∧ k = k' ∧ n = n' ∧ a = a' ∧ z = z' := by
  obtain ⟨_, _, _, hk, h⟩ := h
  obtain ⟨_, _, _, gk, g⟩ := g
  rw [hk] at gk
  have e1 : k = k' := by injection gk
  rcases h with ⟨rfl, h2, h3, rfl, h5⟩ | ⟨rfl, h2, h3, u, h4, rfl, h5⟩ | ⟨rfl, h2, h3, u, t, h4, h6, rfl⟩ <;> rcases g with ⟨rfl, g2, g3, rfl, g5⟩ | ⟨rfl, g2, g3, u', g4, rfl, g5⟩ | ⟨rfl, g2, g3, u', t', g4, g6, rfl⟩ <;> first | (exfalso; rw [h2] at g2; exact absurd g2 (by decide)) | skip
  · rw [h3] at g3
    have e2 : n = n' := by injection g3
    exact ⟨rfl, e1, e2, rfl, by omega⟩
  · rw [h4] at g4
    injection g4 with e2 e3
    injection e3 with e3
    exact ⟨rfl, e1, e2, by omega, by omega⟩
  · rw [h3] at g3
    injection g3 with e2
    exact absurd e2 (by decide)
  · rw [h3] at g3
    injection g3 with e2
    exact absurd e2 (by decide)
  · rw [h4] at g4
    injection g4 with e2 e3
    injection e3 with e3
    subst e3
    rw [h6] at g6
    injection g6 with e4 e5
    injection e5 with e5
    exact ⟨rfl, e1, e2, by omega, by omega⟩
theorem fit0 {k : Int} (h : 0 ≤ k ∧ k < 256) : fitA 0 k := .inr (.inr ⟨by decide, by decide, by show k < 256 ^ 1; omega⟩)
theorem fit3 {k : Int} (h : 0 ≤ k ∧ k < 4294967296) : fitA 3 k := .inr (.inr ⟨by decide, by decide, by show k < 256 ^ 4; omega⟩)
theorem fit7 (k : Int) : fitA 7 k := .inl rfl
theorem enc0_len (n : Int) : (encN 0 n).length = 1 := tab_len _ _
theorem enc3_len (n : Int) : (encN 3 n).length = 4 := tab_len _ _
theorem hdE_byt (v : Nat) {k : Int} (hk : 0 ≤ k ∧ k < 256) {n z : Nat} (hn : n < 18446744073709551616) (hz : z < 18446744073709551616) : ∀ x ∈ hdE v k n z, 0 ≤ x ∧ x < 256 := by
  have h3 : ∀ b : Int, b = 1 ∨ b = 2 → ∀ x ∈ [81, 83, b], 0 ≤ x ∧ x < 256 := fun b hb x hx => by
    simp only [List.mem_cons, List.not_mem_nil, or_false] at hx
    omega
  intro x hx
  unfold hdE at hx
  split at hx
  · rcases List.mem_append.1 hx with h | h
    · exact h3 1 (.inl rfl) x h
    · exact encs_byt _ _ (fun y hy => by simp only [List.mem_cons, List.not_mem_nil, or_false] at hy; omega) x h
  · split at hx
    · rcases List.mem_append.1 hx with h | h
      · exact h3 2 (.inr rfl) x h
      · exact encs_byt _ _ (fun y hy => by simp only [List.mem_cons, List.not_mem_nil, or_false] at hy; omega) x h
    · rcases List.mem_append.1 hx with h | h
      · exact h3 2 (.inr rfl) x h
      · exact encs_byt _ _ (fun y hy => by simp only [List.mem_cons, List.not_mem_nil, or_false] at hy; omega) x h
theorem hdE_len (v : Nat) (k : Int) (n z : Nat) : 4 ≤ (hdE v k n z).length ∧ (hdE v k n z).length ≤ 43 := by
  have h2 := encs_len [0, 3] [k, (n : Int)]
  have h3 := encs_len [0, 0, 7] [k, 0, (n : Int)]
  have h4 := encs_len [0, 0, 7, 7] [k, 1, (n : Int), (z : Int)]
  have q2 : 1 ≤ (encs [0, 3] [k, (n : Int)]).length := by rw [encs, List.length_append, enc0_len]; omega
  have q3 : 1 ≤ (encs [0, 0, 7] [k, 0, (n : Int)]).length := by rw [encs, List.length_append, enc0_len]; omega
  have q4 : 1 ≤ (encs [0, 0, 7, 7] [k, 1, (n : Int), (z : Int)]).length := by rw [encs, List.length_append, enc0_len]; omega
  simp only [List.length_cons, List.length_nil] at h2 h3 h4
  unfold hdE
  split
  · rw [List.length_append]; simp only [List.length_cons, List.length_nil]; omega
  · split
    · rw [List.length_append]; simp only [List.length_cons, List.length_nil]; omega
    · rw [List.length_append]; simp only [List.length_cons, List.length_nil]; omega
theorem pkB_le {T : List Int} (hT : OKB T) : (pkB T).length ≤ 4 * T.length + 9 := by
  have := bestB_len hT
  rw [pk_len]; omega
theorem bdE_okb (v : Nat) {T : List Int} (hT : OKB T) : OKB (bdE v T) := by unfold bdE; split; exact pk_okb hT; exact hT
theorem bdE_len (v : Nat) (T : List Int) : (bdE v T).length = if v = 3 then (pkB T).length else T.length := by unfold bdE; split <;> rfl
theorem sealB_okb {B : List Int} (h : OKB B) : OKB (sealB B) := OKB_app h (leB_okb 4 _)
theorem preE_okb (v : Nat) {k : Int} (hk : 0 ≤ k ∧ k < 256) {T : List Int} (hT : OKB T) (hl : T.length ≤ 1048576) : OKB (hdE v k T.length (pkB T).length ++ bdE v T) := by
  have := pkB_le hT
  exact OKB_app (mem_okb (hdE_byt v hk (by omega) (by omega))) (bdE_okb v hT)
theorem envB_okb (v : Nat) {k : Int} (hk : 0 ≤ k ∧ k < 256) {T : List Int} (hT : OKB T) (hl : T.length ≤ 1048576) : OKB (envB v k T) := sealB_okb (preE_okb v hk hT hl)
theorem envB_len (v : Nat) (k : Int) (T : List Int) : (envB v k T).length = (hdE v k T.length (pkB T).length).length + (bdE v T).length + 4 := by unfold envB; rw [sealB_len, List.length_append]
theorem seal_fit (B : List Int) : fitB (sealB B) := by
  refine ⟨by rw [sealB_len]; omega, ?_⟩
  rw [sealB_len, show B.length + 4 - 4 = B.length by omega]
  unfold sealB
  rw [List.take_left' rfl, List.drop_left' rfl]
theorem EV.fit {B : List Int} {v : Nat} {k : Int} {T : List Int} (h : EV B v k T) : fitB B := by rw [h.eq]; exact seal_fit _
theorem drop_add3 (a b c : Int) (L : List Int) (n : Nat) : ([a, b, c] ++ L).drop (3 + n) = L.drop n := by
  rw [← List.drop_drop]; rfl
theorem env_LT {v : Nat} {k : Int} {T : List Int} (hk : 1 ≤ k ∧ k ≤ 4) (hl : T.length ≤ 1048576) (hT : OKB T) (hv : v = 1 ∨ v = 2 ∨ v = 3) (S : List Int) :
    ∃ a z, LT (envB v k T ++ S) v k T.length a z ∧ (envB v k T).length = a + z + 4 ∧ z = (bdE v T).length ∧ ∃ X, (envB v k T ++ S).drop a = bdE v T ++ X := by
  have hz := pkB_le hT
  have hel := envB_len v k T
  have hnn : (0 : Int) ≤ (T.length : Int) ∧ (T.length : Int) < 18446744073709551616 := by omega
  have hzz : (0 : Int) ≤ ((pkB T).length : Int) ∧ ((pkB T).length : Int) < 18446744073709551616 := by omega
  have hkk : 0 ≤ k ∧ k < 18446744073709551616 := by omega
  have d0 : ∀ R, dec 0 (encN 0 k ++ R) = (k, 1, 0) := fun R => by rw [dec_enc (by decide) hkk (fit0 (by omega)) R, enc0_len]
  have hC : envB v k T ++ S = hdE v k T.length (pkB T).length ++ (bdE v T ++ (leB 4 (crcS (hdE v k T.length (pkB T).length ++ bdE v T)) ++ S)) := by
    unfold envB sealB; simp only [List.append_assoc]
  have h4 : 4 ≤ (envB v k T ++ S).length := by rw [List.length_append, hel]; have := hdE_len v k T.length (pkB T).length; omega
  generalize leB 4 (crcS (hdE v k T.length (pkB T).length ++ bdE v T)) ++ S = Y at hC
  rcases hv with rfl | rfl | rfl
  · have eH : hdE 1 k T.length (pkB T).length = [81, 83, 1] ++ (encN 0 k ++ (encN 3 T.length ++ [])) := rfl
    have eB : bdE 1 T = T := rfl
    rw [eH, eB] at hC hel
    simp only [List.append_assoc, List.nil_append, List.append_nil] at hC
    have hX : (envB 1 k T ++ S).drop 8 = T ++ Y := by
      rw [hC, show 8 = 3 + 5 from rfl, drop_add3, show (5 : Nat) = (encN 0 k ++ encN 3 T.length).length by rw [List.length_append, enc0_len, enc3_len], ← List.append_assoc, List.drop_left' rfl]
    refine ⟨8, T.length, ⟨h4, by rw [hC]; rfl, by rw [hC]; rfl, ?_, .inl ⟨rfl, by rw [hC]; rfl, ?_, rfl, rfl⟩⟩, ?_, rfl, Y, by rw [eB]; exact hX⟩
    · rw [hC, show 3 = 3 + 0 from rfl, drop_add3, List.drop_zero]; exact d0 _
    · rw [hC, show 4 = 3 + 1 from rfl, drop_add3, List.drop_left' (enc0_len k), dec_enc (by decide) hnn (fit3 (by omega)), enc3_len]
    · rw [hel]; simp only [List.length_append, enc0_len, enc3_len, List.length_cons, List.length_nil]; try omega
  · have eH : hdE 2 k T.length (pkB T).length = [81, 83, 2] ++ (encN 0 k ++ (encN 0 0 ++ (encN 7 T.length ++ []))) := rfl
    have eB : bdE 2 T = T := rfl
    rw [eH, eB] at hC hel
    simp only [List.append_assoc, List.nil_append, List.append_nil] at hC
    have hX : (envB 2 k T ++ S).drop (5 + (encN 7 T.length).length) = T ++ Y := by
      rw [hC, show 5 + (encN 7 T.length).length = 3 + (2 + (encN 7 T.length).length) by omega, drop_add3, show 2 + (encN 7 T.length).length = (encN 0 k ++ (encN 0 0 ++ encN 7 T.length)).length by simp only [List.length_append, enc0_len]; omega]
      simp only [← List.append_assoc]
      rw [List.append_assoc _ T, List.drop_left' rfl]
    refine ⟨5 + (encN 7 T.length).length, T.length, ⟨h4, by rw [hC]; rfl, by rw [hC]; rfl, ?_, .inr (.inl ⟨rfl, by rw [hC]; rfl, ?_, _, ?_, rfl, rfl⟩)⟩, ?_, rfl, Y, by rw [eB]; exact hX⟩
    · rw [hC, show 3 = 3 + 0 from rfl, drop_add3, List.drop_zero]; exact d0 _
    · rw [hC, show 4 = 3 + 1 from rfl, drop_add3, List.drop_left' (enc0_len k), dec_enc (by decide) (by decide) (fit0 (by decide)), enc0_len]
    · rw [hC, show 5 = 3 + (1 + 1) from rfl, drop_add3, ← List.drop_drop, List.drop_left' (enc0_len k), List.drop_left' (enc0_len 0), dec_enc (by decide) hnn (fit7 _)]
    · rw [hel]; simp only [List.length_append, enc0_len, List.length_cons, List.length_nil]; try omega
  · have eH : hdE 3 k T.length (pkB T).length = [81, 83, 2] ++ (encN 0 k ++ (encN 0 1 ++ (encN 7 T.length ++ (encN 7 (pkB T).length ++ [])))) := rfl
    have eB : bdE 3 T = pkB T := rfl
    rw [eH, eB] at hC hel
    simp only [List.append_assoc, List.nil_append, List.append_nil] at hC
    have hX : (envB 3 k T ++ S).drop (5 + (encN 7 T.length).length + (encN 7 (pkB T).length).length) = pkB T ++ Y := by
      rw [hC, show 5 + (encN 7 T.length).length + (encN 7 (pkB T).length).length = 3 + (2 + (encN 7 T.length).length + (encN 7 (pkB T).length).length) by omega, drop_add3, show 2 + (encN 7 T.length).length + (encN 7 (pkB T).length).length = (encN 0 k ++ (encN 0 1 ++ (encN 7 T.length ++ encN 7 (pkB T).length))).length by simp only [List.length_append, enc0_len]; omega]
      simp only [← List.append_assoc]
      rw [List.append_assoc _ (pkB T), List.drop_left' rfl]
    refine ⟨5 + (encN 7 T.length).length + (encN 7 (pkB T).length).length, (pkB T).length, ⟨h4, by rw [hC]; rfl, by rw [hC]; rfl, ?_, .inr (.inr ⟨rfl, by rw [hC]; rfl, ?_, _, _, ?_, ?_, rfl⟩)⟩, ?_, rfl, Y, by rw [eB]; exact hX⟩
    · rw [hC, show 3 = 3 + 0 from rfl, drop_add3, List.drop_zero]; exact d0 _
    · rw [hC, show 4 = 3 + 1 from rfl, drop_add3, List.drop_left' (enc0_len k), dec_enc (by decide) (by decide) (fit0 (by decide)), enc0_len]
    · rw [hC, show 5 = 3 + (1 + 1) from rfl, drop_add3, ← List.drop_drop, List.drop_left' (enc0_len k), List.drop_left' (enc0_len 1), dec_enc (by decide) hnn (fit7 _)]
    · rw [hC, show 5 + (encN 7 (T.length : Int)).length = 3 + (1 + (1 + (encN 7 (T.length : Int)).length)) by omega, drop_add3, ← List.drop_drop, ← List.drop_drop, List.drop_left' (enc0_len k), List.drop_left' (enc0_len 1), List.drop_left' rfl, dec_enc (by decide) hzz (fit7 _)]
    · rw [hel]; simp only [List.length_append, enc0_len, List.length_cons, List.length_nil]; try omega
theorem EV.read {B : List Int} {v : Nat} {k : Int} {T : List Int} (h : EV B v k T) :
    ∃ a z, LT B v k T.length a z ∧ B.length = a + z + 4 ∧ z = (bdE v T).length ∧ (B.drop a).take z = bdE v T := by
  obtain ⟨a, z, h1, h2, h3, X, h4⟩ := env_LT h.kd h.len h.ok h.vs []
  rw [List.append_nil, ← h.eq] at h1 h4
  rw [← h.eq] at h2
  exact ⟨a, z, h1, h2, h3, by rw [h4, h3]; exact List.take_left' rfl⟩
theorem pkB_inj {T T' : List Int} (hT : OKB T) (hT' : OKB T') (hl : T.length ≤ 1048576) (hl' : T'.length ≤ 1048576) (h : pkB T = pkB T') : T = T' := by
  have h1 := ZR_pk (S := []) hT (fun _ => by simp) 1048576 (by decide) (by omega)
  have h2 := ZR_pk (S := []) hT' (fun _ => by simp) 1048576 (by decide) (by omega)
  rw [if_pos rfl, if_pos rfl, List.append_nil] at h1 h2
  rw [h] at h1
  exact (ZR_one h1 h2).2
theorem EV.fun {B : List Int} {v v' : Nat} {k k' : Int} {T T' : List Int} (h : EV B v k T) (g : EV B v' k' T') : v = v' ∧ k = k' ∧ T = T' := by
  obtain ⟨a, z, h1, h2, h3, h4⟩ := h.read
  obtain ⟨a', z', g1, g2, g3, g4⟩ := g.read
  obtain ⟨rfl, rfl, e3, rfl, rfl⟩ := h1.fun g1
  rw [h4] at g4
  refine ⟨rfl, rfl, ?_⟩
  unfold bdE at g4
  split at g4
  · exact pkB_inj h.ok g.ok h.len g.len g4
  · exact g4
theorem EV.alone {B S : List Int} {v v' : Nat} {k k' : Int} {T T' : List Int} (h : EV B v k T) (g : EV (B ++ S) v' k' T') : S = [] := by
  obtain ⟨a, z, h1, h2, h3, _⟩ := env_LT h.kd h.len h.ok h.vs S
  obtain ⟨a', z', g1, g2, g3, _⟩ := g.read
  rw [← h.eq] at h1 h2
  obtain ⟨_, _, _, rfl, rfl⟩ := h1.fun g1
  rw [List.length_append] at g2
  exact List.eq_nil_of_length_eq_zero (by omega)
theorem env_EV {v : Nat} {k : Int} {T : List Int} (hk : 1 ≤ k ∧ k ≤ 4) (hl : T.length ≤ 1048576) (hT : OKB T) (hv : v = 1 ∨ v = 2 ∨ v = 3) : EV (envB v k T) v k T := ⟨hT, hk, hl, hv, rfl⟩
end Go.Proofs.YteelffkghidpfaaGreat

namespace Sx
open Go
section
variable {P : Program} {n : Nat} {D : List Deferred} {w0 : World} {ov : Ov} {H : List Asn} {d : Option Nat} {T : Nat} {pos : String} {af : Array Edge} {g : Option (Nat × Bool)} {x y : Operand} {v : Value} {tb : Tb P}
theorem V_cap {m : Nat} {base : Option Addr} {c t e s1 b1 : Nat} {z1 : Option (List Value)} (hx : ev ov x = some (.slice base m c)) (h : tlook tb.l t = some ⟨.slice e, s1, b1, z1⟩) (hd : dOk d n = true) : OpV P n D w0 ov H ⟨d, .call ⟨.builtin .cap, #[x], #[t]⟩, T, pos, af, g⟩ (.int .i64 (c : Int)) :=
  by
  unfold OpV
  exact ⟨hd, (fun a w ha _ => by
    simp [execOp, resolve, invoke, builtin, Builtin.cap_, ha.ev hx, run_underlying (und_slice h), goInt])⟩
theorem E_appZ {t tn e sz by' s1 b1 s2 b2 : Nat} {ty2 : Ty} {K : IntKind} {z1 z2 : Option (List Value)} {z : List Value} {m : Nat} (hx : ev ov x = some (.slice none 0 0)) (hy : ev ov y = some (.int K m)) (h : tlook tb.l t = some ⟨.slice e, s1, b1, z1⟩) (hn : tlook tb.l tn = some ⟨.int K, s2, b2, z2⟩) (h2 : tlook tb.l e = some ⟨ty2, sz, by', some z⟩) (hzl : Nat.beq z.length sz = true) (hsz : Nat.blt 0 sz = true)
    (hb : 0 < m ∧ m * by' ≤ 140737488355328 ∧ m ≤ 140737488355328) (hd : dOk d n = true) :
    OpE (ι := Addr × Nat) P n D w0 ov H ⟨d, .call ⟨.builtin .append, #[x, y], #[t, tn]⟩, T, pos, af, g⟩ (fun pc => .slice (some pc.1) m pc.2) (fun pc => vec e sz (.slice (some pc.1) 0 pc.2) 0 [] :: H) :=
  ⟨hd, fun A w ha hw => by
    obtain ⟨i, zv, hi, e1, e2, e3, e4⟩ := Tb.inf' h2
    have hsz' : 0 < sz := by rw [Nat.blt_eq] at hsz; exact hsz
    have hzl' := Nat.eq_of_beq_eq_true hzl
    have hr := Lib.run_append_nil_zeros (P := P) w t tn T e i zv K K (und_slice h) (und_int hn) hi e3 m hb.1 (by omega) (by omega) (by rw [e2]; omega)
    have hge := grownCap_ge w m 0 e
    have hle := grownCap_le_maxLen w m 0 e (by unfold maxLen; omega)
    have hzs : zv.cells.size = sz := by rw [cellsL_eq, e4]; simpa using hzl'
    obtain ⟨A', hA⟩ : ∃ A', Builtin.zeroCells zv.cells m ++ Builtin.zeroCells zv.cells (grownCap w m 0 e - m) = A' := ⟨_, rfl⟩
    have hAs : A'.size = grownCap w m 0 e * sz := by
      rw [← hA, Array.size_append, size_zeroCells, size_zeroCells, hzs, ← Nat.add_mul]
      congr 1; omega
    rw [hA, show A' = A'.toList.toArray by simp] at hr
    refine ⟨(⟨w.heap.size, 0, none⟩, grownCap w m 0 e), _, by simp only [execOp, resolve, invoke, builtin, Sem.run_bind, Sem.run_pure, Result.andThen_ok, List.map_toArray, List.map_cons, List.map_nil, ha.ev hx, ha.ev hy, hr], hw.drew.new A'.toList e _ fun w' h' => ?_⟩
    rw [vec_holds]
    exact ⟨by simp, .inr ⟨_, grownCap w m 0 e, _, rfl, rfl, h', by omega, hle, by simpa using hAs, by simp⟩⟩⟩
end
end Sx
namespace Go.Proofs.YteelffkghidpfaaGreat
open Sx Go
set_option linter.unusedVariables false
set_option linter.unusedSimpArgs false
section
variable {w0 : World} {H : List Asn}
set_option maxRecDepth 10000 in
theorem Grow_c (m : Nat) (h1 : 0 < m) (h2 : m ≤ 100000000000) (w : World) (hw : St w0 H w) :
    Calls Tryz.prog 119 #[.slice none 0 0, .int .i64 m] w fun e w' => ∃ q d, e = .returned (.slice q 0 d) ∧ St w0 (vec 5 1 (.slice q 0 d) 0 [] :: H) w' := by
  refine enter (vs := [.slice none 0 0, .int .i64 m]) Tryz.func119 rfl rfl rfl hw ?_
  clear hw w
  repeat (first | (apply gJO; refine JO_v (V_cap (tb := tb) rfl rfl rfl) ?_) | (apply gJO; refine JO_v (V_slice (tb := tb) (lo := 0) (hi := 0) rfl rfl rfl rfl rfl (by rfl) (by rfl) (fun w hw => ⟨Nat.le_refl _, Nat.zero_le _⟩) rfl) ?_) | (apply gJO; refine JO_e (E_appZ (tb := tb) (m := m) rfl rfl rfl rfl rfl rfl rfl (by omega) rfl) ?_; intro _) | (refine sx ?_; try intro _))
  rename_i pc
  exact JS_ret Tryz.func119 rfl rfl fun w hw => ⟨some pc.1, pc.2, by rw [subB_0]; rfl, hw⟩
def cat (X : Nat → List Int) : Nat → List Int
  | 0 => []
  | i + 1 => cat X i ++ X i
theorem cat_le (X : Nat → List Int) (i : Nat) : ∀ k, i ≤ k → (cat X i).length ≤ (cat X k).length
  | 0, h => by obtain rfl : i = 0 := by omega
               exact Nat.le_refl _
  | k + 1, h => by
    rcases Nat.lt_or_ge i (k + 1) with h' | h'
    · have := cat_le X i k (by omega)
      rw [cat, List.length_append]; omega
    · obtain rfl : i = k + 1 := by omega
      exact Nat.le_refl _
set_option maxRecDepth 10000 in
set_option maxHeartbeats 1000000 in
theorem Concat_c (p : Option Addr) (c k : Nat) (V : List Value) (X : Nat → List Int) (q : Nat → Option Addr) (d : Nat → Nat) (hr : Rd w0 H (.slice p k c) k V) (hV : ∀ i, i < k → V[i]? = some (.slice (q i) (X i).length (d i))) (hX : ∀ i, i < k → Rd w0 H (.slice (q i) (X i).length (d i)) (X i).length (ints .u8 (X i)))
    (hpos : 0 < (cat X k).length) (hb : (cat X k).length ≤ 100000000) (hk : k ≤ 100000) (w : World) (hw : St w0 H w) :
    Calls Tryz.prog 77 #[.slice p k c] w fun e w' => ∃ q d, e = .returned (.slice q (cat X k).length d) ∧ St w0 (vec 5 1 (.slice q (cat X k).length d) (cat X k).length (ints .u8 (cat X k)) :: H) w' := by
  refine enter (vs := [.slice p k c]) Tryz.func77 rfl rfl rfl hw ?_
  clear hw w
  repeat (refine sx ?_; try intro _)
  refine JS_loop1 (fun (i : Nat) => [(0, .slice p k c), (3, .int .i64 (cat X i).length), (9, .slice p k c), (10, .int .i64 k), (11, .int .i64 i)]) (fun _ => H) (fun i => i ≤ k) (fun i => k - i) 0 (Nat.zero_le _) (by repeat (first | exact trivial | refine ⟨rfl, ?_⟩ | refine ⟨lookI rfl (by omega), ?_⟩)) (fun w h => h) ?_
  intro i hi again
  by_cases hlt : i < k
  · have g := hV i hlt
    have g' : V[i * 1]? = some (.slice (q i) (X i).length (d i)) := by rw [Nat.mul_one]; exact g
    have hle := cat_le X (i + 1) k (by omega)
    have hcl : (cat X (i + 1)).length = (cat X i).length + (X i).length := by rw [cat, List.length_append]
    repeat (first | (apply gJO; first | refine JO_v (oL (V_loadC (tb := tb) rfl hr rfl rfl g rfl)) ?_ | refine JO_v (oL (V_loadC (tb := tb) rfl hr rfl rfl g' rfl)) ?_) | (refine sx ?_; try intro _))
    exact JS_again1 again (i + 1) (by omega) (by omega) (by rw [hcl]; exact (by repeat (first | exact trivial | refine ⟨rfl, ?_⟩ | refine ⟨lookI rfl (by omega), ?_⟩))) (fun w hw => hw)
  obtain rfl : i = k := by omega
  clear again
  repeat (refine sx ?_; try intro _)
  refine JO_call Tryz.call119 rfl rfl fun w hw => (Grow_c (cat X i).length hpos (by omega) w hw).mono ?_
  rintro e w' ⟨q0, d0, rfl, hw'⟩
  refine ⟨_, rfl, _, hw', ?_⟩
  clear hw' hw w w'
  repeat (refine sx ?_; try intro _)
  refine JS_loop3 (fun (j : Nat) (q1 : Option Addr) (d1 : Nat) => [(6, .slice q1 (cat X j).length d1), (25, .slice p i c), (26, .int .i64 i), (27, .int .i64 j)]) (fun j q1 d1 => vec 5 1 (.slice q1 (cat X j).length d1) (cat X j).length (ints .u8 (cat X j)) :: H) (fun j _ _ => j ≤ i) (fun j _ _ => i - j) 0 q0 d0 (Nat.zero_le _) (by repeat (first | exact trivial | refine ⟨rfl, ?_⟩ | refine ⟨lookI rfl (by omega), ?_⟩)) (fun w h => h) ?_
  intro j q1 d1 hj again
  by_cases hlt : j < i
  · have g := hV j hlt
    have g' : V[j * 1]? = some (.slice (q j) (X j).length (d j)) := by rw [Nat.mul_one]; exact g
    have hXj := hX j hlt
    have hle := cat_le X (j + 1) i (by omega)
    have hcl : (cat X (j + 1)).length = (cat X j).length + (X j).length := by rw [cat, List.length_append]
    repeat (first | (apply gJO; first | refine JO_v (oL (V_loadC (tb := tb) rfl (Rd_weak hr fun w hw => dS hw) rfl rfl g rfl)) ?_ | refine JO_v (oL (V_loadC (tb := tb) rfl (Rd_weak hr fun w hw => dS hw) rfl rfl g' rfl)) ?_ | (refine JO_app (tb := tb) rfl rfl rfl rfl rfl rfl (by repeat (first | exact Sel.here _ _ | apply Sel.there)) (by first | exact vec_rd (by repeat (first | apply List.Mem.head | apply List.Mem.tail)) | assumption | exact ArgRd.rd (by assumption) _ | (apply Rd_weak; assumption; intro _ hx; exact dS hx)) (by simp only [ints_len, List.length_cons, List.length_nil]; first | omega | rfl) (by first | exact ints_one | (repeat (first | exact trivial | refine ⟨rfl, ?_⟩))) (by omega) rfl ?_; intro _ _)) | (refine sx ?_; try intro _))
    exact JS_again3 again (j + 1) _ _ (by omega) (by omega) (by rw [hcl]; exact (by repeat (first | exact trivial | refine ⟨rfl, ?_⟩ | refine ⟨lookI rfl (by omega), ?_⟩))) (fun w hw => by rw [hcl, cat, ← ints_app]; exact dS hw)
  obtain rfl : j = i := by omega
  clear again
  repeat (refine sx ?_; try intro _)
  exact JS_ret Tryz.func77 rfl rfl fun w hw => ⟨_, _, rfl, hw⟩
end
end Go.Proofs.YteelffkghidpfaaGreat

namespace Go.Proofs.YteelffkghidpfaaGreat
open Sx Go
set_option linter.unusedVariables false
set_option linter.unusedSimpArgs false
set_option maxRecDepth 100000
theorem enc3_le (n : Nat) : encN 3 n = leB 4 n := by
  have e : encN 3 n = [lowF n 0, lowF n 1, lowF n 2, lowF n 3] := rfl
  rw [e]
  simp only [leB, lowF, List.cons.injEq, and_true]
  refine ⟨?_, ?_, ?_, ?_⟩ <;> omega
def mayE (k : Int) (m : Nat) : Prop := (1 ≤ k ∧ k ≤ 4) ∧ m ≤ 1048576
section
variable {w0 : World} {H : List Asn}
theorem PutS_c (n : Nat) (hn : n < 4294967296) (q : Option Addr) (d : Nat) (hu : Rd w0 H (.slice q 1 d) 1 (ints .u64 [(n : Int)])) (w : World) (hw : St w0 H w) :
    Calls Tryz.prog 65 #[.string (bstr [119]), .slice q 1 d] w fun e w' => ∃ p c, e = .returned (.tuple #[.slice p 4 c, .int .i64 0]) ∧ St w0 (vec 5 1 (.slice p 4 c) 4 (ints .u8 (leB 4 n)) :: H) w' := by
  have := WirePut_c (w0 := w0) (H := H) [3] (by decide) (by decide) q d [(n : Int)] hu rfl (fun j => by
    match j with
    | 0 => show 0 ≤ (n : Int) ∧ (n : Int) < 18446744073709551616; omega
    | j + 1 => exact (by decide : (0 : Int) ≤ 0 ∧ (0 : Int) < 18446744073709551616)) (fun j hj => by
    match j, hj with
    | 0, _ => exact fit3 (by show 0 ≤ (n : Int) ∧ (n : Int) < 4294967296; omega)
    | j + 1, h => exact absurd h (by simp only [List.length_cons, List.length_nil]; omega)) w hw
  have he : encs [3] [(n : Int)] = leB 4 n := by rw [encs, enc3_le]; simp [encs]
  rw [he, leB_len] at this
  exact this
theorem PutO_c (k : Int) (n : Nat) (hk : 0 ≤ k ∧ k < 256) (hn : n < 4294967296) (q : Option Addr) (d : Nat) (hu : Rd w0 H (.slice q 2 d) 2 (ints .u64 [k, (n : Int)])) (w : World) (hw : St w0 H w) :
    Calls Tryz.prog 65 #[.string (bstr [98, 119]), .slice q 2 d] w fun e w' => ∃ p c, e = .returned (.tuple #[.slice p (encs [0, 3] [k, (n : Int)]).length c, .int .i64 0]) ∧ St w0 (vec 5 1 (.slice p (encs [0, 3] [k, (n : Int)]).length c) (encs [0, 3] [k, (n : Int)]).length (ints .u8 (encs [0, 3] [k, (n : Int)])) :: H) w' :=
  WirePut_c (w0 := w0) (H := H) [0, 3] (by decide) (by decide) q d [k, (n : Int)] hu rfl (fun j => by
    match j with
    | 0 => show 0 ≤ k ∧ k < 18446744073709551616; omega
    | 1 => show 0 ≤ (n : Int) ∧ (n : Int) < 18446744073709551616; omega
    | j + 2 => exact (by decide : (0 : Int) ≤ 0 ∧ (0 : Int) < 18446744073709551616)) (fun j hj => by
    match j, hj with
    | 0, _ => exact fit0 (by show 0 ≤ k ∧ k < 256; omega)
    | 1, _ => exact fit3 (by show 0 ≤ (n : Int) ∧ (n : Int) < 4294967296; omega)
    | j + 2, h => exact absurd h (by simp only [List.length_cons, List.length_nil]; omega)) w hw
theorem PutP_c (k : Int) (n : Nat) (hk : 0 ≤ k ∧ k < 256) (hn : n < 4294967296) (q : Option Addr) (d : Nat) (hu : Rd w0 H (.slice q 3 d) 3 (ints .u64 [k, 0, (n : Int)])) (w : World) (hw : St w0 H w) :
    Calls Tryz.prog 65 #[.string (bstr [98, 98, 118]), .slice q 3 d] w fun e w' => ∃ p c, e = .returned (.tuple #[.slice p (encs [0, 0, 7] [k, 0, (n : Int)]).length c, .int .i64 0]) ∧ St w0 (vec 5 1 (.slice p (encs [0, 0, 7] [k, 0, (n : Int)]).length c) (encs [0, 0, 7] [k, 0, (n : Int)]).length (ints .u8 (encs [0, 0, 7] [k, 0, (n : Int)])) :: H) w' :=
  WirePut_c (w0 := w0) (H := H) [0, 0, 7] (by decide) (by decide) q d [k, 0, (n : Int)] hu rfl (fun j => by
    match j with
    | 0 => show 0 ≤ k ∧ k < 18446744073709551616; omega
    | 1 => exact (by decide : (0 : Int) ≤ 0 ∧ (0 : Int) < 18446744073709551616)
    | 2 => show 0 ≤ (n : Int) ∧ (n : Int) < 18446744073709551616; omega
    | j + 3 => exact (by decide : (0 : Int) ≤ 0 ∧ (0 : Int) < 18446744073709551616)) (fun j hj => by
    match j, hj with
    | 0, _ => exact fit0 (by show 0 ≤ k ∧ k < 256; omega)
    | 1, _ => exact fit0 (by show (0 : Int) ≤ 0 ∧ (0 : Int) < 256; decide)
    | 2, _ => exact fit7 _
    | j + 3, h => exact absurd h (by simp only [List.length_cons, List.length_nil]; omega)) w hw
theorem PutZ_c (k : Int) (n z : Nat) (hk : 0 ≤ k ∧ k < 256) (hn : n < 4294967296) (hz : z < 4294967296) (q : Option Addr) (d : Nat) (hu : Rd w0 H (.slice q 4 d) 4 (ints .u64 [k, 1, (n : Int), (z : Int)])) (w : World) (hw : St w0 H w) :
    Calls Tryz.prog 65 #[.string (bstr [98, 98, 118, 118]), .slice q 4 d] w fun e w' => ∃ p c, e = .returned (.tuple #[.slice p (encs [0, 0, 7, 7] [k, 1, (n : Int), (z : Int)]).length c, .int .i64 0]) ∧ St w0 (vec 5 1 (.slice p (encs [0, 0, 7, 7] [k, 1, (n : Int), (z : Int)]).length c) (encs [0, 0, 7, 7] [k, 1, (n : Int), (z : Int)]).length (ints .u8 (encs [0, 0, 7, 7] [k, 1, (n : Int), (z : Int)])) :: H) w' :=
  WirePut_c (w0 := w0) (H := H) [0, 0, 7, 7] (by decide) (by decide) q d [k, 1, (n : Int), (z : Int)] hu rfl (fun j => by
    match j with
    | 0 => show 0 ≤ k ∧ k < 18446744073709551616; omega
    | 1 => exact (by decide : (0 : Int) ≤ 1 ∧ (1 : Int) < 18446744073709551616)
    | 2 => show 0 ≤ (n : Int) ∧ (n : Int) < 18446744073709551616; omega
    | 3 => show 0 ≤ (z : Int) ∧ (z : Int) < 18446744073709551616; omega
    | j + 4 => exact (by decide : (0 : Int) ≤ 0 ∧ (0 : Int) < 18446744073709551616)) (fun j hj => by
    match j, hj with
    | 0, _ => exact fit0 (by show 0 ≤ k ∧ k < 256; omega)
    | 1, _ => exact fit0 (by show (0 : Int) ≤ 1 ∧ (1 : Int) < 256; decide)
    | 2, _ => exact fit7 _
    | 3, _ => exact fit7 _
    | j + 4, h => exact absurd h (by simp only [List.length_cons, List.length_nil]; omega)) w hw
theorem Sealed_c (m : Nat) (p : Option Addr) (cp : Nat) (B : List Int) (hm : B.length = m) (hB : OKB B) (hm1 : m ≤ 100000000) (w : World) (hw : St w0 (vec 5 1 (.slice p m cp) m (ints .u8 B) :: H) w) :
    Calls Tryz.prog 76 #[.slice p m cp] w fun e w' => ∃ q d, e = .returned (.slice q (sealB B).length d) ∧ St w0 (vec 5 1 (.slice q (sealB B).length d) (sealB B).length (ints .u8 (sealB B)) :: H) w' := by
  have hS := fun {H'} t (ht : blk t (ints .u32 (tabT 256)) ∈ H') (hr' : Rd w0 H' (.slice p m cp) m (ints .u8 B)) w hw => CSum_c (w0 := w0) (H := H') t ht m p cp B hr' hm hB (by omega) w hw
  have hlt := crcS_lt (B := B)
  have hsl := sealB_len B
  have hse : B ++ leB 4 (crcS B) = sealB B := rfl
  have hll := leB_len 4 (crcS B)
  have hP := fun {H'} q d (hu : Rd w0 H' (.slice q 1 d) 1 (ints .u64 [(crcS B : Int)])) w hw => PutS_c (w0 := w0) (H := H') (crcS B) hlt q d hu w hw
  have hN := fun {H'} w hw => CNew_c (w0 := w0) (H := H') w hw
  generalize crcS B = s at *
  generalize leB 4 s = L4 at *
  have hTb := tabT_len 256
  generalize tabT 256 = tabl at *
  refine enter (vs := [.slice p m cp]) Tryz.func76 rfl rfl rfl hw ?_
  clear hw w
  repeat (refine sx ?_; try intro _)
  refine JO_call Tryz.call86 rfl rfl fun w hw => (hN w hw).mono ?_
  rintro e w' ⟨t, rfl, hw'⟩
  (refine ⟨_, rfl, _, hw', ?_⟩; clear hw' hw w w')
  repeat (refine sx ?_; try intro _)
  refine JO_call Tryz.call118 rfl rfl fun w hw => (hS t (List.Mem.head _) (vec_rd (List.Mem.tail _ (List.Mem.head _))) w hw).mono ?_
  rintro e w' ⟨rfl, hw'⟩
  (refine ⟨_, rfl, _, hw', ?_⟩; clear hw' hw w w')
  have c1 : IntKind.u64.wrap (s : Int) = (s : Int) := wu64 (by omega)
  repeat (first | (apply gJO; refine JO_v (V_conv (tb := tb) rfl rfl rfl c1 rfl) ?_) | (refine sx ?_; try intro _))
  refine JO_call Tryz.call65 rfl rfl fun w hw => (hP _ _ (vec_rd (List.Mem.head _)) w hw).mono ?_
  rintro e w' ⟨q1, d1, rfl, hw'⟩
  (refine ⟨_, rfl, _, hw', ?_⟩; clear hw' hw w w')
  repeat (refine sx ?_; try intro _)
  refine JO_app (tb := tb) rfl rfl rfl rfl rfl rfl (by repeat (first | exact Sel.here _ _ | apply Sel.there)) (vec_rd (cs := ints .u8 L4) (by repeat (first | apply List.Mem.head | apply List.Mem.tail))) (by rw [ints_len, Nat.mul_one]; exact hll) ints_one (by omega) rfl ?_
  intro q3 d3
  rw [ints_app, hse]
  repeat (refine sx ?_; try intro _)
  refine JS_ret Tryz.func76 rfl rfl fun w hw => ?_
  have hn : m + 4 = (sealB B).length := by omega
  rw [hn] at hw
  exact ⟨_, _, by rw [hn]; rfl, dS hw⟩
theorem May_c (k : Int) (m : Nat) (p : Option Addr) (cp : Nat) (w : World) (hw : St w0 H w) :
    Calls Tryz.prog 44 #[.int .u8 k, .slice p m cp] w fun e w' => (∃ b, e = .returned (.bool b) ∧ (b = true ↔ mayE k m)) ∧ St w0 H w' := by
  unfold mayE
  refine enter (vs := [.int .u8 k, .slice p m cp]) Tryz.func44 rfl rfl rfl hw ?_
  clear hw w
  rcases (show k < 1 ∨ (1 ≤ k ∧ 4 < k) ∨ ((1 ≤ k ∧ k ≤ 4) ∧ 1048576 < m) ∨ ((1 ≤ k ∧ k ≤ 4) ∧ m ≤ 1048576) by omega) with h | ⟨h, h2⟩ | ⟨h, h2⟩ | ⟨h, h2⟩
  all_goals (
    repeat (refine sx ?_; try intro _)
    refine JS_ret Tryz.func44 rfl rfl fun w hw => ⟨⟨_, rfl, ?_⟩, hw⟩
    simp <;> omega)
theorem RMay_c (k : Int) (m : Nat) (p : Option Addr) (cp : Nat) (w : World) (hw : St w0 H w) :
    Calls Tryz.prog 16 #[.int .u8 k, .slice p m cp] w fun e w' => (∃ b, e = .returned (.bool b) ∧ (b = true ↔ mayE k m)) ∧ St w0 H w' := by
  unfold mayE
  refine enter (vs := [.int .u8 k, .slice p m cp]) Tryz.func16 rfl rfl rfl hw ?_
  clear hw w
  rcases (show k < 1 ∨ (1 ≤ k ∧ 4 < k) ∨ ((1 ≤ k ∧ k ≤ 4) ∧ 1048576 < m) ∨ ((1 ≤ k ∧ k ≤ 4) ∧ m ≤ 1048576) by omega) with h | ⟨h, h2⟩ | ⟨h, h2⟩ | ⟨h, h2⟩
  all_goals (
    repeat (refine sx ?_; try intro _)
    refine JS_ret Tryz.func16 rfl rfl fun w hw => ⟨⟨_, rfl, ?_⟩, hw⟩
    simp <;> omega)
theorem Wrapped_c (v : Int) (hv : v = 1 ∨ v = 2) (s : ByteArray) (l ld : Nat) (qa : Option Addr) (E : List Int) (hE : OKB E) (hEl : E.length ≤ 100)
    (hP : ∀ w, St w0 H w → Calls Tryz.prog 65 #[.string s, .slice qa l ld] w fun e w' => ∃ p c, e = .returned (.tuple #[.slice p E.length c, .int .i64 0]) ∧ St w0 (vec 5 1 (.slice p E.length c) E.length (ints .u8 E) :: H) w')
    (p : Option Addr) (m cp : Nat) (T : List Int) (hr : Rd w0 H (.slice p m cp) m (ints .u8 T)) (hm : T.length = m) (hT : OKB T) (hm1 : m ≤ 10000000) (w : World) (hw : St w0 H w) :
    Calls Tryz.prog 45 #[.int .u8 v, .string s, .slice qa l ld, .slice p m cp] w fun e w' => ∃ q d, e = .returned (.tuple #[.slice q (sealB ([81, 83, v] ++ E ++ T)).length d, .int .i64 0]) ∧ St w0 (vec 5 1 (.slice q (sealB ([81, 83, v] ++ E ++ T)).length d) (sealB ([81, 83, v] ++ E ++ T)).length (ints .u8 (sealB ([81, 83, v] ++ E ++ T))) :: H) w' := by
  subst hm
  refine enter (vs := [.int .u8 v, .string s, .slice qa l ld, .slice p T.length cp]) Tryz.func45 rfl rfl rfl hw ?_
  clear hw w
  repeat (refine sx ?_; try intro _)
  refine JO_call Tryz.call65 rfl rfl fun w hw => (hP w hw).mono ?_
  rintro e w' ⟨q1, d1, rfl, hw'⟩
  (refine ⟨_, rfl, _, hw', ?_⟩; clear hw' hw w w')
  repeat (refine sx ?_; try intro _)
  rename_i pa pc
  have hcat : cat (fun i => ([[81, 83, v], E, T] : List (List Int)).getD i []) 3 = [81, 83, v] ++ E ++ T := rfl
  have hcl : ([81, 83, v] ++ E ++ T).length = E.length + T.length + 3 := by simp only [List.length_append, List.length_cons, List.length_nil]; omega
  have hok : OKB ([81, 83, v] ++ E ++ T) := OKB_app (OKB_app (mem_okb (fun x hx => by simp only [List.mem_cons, List.not_mem_nil, or_false] at hx; omega)) hE) hT
  refine JO_call Tryz.call77 rfl rfl fun w hw => (Concat_c (some pc) 3 3 [.slice (some pa) 3 3, .slice q1 E.length d1, .slice p T.length cp] (fun i => ([[81, 83, v], E, T] : List (List Int)).getD i []) (fun i => ([some pa, q1, p] : List (Option Addr)).getD i none) (fun i => ([3, d1, cp] : List Nat).getD i 0) (vec_rd (List.Mem.head _)) (fun i hi => ?_) (fun i hi => ?_) (by rw [hcat, hcl]; omega) (by rw [hcat, hcl]; omega) (by omega) w hw).mono ?_
  · rcases (show i = 0 ∨ i = 1 ∨ i = 2 by omega) with rfl | rfl | rfl <;> rfl
  · rcases (show i = 0 ∨ i = 1 ∨ i = 2 by omega) with rfl | rfl | rfl
    · exact vec_rd (by repeat (first | apply List.Mem.head | apply List.Mem.tail))
    · exact vec_rd (by repeat (first | apply List.Mem.head | apply List.Mem.tail))
    · exact Rd_weak hr fun w hw => dS hw
  rw [hcat]
  rintro e w' ⟨q2, d2, rfl, hw'⟩
  (refine ⟨_, rfl, _, hw', ?_⟩; clear hw' hw w w')
  repeat (refine sx ?_; try intro _)
  refine JO_call Tryz.call76 rfl rfl fun w hw => (Sealed_c _ q2 d2 _ rfl hok (by omega) w hw).mono ?_
  rintro e w' ⟨q3, d3, rfl, hw'⟩
  (refine ⟨_, rfl, _, hw', ?_⟩; clear hw' hw w w')
  repeat (refine sx ?_; try intro _)
  exact JS_ret Tryz.func45 rfl rfl fun w hw => ⟨q3, d3, rfl, dS hw⟩
theorem encs_okb (ks : List Nat) (L : List Int) (h : ∀ x ∈ L, 0 ≤ x ∧ x < 18446744073709551616) : OKB (encs ks L) := mem_okb (encs_byt ks L h)
theorem EOld_c (k : Int) (hk : 0 ≤ k ∧ k < 256) (p : Option Addr) (m cp : Nat) (T : List Int) (hr : Rd w0 H (.slice p m cp) m (ints .u8 T)) (hm : T.length = m) (hT : OKB T) (hm1 : m ≤ 140737488355328) (w : World) (hw : St w0 H w) :
    Calls Tryz.prog 14 #[.int .u8 k, .slice p m cp] w fun e w' => (¬ mayE k m ∧ e = .returned (.tuple #[.slice none 0 0, .int .i64 1]) ∧ St w0 H w') ∨
      (mayE k m ∧ ∃ q d, e = .returned (.tuple #[.slice q (envB 1 k T).length d, .int .i64 0]) ∧ St w0 (vec 5 1 (.slice q (envB 1 k T).length d) (envB 1 k T).length (ints .u8 (envB 1 k T)) :: H) w') := by
  refine enter (vs := [.int .u8 k, .slice p m cp]) Tryz.func14 rfl rfl rfl hw ?_
  clear hw w
  repeat (refine sx ?_; try intro _)
  refine JO_call Tryz.call44 rfl rfl fun w hw => (May_c k m p cp w hw).mono ?_
  rintro e w' ⟨⟨b, rfl, hb⟩, hw'⟩
  (refine ⟨_, rfl, _, hw', ?_⟩; clear hw' hw w w')
  cases b with
  | false =>
    have hn : ¬ mayE k m := fun h => by simp [h] at hb
    repeat (refine sx ?_; try intro _)
    exact JS_ret Tryz.func14 rfl rfl fun w hw => .inl ⟨hn, rfl, hw⟩
  | true =>
    have hy := hb.1 rfl
    have hm2 : m ≤ 1048576 := hy.2
    have c1 : IntKind.u64.wrap k = k := wu64 (by omega)
    have c2 : IntKind.u64.wrap (m : Int) = (m : Int) := wu64 (by omega)
    have hE := encs_okb [0, 3] [k, (m : Int)] (fun y hy => by simp only [List.mem_cons, List.not_mem_nil, or_false] at hy; omega)
    have hEl := encs_len [0, 3] [k, (m : Int)]
    have eB : sealB ([81, 83, 1] ++ encs [0, 3] [k, (m : Int)] ++ T) = envB 1 k T := by subst hm; rfl
    have hPu := fun {H'} q d hu w hw => PutO_c (w0 := w0) (H := H') k m hk (by omega) q d hu w hw
    generalize encs [0, 3] [k, (m : Int)] = E at *
    repeat (first | (apply gJO; first | refine JO_v (V_conv (tb := tb) rfl rfl rfl c1 rfl) ?_ | refine JO_v (V_conv (tb := tb) rfl rfl rfl c2 rfl) ?_) | (refine sx ?_; try intro _))
    refine JO_call Tryz.call45 rfl rfl fun w hw => (Wrapped_c 1 (.inl rfl) _ 2 2 _ E hE (by simp only [List.length_cons, List.length_nil] at hEl; omega) (fun w hw => hPu _ _ (vec_rd (List.Mem.head _)) w hw) p m cp T (Rd_weak hr fun w hw => dS hw) hm hT (by omega) w hw).mono ?_
    rw [eB]
    rintro e w' ⟨q3, d3, rfl, hw'⟩
    (refine ⟨_, rfl, _, hw', ?_⟩; clear hw' hw w w')
    repeat (refine sx ?_; try intro _)
    exact JS_ret Tryz.func14 rfl rfl fun w hw => .inr ⟨hy, q3, d3, rfl, dS hw⟩
def vOf (b : Bool) : Nat := if b then 3 else 2
theorem ENew_c (k : Int) (hk : 0 ≤ k ∧ k < 256) (pk : Bool) (p : Option Addr) (m cp : Nat) (T : List Int) (hr : Rd w0 H (.slice p m cp) m (ints .u8 T)) (hm : T.length = m) (hT : OKB T) (hm1 : m ≤ 140737488355328) (w : World) (hw : St w0 H w) :
    Calls Tryz.prog 15 #[.int .u8 k, .slice p m cp, .bool pk] w fun e w' => (¬ mayE k m ∧ e = .returned (.tuple #[.slice none 0 0, .int .i64 1]) ∧ St w0 H w') ∨
      (mayE k m ∧ ∃ q d, e = .returned (.tuple #[.slice q (envB (vOf pk) k T).length d, .int .i64 0]) ∧ St w0 (vec 5 1 (.slice q (envB (vOf pk) k T).length d) (envB (vOf pk) k T).length (ints .u8 (envB (vOf pk) k T)) :: H) w') := by
  refine enter (vs := [.int .u8 k, .slice p m cp, .bool pk]) Tryz.func15 rfl rfl rfl hw ?_
  clear hw w
  repeat (refine sx ?_; try intro _)
  refine JO_call Tryz.call44 rfl rfl fun w hw => (May_c k m p cp w hw).mono ?_
  rintro e w' ⟨⟨b, rfl, hb⟩, hw'⟩
  (refine ⟨_, rfl, _, hw', ?_⟩; clear hw' hw w w')
  cases b with
  | false =>
    have hn : ¬ mayE k m := fun h => by simp [h] at hb
    repeat (refine sx ?_; try intro _)
    exact JS_ret Tryz.func15 rfl rfl fun w hw => .inl ⟨hn, rfl, hw⟩
  | true =>
    have hy := hb.1 rfl
    have hm2 : m ≤ 1048576 := hy.2
    have c1 : IntKind.u64.wrap k = k := wu64 (by omega)
    have c2 : IntKind.u64.wrap (m : Int) = (m : Int) := wu64 (by omega)
    cases pk with
    | false =>
      have hE := encs_okb [0, 0, 7] [k, 0, (m : Int)] (fun y hy => by simp only [List.mem_cons, List.not_mem_nil, or_false] at hy; omega)
      have hEl := encs_len [0, 0, 7] [k, 0, (m : Int)]
      have eB : sealB ([81, 83, 2] ++ encs [0, 0, 7] [k, 0, (m : Int)] ++ T) = envB (vOf false) k T := by subst hm; rfl
      have hPu := fun {H'} q d hu w hw => PutP_c (w0 := w0) (H := H') k m hk (by omega) q d hu w hw
      generalize encs [0, 0, 7] [k, 0, (m : Int)] = E at *
      repeat (first | (apply gJO; first | refine JO_v (V_conv (tb := tb) rfl rfl rfl c1 rfl) ?_ | refine JO_v (V_conv (tb := tb) rfl rfl rfl c2 rfl) ?_) | (refine sx ?_; try intro _))
      refine JO_call Tryz.call45 rfl rfl fun w hw => (Wrapped_c 2 (.inr rfl) _ 3 3 _ E hE (by simp only [List.length_cons, List.length_nil] at hEl; omega) (fun w hw => hPu _ _ (vec_rd (List.Mem.head _)) w hw) p m cp T (Rd_weak hr fun w hw => dS hw) hm hT (by omega) w hw).mono ?_
      rw [eB]
      rintro e w' ⟨q3, d3, rfl, hw'⟩
      (refine ⟨_, rfl, _, hw', ?_⟩; clear hw' hw w w')
      repeat (refine sx ?_; try intro _)
      exact JS_ret Tryz.func15 rfl rfl fun w hw => .inr ⟨hy, q3, d3, rfl, dS hw⟩
    | true =>
      repeat (refine sx ?_; try intro _)
      refine JO_call Tryz.call46 rfl rfl fun w hw => (ZPack_c p cp m T (Rd_weak hr fun w hw => dS hw) hm hT (by omega) w hw).mono ?_
      rintro e w' ⟨qz, dz, rfl, hw'⟩
      (refine ⟨_, rfl, _, hw', ?_⟩; clear hw' hw w w')
      have hz := pkB_le hT
      have hzo := pk_okb hT
      have eB : sealB ([81, 83, 2] ++ encs [0, 0, 7, 7] [k, 1, (m : Int), ((pkB T).length : Int)] ++ pkB T) = envB (vOf true) k T := by subst hm; rfl
      generalize pkB T = Z at *
      have c3 : IntKind.u64.wrap (Z.length : Int) = (Z.length : Int) := wu64 (by omega)
      have hE := encs_okb [0, 0, 7, 7] [k, 1, (m : Int), (Z.length : Int)] (fun y hy => by simp only [List.mem_cons, List.not_mem_nil, or_false] at hy; omega)
      have hEl := encs_len [0, 0, 7, 7] [k, 1, (m : Int), (Z.length : Int)]
      have hPu := fun {H'} q d hu w hw => PutZ_c (w0 := w0) (H := H') k m Z.length hk (by omega) (by omega) q d hu w hw
      generalize encs [0, 0, 7, 7] [k, 1, (m : Int), (Z.length : Int)] = E at *
      repeat (first | (apply gJO; first | refine JO_v (V_conv (tb := tb) rfl rfl rfl c1 rfl) ?_ | refine JO_v (V_conv (tb := tb) rfl rfl rfl c2 rfl) ?_ | refine JO_v (V_conv (tb := tb) rfl rfl rfl c3 rfl) ?_) | (refine sx ?_; try intro _))
      refine JO_call Tryz.call45 rfl rfl fun w hw => (Wrapped_c 2 (.inr rfl) _ 4 4 _ E hE (by simp only [List.length_cons, List.length_nil] at hEl; omega) (fun w hw => hPu _ _ (vec_rd (List.Mem.head _)) w hw) qz Z.length dz Z (vec_rd (by repeat (first | apply List.Mem.head | apply List.Mem.tail))) rfl hzo (by omega) w hw).mono ?_
      rw [eB]
      rintro e w' ⟨q3, d3, rfl, hw'⟩
      (refine ⟨_, rfl, _, hw', ?_⟩; clear hw' hw w w')
      repeat (refine sx ?_; try intro _)
      exact JS_ret Tryz.func15 rfl rfl fun w hw => .inr ⟨hy, q3, d3, rfl, dS hw⟩
end
end Go.Proofs.YteelffkghidpfaaGreat

namespace Go.Proofs.YteelffkghidpfaaGreat
open Sx Go
set_option linter.unusedVariables false
set_option linter.unusedSimpArgs false
set_option maxRecDepth 100000
theorem EV1 {B : List Int} {k : Int} {T : List Int} (h : EV B 1 k T) : dec 0 (B.drop 3) = (k, 1, 0) ∧ dec 3 (B.drop 4) = ((T.length : Int), 4, 0) ∧ B.length = 8 + T.length + 4 ∧ (B.drop 8).take T.length = T := by
  obtain ⟨a, z, ⟨_, _, _, hk, h1⟩, h2, h3, h4⟩ := h.read
  rw [show bdE 1 T = T from rfl] at h3 h4
  subst h3
  rcases h1 with ⟨_, _, h5, rfl, _⟩ | ⟨h, _⟩ | ⟨h, _⟩
  · exact ⟨hk, h5, h2, h4⟩
  · exact absurd h (by decide)
  · exact absurd h (by decide)
theorem EV2 {B : List Int} {k : Int} {T : List Int} (h : EV B 2 k T) : dec 0 (B.drop 3) = (k, 1, 0) ∧ dec 0 (B.drop 4) = (0, 1, 0) ∧ ∃ u, dec 7 (B.drop 5) = ((T.length : Int), u, 0) ∧ B.length = 5 + u + T.length + 4 ∧ (B.drop (5 + u)).take T.length = T := by
  obtain ⟨a, z, ⟨_, _, _, hk, h1⟩, h2, h3, h4⟩ := h.read
  rw [show bdE 2 T = T from rfl] at h3 h4
  subst h3
  rcases h1 with ⟨h, _⟩ | ⟨_, _, h5, u, h6, rfl, _⟩ | ⟨h, _⟩
  · exact absurd h (by decide)
  · exact ⟨hk, h5, u, h6, h2, h4⟩
  · exact absurd h (by decide)
theorem EV3 {B : List Int} {k : Int} {T : List Int} (h : EV B 3 k T) : dec 0 (B.drop 3) = (k, 1, 0) ∧ dec 0 (B.drop 4) = (1, 1, 0) ∧ ∃ u t, dec 7 (B.drop 5) = ((T.length : Int), u, 0) ∧ dec 7 (B.drop (5 + u)) = (((pkB T).length : Int), t, 0) ∧ B.length = 5 + u + t + (pkB T).length + 4 ∧ (B.drop (5 + u + t)).take (pkB T).length = pkB T := by
  obtain ⟨a, z, ⟨_, _, _, hk, h1⟩, h2, h3, h4⟩ := h.read
  rw [show bdE 3 T = pkB T from rfl] at h3 h4
  subst h3
  rcases h1 with ⟨h, _⟩ | ⟨h, _⟩ | ⟨_, _, h5, u, t, h6, h7, rfl⟩
  · exact absurd h (by decide)
  · exact absurd h (by decide)
  · exact ⟨hk, h5, u, t, h6, h7, h2, h4⟩
theorem EV.head {B : List Int} {v : Nat} {k : Int} {T : List Int} (h : EV B v k T) : B.getD 0 0 = 81 ∧ B.getD 1 0 = 83 ∧ B.getD 2 0 = (if v = 1 then 1 else 2) := by
  obtain ⟨a, z, ⟨_, h0, h1, hk, h2⟩, _⟩ := h.read
  refine ⟨h0, h1, ?_⟩
  rcases h2 with ⟨rfl, h, _⟩ | ⟨rfl, h, _⟩ | ⟨rfl, h, _⟩ <;> exact h
theorem Rd_subI {w0 : World} {H : List Asn} {p : Option Addr} {m c lo hi : Nat} {X : List Int} (h : Rd w0 H (.slice p m c) m (ints .u8 X)) (h1 : lo ≤ hi) (h2 : hi ≤ m) : Rd w0 H (.slice (subB p lo c 1) (hi - lo) (c - lo)) (hi - lo) (ints .u8 ((X.drop lo).take (hi - lo))) := by
  have := Rd_sub (lo := lo) (hi := hi) (sz := 1) h h1 h2
  rw [Nat.mul_one, Nat.mul_one] at this
  unfold ints at this ⊢
  rw [List.map_take, List.map_drop]
  exact this
def FE : List PanicEntry := [{ v := .iface 121 (.agg #[]), recovered := false }]
section
variable {w0 : World} {H : List Asn}
theorem WText91_c (k : Nat) (b : Nat) (p : Option Addr) (c m at_ : Nat) (B : List Int) (hR : Rd w0 H (.slice p m c) m (ints .u8 B)) (hm : B.length = m) (hB : OKB B) (hk : at_ + k ≤ m) (hmm : m ≤ 140737488355328) (w : World) (hw : St w0 (blk b (rdC (.slice p m c) at_) :: H) w) :
    Calls Tryz.prog 91 #[.pointer (some ⟨b, 0, none⟩), .int .i64 k] w fun e w' => ∃ q d, e = .returned (.tuple #[.slice q k d, .int .i64 0]) ∧ St w0 (vec 5 1 (.slice q k d) k (ints .u8 ((B.drop at_).take k)) :: blk b (rdC (.slice p m c) (at_ + k)) :: H) w' := by
  have c1 : IntKind.i64.wrap ((at_ : Int) + k) = ((at_ + k : Nat) : Int) := by rw [wi64 (by omega)]; omega
  have c2 : IntKind.i64.wrap (((at_ + k : Nat) : Int) - k) = (at_ : Int) := by rw [wi64 (by omega)]; omega
  have hcap := fun w hw => (hR.lcap (w := w) hw).1
  have hnn := fun w hw => Rd.nil hR (w := w) hw
  have hS := Rd_subI (lo := at_) (hi := at_ + k) hR (by omega) hk
  rw [show at_ + k - at_ = k by omega] at hS
  have hsl : ((B.drop at_).take k).length = k := by rw [List.length_take, List.length_drop]; omega
  have hso : OKB ((B.drop at_).take k) := okb_take (hB.drop at_) k
  have hpn : subB p at_ c 1 = none → k = 0 := fun h => by
    have h1 := hnn w hw.drop
    cases p with
    | none => have := h1 rfl; omega
    | some a =>
      unfold subB at h
      split at h
      · cases h
      · cases h
  refine enter (vs := [.pointer (some ⟨b, 0, none⟩), .int .i64 k]) Tryz.func91 rfl rfl rfl hw ?_
  clear hw w
  repeat (refine sx ?_; try intro _)
  refine JO_call Tryz.call116 rfl rfl fun w hw => (RLeft_c b p c m at_ (List.Mem.head _) (by omega) hmm w hw).mono ?_
  rintro e w' ⟨rfl, hw'⟩
  (refine ⟨_, rfl, _, hw', ?_⟩; clear hw' hw w w')
  repeat (first | (apply gJO; first | refine JO_v (V_add rfl rfl c1 rfl) ?_) | (apply gQO; first | refine QO_v rfl (V_sub rfl rfl c2 rfl) ?_ | refine QO_v rfl (V_slice (tb := tb) (lo := at_) (hi := at_ + k) rfl rfl rfl rfl rfl rfl rfl (fun w hw => ⟨by omega, by have := hcap w hw.drop; omega⟩) rfl) ?_) | (refine sx ?_; try intro _))
  rw [show at_ + k - at_ = k by omega]
  refine QO_call Tryz.call128 rfl rfl fun w hw => (Clone_c _ _ k ((B.drop at_).take k) (Rd_weak hS fun w hw => hw.drop) hsl hso (by omega) hpn w hw).mono ?_
  rintro e w' ⟨q, d, rfl, hw'⟩
  (refine ⟨_, rfl, _, hw', .inl fun w hw => dS hw, ?_⟩; clear hw' hw w w')
  repeat (refine sx ?_; try intro _)
  exact JS_ret Tryz.func91 rfl rfl fun w hw => ⟨q, d, rfl, hw⟩
theorem Need26_c (b : Bool) (w : World) (hw : St w0 H w) :
    Calls Tryz.prog 85 #[.bool b] w fun e w' => (b = true ∧ e = .returned (.tuple #[]) ∧ St w0 H w') ∨ (b = false ∧ e = .panicked FE ∧ St w0 H w') := by
  refine enter (vs := [.bool b]) Tryz.func85 rfl rfl rfl hw ?_
  cases b
  · repeat (first | (apply gJO; refine JO_v (V_mkI (tb := tb) rfl rfl (by simp) rfl) ?_) | (refine sx ?_; try intro _))
    refine JO_panic Tryz.func85 rfl ?_
    intro a w _ hw
    exact .inr ⟨rfl, rfl, hw⟩
  · repeat (refine sx ?_; try intro _)
    refine JS_fin Tryz.func85 rfl rfl ?_
    intro w hw
    exact .inl ⟨rfl, rfl, hw⟩
abbrev ltr (rb : Nat) (cs : List Value) : List Value := .pointer (some ⟨rb, 0, none⟩) :: cs
theorem Num_c (k : Nat) (hk : k < 10) (l : Int) (hl : ltA k = l) (lb rb : Nat) (v k0 : Int) (pk : Bool) (tx : Value) (hlb : blk lb (ltr rb [.int .i64 v, .int .u8 k0, .bool pk, tx]) ∈ H) (p : Option Addr) (c m at_ : Nat) (B : List Int) (hR : Rd w0 H (.slice p m c) m (ints .u8 B)) (hm : B.length = m) (hB : OKB B) (ha : at_ ≤ m) (hmm : m ≤ 140737488355328) (w : World) (hw : St w0 (blk rb (rdC (.slice p m c) at_) :: H) w) :
    Calls Tryz.prog 129 #[.pointer (some ⟨lb, 0, none⟩), .int .u8 l] w fun e w' => ((dec k (B.drop at_)).2.2 = 0 ∧ e = .returned (.int .u64 (dec k (B.drop at_)).1) ∧ St w0 (blk rb (rdC (.slice p m c) (at_ + (dec k (B.drop at_)).2.1)) :: H) w') ∨
      ((dec k (B.drop at_)).2.2 ≠ 0 ∧ e = .panicked FE ∧ St w0 (blk rb (rdC (.slice p m c) (at_ + (dec k (B.drop at_)).2.1)) :: H) w') := by
  subst hl
  have hN := fun w hw => Next_c (w0 := w0) (H := H) k hk rb p c m at_ B hR hm hB ha hmm w hw
  unfold RdR at hN
  generalize dec k (B.drop at_) = D at *
  refine enter (vs := [.pointer (some ⟨lb, 0, none⟩), .int .u8 (ltA k)]) Tryz.func129 rfl rfl rfl hw ?_
  clear hw w
  repeat (first | (apply gJO; first | refine JO_v (oL (V_load (tb := tb) rfl (List.Mem.tail _ hlb) rfl rfl rfl rfl)) ?_) | (refine sx ?_; try intro _))
  refine JO_call Tryz.call106 rfl rfl fun w hw => (hN w hw).mono ?_
  rintro e w' ⟨rfl, hw'⟩
  (refine ⟨_, rfl, _, hw', ?_⟩; clear hw' hw w w')
  by_cases h0 : D.2.2 = 0
  · repeat (refine sx ?_; try intro _)
    refine JO_callE Tryz.func129 Tryz.call85 rfl rfl fun A hA w hw => (Need26_c _ w hw).mono ?_
    rintro e w' (⟨h, rfl, hw'⟩ | ⟨h, rfl, hw'⟩)
    rotate_left
    · exact absurd h (by first | (simp; done) | (simp; omega))
    (refine .inl ⟨_, rfl, _, hw', ?_⟩; clear hw' hw w w' hA A h)
    repeat (refine sx ?_; try intro _)
    exact JS_ret Tryz.func129 rfl rfl fun w hw => .inl ⟨h0, rfl, hw⟩
  · repeat (refine sx ?_; try intro _)
    refine JO_callE Tryz.func129 Tryz.call85 rfl rfl fun A hA w hw => (Need26_c _ w hw).mono ?_
    rintro e w' (⟨h, rfl, hw'⟩ | ⟨h, rfl, hw'⟩)
    · exact absurd h (by first | (simp; done) | (simp; omega))
    exact .inr ⟨_, rfl, .inr ⟨h0, rfl, hw'⟩⟩
theorem Rest_c (n : Int) (hn : 0 ≤ n ∧ n < 18446744073709551616) (lb rb : Nat) (v k0 : Int) (pk : Bool) (tx : Value) (hlb : blk lb (ltr rb [.int .i64 v, .int .u8 k0, .bool pk, tx]) ∈ H) (p : Option Addr) (c m at_ : Nat) (B : List Int) (hR : Rd w0 H (.slice p m c) m (ints .u8 B)) (hm : B.length = m) (hB : OKB B) (ha : at_ ≤ m) (hmm : m ≤ 140737488355328) (w : World) (hw : St w0 (blk rb (rdC (.slice p m c) at_) :: H) w) :
    Calls Tryz.prog 130 #[.pointer (some ⟨lb, 0, none⟩), .int .u64 n] w fun e w' => (∃ (k : Nat) (q : Option Addr) (d : Nat), n = k ∧ m = at_ + k + 4 ∧ e = .returned (.slice q k d) ∧ St w0 (vec 5 1 (.slice q k d) k (ints .u8 ((B.drop at_).take k)) :: blk rb (rdC (.slice p m c) (at_ + k)) :: H) w') ∨
      ((∀ k : Nat, n = k → m = at_ + k + 4 → False) ∧ e = .panicked FE ∧ St w0 (blk rb (rdC (.slice p m c) at_) :: H) w') := by
  have hL := fun w hw => RLeft_c (w0 := w0) (H := blk rb (rdC (.slice p m c) at_) :: H) rb p c m at_ (List.Mem.head _) ha hmm w hw
  refine enter (vs := [.pointer (some ⟨lb, 0, none⟩), .int .u64 n]) Tryz.func130 rfl rfl rfl hw ?_
  clear hw w
  repeat (first | (apply gJO; first | refine JO_v (oL (V_load (tb := tb) rfl (List.Mem.tail _ hlb) rfl rfl rfl rfl)) ?_) | (refine sx ?_; try intro _))
  refine JO_call Tryz.call116 rfl rfl fun w hw => (hL w hw).mono ?_
  rintro e w' ⟨rfl, hw'⟩
  (refine ⟨_, rfl, _, hw', ?_⟩; clear hw' hw w w')
  by_cases h4 : 4 ≤ m - at_
  rotate_left
  · have hno : ∀ k : Nat, n = k → m = at_ + k + 4 → False := fun k _ h => by omega
    repeat (refine sx ?_; try intro _)
    refine JO_callE Tryz.func130 Tryz.call85 rfl rfl fun A hA w hw => (Need26_c _ w hw).mono ?_
    rintro e w' (⟨h, rfl, hw'⟩ | ⟨h, rfl, hw'⟩)
    · (exact absurd h (by first | (simp; done) | (simp; omega)))
    exact .inr ⟨_, rfl, .inr ⟨hno, rfl, hw'⟩⟩
  obtain ⟨k, hk⟩ : ∃ k, m - at_ = k + 4 := ⟨m - at_ - 4, by omega⟩
  have c1 : IntKind.i64.wrap (((m - at_ : Nat) : Int) - 4) = (k : Int) := by rw [wi64 (by omega)]; omega
  have c2 : IntKind.u64.wrap (k : Int) = (k : Int) := wu64 (by omega)
  repeat (first | (apply gJO; first | refine JO_v (oL (V_load (tb := tb) rfl (List.Mem.tail _ hlb) rfl rfl rfl rfl)) ?_) | (refine sx ?_; try intro _))
  refine JO_call Tryz.call116 rfl rfl fun w hw => (hL w hw).mono ?_
  rintro e w' ⟨rfl, hw'⟩
  (refine ⟨_, rfl, _, hw', ?_⟩; clear hw' hw w w')
  by_cases hnk : n = k
  rotate_left
  · have hno : ∀ k : Nat, n = k → m = at_ + k + 4 → False := fun k _ h => by omega
    repeat (first | (apply gJO; first | refine JO_v (V_sub rfl rfl c1 rfl) ?_ | refine JO_v (V_conv (tb := tb) rfl rfl rfl c2 rfl) ?_) | (refine sx ?_; try intro _))
    refine JO_callE Tryz.func130 Tryz.call85 rfl rfl fun A hA w hw => (Need26_c _ w hw).mono ?_
    rintro e w' (⟨h, rfl, hw'⟩ | ⟨h, rfl, hw'⟩)
    · (exact absurd h (by first | (simp; done) | (simp; omega)))
    exact .inr ⟨_, rfl, .inr ⟨hno, rfl, hw'⟩⟩
  subst hnk
  repeat (first | (apply gJO; first | refine JO_v (V_sub rfl rfl c1 rfl) ?_ | refine JO_v (V_conv (tb := tb) rfl rfl rfl c2 rfl) ?_) | (refine sx ?_; try intro _))
  refine JO_callE Tryz.func130 Tryz.call85 rfl rfl fun A hA w hw => (Need26_c _ w hw).mono ?_
  rintro e w' (⟨h, rfl, hw'⟩ | ⟨h, rfl, hw'⟩)
  rotate_left
  · (exact absurd h (by first | (simp; done) | (simp; omega)))
  (refine .inl ⟨_, rfl, _, hw', ?_⟩; clear hw' hw w w' hA A h)
  have c3 : IntKind.i64.wrap (k : Int) = (k : Int) := wi64 (by omega)
  repeat (first | (apply gJO; first | refine JO_v (oL (V_load (tb := tb) rfl (List.Mem.tail _ hlb) rfl rfl rfl rfl)) ?_ | refine JO_v (V_conv (tb := tb) rfl rfl rfl c3 rfl) ?_) | (refine sx ?_; try intro _))
  refine JO_call Tryz.call91 rfl rfl fun w hw => (WText91_c k rb p c m at_ B hR hm hB (by omega) hmm w hw).mono ?_
  rintro e w' ⟨q, d, rfl, hw'⟩
  (refine ⟨_, rfl, _, hw', ?_⟩; clear hw' hw w w')
  repeat (refine sx ?_; try intro _)
  refine JO_callE Tryz.func130 Tryz.call85 rfl rfl fun A hA w hw => (Need26_c _ w hw).mono ?_
  rintro e w' (⟨h, rfl, hw'⟩ | ⟨h, rfl, hw'⟩)
  rotate_left
  · (exact absurd h (by first | (simp; done) | (simp; omega)))
  (refine .inl ⟨_, rfl, _, hw', ?_⟩; clear hw' hw w w' hA A h)
  repeat (refine sx ?_; try intro _)
  exact JS_ret Tryz.func130 rfl rfl fun w hw => .inl ⟨k, q, d, rfl, by omega, rfl, hw⟩
end
end Go.Proofs.YteelffkghidpfaaGreat

namespace Go.Proofs.YteelffkghidpfaaGreat
open Sx Go
set_option linter.unusedVariables false
set_option linter.unusedSimpArgs false
set_option maxRecDepth 100000
def LetR (w0 : World) (H : List Asn) (lb rb : Nat) (v : Int) (vs : Nat → Prop) (B : List Int) (L : Int) : Ending → World → Prop := fun e w' =>
  ((∀ x k T, vs x → EV B x k T → (T.length : Int) ≤ L → False) ∧ e = .panicked FE ∧ St w0 H w') ∨
  (∃ (pk : Bool) (k : Int) (T : List Int) (q : Option Addr) (d : Nat), (0 ≤ k ∧ k < 256) ∧ (v = 1 → pk = false) ∧ OKB T ∧ T.length ≤ 1048576 ∧ (T.length : Int) ≤ L ∧ (∀ x k' T', vs x → EV B x k' T' → (T'.length : Int) ≤ L → x = (if v = 1 then 1 else vOf pk) ∧ k' = k ∧ T' = T) ∧
    e = .returned (.tuple #[]) ∧ St w0 (blk lb (ltr rb [.int .i64 v, .int .u8 k, .bool pk, .slice q T.length d]) :: vec 5 1 (.slice q T.length d) T.length (ints .u8 T) :: H) w')
theorem ZR_okbE {B : List Int} (hB : OKB B) {L e : Int} {o : List Int} (h : ZR B L e o) : OKB o := by
  rcases h with ⟨h1, rfl, rfl⟩ | ⟨h1, ⟨h2, rfl, rfl⟩ | ⟨h2, ⟨h3, rfl, rfl⟩ | ⟨h3, r, h4, h5⟩⟩⟩
  iterate 3 exact fun j => by simp
  cases r with
  | err x => obtain ⟨_, rfl⟩ := h5; exact fun j => by simp
  | ok a o' =>
    rcases h5 with ⟨_, _, rfl⟩ | ⟨_, ⟨_, _, rfl⟩ | ⟨_, ⟨_, _, rfl⟩ | ⟨_, _, rfl⟩⟩⟩
    iterate 3 exact fun j => by simp
    exact ALLR_okb h4
theorem vec_le {w0 : World} {H : List Asn} {e sz n d : Nat} {q : Option Addr} {cs : List Value} {w : World} (hw : St w0 H w) (hm : vec e sz (.slice q n d) n cs ∈ H) : n ≤ 9223372036854775807 := by
  obtain ⟨fp, hfp⟩ := hw.mem hm
  rw [vec_holds] at hfp
  rcases hfp.2 with ⟨base, hb, rfl, _⟩ | ⟨gb, cap, cur, hb, _, _, hn, hcm, _⟩
  · omega
  · unfold maxLen at hcm; omega
section
variable {w0 : World} {H : List Asn}
set_option maxHeartbeats 4000000 in
theorem LOld_c (L : Int) (hL : 0 ≤ L ∧ L ≤ 1048576) (lb rb : Nat) (p : Option Addr) (c m : Nat) (B : List Int) (hR : Rd w0 H (.slice p m c) m (ints .u8 B)) (hm : B.length = m) (hB : OKB B) (hm3 : 3 ≤ m) (hmm : m ≤ 1000000) (w : World)
    (hw : St w0 (blk rb (rdC (.slice p m c) 3) :: blk lb (ltr rb [.int .i64 1, .int .u8 0, .bool false, .slice none 0 0]) :: H) w) :
    Calls Tryz.prog 89 #[.pointer (some ⟨lb, 0, none⟩), .int .i64 L] w (LetR w0 H lb rb 1 (fun x => x = 1) B L) := by
  have hE : ∀ x k T, x = 1 → EV B x k T → (dec 0 (B.drop 3) = (k, 1, 0) ∧ dec 3 (B.drop 4) = ((T.length : Int), 4, 0) ∧ m = 8 + T.length + 4 ∧ (B.drop 8).take T.length = T) ∧ (1 ≤ k ∧ k ≤ 4) := fun x k T hx h => by
    subst hx
    obtain ⟨e1, e2, e3, e4⟩ := EV1 h
    exact ⟨⟨e1, e2, by omega, e4⟩, h.kd⟩
  have o0 := dec_ok 0 (B.drop 3) (hB.drop 3)
  have l0 : (B.drop 3).length = m - 3 := by rw [List.length_drop, hm]
  have cL : IntKind.u64.wrap L = L := wu64 (by omega)
  unfold LetR
  refine enter (vs := [.pointer (some ⟨lb, 0, none⟩), .int .i64 L]) Tryz.func89 rfl rfl rfl hw ?_
  clear hw w
  repeat (refine sx ?_; try intro _)
  refine JO_callE Tryz.func89 Tryz.call129 rfl rfl fun A hA w hw => (Num_c 0 (by decide) 98 rfl lb rb 1 0 false (.slice none 0 0) (List.Mem.head _) p c m 3 B (Rd_weak hR fun w hw => hw.drop) hm hB hm3 (by omega) w hw).mono ?_
  obtain ⟨D0, hD0⟩ : ∃ D, dec 0 (B.drop 3) = D := ⟨_, rfl⟩
  rw [hD0] at hE o0 ⊢
  obtain ⟨u1, u2, u3⟩ := o0
  rintro e w' (⟨h0, rfl, hw'⟩ | ⟨h0, rfl, hw'⟩)
  rotate_left
  · exact .inr ⟨_, rfl, .inl ⟨fun x k T hx h _ => h0 (by rw [(hE x k T hx h).1.1]), rfl, hw'.drop.drop⟩⟩
  (refine .inl ⟨_, rfl, _, hw', ?_⟩; clear hw' hw w w' hA A)
  have cK : IntKind.u8.wrap D0.1 = D0.1 % 256 := mu8 _
  have o1 := dec_ok 3 (B.drop (3 + D0.2.1)) (hB.drop _)
  have l1 : (B.drop (3 + D0.2.1)).length = m - (3 + D0.2.1) := by rw [List.length_drop, hm]
  repeat (first | (apply gJO; first | refine JO_v (V_conv (tb := tb) rfl rfl rfl cK rfl) ?_) | (refine sx ?_; try intro _))
  refine JO_callE Tryz.func89 Tryz.call129 rfl rfl fun A hA w hw => (Num_c 3 (by decide) 119 rfl lb rb 1 (D0.1 % 256) false (.slice none 0 0) (List.Mem.head _) p c m (3 + D0.2.1) B (Rd_weak hR fun w hw => hw.drop) hm hB (by omega) (by omega) w hw).mono ?_
  obtain ⟨D1, hD1⟩ : ∃ D, dec 3 (B.drop (3 + D0.2.1)) = D := ⟨_, rfl⟩
  have hE2 : ∀ x k T, x = 1 → EV B x k T → k = D0.1 % 256 ∧ D1 = ((T.length : Int), 4, 0) ∧ m = 3 + D0.2.1 + D1.2.1 + T.length + 4 ∧ (B.drop (3 + D0.2.1 + D1.2.1)).take T.length = T := fun x k T hx h => by
    obtain ⟨⟨e1, e2, e3, e4⟩, e5⟩ := hE x k T hx h
    subst e1
    rw [show (3 + ((k, 1, 0) : Int × Nat × Int).2.1 : Nat) = 4 from rfl, e2] at hD1
    subst hD1
    exact ⟨by show k = k % 256; omega, rfl, by show m = 3 + 1 + 4 + T.length + 4; omega, e4⟩
  rw [hD1] at o1 ⊢
  obtain ⟨q1, q2, q3⟩ := o1
  rintro e w' (⟨h1, rfl, hw'⟩ | ⟨h1, rfl, hw'⟩)
  rotate_left
  · exact .inr ⟨_, rfl, .inl ⟨fun x k T hx h _ => h1 (by rw [(hE2 x k T hx h).2.1]), rfl, hw'.drop.drop⟩⟩
  (refine .inl ⟨_, rfl, _, hw', ?_⟩; clear hw' hw w w' hA A)
  clear hE
  by_cases hn : D1.1 ≤ L
  rotate_left
  · repeat (first | (apply gJO; first | refine JO_v (V_conv (tb := tb) rfl rfl rfl cL rfl) ?_) | (refine sx ?_; try intro _))
    refine JO_callE Tryz.func89 Tryz.call85 rfl rfl fun A hA w hw => (Need26_c _ w hw).mono ?_
    rintro e w' (⟨h, rfl, hw'⟩ | ⟨h, rfl, hw'⟩)
    · (exact absurd h (by first | (simp; done) | (simp; omega)))
    exact .inr ⟨_, rfl, .inl ⟨fun x k T hx h hl => hn (by rw [(hE2 x k T hx h).2.1]; exact hl), rfl, hw'.drop.drop⟩⟩
  repeat (first | (apply gJO; first | refine JO_v (V_conv (tb := tb) rfl rfl rfl cL rfl) ?_) | (refine sx ?_; try intro _))
  refine JO_callE Tryz.func89 Tryz.call85 rfl rfl fun A hA w hw => (Need26_c _ w hw).mono ?_
  rintro e w' (⟨h, rfl, hw'⟩ | ⟨h, rfl, hw'⟩)
  rotate_left
  · (exact absurd h (by first | (simp; done) | (simp; omega)))
  clear h
  (refine .inl ⟨_, rfl, _, hw', ?_⟩; clear hw' hw w w' hA A)
  repeat (refine sx ?_; try intro _)
  refine JO_callE Tryz.func89 Tryz.call130 rfl rfl fun A hA w hw => (Rest_c D1.1 q2 lb rb 1 (D0.1 % 256) false (.slice none 0 0) (List.Mem.head _) p c m (3 + D0.2.1 + D1.2.1) B (Rd_weak hR fun w hw => hw.drop) hm hB (by omega) (by omega) w hw).mono ?_
  rintro e w' (⟨k, q, d, hk, hmk, rfl, hw'⟩ | ⟨hno, rfl, hw'⟩)
  rotate_left
  · exact .inr ⟨_, rfl, .inl ⟨fun x k T hx h hl => hno T.length (by rw [(hE2 x k T hx h).2.1]) (hE2 x k T hx h).2.2.1, rfl, hw'.drop.drop⟩⟩
  have hTl : ((B.drop (3 + D0.2.1 + D1.2.1)).take k).length = k := by rw [List.length_take, List.length_drop]; omega
  have hTo : OKB ((B.drop (3 + D0.2.1 + D1.2.1)).take k) := okb_take (hB.drop _) k
  have hE3 : ∀ x k' T, x = 1 → EV B x k' T → k' = D0.1 % 256 ∧ T = (B.drop (3 + D0.2.1 + D1.2.1)).take k := fun x k' T hx h => by
    obtain ⟨e1, e2, e3, e4⟩ := hE2 x k' T hx h
    have : k = T.length := by omega
    subst this
    exact ⟨e1, e4.symm⟩
  clear hE2
  generalize (B.drop (3 + D0.2.1 + D1.2.1)).take k = T at *
  subst hTl
  (refine .inl ⟨_, rfl, _, hw', ?_⟩; clear hw' hw w w' hA A)
  repeat (refine sx ?_; try intro _)
  refine JS_fin Tryz.func89 rfl rfl fun w hw => .inr ⟨false, D0.1 % 256, T, q, d, by omega, fun _ => rfl, hTo, by omega, by omega, fun x k' T' hx h hl => ?_, rfl, ?_⟩
  · obtain ⟨e1, e2⟩ := hE3 x k' T' hx h
    exact ⟨by rw [if_pos rfl]; exact hx, e1, e2⟩
  · have hw2 : St w0 (vec 5 1 (.slice q T.length d) T.length (ints .u8 T) :: blk lb (ltr rb [.int .i64 1, .int .u8 (D0.1 % 256), .bool false, .slice q T.length d]) :: H) w := dS hw
    exact hw2.perm (List.Perm.swap _ _ _)
set_option maxHeartbeats 8000000 in
theorem LNew_c (L : Int) (hL : 0 ≤ L ∧ L ≤ 1048576) (lb rb : Nat) (p : Option Addr) (c m : Nat) (B : List Int) (hR : Rd w0 H (.slice p m c) m (ints .u8 B)) (hm : B.length = m) (hB : OKB B) (hm3 : 3 ≤ m) (hmm : m ≤ 1000000) (w : World)
    (hw : St w0 (blk rb (rdC (.slice p m c) 3) :: blk lb (ltr rb [.int .i64 2, .int .u8 0, .bool false, .slice none 0 0]) :: H) w) :
    Calls Tryz.prog 90 #[.pointer (some ⟨lb, 0, none⟩), .int .i64 L] w (LetR w0 H lb rb 2 (fun x => x = 2 ∨ x = 3) B L) := by
  have hE : ∀ x k T, x = 2 ∨ x = 3 → EV B x k T → (1 ≤ k ∧ k ≤ 4) ∧ T.length ≤ 1048576 ∧ OKB T ∧ dec 0 (B.drop 3) = (k, 1, 0) ∧ ((x = 2 ∧ dec 0 (B.drop 4) = (0, 1, 0) ∧ ∃ u, dec 7 (B.drop 5) = ((T.length : Int), u, 0) ∧ m = 5 + u + T.length + 4 ∧ (B.drop (5 + u)).take T.length = T) ∨
      (x = 3 ∧ dec 0 (B.drop 4) = (1, 1, 0) ∧ ∃ u t, dec 7 (B.drop 5) = ((T.length : Int), u, 0) ∧ dec 7 (B.drop (5 + u)) = (((pkB T).length : Int), t, 0) ∧ m = 5 + u + t + (pkB T).length + 4 ∧ (B.drop (5 + u + t)).take (pkB T).length = pkB T)) := fun x k T hx h => by
    refine ⟨h.kd, h.len, h.ok, ?_⟩
    rcases hx with rfl | rfl
    · obtain ⟨e1, e2, u, e3, e4, e5⟩ := EV2 h
      exact ⟨e1, .inl ⟨rfl, e2, u, e3, by omega, e5⟩⟩
    · obtain ⟨e1, e2, u, t, e3, e4, e5, e6⟩ := EV3 h
      exact ⟨e1, .inr ⟨rfl, e2, u, t, e3, e4, by omega, e6⟩⟩
  have o0 := dec_ok 0 (B.drop 3) (hB.drop 3)
  have l0 : (B.drop 3).length = m - 3 := by rw [List.length_drop, hm]
  have cL : IntKind.u64.wrap L = L := wu64 (by omega)
  unfold LetR
  refine enter (vs := [.pointer (some ⟨lb, 0, none⟩), .int .i64 L]) Tryz.func90 rfl rfl rfl hw ?_
  clear hw w
  repeat (refine sx ?_; try intro _)
  refine JO_callE Tryz.func90 Tryz.call129 rfl rfl fun A hA w hw => (Num_c 0 (by decide) 98 rfl lb rb 2 0 false (.slice none 0 0) (List.Mem.head _) p c m 3 B (Rd_weak hR fun w hw => hw.drop) hm hB hm3 (by omega) w hw).mono ?_
  obtain ⟨D0, hD0⟩ : ∃ D, dec 0 (B.drop 3) = D := ⟨_, rfl⟩
  rw [hD0] at hE o0 ⊢
  obtain ⟨u1, u2, u3⟩ := o0
  rintro e w' (⟨h0, rfl, hw'⟩ | ⟨h0, rfl, hw'⟩)
  rotate_left
  · exact .inr ⟨_, rfl, .inl ⟨fun x k T hx h _ => h0 (by rw [(hE x k T hx h).2.2.2.1]), rfl, hw'.drop.drop⟩⟩
  (refine .inl ⟨_, rfl, _, hw', ?_⟩; clear hw' hw w w' hA A)
  have cK : IntKind.u8.wrap D0.1 = D0.1 % 256 := mu8 _
  have o1 := dec_ok 0 (B.drop (3 + D0.2.1)) (hB.drop _)
  have l1 : (B.drop (3 + D0.2.1)).length = m - (3 + D0.2.1) := by rw [List.length_drop, hm]
  repeat (first | (apply gJO; first | refine JO_v (V_conv (tb := tb) rfl rfl rfl cK rfl) ?_) | (refine sx ?_; try intro _))
  refine JO_callE Tryz.func90 Tryz.call129 rfl rfl fun A hA w hw => (Num_c 0 (by decide) 98 rfl lb rb 2 (D0.1 % 256) false (.slice none 0 0) (List.Mem.head _) p c m (3 + D0.2.1) B (Rd_weak hR fun w hw => hw.drop) hm hB (by omega) (by omega) w hw).mono ?_
  obtain ⟨D1, hD1⟩ : ∃ D, dec 0 (B.drop (3 + D0.2.1)) = D := ⟨_, rfl⟩
  have hE2 : ∀ x k T, x = 2 ∨ x = 3 → EV B x k T → k = D0.1 % 256 ∧ T.length ≤ 1048576 ∧ OKB T ∧ ((x = 2 ∧ D1 = (0, 1, 0) ∧ ∃ u, dec 7 (B.drop (3 + D0.2.1 + D1.2.1)) = ((T.length : Int), u, 0) ∧ m = 3 + D0.2.1 + D1.2.1 + u + T.length + 4 ∧ (B.drop (3 + D0.2.1 + D1.2.1 + u)).take T.length = T) ∨
      (x = 3 ∧ D1 = (1, 1, 0) ∧ ∃ u t, dec 7 (B.drop (3 + D0.2.1 + D1.2.1)) = ((T.length : Int), u, 0) ∧ dec 7 (B.drop (3 + D0.2.1 + D1.2.1 + u)) = (((pkB T).length : Int), t, 0) ∧ m = 3 + D0.2.1 + D1.2.1 + u + t + (pkB T).length + 4 ∧ (B.drop (3 + D0.2.1 + D1.2.1 + u + t)).take (pkB T).length = pkB T)) := fun x k T hx h => by
    obtain ⟨e0, e1, e2, e3, e4⟩ := hE x k T hx h
    subst e3
    rcases e4 with ⟨rfl, e4, u, e5, e6, e7⟩ | ⟨rfl, e4, u, t, e5, e6, e7, e8⟩
    · rw [show (3 + ((k, 1, 0) : Int × Nat × Int).2.1 : Nat) = 4 from rfl, e4] at hD1
      subst hD1
      exact ⟨by show k = k % 256; omega, e1, e2, .inl ⟨rfl, rfl, u, e5, e6, e7⟩⟩
    · rw [show (3 + ((k, 1, 0) : Int × Nat × Int).2.1 : Nat) = 4 from rfl, e4] at hD1
      subst hD1
      exact ⟨by show k = k % 256; omega, e1, e2, .inr ⟨rfl, rfl, u, t, e5, e6, e7, e8⟩⟩
  rw [hD1] at o1 ⊢
  obtain ⟨q1, q2, q3⟩ := o1
  clear hE
  rintro e w' (⟨h1, rfl, hw'⟩ | ⟨h1, rfl, hw'⟩)
  rotate_left
  · exact .inr ⟨_, rfl, .inl ⟨fun x k T hx h _ => h1 (by obtain ⟨_, _, _, h | h⟩ := hE2 x k T hx h <;> rw [h.2.1]), rfl, hw'.drop.drop⟩⟩
  (refine .inl ⟨_, rfl, _, hw', ?_⟩; clear hw' hw w w' hA A)
  obtain ⟨a1, ha1⟩ : ∃ a, 3 + D0.2.1 + D1.2.1 = a := ⟨_, rfl⟩
  rw [ha1] at hE2
  have o2 := dec_ok 7 (B.drop a1) (hB.drop _)
  have l2 : (B.drop a1).length = m - a1 := by rw [List.length_drop, hm]
  repeat (refine sx ?_; try intro _)
  refine JO_callE Tryz.func90 Tryz.call129 rfl rfl fun A hA w hw => (Num_c 7 (by decide) 118 rfl lb rb 2 (D0.1 % 256) false (.slice none 0 0) (List.Mem.head _) p c m a1 B (Rd_weak hR fun w hw => hw.drop) hm hB (by omega) (by omega) w (by rw [← ha1]; exact hw)).mono ?_
  obtain ⟨D2, hD2⟩ : ∃ D, dec 7 (B.drop a1) = D := ⟨_, rfl⟩
  have hE3 : ∀ x k T, x = 2 ∨ x = 3 → EV B x k T → k = D0.1 % 256 ∧ T.length ≤ 1048576 ∧ OKB T ∧ D2.2.2 = 0 ∧ D2.1 = (T.length : Int) ∧ ((x = 2 ∧ D1.1 = 0 ∧ m = a1 + D2.2.1 + T.length + 4 ∧ (B.drop (a1 + D2.2.1)).take T.length = T) ∨
      (x = 3 ∧ D1.1 = 1 ∧ ∃ t, dec 7 (B.drop (a1 + D2.2.1)) = (((pkB T).length : Int), t, 0) ∧ m = a1 + D2.2.1 + t + (pkB T).length + 4 ∧ (B.drop (a1 + D2.2.1 + t)).take (pkB T).length = pkB T)) := fun x k T hx h => by
    obtain ⟨e0, e1, e2, e3⟩ := hE2 x k T hx h
    rcases e3 with ⟨rfl, e4, u, e5, e6, e7⟩ | ⟨rfl, e4, u, t, e5, e6, e7, e8⟩
    · rw [e5] at hD2
      subst hD2
      exact ⟨e0, e1, e2, rfl, rfl, .inl ⟨rfl, by rw [e4], e6, e7⟩⟩
    · rw [e5] at hD2
      subst hD2
      exact ⟨e0, e1, e2, rfl, rfl, .inr ⟨rfl, by rw [e4], t, e6, e7, e8⟩⟩
  rw [hD2] at o2 ⊢
  obtain ⟨r1, r2, r3⟩ := o2
  clear hE2
  rintro e w' (⟨h2, rfl, hw'⟩ | ⟨h2, rfl, hw'⟩)
  rotate_left
  · exact .inr ⟨_, rfl, .inl ⟨fun x k T hx h _ => h2 (hE3 x k T hx h).2.2.2.1, rfl, hw'.drop.drop⟩⟩
  (refine .inl ⟨_, rfl, _, hw', ?_⟩; clear hw' hw w w' hA A)
  obtain ⟨a2, ha2⟩ : ∃ a, a1 + D2.2.1 = a := ⟨_, rfl⟩
  rw [ha2] at hE3 ⊢
  have hcase : (1 < D1.1) ∨ (D1.1 ≤ 1 ∧ L < D2.1) ∨ (D1.1 ≤ 1 ∧ D2.1 ≤ L) := by omega
  rcases hcase with hf | ⟨hf, hn⟩ | ⟨hf, hn⟩
  · repeat (first | (apply gJO; first | refine JO_v (V_conv (tb := tb) rfl rfl rfl cL rfl) ?_) | (refine sx ?_; try intro _))
    refine JO_callE Tryz.func90 Tryz.call85 rfl rfl fun A hA w hw => (Need26_c _ w hw).mono ?_
    rintro e w' (⟨h, rfl, hw'⟩ | ⟨h, rfl, hw'⟩)
    · (exact absurd h (by first | (simp; done) | (simp; omega)))
    exact .inr ⟨_, rfl, .inl ⟨fun x k T hx h hl => by obtain ⟨_, _, _, _, _, h | h⟩ := hE3 x k T hx h <;> omega, rfl, hw'.drop.drop⟩⟩
  · repeat (first | (apply gJO; first | refine JO_v (V_conv (tb := tb) rfl rfl rfl cL rfl) ?_) | (refine sx ?_; try intro _))
    refine JO_callE Tryz.func90 Tryz.call85 rfl rfl fun A hA w hw => (Need26_c _ w hw).mono ?_
    rintro e w' (⟨h, rfl, hw'⟩ | ⟨h, rfl, hw'⟩)
    · (exact absurd h (by first | (simp; done) | (simp; omega)))
    exact .inr ⟨_, rfl, .inl ⟨fun x k T hx h hl => by have := (hE3 x k T hx h).2.2.2.2.1; omega, rfl, hw'.drop.drop⟩⟩
  repeat (first | (apply gJO; first | refine JO_v (V_conv (tb := tb) rfl rfl rfl cL rfl) ?_) | (refine sx ?_; try intro _))
  refine JO_callE Tryz.func90 Tryz.call85 rfl rfl fun A hA w hw => (Need26_c _ w hw).mono ?_
  rintro e w' (⟨h, rfl, hw'⟩ | ⟨h, rfl, hw'⟩)
  rotate_left
  · (exact absurd h (by first | (simp; done) | (simp; omega)))
  clear h
  (refine .inl ⟨_, rfl, _, hw', ?_⟩; clear hw' hw w w' hA A)
  by_cases hz : D1.1 = 0
  · have hE4 : ∀ x k T, x = 2 ∨ x = 3 → EV B x k T → x = 2 ∧ k = D0.1 % 256 ∧ D2.1 = (T.length : Int) ∧ m = a2 + T.length + 4 ∧ (B.drop a2).take T.length = T := fun x k T hx h => by
      obtain ⟨e0, e1, e2, e3, e4, ⟨rfl, e5, e6, e7⟩ | ⟨rfl, e5, _⟩⟩ := hE3 x k T hx h
      · exact ⟨rfl, e0, e4, e6, e7⟩
      · omega
    clear hE3
    repeat (refine sx ?_; try intro _)
    refine JO_callE Tryz.func90 Tryz.call130 rfl rfl fun A hA w hw => (Rest_c D2.1 r2 lb rb 2 (D0.1 % 256) false (.slice none 0 0) (List.Mem.head _) p c m a2 B (Rd_weak hR fun w hw => hw.drop) hm hB (by omega) (by omega) w hw).mono ?_
    rintro e w' (⟨k, q, d, hk, hmk, rfl, hw'⟩ | ⟨hno, rfl, hw'⟩)
    rotate_left
    · exact .inr ⟨_, rfl, .inl ⟨fun x k T hx h hl => hno T.length (hE4 x k T hx h).2.2.1 (hE4 x k T hx h).2.2.2.1, rfl, hw'.drop.drop⟩⟩
    have hTl : ((B.drop a2).take k).length = k := by rw [List.length_take, List.length_drop]; omega
    have hTo : OKB ((B.drop a2).take k) := okb_take (hB.drop _) k
    have hE5 : ∀ x k' T, x = 2 ∨ x = 3 → EV B x k' T → x = 2 ∧ k' = D0.1 % 256 ∧ T = (B.drop a2).take k := fun x k' T hx h => by
      obtain ⟨e0, e1, e2, e3, e4⟩ := hE4 x k' T hx h
      have : k = T.length := by omega
      subst this
      exact ⟨e0, e1, e4.symm⟩
    clear hE4
    generalize (B.drop a2).take k = T at *
    subst hTl
    (refine .inl ⟨_, rfl, _, hw', ?_⟩; clear hw' hw w w' hA A)
    repeat (refine sx ?_; try intro _)
    refine JS_ret Tryz.func90 rfl rfl fun w hw => .inr ⟨false, D0.1 % 256, T, q, d, by omega, fun _ => rfl, hTo, by omega, by omega, fun x k' T' hx h hl => ?_, rfl, ?_⟩
    · obtain ⟨e0, e1, e2⟩ := hE5 x k' T' hx h
      exact ⟨by rw [if_neg (by decide)]; exact e0, e1, e2⟩
    · have hw2 : St w0 (vec 5 1 (.slice q T.length d) T.length (ints .u8 T) :: blk lb (ltr rb [.int .i64 2, .int .u8 (D0.1 % 256), .bool false, .slice q T.length d]) :: H) w := dS hw
      exact hw2.perm (List.Perm.swap _ _ _)
  · have hE4 : ∀ x k T, x = 2 ∨ x = 3 → EV B x k T → x = 3 ∧ k = D0.1 % 256 ∧ T.length ≤ 1048576 ∧ OKB T ∧ D2.1 = (T.length : Int) ∧ ∃ t, dec 7 (B.drop a2) = (((pkB T).length : Int), t, 0) ∧ m = a2 + t + (pkB T).length + 4 ∧ (B.drop (a2 + t)).take (pkB T).length = pkB T := fun x k T hx h => by
      obtain ⟨e0, e1, e2, e3, e4, ⟨rfl, e5, e6, e7⟩ | ⟨rfl, e5, e6⟩⟩ := hE3 x k T hx h
      · omega
      · exact ⟨rfl, e0, e1, e2, e4, e6⟩
    clear hE3
    have o3 := dec_ok 7 (B.drop a2) (hB.drop _)
    have l3 : (B.drop a2).length = m - a2 := by rw [List.length_drop, hm]
    repeat (refine sx ?_; try intro _)
    refine JO_callE Tryz.func90 Tryz.call129 rfl rfl fun A hA w hw => (Num_c 7 (by decide) 118 rfl lb rb 2 (D0.1 % 256) true (.slice none 0 0) (List.Mem.head _) p c m a2 B (Rd_weak hR fun w hw => hw.drop) hm hB (by omega) (by omega) w hw).mono ?_
    obtain ⟨D3, hD3⟩ : ∃ D, dec 7 (B.drop a2) = D := ⟨_, rfl⟩
    have hE5 : ∀ x k T, x = 2 ∨ x = 3 → EV B x k T → x = 3 ∧ k = D0.1 % 256 ∧ T.length ≤ 1048576 ∧ OKB T ∧ D2.1 = (T.length : Int) ∧ D3.2.2 = 0 ∧ D3.1 = ((pkB T).length : Int) ∧ m = a2 + D3.2.1 + (pkB T).length + 4 ∧ (B.drop (a2 + D3.2.1)).take (pkB T).length = pkB T := fun x k T hx h => by
      obtain ⟨e0, e1, e2, e3, e4, t, e5, e6, e7⟩ := hE4 x k T hx h
      rw [e5] at hD3
      subst hD3
      exact ⟨e0, e1, e2, e3, e4, rfl, rfl, e6, e7⟩
    rw [hD3] at o3 ⊢
    obtain ⟨s1, s2, s3⟩ := o3
    clear hE4
    rintro e w' (⟨h3, rfl, hw'⟩ | ⟨h3, rfl, hw'⟩)
    rotate_left
    · exact .inr ⟨_, rfl, .inl ⟨fun x k T hx h _ => h3 (hE5 x k T hx h).2.2.2.2.2.1, rfl, hw'.drop.drop⟩⟩
    (refine .inl ⟨_, rfl, _, hw', ?_⟩; clear hw' hw w w' hA A)
    obtain ⟨a3, ha3⟩ : ∃ a, a2 + D3.2.1 = a := ⟨_, rfl⟩
    rw [ha3] at hE5 ⊢
    repeat (refine sx ?_; try intro _)
    refine JO_callE Tryz.func90 Tryz.call130 rfl rfl fun A hA w hw => (Rest_c D3.1 s2 lb rb 2 (D0.1 % 256) true (.slice none 0 0) (List.Mem.head _) p c m a3 B (Rd_weak hR fun w hw => hw.drop) hm hB (by omega) (by omega) w hw).mono ?_
    rintro e w' (⟨k, q, d, hk, hmk, rfl, hw'⟩ | ⟨hno, rfl, hw'⟩)
    rotate_left
    · exact .inr ⟨_, rfl, .inl ⟨fun x k T hx h hl => hno (pkB T).length (hE5 x k T hx h).2.2.2.2.2.2.1 (hE5 x k T hx h).2.2.2.2.2.2.2.1, rfl, hw'.drop.drop⟩⟩
    have hTl : ((B.drop a3).take k).length = k := by rw [List.length_take, List.length_drop]; omega
    have hTo : OKB ((B.drop a3).take k) := okb_take (hB.drop _) k
    have hE6 : ∀ x k' T, x = 2 ∨ x = 3 → EV B x k' T → x = 3 ∧ k' = D0.1 % 256 ∧ T.length ≤ 1048576 ∧ OKB T ∧ D2.1 = (T.length : Int) ∧ (B.drop a3).take k = pkB T := fun x k' T hx h => by
      obtain ⟨e0, e1, e2, e3, e4, e5, e6, e7, e8⟩ := hE5 x k' T hx h
      have : k = (pkB T).length := by omega
      subst this
      exact ⟨e0, e1, e2, e3, e4, e8⟩
    clear hE5
    generalize (B.drop a3).take k = Z at *
    subst hTl
    (refine .inl ⟨_, rfl, _, hw', ?_⟩; clear hw' hw w w' hA A)
    have cN : IntKind.i64.wrap D2.1 = D2.1 := wi64 (by omega)
    repeat (first | (apply gJO; first | refine JO_v (V_conv (tb := tb) rfl rfl rfl cN rfl) ?_) | (refine sx ?_; try intro _))
    refine JO_call Tryz.call69 rfl rfl fun w hw => (ZOpen_c q d Z.length Z (vec_rd (List.Mem.head _)) rfl hTo (by omega) D2.1 (by omega) w hw).mono ?_
    rintro e w' ⟨x0, P, q2, d2, hZR, rfl, hw'⟩
    have hPo := ZR_okbE hTo hZR
    have hE7 : ∀ x k' T, x = 2 ∨ x = 3 → EV B x k' T → x = 3 ∧ k' = D0.1 % 256 ∧ D2.1 = (T.length : Int) ∧ x0 = 0 ∧ T = P := fun x k' T hx h => by
      obtain ⟨e0, e1, e2, e3, e4, e5⟩ := hE6 x k' T hx h
      have hz := ZR_pk (S := []) e3 (fun _ => by simp) D2.1 (by omega) (by omega)
      rw [if_pos rfl, if_pos rfl, List.append_nil, ← e5] at hz
      obtain ⟨g1, g2⟩ := ZR_one hZR hz
      exact ⟨e0, e1, e4, g1, g2.symm⟩
    clear hE6
    have hPl := vec_le hw' (List.Mem.head _)
    (refine ⟨_, rfl, _, hw', ?_⟩; clear hw' hw w w')
    have cP : IntKind.u64.wrap (P.length : Int) = (P.length : Int) := wu64 (by omega)
    have hcase : (x0 ≠ 0) ∨ (x0 = 0 ∧ (P.length : Int) ≠ D2.1) ∨ (x0 = 0 ∧ (P.length : Int) = D2.1) := by omega
    rcases hcase with hx | ⟨hx, hpl⟩ | ⟨hx, hpl⟩
    · repeat (first | (apply gJO; first | refine JO_v (V_conv (tb := tb) rfl rfl rfl cP rfl) ?_) | (refine sx ?_; try intro _))
      refine JO_callE Tryz.func90 Tryz.call85 rfl rfl fun A hA w hw => (Need26_c _ w hw).mono ?_
      rintro e w' (⟨h, rfl, hw'⟩ | ⟨h, rfl, hw'⟩)
      · (exact absurd h (by first | (simp; done) | (simp; omega)))
      exact .inr ⟨_, rfl, .inl ⟨fun x k T hx' h hl => hx (hE7 x k T hx' h).2.2.2.1, rfl, dS hw'⟩⟩
    · repeat (first | (apply gJO; first | refine JO_v (V_conv (tb := tb) rfl rfl rfl cP rfl) ?_) | (refine sx ?_; try intro _))
      refine JO_callE Tryz.func90 Tryz.call85 rfl rfl fun A hA w hw => (Need26_c _ w hw).mono ?_
      rintro e w' (⟨h, rfl, hw'⟩ | ⟨h, rfl, hw'⟩)
      · (exact absurd h (by first | (simp; done) | (simp; omega)))
      exact .inr ⟨_, rfl, .inl ⟨fun x k T hx' h hl => by obtain ⟨_, _, e1, _, rfl⟩ := hE7 x k T hx' h; exact hpl e1.symm, rfl, dS hw'⟩⟩
    repeat (first | (apply gJO; first | refine JO_v (V_conv (tb := tb) rfl rfl rfl cP rfl) ?_) | (refine sx ?_; try intro _))
    refine JO_callE Tryz.func90 Tryz.call85 rfl rfl fun A hA w hw => (Need26_c _ w hw).mono ?_
    rintro e w' (⟨h, rfl, hw'⟩ | ⟨h, rfl, hw'⟩)
    rotate_left
    · (exact absurd h (by first | (simp; done) | (simp; omega)))
    clear h
    (refine .inl ⟨_, rfl, _, hw', ?_⟩; clear hw' hw w w' hA A)
    repeat (refine sx ?_; try intro _)
    refine JS_fin Tryz.func90 rfl rfl fun w hw => .inr ⟨true, D0.1 % 256, P, q2, d2, by omega, fun h => absurd h (by decide), hPo, by omega, by omega, fun x k' T' hx h hl => ?_, rfl, ?_⟩
    · obtain ⟨e0, e1, _, _, e2⟩ := hE7 x k' T' hx h
      exact ⟨by rw [if_neg (by decide)]; exact e0, e1, e2⟩
    · have hw2 : St w0 (vec 5 1 (.slice q2 P.length d2) P.length (ints .u8 P) :: blk lb (ltr rb [.int .i64 2, .int .u8 (D0.1 % 256), .bool true, .slice q2 P.length d2]) :: H) w := dS hw
      exact hw2.perm (List.Perm.swap _ _ _)
end
end Go.Proofs.YteelffkghidpfaaGreat

namespace Go.Proofs.YteelffkghidpfaaGreat
open Sx Go
set_option linter.unusedVariables false
set_option linter.unusedSimpArgs false
section
variable {w0 : World} {H : List Asn}
set_option maxRecDepth 10000 in
set_option maxHeartbeats 4000000 in
theorem Equal_c (p q : Option Addr) (c d m n : Nat) (A B : List Int) (hp : Rd w0 H (.slice p m c) m (ints .u8 A)) (hq : Rd w0 H (.slice q n d) n (ints .u8 B)) (hm : A.length = m) (hn : B.length = n) (hmm : m ≤ 140737488355328) (hnn : n ≤ 140737488355328) (w : World) (hw : St w0 H w) :
    Calls Tryz.prog 70 #[.slice p m c, .slice q n d] w fun e w' => e = .returned (.bool (decide (A = B))) ∧ St w0 H w' := by
  refine enter (vs := [.slice p m c, .slice q n d]) Tryz.func70 rfl rfl rfl hw ?_
  clear hw w
  by_cases hl : m = n
  · repeat (first | (apply gJR; (refine sx ?_; try intro _)) | (apply gJO; (refine sx ?_; try intro _)) | (apply gJS; refine JS_condF rfl ?_) | (apply gJS; refine JS_cond_F rfl (by omega) ?_) | apply JS_skip | apply JS_seq | apply JS_region)
    refine JS_block ?_
    refine JS_loop1 (fun (i : Nat) => [(0, .slice p m c), (1, .slice q n d), (12, .int .i64 m), (13, .int .i64 i)]) (fun _ => H) (fun i => i ≤ m ∧ A.take i = B.take i) (fun i => m - i) 0 ⟨Nat.zero_le _, rfl⟩ (by repeat (first | exact trivial | refine ⟨rfl, ?_⟩ | refine ⟨lookI rfl (by omega), ?_⟩)) (fun w hw => hw) ?_
    intro i ⟨hi, he⟩ again
    by_cases him : i < m
    · have g0 := ints_get (K := .u8) (l := A) (j := i) (by omega)
      have g1 := ints_get (K := .u8) (l := B) (j := i) (by omega)
      have sA := takeB_step A i (by omega)
      have sB := takeB_step B i (by omega)
      by_cases hx : A.getD i 0 = B.getD i 0
      · have h2 : A.take (i + 1) = B.take (i + 1) := by rw [sA, sB, he, hx]
        generalize A.getD i 0 = x at *
        generalize B.getD i 0 = y at *
        repeat (first | (apply gQO; first | refine QO_v rfl (oIA (V_index (tb := tb) rfl rfl rfl rfl (Rd.sl hp) (by omega) (by (try simp only [tn, tna, tn1, tn2, tn3, tn4, tnd16, tnd8, Int.reduceToNat]); first | exact Nat.mul_one _ | exact rfl) rfl)) ?_ | refine QO_v rfl (oIA (V_index (tb := tb) rfl rfl rfl rfl (Rd.sl hq) (by omega) (by (try simp only [tn, tna, tn1, tn2, tn3, tn4, tnd16, tnd8, Int.reduceToNat]); first | exact Nat.mul_one _ | exact rfl) rfl)) ?_ | refine QO_v rfl (oL (V_loadC (tb := tb) rfl hp rfl rfl g0 rfl)) ?_ | refine QO_v rfl (oL (V_loadC (tb := tb) rfl hq rfl rfl g1 rfl)) ?_) | (refine sx ?_; try intro _))
        exact JS_again1 again (i + 1) ⟨by omega, h2⟩ (by omega) (by repeat (first | exact trivial | refine ⟨rfl, ?_⟩ | refine ⟨lookI rfl (by omega), ?_⟩)) (fun w hw => hw)
      · have h2 : ¬ A = B := fun h => hx (by rw [h])
        rw [decide_eq_false h2]
        generalize A.getD i 0 = x at *
        generalize B.getD i 0 = y at *
        repeat (first | (apply gQO; first | refine QO_v rfl (oIA (V_index (tb := tb) rfl rfl rfl rfl (Rd.sl hp) (by omega) (by (try simp only [tn, tna, tn1, tn2, tn3, tn4, tnd16, tnd8, Int.reduceToNat]); first | exact Nat.mul_one _ | exact rfl) rfl)) ?_ | refine QO_v rfl (oIA (V_index (tb := tb) rfl rfl rfl rfl (Rd.sl hq) (by omega) (by (try simp only [tn, tna, tn1, tn2, tn3, tn4, tnd16, tnd8, Int.reduceToNat]); first | exact Nat.mul_one _ | exact rfl) rfl)) ?_ | refine QO_v rfl (oL (V_loadC (tb := tb) rfl hp rfl rfl g0 rfl)) ?_ | refine QO_v rfl (oL (V_loadC (tb := tb) rfl hq rfl rfl g1 rfl)) ?_) | (refine sx ?_; try intro _))
        exact JS_ret Tryz.func70 rfl rfl fun w hw => ⟨rfl, hw⟩
    · obtain rfl : i = m := by omega
      have h2 : A = B := by rwa [List.take_of_length_le (by omega), List.take_of_length_le (by omega)] at he
      rw [decide_eq_true h2]
      repeat (refine sx ?_; try intro _)
      exact JS_ret Tryz.func70 rfl rfl fun w hw => ⟨rfl, hw⟩
  · have h2 : ¬ A = B := fun h => hl (by rw [← hm, ← hn, h])
    rw [decide_eq_false h2]
    repeat (refine sx ?_; try intro _)
    exact JS_ret Tryz.func70 rfl rfl fun w hw => ⟨rfl, hw⟩
end
end Go.Proofs.YteelffkghidpfaaGreat

set_option linter.unusedVariables false
namespace Sx
open Go
section
variable {P : Program} {E : List PanicEntry → List Deferred → World → Prop} {ops : Array Oper} {C : World → Prop} {S : List Nat} {Q : Act → World → Prop} {I : Act → Prop}
theorem Oper.wp_of_NI {o : Oper} {a : Act} {w : World} {K : Act → World → Prop} {Q' : Exit → Act → World → Prop} (hE : ∀ ch w, E ch a.defers w → Q' (.panic ch) a w) (hh : Oper.wpN P E o a w K) : o.wp P a w K Q' := by
  unfold Oper.wpN at hh
  unfold Oper.wp
  generalize (execOp a.eval o).run P w = r at *
  cases r with
  | ok n w' =>
    cases n <;> simp only [Oper.upN] at hh <;> simp only [Oper.upon] <;>
      first
        | exact hh
        | exact Calls.mono hh (fun e w'' h' => by rcases h' with ⟨v, he, hk⟩ | ⟨ch, he, hk⟩; (subst he; exact hk); (subst he; exact hE _ _ hk))
  | halt x w' => simp only [Oper.upN] at hh
theorem wpOp_of_stepNI {i : Nat} {a : Act} {w : World} {K : Act → World → Prop} {Q' : Exit → Act → World → Prop} (hE : ∀ ch w, E ch a.defers w → Q' (.panic ch) a w) (hh : stepN P E ops i K a w) : wpOp P ops Q' i K a w := by
  unfold stepN at hh
  unfold wpOp
  split
  · rename_i ho; simp only [ho] at hh
  · rename_i o ho
    simp only [ho] at hh
    split
    · rename_i hw; simp only [hw, if_true] at hh; exact .inl (Oper.wp_of_NI hE hh)
    · rename_i hw; simp only [hw] at hh; exact hh
theorem stepN_I {i : Nat} {a : Act} {w : World} {K : Act → World → Prop} (hI : ∀ o v, ops[i]? = some o → I (a.put o.dst v)) (hh : stepN P E ops i K a w) : stepN P E ops i (fun a' w' => I a' ∧ K a' w') a w := by
  unfold stepN at *
  split
  · rename_i ho; simp only [ho] at hh
  · rename_i o ho
    have h1 := fun v => hI o v ho
    simp only [ho] at hh
    split
    · rename_i hw
      simp only [hw, if_true] at hh
      unfold Oper.wpN at *
      generalize (execOp a.eval o).run P w = r at *
      cases r with
      | ok n w' =>
        cases n <;> simp only [Oper.upN] at hh ⊢ <;>
          first
            | exact ⟨h1 _, hh⟩
            | exact Calls.mono hh (fun e w'' h' => by
                rcases h' with ⟨v, he, hk⟩ | ⟨ch, he, hk⟩
                · exact .inl ⟨v, he, h1 v, hk⟩
                · exact .inr ⟨ch, he, hk⟩)
      | halt x w' => simp only [Oper.upN] at hh
    · rename_i hw; simp only [hw] at hh; exact ⟨h1 _, hh⟩
theorem wpAny_of_SI {Q' : Exit → Act → World → Prop} (hI : ∀ (i : Nat) (a : Act) o v, I a → ops[i]? = some o → I (a.put o.dst v)) (hE : ∀ ch (a : Act) w, I a → E ch a.defers w → Q' (.panic ch) a w) (hQ : ∀ a w, Q a w → Q' .normal a w) : ∀ (fuel : Nat) (listed : Array Bool) (a : Act) (w : World), I a → wpS P E ops C S Q fuel listed a w → wpAny P .any ops Q' fuel listed a w
  | 0, _, _, _, _, h => ⟨h.1, hQ _ _ h.2⟩
  | fuel + 1, _, a, _, ha, h => ⟨fun h0 => hQ _ _ (h.1 h0), fun i hi => wpOp_of_stepNI (fun ch w => hE ch a w ha) (stepN_mono (fun a' w' h' => wpAny_of_SI hI hE hQ fuel _ a' w' h'.1 h'.2.2) (stepN_I (I := I) (fun o v ho => hI i a o v ha ho) (h.2 i hi)))⟩
end
def QQD (P : Program) (f : Nat) (fn : Func) (R : Ending → World → Prop) (k : List Item) : Exit → Act → World → Prop
  | .normal, a, w => J P f k a w R
  | .panic ch, a, w => Leaves P fn a.tmps R a.defers (.panicking ch) w
  | _, _, _ => False
theorem J_of_wpD {P : Program} {f : Nat} {fn : Func} (hf : P.funcs[f]? = some fn) {c : Code} {k : List Item} {a : Act} {w : World} {R : Ending → World → Prop} (h : c.wp P (QQD P f fn R k) a w) : J P f (.code c :: k) a w R := by
  unfold J
  intro b cs hb hk
  obtain ⟨e, a', w', hq, harr⟩ := h b k cs
  cases e with
  | normal =>
    have hq : J P f k a' w' R := hq
    unfold J at hq
    obtain ⟨e, w'', fr, hR, hc, hrest⟩ := hq b cs hb hk
    exact ⟨e, w'', fr, hR, Comes.of_steps harr hc, hrest⟩
  | panic ch =>
    obtain ⟨todo, hs⟩ := harr
    obtain ⟨e', w'', fr', hR', hs', hfn', hk', hl'⟩ := leaves_stepsK a'.defers (.panicking ch) w' { b.at a' todo with mode := .panicking ch } cs rfl rfl rfl (by rw [← hf]; exact congrArg (P.funcs[·]?) hb) hq
    exact ⟨e', w'', fr', hR', Comes.of_steps hs hs', hfn'.trans hb, hk', hl'⟩
  | _ => exact hq.elim
section
variable {P : Program} {f n : Nat} {R : Ending → World → Prop} {D : List Deferred} {w0 : World} {k : List Item} {ov : Ov} {H H' : List Asn} {K : KC}
  {Z : Array Oper × List Nat} {l : List Oper}
def QD (P : Program) (f n : Nat) (fn : Func) (R : Ending → World → Prop) (D : List Deferred) (base : Ov) (k : List Item) : KC :=
  ⟨fun C a => ∀ w, C w → J P f k a w R, fun ch ds w => ∀ a, Rep n D base a → Leaves P fn a.tmps R D (.panicking ch) w⟩
theorem QRD_nil {fn : Func} {base : Ov} (h : JS P f n R D w0 k ov H) : QR P n D w0 Z [] ov H (QD P f n fn R D base k) := by
  unfold QR; unfold JS at h
  exact fun a ha w hw => h a w ha hw
theorem QD_e {fn : Func} {base : Ov} {ch : List PanicEntry} {ds : List Deferred} {w : World} (h : ∀ a, Rep n D base a → Leaves P fn a.tmps R D (.panicking ch) w) : (QD P f n fn R D base k).e ch ds w := h
def baseB (base : Ov) (n : Nat) (l : List Oper) : Bool := l.all fun o => match o.dst with
  | none => true
  | some t => Nat.blt t n && (look base t).isNone
theorem Rep.stays {base : Ov} {a : Act} (h : Rep n D base a) {d : Option Nat} (hd : match d with | none => True | some t => Nat.blt t n = true ∧ look base t = none) (v : Value) : Rep n D base (a.put d v) := by
  cases d with
  | none => exact h
  | some t =>
    have h1 := h.put (d := some t) (by simpa [dOk] using hd.1) v
    refine ⟨h1.size, h1.defers, fun s x hs => h1.val s x ?_⟩
    show look ((t, v) :: base) s = some x
    rw [look_cons]
    have hne : t ≠ s := fun h' => by rw [← h', hd.2] at hs; cases hs
    rw [if_neg hne]; exact hs
theorem JS_orderD {fn : Func} (base : Ov) (hf : P.funcs[f]? = some fn) (hb : sub base ov) {id : Nat} {l : List Oper} (st sy : List Nat) {l' : List Oper} (hp : Picks l st l') (hbb : baseB base n l = true) (hm : P.follows .mixedOrders = true) (hs : Region.noSelect l.toArray = true) (hlen : st.length = l.length)
    (hB : ordB l.toArray sy [] st (Array.replicate l.length false) = true) (h : QR P n D w0 (l.toArray, sy) l' ov H (QD P f n fn R D base k)) :
    JS P f n R D w0 (.code (.region id l.toArray true) :: k) ov H := by
  unfold JS; unfold QR at h
  intro a w ha hw
  refine J_of_wpD hf (wp_region_any hm ?_)
  have h0 : ∀ j, (Array.replicate l.length false).getD j false = false := fun j => by
    rcases Nat.lt_or_ge j l.length with h | h
    · simp [h]
    · simp [h]
  have hws := wpS_walk (P := P) (E := (QD P f n fn R D base k).e) (K := (QD P f n fn R D base k).k) (sy := sy) hs st [] l' (Array.replicate l.length false) (St w0 H) a hp.map hB (by simp) (fun j => by rw [h0 j]; simp)
    (fun S _ => ⟨fun j oj _ hj => (by rw [h0 j] at hj; cases hj), fun k _ _ hk => (by rw [h0 k] at hk; cases hk)⟩) (h a ha) w.drew hw.drew
  have hI : ∀ (i : Nat) (a : Act) o v, Rep n D base a → l.toArray[i]? = some o → Rep n D base (a.put o.dst v) := fun i a o v ha ho => by
    refine ha.stays ?_ v
    unfold baseB at hbb
    rw [List.all_eq_true] at hbb
    have hmem : o ∈ l := by
      have : l[i]? = some o := by simpa using ho
      exact List.mem_of_getElem? this
    have := hbb o hmem
    cases hd : o.dst with
    | none => trivial
    | some t =>
      rw [hd] at this
      simp only [Bool.and_eq_true, Option.isNone_iff_eq_none] at this
      exact this
  have := wpAny_of_SI (I := Rep n D base) (Q' := QQD P f fn R k) hI (fun ch a w hI h => by
    show Leaves P fn a.tmps R a.defers (.panicking ch) w
    rw [hI.defers]; exact h a hI) (fun a w ⟨C, hC, hk⟩ => hk w hC) _ _ _ _ (ha.sub hb) hws
  rw [hlen] at this
  simpa using this
end
section
variable {P : Program} {n : Nat} {D : List Deferred} {w0 : World} {ov : Ov} {H : List Asn} {d : Option Nat} {T : Nat} {pos : String} {af : Array Edge} {g : Option (Nat × Bool)} {tb : Tb P}
end
end Sx

namespace Sx
open Go
section
variable {P : Program} {n : Nat} {D : List Deferred} {w0 : World} {Z : Array Oper × List Nat} {ov : Ov} {H H' : List Asn} {K : KC} {l : List Oper} {d : Option Nat} {T : Nat} {pos : String} {af : Array Edge} {g : Option (Nat × Bool)}
theorem QO_callvE {x : Operand} {q : Nat} {xs : List Operand} {vs us cs : List Value} {ts : Array Nat} (hfv : ev ov x = some (.func (.func q) us.toArray cs.toArray)) (hlo : loud (.call ⟨.value x, xs.toArray, ts⟩) = true) (hc : ∀ args w, (callFunc q args).run P w = .ok (.enter q args) w) (hx : evs ov xs = some vs) (hd : dOk d n = true)
    (h : ∀ w, St w0 H w → Calls P q (us ++ vs ++ cs).toArray w fun e w' => (∃ v, e = .returned v ∧ ∃ H', St w0 H' w' ∧ ((∀ w, St w0 H' w → St w0 H w) ∨ Z.2.contains l.length = true) ∧ QR P n D w0 Z l (put d v ov) H' K) ∨ (∃ ch, e = .panicked ch ∧ K.e ch D w')) :
    QO P n D w0 Z ⟨d, .call ⟨.value x, xs.toArray, ts⟩, T, pos, af, g⟩ l ov H K := by
  unfold QO; unfold QR at h
  intro a ha
  refine .inr ⟨hlo, fun w hw => ?_⟩
  have hrun : (execOp a.eval ⟨d, .call ⟨.value x, xs.toArray, ts⟩, T, pos, af, g⟩).run P w = .ok (.enter q (us ++ vs ++ cs).toArray) w := by
    simp only [execOp, resolve, ha.ev hfv, Deferred.ofValue, Sem.run_bind, Sem.run_pure, Result.andThen_ok, invoke]
    rw [List.map_toArray, ha.evs hx]
    simpa using hc (us ++ vs ++ cs).toArray w
  simp only [Oper.wpN, hrun, Oper.upN]
  exact (h w hw).mono fun e w' h' => h'.imp (fun ⟨v, he, H', hw', hor, hn⟩ => ⟨v, he, St w0 H', hw', hor, hn _ (ha.put hd v)⟩) (fun ⟨ch, he, hk⟩ => ⟨ch, he, by rw [ha.defers]; exact hk⟩)
end
end Sx
namespace Go.Proofs.YteelffkghidpfaaGreat
open Sx Go
set_option linter.unusedVariables false
set_option linter.unusedSimpArgs false
set_option maxRecDepth 100000
section
variable {w0 : World} {H : List Asn}
theorem CatchI_c (xb eb : Nat) (w : World) (hw : St w0 H w) :
    CallsD Tryz.prog 84 #[.pointer (some ⟨xb, 0, none⟩), .pointer (some ⟨eb, 0, none⟩)] .returning w fun e u' w' => u' = .returning ∧ e = .returned (.tuple #[]) ∧ St w0 H w' := by
  refine enterR (vs := [.pointer (some ⟨xb, 0, none⟩), .pointer (some ⟨eb, 0, none⟩)]) Tryz.func84 rfl rfl rfl rfl hw (.inl ⟨rfl, rfl, rfl⟩) ?_
  repeat (first | (apply gJO; refine JO_v (V_eqIN (tb := tb) rfl rfl rfl) ?_) | (refine sx ?_; try intro _))
  exact JS_fin Tryz.func84 rfl rfl fun w hw => ⟨rfl, hw⟩
theorem CatchG_c (xb eb : Nat) (p : Option Addr) (r : Int) (w : World) (hw : St w0 (blk eb [.int .i64 r] :: blk xb [.pointer p] :: H) w) :
    CallsD Tryz.prog 84 #[.pointer (some ⟨xb, 0, none⟩), .pointer (some ⟨eb, 0, none⟩)] (.panicking FE) w fun e u' w' => u' = .panicking [{ v := .iface 121 (.agg #[]), recovered := true }] ∧ e = .returned (.tuple #[]) ∧ St w0 (blk eb [.int .i64 9] :: blk xb [.pointer none] :: H) w' := by
  refine enterR (vs := [.pointer (some ⟨xb, 0, none⟩), .pointer (some ⟨eb, 0, none⟩)]) Tryz.func84 rfl rfl rfl rfl hw (.inr ⟨[], rfl, rfl⟩) ?_
  repeat (first | (apply gJO; first | refine JO_v (V_eqIV (tb := tb) rfl rfl rfl) ?_ | refine JO_v (V_assertT (tb := tb) rfl rfl (by simp) rfl) ?_) | (refine sx ?_; try intro _))
  exact JS_fin Tryz.func84 rfl rfl fun w hw => ⟨rfl, dS hw⟩
abbrev defE (xb eb : Nat) : List Deferred := [⟨.fn (.func 84) #[.pointer (some ⟨xb, 0, none⟩), .pointer (some ⟨eb, 0, none⟩)], #[]⟩]
theorem LvE_err {R : Ending → World → Prop} {n : Nat} {xb eb : Nat} {p : Option Addr} {r : Int} {a : Act} {D : List Deferred} (ha : Rep n D [(4, .pointer (some ⟨xb, 0, none⟩)), (5, .pointer (some ⟨eb, 0, none⟩))] a) {w : World} (hw : St w0 (blk eb [.int .i64 r] :: blk xb [.pointer p] :: H) w)
    (hR : ∀ w, St w0 H w → R (.returned (.tuple #[.pointer none, .int .i64 9])) w) : Leaves Tryz.prog Tryz.f49 a.tmps R (defE xb eb) (.panicking FE) w := by
  refine leaves_cons (f := 84) (args := #[.pointer (some ⟨xb, 0, none⟩), .pointer (some ⟨eb, 0, none⟩)]) (by simp) (inv_fn Tryz.call84) ?_
  refine (CatchG_c xb eb p r w hw).mono ?_
  rintro e u' w' ⟨rfl, rfl, hw'⟩
  show Leaves _ _ _ _ _ (settle _) _
  rw [show settle (.panicking [{ v := .iface 121 (.agg #[]), recovered := true }]) = .returning from rfl]
  exact ⟨_, results_cells (tb := tb) (vs := [.pointer none, .int .i64 9]) (ResV.one (tb := tb) rfl (by repeat (first | apply List.Mem.head | apply List.Mem.tail)) rfl rfl rfl (ResV.one (tb := tb) rfl (by repeat (first | apply List.Mem.head | apply List.Mem.tail)) rfl rfl rfl ResV.nil)) ha hw', hR w' hw'.drop.drop⟩
theorem LvE_ok {R : Ending → World → Prop} {n : Nat} {xb eb : Nat} {p : Option Addr} {a : Act} {D : List Deferred} (ha : Rep n D [(4, .pointer (some ⟨xb, 0, none⟩)), (5, .pointer (some ⟨eb, 0, none⟩))] a) {w : World} (hw : St w0 (blk eb [.int .i64 0] :: blk xb [.pointer p] :: H) w)
    (hR : ∀ w, St w0 H w → R (.returned (.tuple #[.pointer p, .int .i64 0])) w) : Leaves Tryz.prog Tryz.f49 a.tmps R (defE xb eb) .returning w := by
  refine leaves_cons (f := 84) (args := #[.pointer (some ⟨xb, 0, none⟩), .pointer (some ⟨eb, 0, none⟩)]) (by simp) (inv_fn Tryz.call84) ?_
  refine (CatchI_c xb eb w hw).mono ?_
  rintro e u' w' ⟨rfl, rfl, hw'⟩
  show Leaves _ _ _ _ _ (settle _) _
  rw [show settle .returning = .returning from rfl]
  exact ⟨_, results_cells (tb := tb) (vs := [.pointer p, .int .i64 0]) (ResV.one (tb := tb) rfl (by repeat (first | apply List.Mem.head | apply List.Mem.tail)) rfl rfl rfl (ResV.one (tb := tb) rfl (by repeat (first | apply List.Mem.head | apply List.Mem.tail)) rfl rfl rfl ResV.nil)) ha hw', hR w' hw'.drop.drop⟩
theorem EAgain_c (v : Int) (hv : v = 1 ∨ v = 2) (lb rb : Nat) (k : Int) (hk : 0 ≤ k ∧ k < 256) (pk : Bool) (q : Option Addr) (d : Nat) (T : List Int) (hT : OKB T) (hTl : T.length ≤ 1048576) (hlb : blk lb (ltr rb [.int .i64 v, .int .u8 k, .bool pk, .slice q T.length d]) ∈ H) (hr : Rd w0 H (.slice q T.length d) T.length (ints .u8 T)) (w : World) (hw : St w0 H w) :
    Calls Tryz.prog 92 #[.pointer (some ⟨lb, 0, none⟩)] w fun e w' => (¬ mayE k T.length ∧ e = .returned (.tuple #[.slice none 0 0, .int .i64 1]) ∧ St w0 H w') ∨
      (mayE k T.length ∧ ∃ q' d', e = .returned (.tuple #[.slice q' (envB (if v = 1 then 1 else vOf pk) k T).length d', .int .i64 0]) ∧ St w0 (vec 5 1 (.slice q' (envB (if v = 1 then 1 else vOf pk) k T).length d') (envB (if v = 1 then 1 else vOf pk) k T).length (ints .u8 (envB (if v = 1 then 1 else vOf pk) k T)) :: H) w') := by
  refine enter (vs := [.pointer (some ⟨lb, 0, none⟩)]) Tryz.func92 rfl rfl rfl hw ?_
  clear hw w
  rcases hv with rfl | rfl
  · rw [if_pos rfl]
    repeat (first | (apply gJO; first | refine JO_v (oL (V_load (tb := tb) rfl hlb rfl rfl rfl rfl)) ?_) | (apply gQO; first | refine QO_v rfl (oL (V_load (tb := tb) rfl hlb rfl rfl rfl rfl)) ?_) | (refine sx ?_; try intro _))
    refine QO_call Tryz.call14 rfl rfl fun w hw => (EOld_c k hk q T.length d T hr rfl hT (by omega) w hw).mono ?_
    rintro e w' (⟨hn, rfl, hw'⟩ | ⟨hy, q', d', rfl, hw'⟩)
    · refine ⟨_, rfl, _, hw', .inl fun w hw => hw, ?_⟩
      clear hw' hw w w'
      repeat (refine sx ?_; try intro _)
      exact JS_ret Tryz.func92 rfl rfl fun w hw => .inl ⟨hn, rfl, hw⟩
    · refine ⟨_, rfl, _, hw', .inl fun w hw => hw.drop, ?_⟩
      clear hw' hw w w'
      repeat (refine sx ?_; try intro _)
      exact JS_ret Tryz.func92 rfl rfl fun w hw => .inr ⟨hy, q', d', rfl, hw⟩
  · rw [if_neg (by decide)]
    repeat (first | (apply gJO; first | refine JO_v (oL (V_load (tb := tb) rfl hlb rfl rfl rfl rfl)) ?_) | (apply gQO; first | refine QO_v rfl (oL (V_load (tb := tb) rfl hlb rfl rfl rfl rfl)) ?_) | (refine sx ?_; try intro _))
    refine QO_call Tryz.call15 rfl rfl fun w hw => (ENew_c k hk pk q T.length d T hr rfl hT (by omega) w hw).mono ?_
    rintro e w' (⟨hn, rfl, hw'⟩ | ⟨hy, q', d', rfl, hw'⟩)
    · refine ⟨_, rfl, _, hw', .inl fun w hw => hw, ?_⟩
      clear hw' hw w w'
      repeat (refine sx ?_; try intro _)
      exact JS_ret Tryz.func92 rfl rfl fun w hw => .inl ⟨hn, rfl, hw⟩
    · refine ⟨_, rfl, _, hw', .inl fun w hw => hw.drop, ?_⟩
      clear hw' hw w w'
      repeat (refine sx ?_; try intro _)
      exact JS_ret Tryz.func92 rfl rfl fun w hw => .inr ⟨hy, q', d', rfl, hw⟩
end
end Go.Proofs.YteelffkghidpfaaGreat

namespace Go.Proofs.YteelffkghidpfaaGreat
open Sx Go
set_option linter.unusedVariables false
set_option linter.unusedSimpArgs false
set_option maxRecDepth 100000
theorem bdE_le (v : Nat) {T : List Int} (hT : OKB T) : (bdE v T).length ≤ 4 * T.length + 9 := by
  have h := pkB_le hT
  rw [bdE_len]; split <;> omega
theorem envB_le (v : Nat) (k : Int) {T : List Int} (hT : OKB T) : (envB v k T).length ≤ 4 * T.length + 60 := by
  have h1 := envB_len v k T
  have h2 := hdE_len v k T.length (pkB T).length
  have h3 := bdE_le v hT
  omega
def vsE (v : Int) (x : Nat) : Prop := (v = 1 ∧ x = 1) ∨ (v = 2 ∧ (x = 2 ∨ x = 3))
theorem vsE1 : (fun x : Nat => x = 1) = vsE 1 := funext fun x => propext (by unfold vsE; simp)
theorem vsE2 : (fun x : Nat => x = 2 ∨ x = 3) = vsE 2 := funext fun x => propext (by unfold vsE; simp)
def OpnR (w0 : World) (H : List Asn) (B : List Int) (L : Int) : Ending → World → Prop := fun e w' =>
  ((∀ v k T, EV B v k T → (T.length : Int) ≤ L → False) ∧ e = .returned (.tuple #[.pointer none, .int .i64 9]) ∧ St w0 H w') ∨
  (∃ (v : Nat) (k : Int) (T : List Int) (lb rb : Nat) (q : Option Addr) (d : Nat), EV B v k T ∧ (T.length : Int) ≤ L ∧ e = .returned (.tuple #[.pointer (some ⟨lb, 0, none⟩), .int .i64 0]) ∧
    St w0 (blk lb (ltr rb [.int .i64 (if v = 1 then 1 else 2), .int .u8 k, .bool (decide (v = 3)), .slice q T.length d]) :: vec 5 1 (.slice q T.length d) T.length (ints .u8 T) :: H) w')
section
variable {w0 : World} {H : List Asn}
set_option maxHeartbeats 8000000 in
theorem EOpn_c (p : Option Addr) (c m : Nat) (B : List Int) (L : Int) (hL : -9223372036854775808 ≤ L ∧ L < 9223372036854775808) (hr : Rd w0 H (.slice p m c) m (ints .u8 B)) (hm : B.length = m) (hB : OKB B) (hm1 : m ≤ 1000000) (hpm : p = none → m = 0) (w : World) (hw : St w0 H w) :
    Calls Tryz.prog 49 #[.slice p m c, .int .i64 L] w (OpnR w0 H B L) := by
  have hFit := fun {H'} t (ht : blk t (ints .u32 (tabT 256)) ∈ H') (hr' : Rd w0 H' (.slice p m c) m (ints .u8 B)) w hw => CFits_c (w0 := w0) (H := H') t ht m p c B hr' hm hB (by omega) w hw
  have hNew := fun {H'} w hw => CNew_c (w0 := w0) (H := H') w hw
  generalize tabT 256 = tabl at *
  refine enter (vs := [.slice p m c, .int .i64 L]) Tryz.func49 rfl rfl rfl hw ?_
  clear hw w
  unfold OpnR
  repeat (first | (apply gJO; first | (refine JO_deferv rfl rfl rfl ?_) | (refine sx ?_; try intro _)) | apply hIx 2 | (refine sx ?_; try intro _))
  refine Hold.go ?_
  rename_i xb eb
  by_cases hL0 : 0 ≤ L
  rotate_left
  · have hno : ∀ v k T, EV B v k T → (T.length : Int) ≤ L → False := fun v k T _ h => by omega
    repeat (refine sx ?_; try intro _)
    refine JO_callE Tryz.func49 Tryz.call85 rfl rfl fun A hA w hw => (Need26_c _ w hw).mono ?_
    rintro e w' (⟨h, rfl, hw'⟩ | ⟨h, rfl, hw'⟩)
    · (exact absurd h (by first | (simp; done) | (simp; omega)))
    · (exact .inr ⟨_, rfl, LvE_err (hA.sub (by repeat (first | exact trivial | refine ⟨rfl, ?_⟩ | refine ⟨lookI rfl (by omega), ?_⟩))) (dS hw') fun w hw => .inl ⟨hno, rfl, hw⟩⟩)
  repeat (refine sx ?_; try intro _)
  refine JO_call Tryz.call86 rfl rfl fun w hw => (hNew w hw).mono ?_
  rintro e w' ⟨t, rfl, hw'⟩
  (refine ⟨_, rfl, _, hw', ?_⟩; clear hw' hw w w')
  repeat (refine sx ?_; try intro _)
  refine JO_call Tryz.call87 rfl rfl fun w hw => (hFit t (List.Mem.head _) (Rd_weak hr fun w hw => dS hw) w hw).mono ?_
  rintro e w' ⟨⟨b, rfl, hb⟩, hw'⟩
  (refine ⟨_, rfl, _, hw', ?_⟩; clear hw' hw w w')
  cases b with
  | false =>
    have hno : ∀ v k T, EV B v k T → (T.length : Int) ≤ L → False := fun v k T h _ => by simp [h.fit] at hb
    repeat (refine sx ?_; try intro _)
    refine JO_callE Tryz.func49 Tryz.call85 rfl rfl fun A hA w hw => (Need26_c _ w hw).mono ?_
    rintro e w' (⟨h, rfl, hw'⟩ | ⟨h, rfl, hw'⟩)
    · (exact absurd h (by first | (simp; done) | (simp; omega)))
    · (exact .inr ⟨_, rfl, LvE_err (hA.sub (by repeat (first | exact trivial | refine ⟨rfl, ?_⟩ | refine ⟨lookI rfl (by omega), ?_⟩))) (dS hw') fun w hw => .inl ⟨hno, rfl, hw⟩⟩)
  | true =>
  have hfb := hb.1 rfl
  have h4 : 4 ≤ m := by have := hfb.1; omega
  repeat (refine sx ?_; try intro _)
  refine JO_callE Tryz.func49 Tryz.call85 rfl rfl fun A hA w hw => (Need26_c _ w hw).mono ?_
  rintro e w' (⟨h, rfl, hw'⟩ | ⟨h, rfl, hw'⟩)
  rotate_left
  · (exact absurd h (by first | (simp; done) | (simp; omega)))
  (refine .inl ⟨_, rfl, _, hw', ?_⟩; clear hw' hw w w' hA A h)
  have hM : 0 ≤ min L 1048576 ∧ min L 1048576 ≤ 1048576 ∧ min L 1048576 ≤ L ∧ (∀ n : Nat, n ≤ 1048576 → (n : Int) ≤ L → (n : Int) ≤ min L 1048576) := ⟨by omega, by omega, by omega, fun n _ _ => by omega⟩
  obtain ⟨M, hMe⟩ : ∃ M, min L 1048576 = M := ⟨_, rfl⟩
  rw [hMe] at hM
  repeat (first | (apply gJO; first | refine JO_v (by rw [← hMe]; exact V_min rfl rfl rfl rfl) ?_) | (refine sx ?_; try intro _))
  refine JO_call Tryz.call88 rfl rfl fun w hw => (NewR_c p c m B (Rd_weak hr fun w hw => dS hw) hm hB (by omega) hpm w hw).mono ?_
  rintro e w' ⟨rb, qr, dr, rfl, hw'⟩
  (refine ⟨_, rfl, _, hw', ?_⟩; clear hw' hw w w')
  repeat (first | (apply gJO; first | refine JO_v (V_buildA (tb := tb) rfl rfl rfl rfl rfl) ?_) | apply hIx 6 | (refine sx ?_; try intro _))
  refine Hold.go ?_
  rename_i lb ab
  refine JS_weak (ov' := [(0, .slice p m c), (1, .int .i64 M), (4, .pointer (some ⟨xb, 0, none⟩)), (5, .pointer (some ⟨eb, 0, none⟩)), (6, .pointer (some ⟨ab, 0, none⟩))]) (H' := blk rb (rdC (.slice qr m dr) 0) :: blk lb (ltr rb [.int .i64 0, .int .u8 0, .bool false, .slice none 0 0]) :: blk ab [.func (.func 89) #[] #[], .func (.func 90) #[] #[]] :: vec 5 1 (.slice qr m dr) m (ints .u8 B) :: blk eb [.int .i64 0] :: blk xb [.pointer (some ⟨lb, 0, none⟩)] :: H) ?_ (by rw [← hMe]; exact (by repeat (first | exact trivial | refine ⟨rfl, ?_⟩ | refine ⟨lookI rfl (by omega), ?_⟩))) (fun w hw => ?_)
  rotate_left
  · have hw2 : St w0 (blk ab [.func (.func 89) #[] #[], .func (.func 90) #[] #[]] :: blk lb (ltr rb [.int .i64 0, .int .u8 0, .bool false, .slice none 0 0]) :: blk rb (rdC (.slice qr m dr) 0) :: vec 5 1 (.slice qr m dr) m (ints .u8 B) :: blk eb [.int .i64 0] :: blk xb [.pointer (some ⟨lb, 0, none⟩)] :: H) w := dS hw
    exact hw2.perm (by (repeat (first | exact List.Perm.refl _ | refine List.Perm.cons _ ?_ | refine (List.perm_middle (l₁ := [_])).trans (List.Perm.cons _ ?_) | refine (List.perm_middle (l₁ := [_, _])).trans (List.Perm.cons _ ?_) | refine (List.perm_middle (l₁ := [_, _, _])).trans (List.Perm.cons _ ?_) | refine (List.perm_middle (l₁ := [_, _, _, _])).trans (List.Perm.cons _ ?_) | refine (List.perm_middle (l₁ := [_, _, _, _, _])).trans (List.Perm.cons _ ?_) | refine (List.perm_middle (l₁ := [_, _, _, _, _, _])).trans (List.Perm.cons _ ?_) | refine (List.perm_middle (l₁ := [_, _, _, _, _, _, _])).trans (List.Perm.cons _ ?_) | refine (List.perm_middle (l₁ := [_, _, _, _, _, _, _, _])).trans (List.Perm.cons _ ?_) | refine (List.perm_middle (l₁ := [_, _, _, _, _, _, _, _, _])).trans (List.Perm.cons _ ?_) | refine (List.perm_middle (l₁ := [_, _, _, _, _, _, _, _, _, _])).trans (List.Perm.cons _ ?_) | refine (List.perm_middle (l₁ := [_, _, _, _, _, _, _, _, _, _, _])).trans (List.Perm.cons _ ?_) | refine (List.perm_middle (l₁ := [_, _, _, _, _, _, _, _, _, _, _, _])).trans (List.Perm.cons _ ?_) | refine (List.perm_middle (l₁ := [_, _, _, _, _, _, _, _, _, _, _, _, _])).trans (List.Perm.cons _ ?_))))
  clear hMe hNew hFit hb
  have e3 : (B.drop 0).take 3 = [B.getD 0 0, B.getD 1 0, B.getD 2 0] := by
    rw [dropB_step B 0 (by omega), dropB_step B (0 + 1) (by omega), dropB_step B (0 + 1 + 1) (by omega)]; rfl
  have hhd : ∀ v k T, EV B v k T → B.getD 0 0 = 81 ∧ B.getD 1 0 = 83 ∧ B.getD 2 0 = (if v = 1 then 1 else 2) ∧ (v = 1 ∨ v = 2 ∨ v = 3) ∧ T.length ≤ 1048576 := fun v k T h => ⟨h.head.1, h.head.2.1, h.head.2.2, h.vs, h.len⟩
  have hb2 := hB 2
  have hTx := fun {H'} (hR' : Rd w0 H' (.slice qr m dr) m (ints .u8 B)) w hw => WText91_c (w0 := w0) (H := H') 3 rb qr dr m 0 B hR' hm hB (by omega) (by omega) w hw
  rw [e3] at hTx
  clear e3
  generalize B.getD 0 0 = b0 at *
  generalize B.getD 1 0 = b1 at *
  generalize B.getD 2 0 = b2 at *
  repeat (refine sx ?_; try intro _)
  refine JO_call Tryz.call91 rfl rfl fun w hw => (hTx (vec_rd (by repeat (first | apply List.Mem.head | apply List.Mem.tail))) w hw).mono ?_
  rintro e w' ⟨q3, d3, rfl, hw'⟩
  (refine ⟨_, rfl, _, hw', ?_⟩; clear hw' hw w w')
  clear hTx
  have hcase : (b0 ≠ 81) ∨ (b0 = 81 ∧ b1 ≠ 83) ∨ ((b0 = 81 ∧ b1 = 83) ∧ b2 < 1) ∨ ((b0 = 81 ∧ b1 = 83) ∧ 2 < b2) ∨ ((b0 = 81 ∧ b1 = 83) ∧ (b2 = 1 ∨ b2 = 2)) := by omega
  have hnn : ¬ ((b0 = 81 ∧ b1 = 83) ∧ (b2 = 1 ∨ b2 = 2)) → ∀ v k T, EV B v k T → (T.length : Int) ≤ L → False := fun hn v k T h _ => by
    obtain ⟨e1, e2, e3, e4, _⟩ := hhd v k T h
    apply hn
    refine ⟨⟨e1, e2⟩, ?_⟩
    rw [e3]; split
    · exact .inl rfl
    · exact .inr rfl
  rcases hcase with h0 | ⟨h0, h1⟩ | ⟨⟨h0, h1⟩, h2⟩ | ⟨⟨h0, h1⟩, h2⟩ | ⟨⟨h0, h1⟩, h2⟩
  iterate 4 (
    have hno := hnn (by omega)
    clear hnn hhd
    repeat (refine sx ?_; try intro _)
    refine JO_callE Tryz.func49 Tryz.call85 rfl rfl fun A hA w hw => (Need26_c _ w hw).mono ?_
    rintro e w' (⟨h, rfl, hw'⟩ | ⟨h, rfl, hw'⟩)
    · (exact absurd h (by first | (simp; done) | (simp; omega)))
    · (exact .inr ⟨_, rfl, LvE_err (hA.sub (by repeat (first | exact trivial | refine ⟨rfl, ?_⟩ | refine ⟨lookI rfl (by omega), ?_⟩))) (dS hw') fun w hw => .inl ⟨hno, rfl, hw⟩⟩))
  clear hnn
  have hb2' : 1 ≤ b2 ∧ b2 ≤ 2 := by omega
  have cB : IntKind.i64.wrap b2 = b2 := wi64 (by omega)
  repeat (first | (apply gJO; first | refine JO_v (V_conv (tb := tb) rfl rfl rfl cB rfl) ?_) | (refine sx ?_; try intro _))
  refine JO_callE Tryz.func49 Tryz.call85 rfl rfl fun A hA w hw => (Need26_c _ w hw).mono ?_
  rintro e w' (⟨h, rfl, hw'⟩ | ⟨h, rfl, hw'⟩)
  rotate_left
  · (exact absurd h (by first | (simp; done) | (simp; omega)))
  (refine .inl ⟨_, rfl, _, hw', ?_⟩; clear hw' hw w w' hA A h)
  repeat (first | (apply gQO; first | refine QO_v rfl (V_conv (tb := tb) rfl rfl rfl cB rfl) ?_) | apply hIx 9 | (refine sx ?_; try intro _))
  refine Hold.go ?_
  refine JS_weak (ov' := [(0, .slice p m c), (1, .int .i64 M), (4, .pointer (some ⟨xb, 0, none⟩)), (5, .pointer (some ⟨eb, 0, none⟩)), (6, .pointer (some ⟨ab, 0, none⟩))]) (H' := blk rb (rdC (.slice qr m dr) 3) :: blk lb (ltr rb [.int .i64 b2, .int .u8 0, .bool false, .slice none 0 0]) :: blk ab [.func (.func 89) #[] #[], .func (.func 90) #[] #[]] :: vec 5 1 (.slice qr m dr) m (ints .u8 B) :: blk eb [.int .i64 0] :: blk xb [.pointer (some ⟨lb, 0, none⟩)] :: H) ?_ (by repeat (first | exact trivial | refine ⟨rfl, ?_⟩ | refine ⟨lookI rfl (by omega), ?_⟩)) (fun w hw => hw.drop)
  have hcall : ∃ fq, nth [Value.func (.func 89) #[] #[], Value.func (.func 90) #[] #[]] (0 + (b2 - 1).toNat * 1) = some (.func (.func fq) #[] #[]) ∧ (∀ args w, (callFunc fq args).run Tryz.prog w = .ok (.enter fq args) w) ∧
      ∀ {H' : List Asn} (hR' : Rd w0 H' (.slice qr m dr) m (ints .u8 B)) (w : World), St w0 (blk rb (rdC (.slice qr m dr) 3) :: blk lb (ltr rb [.int .i64 b2, .int .u8 0, .bool false, .slice none 0 0]) :: H') w → Calls Tryz.prog fq #[.pointer (some ⟨lb, 0, none⟩), .int .i64 M] w (LetR w0 H' lb rb b2 (vsE b2) B M) := by
    rcases h2 with rfl | rfl
    · refine ⟨89, rfl, Tryz.call89, fun {H'} hR' w hw => ?_⟩
      rw [← vsE1]
      exact LOld_c M ⟨hM.1, hM.2.1⟩ lb rb qr dr m B hR' hm hB (by omega) hm1 w hw
    · refine ⟨90, rfl, Tryz.call90, fun {H'} hR' w hw => ?_⟩
      rw [← vsE2]
      exact LNew_c M ⟨hM.1, hM.2.1⟩ lb rb qr dr m B hR' hm hB (by omega) hm1 w hw
  obtain ⟨fq, hnth, hcf, hcl⟩ := hcall
  have hvs : ∀ v k T, EV B v k T → vsE b2 v := fun v k T h => by
    obtain ⟨_, _, e3, e4, _⟩ := hhd v k T h
    unfold vsE
    rcases e4 with rfl | rfl | rfl
    · exact .inl ⟨e3, rfl⟩
    · exact .inr ⟨e3, .inl rfl⟩
    · exact .inr ⟨e3, .inr rfl⟩
  have hMl : ∀ v k T, EV B v k T → (T.length : Int) ≤ L → (T.length : Int) ≤ M := fun v k T h hl => hM.2.2.2 _ (hhd v k T h).2.2.2.2 hl
  clear hhd
  refine JS_seq ?_
  refine JS_orderD [(4, .pointer (some ⟨xb, 0, none⟩)), (5, .pointer (some ⟨eb, 0, none⟩))] Tryz.func49 (by repeat (first | exact trivial | refine ⟨rfl, ?_⟩ | refine ⟨lookI rfl (by omega), ?_⟩)) [0, 1, 2, 3, 4, 5, 6, 7, 8, 9] [0] (Picks.cons rfl (Picks.cons rfl (Picks.cons rfl (Picks.cons rfl (Picks.cons rfl (Picks.cons rfl (Picks.cons rfl (Picks.cons rfl (Picks.cons rfl (Picks.cons rfl (Picks.nil))))))))))) (by kernel_rfl) (by kernel_rfl) (by kernel_rfl) rfl (by decide +kernel) ?_
  repeat (first | (apply gQO; first | refine QO_v rfl (oL (V_load (tb := tb) rfl (by repeat (first | apply List.Mem.head | apply List.Mem.tail)) rfl rfl hnth rfl)) ?_) | (refine sx ?_; try intro _))
  refine QO_callvE (us := []) (cs := []) rfl rfl hcf rfl rfl fun w hw => (hcl (vec_rd (by repeat (first | apply List.Mem.head | apply List.Mem.tail))) w hw).mono ?_
  clear hcl
  unfold LetR
  rintro e w' (⟨hn, rfl, hw'⟩ | ⟨pk, k, T, q, d, hk, hpk, hTo, hTl, hTM, hEV, rfl, hw'⟩)
  · have hno : ∀ v k T, EV B v k T → (T.length : Int) ≤ L → False := fun v k T h hl => hn v k T (hvs v k T h) h (hMl v k T h hl)
    exact .inr ⟨_, rfl, QD_e fun a ha => LvE_err ha (dS hw') fun w hw => .inl ⟨hno, rfl, hw⟩⟩
  have hEV2 : ∀ v k' T', EV B v k' T' → (T'.length : Int) ≤ L → v = (if b2 = 1 then 1 else vOf pk) ∧ k' = k ∧ T' = T := fun v k' T' h hl => hEV v k' T' (hvs v k' T' h) h (hMl v k' T' h hl)
  clear hEV hMl hvs
  refine .inl ⟨_, rfl, _, hw', .inr rfl, ?_⟩
  clear hw' hw w w'
  repeat (first | apply QRD_nil | (refine sx ?_; try intro _))
  refine JO_call Tryz.call92 rfl rfl fun w hw => (EAgain_c b2 h2 lb rb k hk pk q d T hTo hTl (List.Mem.head _) (vec_rd (by repeat (first | apply List.Mem.head | apply List.Mem.tail))) w hw).mono ?_
  rintro e w' (⟨hn, rfl, hw'⟩ | ⟨hy, q4, d4, rfl, hw'⟩)
  · have hno : ∀ v k T, EV B v k T → (T.length : Int) ≤ L → False := fun v k' T' h hl => by
      obtain ⟨_, rfl, rfl⟩ := hEV2 v k' T' h hl
      exact hn ⟨h.kd, h.len⟩
    (refine ⟨_, rfl, _, hw', ?_⟩; clear hw' hw w w')
    repeat (refine sx ?_; try intro _)
    refine JO_callE Tryz.func49 Tryz.call85 rfl rfl fun A hA w hw => (Need26_c _ w hw).mono ?_
    rintro e w' (⟨h, rfl, hw'⟩ | ⟨h, rfl, hw'⟩)
    · (exact absurd h (by first | (simp; done) | (simp; omega)))
    · (exact .inr ⟨_, rfl, LvE_err (hA.sub (by repeat (first | exact trivial | refine ⟨rfl, ?_⟩ | refine ⟨lookI rfl (by omega), ?_⟩))) (dS hw') fun w hw => .inl ⟨hno, rfl, hw⟩⟩)
  have hvv : (if b2 = 1 then 1 else vOf pk) = 1 ∨ (if b2 = 1 then 1 else vOf pk) = 2 ∨ (if b2 = 1 then 1 else vOf pk) = 3 := by
    split
    · exact .inl rfl
    · cases pk
      · exact .inr (.inl rfl)
      · exact .inr (.inr rfl)
  have hv12 : b2 = (if (if b2 = 1 then 1 else vOf pk) = 1 then 1 else 2) := by
    rcases h2 with rfl | rfl
    · rfl
    · cases pk <;> rfl
  have hv3 : pk = decide ((if b2 = 1 then 1 else vOf pk) = 3) := by
    rcases h2 with rfl | rfl
    · rw [hpk rfl]; rfl
    · cases pk <;> rfl
  have hEl : (envB (if b2 = 1 then 1 else vOf pk) k T).length ≤ 140737488355328 := by
    have h1 := envB_le (if b2 = 1 then 1 else vOf pk) k hTo
    omega
  generalize (if b2 = 1 then 1 else vOf pk) = vv at *
  (refine ⟨_, rfl, _, hw', ?_⟩; clear hw' hw w w')
  repeat (refine sx ?_; try intro _)
  refine JO_call Tryz.call70 rfl rfl fun w hw => (Equal_c q4 p d4 c _ m (envB vv k T) B (vec_rd (List.Mem.head _)) (Rd_weak hr fun w hw => dS hw) rfl hm hEl (by omega) w hw).mono ?_
  rintro e w' ⟨rfl, hw'⟩
  by_cases heq : envB vv k T = B
  rotate_left
  · have hno : ∀ v k T, EV B v k T → (T.length : Int) ≤ L → False := fun v k' T' h hl => by
      obtain ⟨rfl, rfl, rfl⟩ := hEV2 v k' T' h hl
      exact heq h.eq.symm
    rw [decide_eq_false heq]
    (refine ⟨_, rfl, _, hw', ?_⟩; clear hw' hw w w')
    repeat (refine sx ?_; try intro _)
    refine JO_callE Tryz.func49 Tryz.call85 rfl rfl fun A hA w hw => (Need26_c _ w hw).mono ?_
    rintro e w' (⟨h, rfl, hw'⟩ | ⟨h, rfl, hw'⟩)
    · (exact absurd h (by first | (simp; done) | (simp; omega)))
    · (exact .inr ⟨_, rfl, LvE_err (hA.sub (by repeat (first | exact trivial | refine ⟨rfl, ?_⟩ | refine ⟨lookI rfl (by omega), ?_⟩))) (dS hw') fun w hw => .inl ⟨hno, rfl, hw⟩⟩)
  rw [decide_eq_true heq]
  (refine ⟨_, rfl, _, hw', ?_⟩; clear hw' hw w w')
  have hOk : EV B vv k T := ⟨hTo, hy.1, hy.2, hvv, heq.symm⟩
  have hTL : (T.length : Int) ≤ L := by omega
  repeat (refine sx ?_; try intro _)
  refine JO_callE Tryz.func49 Tryz.call85 rfl rfl fun A hA w hw => (Need26_c _ w hw).mono ?_
  rintro e w' (⟨h, rfl, hw'⟩ | ⟨h, rfl, hw'⟩)
  rotate_left
  · (exact absurd h (by first | (simp; done) | (simp; omega)))
  (refine .inl ⟨_, rfl, _, hw', ?_⟩; clear hw' hw w w' hA A h)
  repeat (refine sx ?_; try intro _)
  refine JS_retD Tryz.func49 fun A w hA hw => ?_
  refine LvE_ok (p := some ⟨lb, 0, none⟩) (H := blk lb (ltr rb [.int .i64 b2, .int .u8 k, .bool pk, .slice q T.length d]) :: vec 5 1 (.slice q T.length d) T.length (ints .u8 T) :: H) (hA.sub (by repeat (first | exact trivial | refine ⟨rfl, ?_⟩ | refine ⟨lookI rfl (by omega), ?_⟩))) ?_ fun w hw => .inr ⟨vv, k, T, lb, rb, q, d, hOk, hTL, rfl, by rw [← hv12, ← hv3]; exact hw⟩
  have hw2 : St w0 (blk lb (ltr rb [.int .i64 b2, .int .u8 k, .bool pk, .slice q T.length d]) :: vec 5 1 (.slice q T.length d) T.length (ints .u8 T) :: blk eb [.int .i64 0] :: blk xb [.pointer (some ⟨lb, 0, none⟩)] :: H) w := dS hw
  exact hw2.perm (by (repeat (first | exact List.Perm.refl _ | refine List.Perm.cons _ ?_ | refine (List.perm_middle (l₁ := [_])).trans (List.Perm.cons _ ?_) | refine (List.perm_middle (l₁ := [_, _])).trans (List.Perm.cons _ ?_) | refine (List.perm_middle (l₁ := [_, _, _])).trans (List.Perm.cons _ ?_) | refine (List.perm_middle (l₁ := [_, _, _, _])).trans (List.Perm.cons _ ?_) | refine (List.perm_middle (l₁ := [_, _, _, _, _])).trans (List.Perm.cons _ ?_) | refine (List.perm_middle (l₁ := [_, _, _, _, _, _])).trans (List.Perm.cons _ ?_) | refine (List.perm_middle (l₁ := [_, _, _, _, _, _, _])).trans (List.Perm.cons _ ?_) | refine (List.perm_middle (l₁ := [_, _, _, _, _, _, _, _])).trans (List.Perm.cons _ ?_) | refine (List.perm_middle (l₁ := [_, _, _, _, _, _, _, _, _])).trans (List.Perm.cons _ ?_) | refine (List.perm_middle (l₁ := [_, _, _, _, _, _, _, _, _, _])).trans (List.Perm.cons _ ?_) | refine (List.perm_middle (l₁ := [_, _, _, _, _, _, _, _, _, _, _])).trans (List.Perm.cons _ ?_) | refine (List.perm_middle (l₁ := [_, _, _, _, _, _, _, _, _, _, _, _])).trans (List.Perm.cons _ ?_) | refine (List.perm_middle (l₁ := [_, _, _, _, _, _, _, _, _, _, _, _, _])).trans (List.Perm.cons _ ?_))))
end
end Go.Proofs.YteelffkghidpfaaGreat

namespace Go.Proofs.YteelffkghidpfaaGreat
open Sx Go
set_option linter.unusedVariables false
set_option linter.unusedSimpArgs false
set_option maxRecDepth 100000
section
variable {w0 : World} {H : List Asn}
theorem EOpen_c (p : Option Addr) (c m : Nat) (B : List Int) (L : Int) (hL : -9223372036854775808 ≤ L ∧ L < 9223372036854775808) (hr : Rd w0 H (.slice p m c) m (ints .u8 B)) (hm : B.length = m) (hB : OKB B) (hm1 : m ≤ 1000000) (hpm : p = none → m = 0) (w : World) (hw : St w0 H w) :
    Calls Tryz.prog 20 #[.slice p m c, .int .i64 L] w fun e w' => ((∀ v k T, EV B v k T → (T.length : Int) ≤ L → False) ∧ e = .returned (.tuple #[.int .u8 0, .slice none 0 0, .int .i64 9]) ∧ St w0 H w') ∨
      (∃ (v : Nat) (k : Int) (T : List Int) (q : Option Addr) (d : Nat), EV B v k T ∧ (T.length : Int) ≤ L ∧ e = .returned (.tuple #[.int .u8 k, .slice q T.length d, .int .i64 0]) ∧ St w0 (vec 5 1 (.slice q T.length d) T.length (ints .u8 T) :: H) w') := by
  refine enter (vs := [.slice p m c, .int .i64 L]) Tryz.func20 rfl rfl rfl hw ?_
  clear hw w
  repeat (refine sx ?_; try intro _)
  refine JO_call Tryz.call49 rfl rfl fun w hw => (EOpn_c p c m B L hL hr hm hB hm1 hpm w hw).mono ?_
  unfold OpnR
  rintro e w' (⟨hn, rfl, hw'⟩ | ⟨v, k, T, lb, rb, q, d, hE, hl, rfl, hw'⟩)
  · (refine ⟨_, rfl, _, hw', ?_⟩; clear hw' hw w w')
    repeat (refine sx ?_; try intro _)
    exact JS_ret Tryz.func20 rfl rfl fun w hw => .inl ⟨hn, rfl, hw⟩
  · (refine ⟨_, rfl, _, hw', ?_⟩; clear hw' hw w w')
    repeat (refine sx ?_; try intro _)
    exact JS_ret Tryz.func20 rfl rfl fun w hw => .inr ⟨v, k, T, q, d, hE, hl, rfl, hw.drop⟩
theorem ETurn_c (pk : Bool) (p : Option Addr) (c m : Nat) (B : List Int) (hr : Rd w0 H (.slice p m c) m (ints .u8 B)) (hm : B.length = m) (hB : OKB B) (hm1 : m ≤ 1000000) (hpm : p = none → m = 0) (w : World) (hw : St w0 H w) :
    Calls Tryz.prog 22 #[.slice p m c, .bool pk] w fun e w' => ((∀ v k T, ¬ EV B v k T) ∧ e = .returned (.tuple #[.slice none 0 0, .int .i64 9]) ∧ St w0 H w') ∨
      (∃ (v : Nat) (k : Int) (T : List Int) (q : Option Addr) (d : Nat), EV B v k T ∧ e = .returned (.tuple #[.slice q (envB (vOf pk) k T).length d, .int .i64 0]) ∧ St w0 (vec 5 1 (.slice q (envB (vOf pk) k T).length d) (envB (vOf pk) k T).length (ints .u8 (envB (vOf pk) k T)) :: H) w') := by
  refine enter (vs := [.slice p m c, .bool pk]) Tryz.func22 rfl rfl rfl hw ?_
  clear hw w
  repeat (refine sx ?_; try intro _)
  refine JO_call Tryz.call49 rfl rfl fun w hw => (EOpn_c p c m B 1048576 (by decide) hr hm hB hm1 hpm w hw).mono ?_
  unfold OpnR
  rintro e w' (⟨hn, rfl, hw'⟩ | ⟨v, k, T, lb, rb, q, d, hE, hl, rfl, hw'⟩)
  · (refine ⟨_, rfl, _, hw', ?_⟩; clear hw' hw w w')
    repeat (refine sx ?_; try intro _)
    exact JS_ret Tryz.func22 rfl rfl fun w hw => .inl ⟨fun v k T h => hn v k T h (by have := h.len; omega), rfl, hw⟩
  · (refine ⟨_, rfl, _, hw', ?_⟩; clear hw' hw w w')
    repeat (refine sx ?_; try intro _)
    refine QO_call Tryz.call15 rfl rfl fun w hw => (ENew_c k (by have := hE.kd; omega) pk q T.length d T (vec_rd (by repeat (first | apply List.Mem.head | apply List.Mem.tail))) rfl hE.ok (by have := hE.len; omega) w hw).mono ?_
    rintro e w' (⟨hn, rfl, hw'⟩ | ⟨hy, q', d', rfl, hw'⟩)
    · exact absurd ⟨hE.kd, hE.len⟩ hn
    · refine ⟨_, rfl, _, hw', .inl fun w hw => hw.drop, ?_⟩
      clear hw' hw w w'
      repeat (refine sx ?_; try intro _)
      exact JS_ret Tryz.func22 rfl rfl fun w hw => .inr ⟨v, k, T, q', d', hE, rfl, dS hw⟩
theorem EUp_c (p : Option Addr) (c m : Nat) (B : List Int) (hr : Rd w0 H (.slice p m c) m (ints .u8 B)) (hm : B.length = m) (hB : OKB B) (hm1 : m ≤ 1000000) (hpm : p = none → m = 0) (w : World) (hw : St w0 H w) :
    Calls Tryz.prog 21 #[.slice p m c] w fun e w' => ((∀ v k T, ¬ EV B v k T) ∧ e = .returned (.tuple #[.slice none 0 0, .int .i64 9]) ∧ St w0 H w') ∨
      (∃ (v : Nat) (k : Int) (T : List Int) (q : Option Addr) (d : Nat), EV B v k T ∧ e = .returned (.tuple #[.slice q (envB 2 k T).length d, .int .i64 0]) ∧ St w0 (vec 5 1 (.slice q (envB 2 k T).length d) (envB 2 k T).length (ints .u8 (envB 2 k T)) :: H) w') := by
  refine enter (vs := [.slice p m c]) Tryz.func21 rfl rfl rfl hw ?_
  clear hw w
  repeat (refine sx ?_; try intro _)
  refine JO_call Tryz.call22 rfl rfl fun w hw => (ETurn_c false p c m B hr hm hB hm1 hpm w hw).mono ?_
  rintro e w' (⟨hn, rfl, hw'⟩ | ⟨v, k, T, q, d, hE, rfl, hw'⟩)
  · (refine ⟨_, rfl, _, hw', ?_⟩; clear hw' hw w w')
    repeat (refine sx ?_; try intro _)
    exact JS_ret Tryz.func21 rfl rfl fun w hw => .inl ⟨hn, rfl, hw⟩
  · (refine ⟨_, rfl, _, hw', ?_⟩; clear hw' hw w w')
    repeat (refine sx ?_; try intro _)
    exact JS_ret Tryz.func21 rfl rfl fun w hw => .inr ⟨v, k, T, q, d, hE, rfl, hw⟩
set_option maxHeartbeats 4000000 in
theorem RNextV_c (p : Option Addr) (c m : Nat) (R : List Int) (hr : Rd w0 H (.slice p m c) m (ints .u8 R)) (hm : R.length = m) (hR : OKB R) (hm1 : m ≤ 140737488355328) (w : World) (hw : St w0 H w) :
    Calls Tryz.prog 51 #[.int .u8 118, .slice p m c] w fun e w' => e = .returned (.tuple #[.int .u64 (dec 7 R).1, .int .i64 (dec 7 R).2.1, .int .i64 (dec 7 R).2.2]) ∧ St w0 H w' := by
  have hst := dropB_step R
  rw [show dec 7 R = dLeb 0 0 R from rfl]
  refine enter (vs := [.int .u8 118, .slice p m c]) Tryz.func51 rfl rfl rfl hw ?_
  clear hw w
  repeat (refine sx ?_; try intro _)
  refine JO_call Tryz.call93 rfl rfl fun w hw => (RFix_c 7 (by decide) w hw).mono ?_
  rintro e w' ⟨rfl, hw'⟩
  (refine ⟨_, rfl, _, hw', ?_⟩; clear hw' hw w w')
  repeat (first | (apply gJR; (refine sx ?_; try intro _)) | (apply gJO; (refine sx ?_; try intro _)) | (apply gJS; first | refine JS_condF rfl ?_ | refine JS_cond_F rfl (by omega) ?_) | apply JS_skip | apply JS_seq | apply JS_region)
  refine JS_block ?_
  refine JS_loop2 (fun (i : Nat) (a : Int) => [(0, .int .u8 118), (1, .slice p m c), (9, .int .u64 a), (11, .int .i64 i)]) (fun _ _ => H) (fun i a => dLeb i a (R.drop i) = dLeb 0 0 R ∧ i ≤ 9 ∧ i ≤ m ∧ 0 ≤ a ∧ a < 128 ^ i) (fun i _ => 10 - i) 0 0 ⟨rfl, by omega, Nat.zero_le _, by decide, by decide⟩ (by repeat (first | exact trivial | refine ⟨rfl, ?_⟩ | refine ⟨lookI rfl (by omega), ?_⟩)) (fun w hw => hw) ?_
  intro i a ⟨he, hi9, hiR, ha0, ha1⟩ again
  by_cases hend : i < m
  · have hg := ints_get (K := .u8) (l := R) (j := i) (by omega)
    have hxb := hR i
    rw [hst i (by omega)] at he
    generalize R.getD i 0 = x at *
    have cx : IntKind.u64.wrap x = x := wu64 (by omega)
    by_cases h9 : i = 9 ∧ 1 < x
    · obtain ⟨rfl, h91⟩ := h9
      have hres : dLeb 0 0 R = (0, 0, 21) := by rw [← he, dLeb, if_pos ⟨rfl, h91⟩]
      rw [hres]
      repeat (first | (apply gJO; first | refine JO_v (oIA (V_index (tb := tb) rfl rfl rfl rfl (Rd.sl hr) (by omega) (by (try simp only [tn, tna, tn1, tn2, tn3, tn4, tnd16, tnd8, Int.reduceToNat]); first | exact Nat.mul_one _ | exact rfl) rfl)) ?_ | refine JO_v (oL (V_loadC (tb := tb) rfl hr rfl rfl hg rfl)) ?_ | refine JO_v (V_conv (tb := tb) rfl rfl rfl cx rfl) ?_) | (refine sx ?_; try intro _))
      exact JS_ret Tryz.func51 rfl rfl fun w hw => ⟨rfl, hw⟩
    · have h9' : i ≠ 9 ∨ (i = 9 ∧ ¬ 1 < x) := by omega
      have hp := p128_le i hi9
      have hp2 := p128 i
      have hbig : x % 128 * 128 ^ i ≤ 127 * 128 ^ i := Int.mul_le_mul_of_nonneg_right (by omega) (Int.le_of_lt hp.2)
      have hnn : 0 ≤ x % 128 * 128 ^ i := Int.mul_nonneg (by omega) (Int.le_of_lt hp.2)
      have hsum : a + x % 128 * 128 ^ i < 128 ^ (i + 1) ∧ a + x % 128 * 128 ^ i < 18446744073709551616 := by
        rw [Int.pow_succ]
        rcases h9' with h | ⟨rfl, h⟩
        · have h8 := p128_le (i + 1) (by omega)
          rw [Int.pow_succ] at h8
          generalize (128 : Int) ^ i = z at *
          omega
        · have hx2 : x % 128 = x := by omega
          rw [hx2] at *
          have hx1 : x * 128 ^ 9 ≤ 1 * 128 ^ 9 := Int.mul_le_mul_of_nonneg_right (by omega) (Int.le_of_lt hp.2)
          have e9 : (128 : Int) ^ 9 = 9223372036854775808 := by decide
          rw [e9] at *
          omega
      rw [hp2] at hbig hnn ha1
      have hs7 : (128 : Int) ^ i = 2 ^ (7 * i) := hp2
      have cm : Int.tmod x 128 = x % 128 := Int.tmod_eq_emod_of_nonneg (by omega)
      have c7 : IntKind.i64.wrap (7 * (i : Int)) = ((7 * i : Nat) : Int) := by rw [wi64 (by omega)]; omega
      have c8 : IntKind.u64.wrap ((7 * i : Nat) : Int) = ((7 * i : Nat) : Int) := wu64 (by omega)
      have ej : min ((7 * i : Nat) : Int).toNat IntKind.u64.bits = 7 * i := by
        rw [show IntKind.u64.bits = 64 from rfl]; omega
      rw [hp2] at hsum
      obtain ⟨t2, ht2⟩ : ∃ t, t = x % 128 * 2 ^ (7 * i) := ⟨_, rfl⟩
      obtain ⟨a2, ha2⟩ : ∃ t, t = a + t2 := ⟨_, rfl⟩
      have ha3 : a2 = a + x % 128 * 2 ^ (7 * i) := by rw [ha2, ht2]
      have cs : IntKind.u64.wrap (x % 128 * 2 ^ (7 * i)) = t2 := by rw [ht2]; exact wu64 (by omega)
      have ca : IntKind.u64.wrap (a + t2) = a2 := by rw [← ha2]; exact wu64 (by omega)
      rw [← ha3] at hsum
      have hn2 : 0 ≤ a2 := by omega
      clear hbig
      have hcase : (127 < x) ∨ (¬ 127 < x ∧ x = 0 ∧ 0 < i) ∨ (¬ 127 < x ∧ x = 0 ∧ ¬ 0 < i) ∨ (¬ 127 < x ∧ ¬ x = 0) := by omega
      have h9c : (¬ i = 9) ∨ (i = 9 ∧ ¬ 1 < x) := by omega
      rcases hcase with hx | ⟨hx, hx0, hi0⟩ | ⟨hx, hx0, hi0⟩ | ⟨hx, hx0⟩
      · rw [dLeb_step h9 hx, hs7, ← ha3] at he
        have hne9 : ¬ i = 9 := by omega
        repeat (first | (apply gJO; first | refine JO_v (oIA (V_index (tb := tb) rfl rfl rfl rfl (Rd.sl hr) (by omega) (by (try simp only [tn, tna, tn1, tn2, tn3, tn4, tnd16, tnd8, Int.reduceToNat]); first | exact Nat.mul_one _ | exact rfl) rfl)) ?_ | refine JO_v (oL (V_loadC (tb := tb) rfl hr rfl rfl hg rfl)) ?_ | refine JO_v (V_conv (tb := tb) rfl rfl rfl cx rfl) ?_) | (apply gJO; first | refine JO_v (V_rem rfl rfl (by omega) cm rfl) ?_ | refine JO_v (V_mul rfl rfl c7 rfl) ?_ | refine JO_v (V_conv (tb := tb) rfl rfl rfl c8 rfl) ?_ | refine JO_v (V_shl rfl rfl (by omega) ej cs rfl) ?_ | refine JO_v (V_add rfl rfl ca rfl) ?_) | (refine sx ?_; try intro _))
        exact JS_again2 again (i + 1) a2 ⟨he, by omega, by omega, hn2, hsum.1⟩ (by omega) (by repeat (first | exact trivial | refine ⟨rfl, ?_⟩ | refine ⟨lookI rfl (by omega), ?_⟩)) (fun w hw => hw)
      · have hres : dLeb 0 0 R = (0, 0, 21) := by rw [← he, dLeb, if_neg h9, if_neg hx, if_pos ⟨hx0, hi0⟩]
        rw [hres]
        rcases h9c with h9c | ⟨h9c, h9d⟩
        all_goals (
          repeat (first | (apply gJO; first | refine JO_v (oIA (V_index (tb := tb) rfl rfl rfl rfl (Rd.sl hr) (by omega) (by (try simp only [tn, tna, tn1, tn2, tn3, tn4, tnd16, tnd8, Int.reduceToNat]); first | exact Nat.mul_one _ | exact rfl) rfl)) ?_ | refine JO_v (oL (V_loadC (tb := tb) rfl hr rfl rfl hg rfl)) ?_ | refine JO_v (V_conv (tb := tb) rfl rfl rfl cx rfl) ?_) | (apply gJO; first | refine JO_v (V_rem rfl rfl (by omega) cm rfl) ?_ | refine JO_v (V_mul rfl rfl c7 rfl) ?_ | refine JO_v (V_conv (tb := tb) rfl rfl rfl c8 rfl) ?_ | refine JO_v (V_shl rfl rfl (by omega) ej cs rfl) ?_ | refine JO_v (V_add rfl rfl ca rfl) ?_) | (refine sx ?_; try intro _))
          exact JS_ret Tryz.func51 rfl rfl fun w hw => ⟨rfl, hw⟩)
      all_goals (
        have hres : dLeb 0 0 R = (a2, i + 1, 0) := by rw [← he, dLeb, if_neg h9, if_neg hx, if_neg (by omega), hs7, ← ha3]
        rw [hres]
        rcases h9c with h9c | ⟨h9c, h9d⟩
        all_goals first
          | (exfalso; omega)
          | (repeat (first | (apply gJO; first | refine JO_v (oIA (V_index (tb := tb) rfl rfl rfl rfl (Rd.sl hr) (by omega) (by (try simp only [tn, tna, tn1, tn2, tn3, tn4, tnd16, tnd8, Int.reduceToNat]); first | exact Nat.mul_one _ | exact rfl) rfl)) ?_ | refine JO_v (oL (V_loadC (tb := tb) rfl hr rfl rfl hg rfl)) ?_ | refine JO_v (V_conv (tb := tb) rfl rfl rfl cx rfl) ?_) | (apply gJO; first | refine JO_v (V_rem rfl rfl (by omega) cm rfl) ?_ | refine JO_v (V_mul rfl rfl c7 rfl) ?_ | refine JO_v (V_conv (tb := tb) rfl rfl rfl c8 rfl) ?_ | refine JO_v (V_shl rfl rfl (by omega) ej cs rfl) ?_ | refine JO_v (V_add rfl rfl ca rfl) ?_) | (refine sx ?_; try intro _))
             exact JS_ret Tryz.func51 rfl rfl fun w hw => ⟨rfl, hw⟩))
  · have hres : dLeb 0 0 R = (0, 0, 20) := by
      rw [← he, List.drop_of_length_le (by omega)]; rfl
    rw [hres]
    repeat (first | (apply gJO; first | refine JO_v (oIA (V_index (tb := tb) rfl rfl rfl rfl (Rd.sl hr) (by omega) (by (try simp only [tn, tna, tn1, tn2, tn3, tn4, tnd16, tnd8, Int.reduceToNat]); first | exact Nat.mul_one _ | exact rfl) rfl)) ?_ | refine JO_v (oL (V_loadC (tb := tb) rfl hr rfl rfl hg rfl)) ?_ | refine JO_v (V_conv (tb := tb) rfl rfl rfl cx rfl) ?_) | (refine sx ?_; try intro _))
    exact JS_ret Tryz.func51 rfl rfl fun w hw => ⟨rfl, hw⟩
end
end Go.Proofs.YteelffkghidpfaaGreat

namespace Sx
open Go
section
variable {P : Program} {f n : Nat} {R : Ending → World → Prop} {D : List Deferred} {w0 : World} {k : List Item} {ov : Ov} {H : List Asn} {ops : Array Oper} {l : List Oper} {d : Option Nat} {T : Nat} {pos : String} {af : Array Edge} {g : Option (Nat × Bool)} {x y : Operand} {tb : Tb P}
theorem JO_appG {t e sz by' m q sz1 by1 : Nat} {ty2 : Ty} {z1 : Option (List Value)} {z : List Value} {a : Addr} {ux : Value} {cs news : List Value}
    (hx : ev ov x = some (.slice (some a) m m)) (hy : ev ov y = some ux) (h : tlook tb.l t = some ⟨.slice e, sz1, by1, z1⟩) (h2 : tlook tb.l e = some ⟨ty2, sz, by', some z⟩) (hzl : Nat.beq z.length sz = true) (hsz : Nat.blt 0 sz = true)
    (hr0 : Rd w0 H (.slice (some a) m m) m cs) (hcl : cs.length = m * sz) (hr : Rd w0 H ux q news) (hl : news.length = q * sz) (hq : 0 < q) (hb : (m + q) * by' ≤ 140737488355328 ∧ m + q ≤ 140737488355328) (hd : dOk d n = true)
    (hn : ∀ p c, JR P f n R D w0 ops l k (put d (.slice p (m + q) c) ov) (vec e sz (.slice p (m + q) c) (m + q) (cs ++ news) :: H)) : JO P f n R D w0 ops ⟨d, .call ⟨.builtin .append, #[x, y], #[t, t]⟩, T, pos, af, g⟩ l k ov H :=
  JO_step fun A w ha hw => by
    obtain ⟨i, zv, hi, e1, e2, e3, e4⟩ := Tb.inf' h2
    unfold Rd at hr hr0
    obtain ⟨⟨bx, cx, rfl, hbx, _⟩, hrd⟩ := hr w hw
    cases bx with
    | none => have := hbx rfl; omega
    | some a' =>
      have hnews := reads_some hrd
      have holds := reads_some (hr0 w hw).2
      have hsz' : 0 < sz := by rw [Nat.blt_eq] at hsz; exact hsz
      have hzl' := Nat.eq_of_beq_eq_true hzl
      have hrr := run_append_grow (P := P) w t T e i zv (und_slice h) hi e3 a m m cs (by rw [e1]; exact hcl) holds a' q cx news (by rw [e1]; exact hl) hnews (by omega) (by omega) (growslice_fits (by omega) (by rw [e2]; exact hb.1))
      have hge := grownCap_ge w (m + q) m e
      have hle := grownCap_le_maxLen w (m + q) m e (by unfold maxLen; omega)
      have hzs : zv.cells.size = sz := by rw [cellsL_eq, e4]; simpa using hzl'
      have hlen : (cs ++ news).length = (m + q) * sz := by rw [List.length_append, hcl, hl, Nat.add_mul]
      obtain ⟨A', hA⟩ : ∃ A', cs.toArray ++ news.toArray ++ Builtin.zeroCells zv.cells (grownCap w (m + q) m e - (m + q)) = A' := ⟨_, rfl⟩
      have hAs : A'.size = grownCap w (m + q) m e * sz := by
        rw [← hA, Array.size_append, Array.size_append, size_zeroCells, hzs, List.size_toArray, List.size_toArray, hcl, hl, ← Nat.add_mul, ← Nat.add_mul]
        congr 1; omega
      have hAt : A'.toList.take ((m + q) * sz) = cs ++ news := by
        rw [← hA]
        simp only [Array.toList_append, List.append_assoc]
        rw [← List.append_assoc, ← hlen]
        exact List.take_left
      rw [hA, show A' = A'.toList.toArray by simp] at hrr
      refine ⟨_, _, by simp [execOp, resolve, invoke, builtin, ha.ev hx, ha.ev hy, hrr], hd, _, hw.drew.new A'.toList e (vec e sz (.slice (some ⟨w.heap.size, 0, none⟩) (m + q) (grownCap w (m + q) m e)) (m + q) (cs ++ news)) fun w' h' => ?_, hn _ _⟩
      rw [vec_holds]
      exact ⟨hlen, .inr ⟨_, grownCap w (m + q) m e, _, rfl, rfl, h', by omega, hle, by simpa using hAs, by simpa using hAt⟩⟩
end
end Sx

namespace Go.Proofs.YteelffkghidpfaaGreat
open Sx Go
set_option linter.unusedVariables false
set_option linter.unusedSimpArgs false
set_option maxRecDepth 100000
theorem enc0_one {k : Int} (hk : 0 ≤ k ∧ k < 256) : encN 0 k = [k] := by
  have e : encN 0 k = [lowF k 0] := rfl
  rw [e]; unfold lowF; congr 1; omega
theorem pre1 {k : Int} (hk : 0 ≤ k ∧ k < 256) (n z : Nat) : hdE 1 k n z = [81, 83] ++ [1, k] ++ encN 3 n := by
  unfold hdE encs encs encs; rw [if_pos rfl, enc0_one hk]; simp
theorem pre2 {k : Int} (hk : 0 ≤ k ∧ k < 256) (n z : Nat) : hdE 2 k n z = [81, 83] ++ [2, k] ++ [0] ++ encN 7 n := by
  have h0 : encN 0 0 = [0] := enc0_one (by decide)
  unfold hdE encs encs encs encs; rw [if_neg (by decide), if_pos rfl, enc0_one hk, h0]; simp
theorem pre3 {k : Int} (hk : 0 ≤ k ∧ k < 256) (n z : Nat) : hdE 3 k n z = [81, 83] ++ [2, k] ++ [1] ++ encN 7 n ++ encN 7 z := by
  have h0 : encN 0 1 = [1] := enc0_one (by decide)
  unfold hdE encs encs encs encs encs; rw [if_neg (by decide), if_neg (by decide), enc0_one hk, h0]; simp
section
variable {w0 : World} {H : List Asn}
theorem ROne26_c (k : Nat) (hk : k < 10) (l : Int) (hl : ltA k = l) (n : Int) (hn : 0 ≤ n ∧ n < 18446744073709551616) (p : Option Addr) (m cp : Nat) (B : List Int) (hm : B.length = m) (hm1 : m ≤ 10000000) {F : Asn → List Asn} (hu : Sel H (vec 5 1 (.slice p m cp) m (ints .u8 B)) F) (w : World) (hw : St w0 H w) :
    Calls Tryz.prog 47 #[.slice p m cp, .int .u8 l, .int .u64 n] w fun e w' => ∃ q d, e = .returned (.slice q (B ++ encN k n).length d) ∧ St w0 (F (vec 5 1 (.slice q (B ++ encN k n).length d) (B ++ encN k n).length (ints .u8 (B ++ encN k n)))) w' := by
  subst hl hm
  have hO : ∀ {H : List Asn} w, St w0 H w → Calls Tryz.prog 81 #[.int .u8 (ltA k), .int .u64 n] w fun e w' => ∃ (p : Option Addr) (c : Nat) (b : Bool), e = .returned (.tuple #[.slice p (encN k n).length c, .bool b]) ∧ St w0 (vec 5 1 (.slice p (encN k n).length c) (encN k n).length (ints .u8 (encN k n)) :: H) w' := fun w hw => by
    rcases Nat.lt_or_ge k 7 with h | h
    · exact (OneF_c k h n hn w hw).mono fun e w' ⟨p, c, h1, h2⟩ => ⟨p, c, _, h1, h2⟩
    · exact (OneV_c k ⟨h, hk⟩ n hn w hw).mono fun e w' ⟨p, c, h1, h2⟩ => ⟨p, c, _, h1, h2⟩
  have hEl := encN_len k n
  generalize encN k n = E at *
  refine enter (vs := [.slice p B.length cp, .int .u8 (ltA k), .int .u64 n]) Tryz.func47 rfl rfl rfl hw ?_
  clear hw w
  repeat (refine sx ?_; try intro _)
  refine JO_call Tryz.call81 rfl rfl fun w hw => (hO w hw).mono ?_
  rintro e w' ⟨q, c, b, rfl, hw'⟩
  (refine ⟨_, rfl, _, hw', ?_⟩; clear hw' hw w w')
  repeat (refine sx ?_; try intro _)
  refine JO_app (tb := tb) rfl rfl rfl rfl rfl rfl (Sel.there _ _ _ _ hu) (vec_rd (cs := ints .u8 E) (List.Mem.head _)) (by rw [ints_len, Nat.mul_one]) ints_one (by omega) rfl ?_
  intro _ _
  rw [ints_app]
  repeat (refine sx ?_; try intro _)
  exact JS_ret Tryz.func47 rfl rfl fun w hw => ⟨_, _, by rw [List.length_append]; rfl, by rw [List.length_append]; exact hw.drop⟩
theorem ROld_c (k : Int) (hk : 0 ≤ k ∧ k < 256) (p : Option Addr) (m cp : Nat) (T : List Int) (hr : Rd w0 H (.slice p m cp) m (ints .u8 T)) (hm : T.length = m) (hT : OKB T) (hm1 : m ≤ 1048576) (w : World) (hw : St w0 H w) :
    Calls Tryz.prog 17 #[.int .u8 k, .slice p m cp] w fun e w' => ∃ q d, e = .returned (.slice q (envB 1 k T).length d) ∧ St w0 (vec 5 1 (.slice q (envB 1 k T).length d) (envB 1 k T).length (ints .u8 (envB 1 k T)) :: H) w' := by
  subst hm
  have hE : sealB ([81, 83] ++ [1, k] ++ encN 3 T.length ++ T) = envB 1 k T := by unfold envB; rw [pre1 hk]; rfl
  have hok : OKB ([81, 83] ++ [1, k] ++ encN 3 T.length ++ T) := by have := preE_okb 1 hk hT hm1; rw [pre1 hk] at this; exact this
  have c2 : IntKind.u64.wrap (T.length : Int) = (T.length : Int) := wu64 (by omega)
  have hEl := encN_len 3 (T.length : Int)
  refine enter (vs := [.int .u8 k, .slice p T.length cp]) Tryz.func17 rfl rfl rfl hw ?_
  clear hw w
  repeat (refine sx ?_; try intro _)
  refine JO_e (E_convSl (tb := tb) rfl rfl rfl (by repeat (first | exact Sel.here _ _ | apply Sel.there)) (by decide) rfl) ?_
  intro _
  repeat (refine sx ?_; try intro _)
  refine JO_appG (tb := tb) (cs := ints .u8 [81, 83]) (news := ints .u8 [1, k]) rfl rfl rfl rfl rfl rfl (roV_rd (by repeat (first | apply List.Mem.head | apply List.Mem.tail))) rfl (vec_rd (by repeat (first | apply List.Mem.head | apply List.Mem.tail))) rfl (by decide) (by decide) rfl ?_
  intro q1 d1
  rw [ints_app]
  repeat (first | (apply gJO; refine JO_v (V_conv (tb := tb) rfl rfl rfl c2 rfl) ?_) | (refine sx ?_; try intro _))
  refine JO_call Tryz.call47 rfl rfl fun w hw => (ROne26_c 3 (by decide) 119 rfl (T.length : Int) (by omega) q1 4 d1 ([81, 83] ++ [1, k]) rfl (by decide) (by repeat (first | exact Sel.here _ _ | apply Sel.there)) w hw).mono ?_
  have hL : ([81, 83] ++ [1, k] ++ encN 3 (T.length : Int)).length ≤ 20 := by rw [List.length_append]; simp only [List.length_append, List.length_cons, List.length_nil]; omega
  generalize [81, 83] ++ [1, k] ++ encN 3 (T.length : Int) = X at *
  rintro e w' ⟨q2, d2, rfl, hw'⟩
  (refine ⟨_, rfl, _, hw', ?_⟩; clear hw' hw w w')
  repeat (refine sx ?_; try intro _)
  refine JO_app (tb := tb) rfl rfl rfl rfl rfl rfl (by repeat (first | exact Sel.here _ _ | apply Sel.there)) (Rd_weak hr fun w hw => dS hw) (by rw [ints_len, Nat.mul_one]) ints_one (by omega) rfl ?_
  intro q3 d3
  rw [ints_app]
  repeat (refine sx ?_; try intro _)
  have hXT : (X ++ T).length = X.length + T.length := List.length_append
  refine JO_call Tryz.call25 rfl rfl fun w hw => (RSeal_c (X.length + T.length) q3 d3 (X ++ T) (vec_rd (by repeat (first | apply List.Mem.head | apply List.Mem.tail))) hXT hok (by omega) w hw).mono ?_
  rw [hE]
  rintro e w' ⟨q4, d4, rfl, hw'⟩
  (refine ⟨_, rfl, _, hw', ?_⟩; clear hw' hw w w')
  repeat (refine sx ?_; try intro _)
  exact JS_ret Tryz.func17 rfl rfl fun w hw => ⟨_, _, rfl, dS hw⟩
theorem RNew_c (k : Int) (hk : 0 ≤ k ∧ k < 256) (pk : Bool) (p : Option Addr) (m cp : Nat) (T : List Int) (hr : Rd w0 H (.slice p m cp) m (ints .u8 T)) (hm : T.length = m) (hT : OKB T) (hm1 : m ≤ 1048576) (w : World) (hw : St w0 H w) :
    Calls Tryz.prog 18 #[.int .u8 k, .slice p m cp, .bool pk] w fun e w' => ∃ q d, e = .returned (.slice q (envB (vOf pk) k T).length d) ∧ St w0 (vec 5 1 (.slice q (envB (vOf pk) k T).length d) (envB (vOf pk) k T).length (ints .u8 (envB (vOf pk) k T)) :: H) w' := by
  subst hm
  have c2 : IntKind.u64.wrap (T.length : Int) = (T.length : Int) := wu64 (by omega)
  have hEl := encN_len 7 (T.length : Int)
  have hzo := pk_okb hT
  have hzl := pkB_le hT
  refine enter (vs := [.int .u8 k, .slice p T.length cp, .bool pk]) Tryz.func18 rfl rfl rfl hw ?_
  clear hw w
  repeat (refine sx ?_; try intro _)
  refine JO_e (E_convSl (tb := tb) rfl rfl rfl (by repeat (first | exact Sel.here _ _ | apply Sel.there)) (by decide) rfl) ?_
  intro _
  repeat (refine sx ?_; try intro _)
  refine JO_appG (tb := tb) (cs := ints .u8 [81, 83]) (news := ints .u8 [2, k]) rfl rfl rfl rfl rfl rfl (roV_rd (by repeat (first | apply List.Mem.head | apply List.Mem.tail))) rfl (vec_rd (by repeat (first | apply List.Mem.head | apply List.Mem.tail))) rfl (by decide) (by decide) rfl ?_
  intro q1 d1
  rw [ints_app]
  cases pk with
  | false =>
    have hE : sealB ([81, 83] ++ [2, k] ++ [0] ++ encN 7 T.length ++ T) = envB (vOf false) k T := by unfold envB; rw [show vOf false = 2 from rfl, pre2 hk]; rfl
    have hok : OKB ([81, 83] ++ [2, k] ++ [0] ++ encN 7 T.length ++ T) := by have := preE_okb 2 hk hT hm1; rw [pre2 hk] at this; exact this
    repeat (refine sx ?_; try intro _)
    refine JO_app (tb := tb) (news := ints .u8 [0]) rfl rfl rfl rfl rfl rfl (by repeat (first | exact Sel.here _ _ | apply Sel.there)) (vec_rd (by repeat (first | apply List.Mem.head | apply List.Mem.tail))) rfl ints_one (by decide) rfl ?_
    intro q2 d2
    rw [ints_app]
    repeat (first | (apply gJO; refine JO_v (V_conv (tb := tb) rfl rfl rfl c2 rfl) ?_) | (refine sx ?_; try intro _))
    refine JO_call Tryz.call47 rfl rfl fun w hw => (ROne26_c 7 (by decide) 118 rfl (T.length : Int) (by omega) q2 5 d2 ([81, 83] ++ [2, k] ++ [0]) rfl (by decide) (by repeat (first | exact Sel.here _ _ | apply Sel.there)) w hw).mono ?_
    have hL : ([81, 83] ++ [2, k] ++ [0] ++ encN 7 (T.length : Int)).length ≤ 20 := by rw [List.length_append]; simp only [List.length_append, List.length_cons, List.length_nil]; omega
    generalize [81, 83] ++ [2, k] ++ [0] ++ encN 7 (T.length : Int) = X at *
    rintro e w' ⟨q2, d2, rfl, hw'⟩
    (refine ⟨_, rfl, _, hw', ?_⟩; clear hw' hw w w')
    repeat (refine sx ?_; try intro _)
    refine JO_app (tb := tb) rfl rfl rfl rfl rfl rfl (by repeat (first | exact Sel.here _ _ | apply Sel.there)) (Rd_weak hr fun w hw => dS hw) (by rw [ints_len, Nat.mul_one]) ints_one (by omega) rfl ?_
    intro q3 d3
    rw [ints_app]
    repeat (refine sx ?_; try intro _)
    have hXT : (X ++ T).length = X.length + T.length := List.length_append
    refine JO_call Tryz.call25 rfl rfl fun w hw => (RSeal_c (X.length + T.length) q3 d3 (X ++ T) (vec_rd (by repeat (first | apply List.Mem.head | apply List.Mem.tail))) hXT hok (by omega) w hw).mono ?_
    rw [hE]
    rintro e w' ⟨q4, d4, rfl, hw'⟩
    (refine ⟨_, rfl, _, hw', ?_⟩; clear hw' hw w w')
    repeat (refine sx ?_; try intro _)
    exact JS_ret Tryz.func18 rfl rfl fun w hw => ⟨_, _, rfl, dS hw⟩
  | true =>
    have hE : sealB ([81, 83] ++ [2, k] ++ [1] ++ encN 7 T.length ++ encN 7 (pkB T).length ++ pkB T) = envB (vOf true) k T := by unfold envB; rw [show vOf true = 3 from rfl, pre3 hk]; rfl
    have hok : OKB ([81, 83] ++ [2, k] ++ [1] ++ encN 7 T.length ++ encN 7 (pkB T).length ++ pkB T) := by have := preE_okb 3 hk hT hm1; rw [pre3 hk] at this; exact this
    have hEz := encN_len 7 ((pkB T).length : Int)
    have c3 : IntKind.u64.wrap ((pkB T).length : Int) = ((pkB T).length : Int) := wu64 (by omega)
    have hPk := fun {H'} hr w hw => RPack9_c (w0 := w0) (H := H') p cp T.length T hr rfl hT (by omega) w hw
    generalize pkB T = Z at *
    repeat (refine sx ?_; try intro _)
    refine JO_call Tryz.call48 rfl rfl fun w hw => (hPk (Rd_weak hr fun w hw => dS hw) w hw).mono ?_
    rintro e w' ⟨qz, dz, rfl, hw'⟩
    (refine ⟨_, rfl, _, hw', ?_⟩; clear hw' hw w w')
    repeat (refine sx ?_; try intro _)
    refine JO_app (tb := tb) (news := ints .u8 [1]) rfl rfl rfl rfl rfl rfl (by repeat (first | exact Sel.here _ _ | apply Sel.there)) (vec_rd (by repeat (first | apply List.Mem.head | apply List.Mem.tail))) rfl ints_one (by decide) rfl ?_
    intro q2 d2
    rw [ints_app]
    repeat (first | (apply gJO; refine JO_v (V_conv (tb := tb) rfl rfl rfl c2 rfl) ?_) | (refine sx ?_; try intro _))
    refine JO_call Tryz.call47 rfl rfl fun w hw => (ROne26_c 7 (by decide) 118 rfl (T.length : Int) (by omega) q2 5 d2 ([81, 83] ++ [2, k] ++ [1]) rfl (by decide) (by repeat (first | exact Sel.here _ _ | apply Sel.there)) w hw).mono ?_
    have hL : ([81, 83] ++ [2, k] ++ [1] ++ encN 7 (T.length : Int)).length ≤ 20 := by rw [List.length_append]; simp only [List.length_append, List.length_cons, List.length_nil]; omega
    generalize [81, 83] ++ [2, k] ++ [1] ++ encN 7 (T.length : Int) = X at *
    rintro e w' ⟨q3, d3, rfl, hw'⟩
    (refine ⟨_, rfl, _, hw', ?_⟩; clear hw' hw w w')
    repeat (first | (apply gJO; refine JO_v (V_conv (tb := tb) rfl rfl rfl c3 rfl) ?_) | (refine sx ?_; try intro _))
    refine JO_call Tryz.call47 rfl rfl fun w hw => (ROne26_c 7 (by decide) 118 rfl (Z.length : Int) (by omega) q3 X.length d3 X rfl (by omega) (by repeat (first | exact Sel.here _ _ | apply Sel.there)) w hw).mono ?_
    have hL2 : (X ++ encN 7 (Z.length : Int)).length ≤ 40 := by rw [List.length_append]; omega
    generalize X ++ encN 7 (Z.length : Int) = X2 at *
    rintro e w' ⟨q5, d5, rfl, hw'⟩
    (refine ⟨_, rfl, _, hw', ?_⟩; clear hw' hw w w')
    repeat (refine sx ?_; try intro _)
    refine JO_app (tb := tb) rfl rfl rfl rfl rfl rfl (by repeat (first | exact Sel.here _ _ | apply Sel.there)) (vec_rd (cs := ints .u8 Z) (by repeat (first | apply List.Mem.head | apply List.Mem.tail))) (by rw [ints_len, Nat.mul_one]) ints_one (by omega) rfl ?_
    intro q6 d6
    rw [ints_app]
    repeat (refine sx ?_; try intro _)
    have hXT : (X2 ++ Z).length = X2.length + Z.length := List.length_append
    refine JO_call Tryz.call25 rfl rfl fun w hw => (RSeal_c (X2.length + Z.length) q6 d6 (X2 ++ Z) (vec_rd (by repeat (first | apply List.Mem.head | apply List.Mem.tail))) hXT hok (by omega) w hw).mono ?_
    rw [hE]
    rintro e w' ⟨q4, d4, rfl, hw'⟩
    (refine ⟨_, rfl, _, hw', ?_⟩; clear hw' hw w w')
    repeat (refine sx ?_; try intro _)
    exact JS_ret Tryz.func18 rfl rfl fun w hw => ⟨_, _, rfl, dS hw⟩
theorem RAny_c (v : Nat) (hv : v = 1 ∨ v = 2 ∨ v = 3) (k : Int) (hk : 0 ≤ k ∧ k < 256) (p : Option Addr) (m cp : Nat) (T : List Int) (hr : Rd w0 H (.slice p m cp) m (ints .u8 T)) (hm : T.length = m) (hT : OKB T) (hm1 : m ≤ 1048576) (w : World) (hw : St w0 H w) :
    Calls Tryz.prog 19 #[.int .i64 v, .int .u8 k, .slice p m cp] w fun e w' => ∃ q d, e = .returned (.slice q (envB v k T).length d) ∧ St w0 (vec 5 1 (.slice q (envB v k T).length d) (envB v k T).length (ints .u8 (envB v k T)) :: H) w' := by
  refine enter (vs := [.int .i64 v, .int .u8 k, .slice p m cp]) Tryz.func19 rfl rfl rfl hw ?_
  clear hw w
  rcases hv with rfl | rfl | rfl
  · repeat (refine sx ?_; try intro _)
    refine JO_call Tryz.call17 rfl rfl fun w hw => (ROld_c k hk p m cp T hr hm hT hm1 w hw).mono ?_
    rintro e w' ⟨q, d, rfl, hw'⟩
    (refine ⟨_, rfl, _, hw', ?_⟩; clear hw' hw w w')
    repeat (refine sx ?_; try intro _)
    exact JS_ret Tryz.func19 rfl rfl fun w hw => ⟨_, _, rfl, hw⟩
  · repeat (refine sx ?_; try intro _)
    refine JO_call Tryz.call18 rfl rfl fun w hw => (RNew_c k hk false p m cp T hr hm hT hm1 w hw).mono ?_
    rintro e w' ⟨q, d, rfl, hw'⟩
    (refine ⟨_, rfl, _, hw', ?_⟩; clear hw' hw w w')
    repeat (refine sx ?_; try intro _)
    exact JS_ret Tryz.func19 rfl rfl fun w hw => ⟨_, _, rfl, hw⟩
  · repeat (refine sx ?_; try intro _)
    refine JO_call Tryz.call18 rfl rfl fun w hw => (RNew_c k hk true p m cp T hr hm hT hm1 w hw).mono ?_
    rintro e w' ⟨q, d, rfl, hw'⟩
    (refine ⟨_, rfl, _, hw', ?_⟩; clear hw' hw w w')
    repeat (refine sx ?_; try intro _)
    exact JS_ret Tryz.func19 rfl rfl fun w hw => ⟨_, _, rfl, hw⟩
end
end Go.Proofs.YteelffkghidpfaaGreat

namespace Go.Proofs.YteelffkghidpfaaGreat
open Sx Go
set_option linter.unusedVariables false
set_option linter.unusedSimpArgs false
set_option maxRecDepth 100000
theorem V_neStrD {P : Program} {n : Nat} {D : List Deferred} {w0 : World} {ov : Ov} {H : List Asn} {d : Option Nat} {T T1 T2 : Nat} {pos : String} {af : Array Edge} {g : Option (Nat × Bool)} {x y : Operand} {A B : List Int} {b : Bool}
    (hx : ev ov x = some (.string (bstr A))) (hy : ev ov y = some (.string (bstr B))) (hA : Byt A) (hB : Byt B) (hb : decide (A ≠ B) = b) (hd : dOk d n = true) : OpV P n D w0 ov H ⟨d, .binOp .neq T1 x y T2, T, pos, af, g⟩ (.bool b) := by
  subst hb; exact V_neStr hx hy hA hB hd
theorem dLeb_pos : ∀ (R : List Int) (i : Nat) (a : Int), (dLeb i a R).2.2 = 0 → i < (dLeb i a R).2.1
  | [], i, a, h => by simp [dLeb] at h
  | x :: r, i, a, h => by
    rw [dLeb] at h ⊢
    split at h
    · simp at h
    · rename_i h1
      rw [if_neg h1]
      split at h
      · rename_i h2
        rw [if_pos h2]
        have := dLeb_pos r (i + 1) _ h
        omega
      · rename_i h2
        rw [if_neg h2]
        split at h
        · simp at h
        · rename_i h3
          rw [if_neg h3]
          exact Nat.lt_succ_self i
theorem dLeb_take : ∀ (R : List Int) (i : Nat) (a n : Int) (u L : Nat), dLeb i a R = (n, u, 0) → u ≤ i + L → dLeb i a (R.take L) = (n, u, 0)
  | [], i, a, n, u, L, h, _ => by simp [dLeb] at h
  | x :: r, i, a, n, u, L, h, hu => by
    have hp := dLeb_pos (x :: r) i a (by rw [h])
    rw [h] at hp
    dsimp only at hp
    obtain ⟨K, rfl⟩ : ∃ K, L = K + 1 := ⟨L - 1, by omega⟩
    rw [List.take_succ_cons]
    rw [dLeb] at h ⊢
    split at h
    · simp at h
    · rename_i h1
      rw [if_neg h1]
      split at h
      · rename_i h2
        rw [if_pos h2]
        exact dLeb_take r (i + 1) _ n u K h (by omega)
      · rename_i h2
        rw [if_neg h2]
        exact h
theorem dec7_take {R : List Int} {n : Int} {u L : Nat} (h : dec 7 R = (n, u, 0)) (hu : u ≤ L) : dec 7 (R.take L) = (n, u, 0) := dLeb_take R 0 0 n u L h (by omega)
theorem dec0_val {R : List Int} (h : 1 ≤ R.length) : dec 0 R = (R.getD 0 0, 1, 0) := by
  show dFix false 1 R = _
  unfold dFix
  rw [if_neg (by omega)]
  match R, h with
  | x :: r, _ => simp [lowN]
def bodE (B : List Int) : List Int := (B.drop 4).take (B.length - 8)
theorem bodE_drop (B : List Int) (n : Nat) : (bodE B).drop n = (B.drop (4 + n)).take (B.length - 8 - n) := by
  unfold bodE
  rw [List.drop_take, List.drop_drop]
theorem bodE_len (B : List Int) (h : 8 ≤ B.length) : (bodE B).length = B.length - 8 := by
  unfold bodE
  rw [List.length_take, List.length_drop]; omega
theorem bodE_okb {B : List Int} (h : OKB B) : OKB (bodE B) := okb_take (h.drop 4) _
theorem EV.len9 {B : List Int} {v : Nat} {k : Int} {T : List Int} (h : EV B v k T) : 9 ≤ B.length := by
  have hv := h.vs
  rcases hv with rfl | rfl | rfl
  · have := (EV1 h).2.2.1; omega
  · obtain ⟨_, _, u, _, h1, _⟩ := EV2 h; omega
  · obtain ⟨_, _, u, t, _, _, h1, _⟩ := EV3 h; omega
theorem EVk {B : List Int} {v : Nat} {k : Int} {T : List Int} (h : EV B v k T) : k = B.getD 3 0 := by
  have hl := h.len9
  have hd : dec 0 (B.drop 3) = (k, 1, 0) := by
    have hv := h.vs
    rcases hv with rfl | rfl | rfl
    · exact (EV1 h).1
    · exact (EV2 h).1
    · exact (EV3 h).1
  rw [dec0_val (by rw [List.length_drop]; omega), dropB_get] at hd
  injection hd with e
  exact e.symm
theorem EVb1 {B : List Int} {k : Int} {T : List Int} (h : EV B 1 k T) : 4 ≤ B.length - 8 ∧ T = (bodE B).drop 4 := by
  obtain ⟨_, _, h1, h2⟩ := EV1 h
  refine ⟨by omega, ?_⟩
  rw [bodE_drop, show B.length - 8 - 4 = T.length by omega]
  exact h2.symm
theorem EVb2 {B : List Int} {k : Int} {T : List Int} (h : EV B 2 k T) : B.getD 4 0 = 0 ∧ ∃ u, dec 7 ((bodE B).drop 1) = ((T.length : Int), u, 0) ∧ T = (bodE B).drop (1 + u) := by
  have hl := h.len9
  obtain ⟨_, h0, u, h1, h2, h3⟩ := EV2 h
  rw [dec0_val (by rw [List.length_drop]; omega), dropB_get] at h0
  injection h0 with e
  refine ⟨e, u, ?_, ?_⟩
  · rw [bodE_drop]; exact dec7_take h1 (by omega)
  · rw [bodE_drop, show B.length - 8 - (1 + u) = T.length by omega, show 4 + (1 + u) = 5 + u by omega]
    exact h3.symm
theorem EVb3 {B : List Int} {k : Int} {T : List Int} (h : EV B 3 k T) : B.getD 4 0 = 1 ∧ ∃ u t, dec 7 ((bodE B).drop 1) = ((T.length : Int), u, 0) ∧ dec 7 ((bodE B).drop (1 + u)) = (((pkB T).length : Int), t, 0) ∧ (bodE B).drop (1 + u + t) = pkB T := by
  have hl := h.len9
  obtain ⟨_, h0, u, t, h1, h2, h3, h4⟩ := EV3 h
  rw [dec0_val (by rw [List.length_drop]; omega), dropB_get] at h0
  injection h0 with e
  refine ⟨e, u, t, ?_, ?_, ?_⟩
  · rw [bodE_drop]; exact dec7_take h1 (by omega)
  · rw [bodE_drop, show 4 + (1 + u) = 5 + u by omega]; exact dec7_take h2 (by omega)
  · rw [bodE_drop, show B.length - 8 - (1 + u + t) = (pkB T).length by omega, show 4 + (1 + u + t) = 5 + u + t by omega]
    exact h4
section
variable {w0 : World} {H : List Asn}
set_option maxHeartbeats 4000000 in
theorem ROpT {R : Ending → World → Prop} (v : Nat) (hv : v = 1 ∨ v = 2 ∨ v = 3) (k : Int) (hk : 0 ≤ k ∧ k < 256) (p : Option Addr) (c m : Nat) (B : List Int) (hr : Rd w0 H (.slice p m c) m (ints .u8 B)) (hm : B.length = m) (hB : OKB B) (q : Option Addr) (n d : Nat) (T : List Int) (hT : Rd w0 H (.slice q n d) n (ints .u8 T)) (hn : T.length = n) (hTo : OKB T)
    (hno : ¬ EV B v k T → ∀ w, St w0 H w → R (.returned (.tuple #[.int .i64 0, .int .u8 0, .slice none 0 0, .bool false])) w)
    (hyes : EV B v k T → ∀ w, St w0 H w → R (.returned (.tuple #[.int .i64 v, .int .u8 k, .slice q T.length d, .bool true])) w) :
    JS Tryz.prog 23 Tryz.f23.ntmps R [] w0 (todo Tryz.f23 [.b, .b, .b, .b, .b, .b, .b]) [(0, .slice p m c), (6, .int .u8 k), (8, .int .i64 v), (9, .slice q n d)] H := by
  subst hn
  refine JS_at rfl ?_
  repeat (first | apply hIc 26 | (refine sx ?_; try intro _))
  refine Hold.go ?_
  refine JS_seq ?_
  refine JS_seq ?_
  refine JS_order [0, 1, 2, 3, 4, 5, 6, 7, 10, 11, 8, 9, 12, 13] [] (Picks.cons rfl (Picks.cons rfl (Picks.cons rfl (Picks.cons rfl (Picks.cons rfl (Picks.cons rfl (Picks.cons rfl (Picks.cons rfl (Picks.cons rfl (Picks.cons rfl (Picks.cons rfl (Picks.cons rfl (Picks.cons rfl (Picks.cons rfl (Picks.nil))))))))))))))) (by kernel_rfl) (by kernel_rfl) rfl (by decide +kernel) ?_
  repeat (refine sx ?_; try intro _)
  refine QO_call Tryz.call16 rfl rfl fun w hw => (RMay_c k T.length q d w hw).mono ?_
  rintro e w' ⟨⟨b, rfl, hb⟩, hw'⟩
  (refine ⟨_, rfl, _, hw', .inl fun w hw => dS hw, ?_⟩; clear hw' hw w w')
  cases b with
  | false =>
    have hn : ¬ EV B v k T := fun h => by simp [show mayE k T.length from ⟨h.kd, h.len⟩] at hb
    repeat (refine sx ?_; try intro _)
    exact JS_ret Tryz.func23 rfl rfl (hno hn)
  | true =>
    have hy := hb.1 rfl
    repeat (first | (apply gQO; first | refine QO_v rfl (V_str (tb := tb) rfl hr hm rfl rfl rfl rfl) ?_) | (refine sx ?_; try intro _))
    refine QO_call Tryz.call19 rfl rfl fun w hw => (RAny_c v hv k hk q T.length d T hT rfl hTo hy.2 w hw).mono ?_
    rintro e w' ⟨q2, d2, rfl, hw'⟩
    (refine ⟨_, rfl, _, hw', .inl fun w hw => dS hw, ?_⟩; clear hw' hw w w')
    have hEo := envB_okb v hk hTo hy.2
    by_cases he : envB v k T = B
    · have hE : EV B v k T := ⟨hTo, hy.1, hy.2, hv, he.symm⟩
      have hd : decide (envB v k T ≠ B) = false := decide_eq_false (fun h => h he)
      repeat (first | (apply gQO; first | refine QO_v rfl (V_str (tb := tb) rfl (vec_rd (List.Mem.head _)) rfl rfl rfl rfl rfl) ?_ | refine QO_v rfl (V_neStrD rfl rfl hEo hB hd rfl) ?_) | (refine sx ?_; try intro _))
      exact JS_ret (R := R) Tryz.func23 rfl rfl fun w hw => hyes hE w hw.drop
    · have hE : ¬ EV B v k T := fun h => he h.eq.symm
      have hd : decide (envB v k T ≠ B) = true := decide_eq_true he
      repeat (first | (apply gQO; first | refine QO_v rfl (V_str (tb := tb) rfl (vec_rd (List.Mem.head _)) rfl rfl rfl rfl rfl) ?_ | refine QO_v rfl (V_neStrD rfl rfl hEo hB hd rfl) ?_) | (refine sx ?_; try intro _))
      exact JS_ret (R := R) Tryz.func23 rfl rfl fun w hw => hno hE w hw.drop
end
end Go.Proofs.YteelffkghidpfaaGreat

namespace Go.Proofs.YteelffkghidpfaaGreat
open Sx Go
set_option linter.unusedVariables false
set_option linter.unusedSimpArgs false
set_option maxRecDepth 100000
section
variable {w0 : World} {H : List Asn}
def ROpnR (w0 : World) (H : List Asn) (B : List Int) : Ending → World → Prop := fun e w' =>
  ((∀ v k T, ¬ EV B v k T) ∧ e = .returned (.tuple #[.int .i64 0, .int .u8 0, .slice none 0 0, .bool false]) ∧ St w0 H w') ∨
  (∃ (v : Nat) (k : Int) (T : List Int) (q : Option Addr) (d : Nat) (H' : List Asn), EV B v k T ∧ e = .returned (.tuple #[.int .i64 v, .int .u8 k, .slice q T.length d, .bool true]) ∧ Rd w0 H' (.slice q T.length d) T.length (ints .u8 T) ∧ St w0 H' w' ∧ (∀ w, St w0 H' w → St w0 H w))
set_option maxHeartbeats 8000000 in
theorem ROpen26_c (p : Option Addr) (c m : Nat) (B : List Int) (hr : Rd w0 H (.slice p m c) m (ints .u8 B)) (hm : B.length = m) (hB : OKB B) (hm1 : m ≤ 1000000) (w : World) (hw : St w0 H w) :
    Calls Tryz.prog 23 #[.slice p m c] w (ROpnR w0 H B) := by
  have hcap := fun w hw => (hr.lcap (w := w) hw).1
  have hF := fun w hw => RFits_c (w0 := w0) (H := H) m p c B hr hm hB (by omega) w hw
  refine enter (vs := [.slice p m c]) Tryz.func23 rfl rfl rfl hw ?_
  clear hw w
  unfold ROpnR
  repeat (refine sx ?_; try intro _)
  refine JO_call Tryz.call50 rfl rfl fun w hw => (hF w hw).mono ?_
  rintro e w' ⟨b, rfl, hb, hw'⟩
  (refine ⟨_, rfl, _, hw', ?_⟩; clear hw' hw w w')
  cases b with
  | false =>
    have hno : ∀ v k T, ¬ EV B v k T := fun v k T h => by simp [h.fit] at hb
    repeat (refine sx ?_; try intro _)
    (exact JS_ret Tryz.func23 rfl rfl fun w hw => .inl ⟨hno, rfl, dS hw⟩)
  | true =>
  clear hb hF
  by_cases h9 : m < 9
  · have hno : ∀ v k T, ¬ EV B v k T := fun v k T h => by have := h.len9; omega
    repeat (refine sx ?_; try intro _)
    (exact JS_ret Tryz.func23 rfl rfl fun w hw => .inl ⟨hno, rfl, dS hw⟩)
  have g0 := ints_get (K := .u8) (l := B) (j := 0) (by omega)
  have g1 := ints_get (K := .u8) (l := B) (j := 1) (by omega)
  have g2 := ints_get (K := .u8) (l := B) (j := 2) (by omega)
  have g3 := ints_get (K := .u8) (l := B) (j := 3) (by omega)
  have hk3 := hB 3
  have hb2 := hB 2
  have hb4 := hB 4
  have hhd : ∀ v k T, EV B v k T → B.getD 0 0 = 81 ∧ B.getD 1 0 = 83 ∧ B.getD 2 0 = (if v = 1 then 1 else 2) ∧ k = B.getD 3 0 := fun v k T h => ⟨h.head.1, h.head.2.1, h.head.2.2, EVk h⟩
  have hE1 := fun k T (h : EV B 1 k T) => EVb1 h
  have hE2 := fun k T (h : EV B 2 k T) => EVb2 h
  have hE3 := fun k T (h : EV B 3 k T) => EVb3 h
  have hbl := bodE_len B (by omega)
  have hbo := bodE_okb hB
  have hbg : (bodE B).getD 0 0 = B.getD 4 0 := by
    unfold bodE
    rw [List.getD_eq_getElem?_getD, List.getElem?_take, if_pos (by omega), ← List.getD_eq_getElem?_getD, dropB_get]
  have hbR := Rd_subI (lo := 4) (hi := m - 4) hr (by omega) (by omega)
  have hbe : (B.drop 4).take (m - 4 - 4) = bodE B := by unfold bodE; rw [hm]; rfl
  rw [hbe] at hbR
  rw [hm] at hbl hE1
  have hbn : m - 4 - 4 = m - 8 := by omega
  rw [hbn] at hbR
  have gb := ints_get (K := .u8) (l := bodE B) (j := 0) (by omega)
  rw [hbg] at gb
  generalize B.getD 0 0 = b0 at *
  generalize B.getD 1 0 = b1 at *
  generalize B.getD 2 0 = b2 at *
  generalize B.getD 3 0 = b3 at *
  generalize B.getD 4 0 = b4 at *
  generalize bodE B = Bo at *
  by_cases h0 : b0 = 81
  rotate_left
  · have hno : ∀ v k T, ¬ EV B v k T := fun v k T h => h0 (hhd v k T h).1
    repeat (first | (apply gJO; first | refine JO_v (oL (V_loadC (tb := tb) rfl hr rfl rfl g0 rfl)) ?_) | (refine sx ?_; try intro _))
    (exact JS_ret Tryz.func23 rfl rfl fun w hw => .inl ⟨hno, rfl, dS hw⟩)
  by_cases h1 : b1 = 83
  rotate_left
  · have hno : ∀ v k T, ¬ EV B v k T := fun v k T h => h1 (hhd v k T h).2.1
    repeat (first | (apply gJO; first | refine JO_v (oL (V_loadC (tb := tb) rfl hr rfl rfl g0 rfl)) ?_ | refine JO_v (oL (V_loadC (tb := tb) rfl hr rfl rfl g1 rfl)) ?_) | (refine sx ?_; try intro _))
    (exact JS_ret Tryz.func23 rfl rfl fun w hw => .inl ⟨hno, rfl, dS hw⟩)
  have cS : IntKind.i64.wrap ((m : Int) - 4) = ((m - 4 : Nat) : Int) := by rw [wi64 (by omega)]; omega
  have c2 : IntKind.i64.wrap b2 = b2 := wi64 (by omega)
  have c4 : IntKind.i64.wrap b4 = b4 := wi64 (by omega)
  by_cases h2 : b2 = 1
  · subst h2
    by_cases h4 : m - 8 < 4
    · have hno : ∀ v k T, ¬ EV B v k T := fun v k T h => by
        have hv : v = 1 := by
          have := (hhd v k T h).2.2.1
          split at this
          · assumption
          · exact absurd this (by decide)
        subst hv
        have := (hE1 k T h).1
        omega
      repeat (first | (apply gJO; first | refine JO_v (oL (V_loadC (tb := tb) rfl hr rfl rfl g0 rfl)) ?_ | refine JO_v (oL (V_loadC (tb := tb) rfl hr rfl rfl g1 rfl)) ?_ | refine JO_v (oL (V_loadC (tb := tb) rfl hr rfl rfl g2 rfl)) ?_ | refine JO_v (oL (V_loadC (tb := tb) rfl hr rfl rfl g3 rfl)) ?_ | refine JO_v (V_sub rfl rfl cS rfl) ?_ | refine JO_v (V_conv (tb := tb) rfl rfl rfl c2 rfl) ?_ | refine JO_v (V_slice (tb := tb) (lo := 4) (hi := m - 4) rfl rfl rfl rfl rfl rfl rfl (fun w hw => ⟨by omega, by have := hcap w hw; omega⟩) rfl) ?_) | (refine sx ?_; try intro _))
      (exact JS_ret Tryz.func23 rfl rfl fun w hw => .inl ⟨hno, rfl, dS hw⟩)
    · have hT := Rd_dropC (n := 4) hbR hbl (by omega)
      have hcb := fun w hw => (hbR.lcap (w := w) hw).1
      repeat (first | (apply gJO; first | refine JO_v (oL (V_loadC (tb := tb) rfl hr rfl rfl g0 rfl)) ?_ | refine JO_v (oL (V_loadC (tb := tb) rfl hr rfl rfl g1 rfl)) ?_ | refine JO_v (oL (V_loadC (tb := tb) rfl hr rfl rfl g2 rfl)) ?_ | refine JO_v (oL (V_loadC (tb := tb) rfl hr rfl rfl g3 rfl)) ?_ | refine JO_v (V_sub rfl rfl cS rfl) ?_ | refine JO_v (V_conv (tb := tb) rfl rfl rfl c2 rfl) ?_ | (refine JO_v (V_slice (tb := tb) (lo := 4) (hi := m - 4) rfl rfl rfl rfl rfl rfl rfl (fun w hw => ⟨by omega, by have := hcap w hw; omega⟩) rfl) ?_; rw [hbn]) | refine JO_v (V_slice (tb := tb) (lo := 4) (hi := m - 8) rfl rfl rfl rfl rfl rfl rfl (fun w hw => ⟨by omega, by have := hcb w hw; omega⟩) rfl) ?_) | apply hIc 26 | (refine sx ?_; try intro _))
      refine Hold.go ?_
      refine JS_of_at (fn := Tryz.f23) (p := [.b, .b, .b, .b, .b, .b, .b]) (JS_ov (by repeat (first | exact trivial | refine ⟨rfl, ?_⟩ | refine ⟨lookI rfl (by omega), ?_⟩)) (ROpT 1 (.inl rfl) b3 hk3 p c m B hr hm hB _ _ _ (Bo.drop 4) hT (by rw [List.length_drop]; omega) (hbo.drop 4) (fun hn w hw => .inl ⟨fun v k T h => ?_, rfl, hw⟩) (fun hE w hw => .inr ⟨1, b3, Bo.drop 4, _, _, H, hE, rfl, ?_, hw, fun w hw => hw⟩))) rfl
      · have hv : v = 1 := by
          have := (hhd v k T h).2.2.1
          split at this
          · assumption
          · exact absurd this (by decide)
        subst hv
        obtain ⟨_, rfl⟩ := hE1 k T h
        obtain rfl := (hhd 1 k _ h).2.2.2
        exact hn h
      · rw [show (Bo.drop 4).length = m - 8 - 4 by rw [List.length_drop]; omega]
        exact hT
  have hv23 : ∀ v k T, EV B v k T → v = 2 ∨ v = 3 := fun v k T h => by
    have h3 := (hhd v k T h).2.2.1
    have h4 := h.vs
    rcases h4 with rfl | h4
    · exact absurd h3 h2
    · exact h4
  by_cases h22 : b2 = 2
  rotate_left
  · have hno : ∀ v k T, ¬ EV B v k T := fun v k T h => by
      have h3 := (hhd v k T h).2.2.1
      rcases hv23 v k T h with rfl | rfl <;> exact h22 h3
    repeat (first | (apply gJO; first | refine JO_v (oL (V_loadC (tb := tb) rfl hr rfl rfl g0 rfl)) ?_ | refine JO_v (oL (V_loadC (tb := tb) rfl hr rfl rfl g1 rfl)) ?_ | refine JO_v (oL (V_loadC (tb := tb) rfl hr rfl rfl g2 rfl)) ?_ | refine JO_v (oL (V_loadC (tb := tb) rfl hr rfl rfl g3 rfl)) ?_ | refine JO_v (V_sub rfl rfl cS rfl) ?_ | refine JO_v (V_conv (tb := tb) rfl rfl rfl c2 rfl) ?_ | (refine JO_v (V_slice (tb := tb) (lo := 4) (hi := m - 4) rfl rfl rfl rfl rfl rfl rfl (fun w hw => ⟨by omega, by have := hcap w hw; omega⟩) rfl) ?_; rw [hbn])) | (refine sx ?_; try intro _))
    (exact JS_ret Tryz.func23 rfl rfl fun w hw => .inl ⟨hno, rfl, dS hw⟩)
  by_cases h41 : b4 ≤ 1
  rotate_left
  · have hno : ∀ v k T, ¬ EV B v k T := fun v k T h => by
      rcases hv23 v k T h with rfl | rfl
      · have := (hE2 k T h).1; omega
      · have := (hE3 k T h).1; omega
    repeat (first | (apply gJO; first | refine JO_v (oL (V_loadC (tb := tb) rfl hr rfl rfl g0 rfl)) ?_ | refine JO_v (oL (V_loadC (tb := tb) rfl hr rfl rfl g1 rfl)) ?_ | refine JO_v (oL (V_loadC (tb := tb) rfl hr rfl rfl g2 rfl)) ?_ | refine JO_v (oL (V_loadC (tb := tb) rfl hr rfl rfl g3 rfl)) ?_ | refine JO_v (V_sub rfl rfl cS rfl) ?_ | refine JO_v (V_conv (tb := tb) rfl rfl rfl c2 rfl) ?_ | (refine JO_v (V_slice (tb := tb) (lo := 4) (hi := m - 4) rfl rfl rfl rfl rfl rfl rfl (fun w hw => ⟨by omega, by have := hcap w hw; omega⟩) rfl) ?_; rw [hbn]) | refine JO_v (oL (V_loadC (tb := tb) rfl hbR rfl rfl gb rfl)) ?_) | (refine sx ?_; try intro _))
    (exact JS_ret Tryz.func23 rfl rfl fun w hw => .inl ⟨hno, rfl, dS hw⟩)
  have hcb := fun w hw => (hbR.lcap (w := w) hw).1
  have hR1 := Rd_dropC (n := 1) hbR hbl (by omega)
  have l1 : (Bo.drop 1).length = m - 8 - 1 := by rw [List.length_drop]; omega
  have o1 := dec_ok 7 (Bo.drop 1) (hbo.drop 1)
  have hNx := fun w hw => RNextV_c (w0 := w0) (H := H) _ _ (m - 8 - 1) (Bo.drop 1) hR1 l1 (hbo.drop 1) (by omega) w hw
  obtain ⟨D, hD⟩ : ∃ D, dec 7 (Bo.drop 1) = D := ⟨_, rfl⟩
  rw [hD] at o1 hNx hE2 hE3
  obtain ⟨u1, u2, u3⟩ := o1
  have cv : IntKind.i64.wrap (2 + b4) = 2 + b4 := wi64 (by omega)
  repeat (first | (apply gJO; first | refine JO_v (oL (V_loadC (tb := tb) rfl hr rfl rfl g0 rfl)) ?_ | refine JO_v (oL (V_loadC (tb := tb) rfl hr rfl rfl g1 rfl)) ?_ | refine JO_v (oL (V_loadC (tb := tb) rfl hr rfl rfl g2 rfl)) ?_ | refine JO_v (oL (V_loadC (tb := tb) rfl hr rfl rfl g3 rfl)) ?_ | refine JO_v (V_sub rfl rfl cS rfl) ?_ | refine JO_v (V_conv (tb := tb) rfl rfl rfl c2 rfl) ?_ | (refine JO_v (V_slice (tb := tb) (lo := 4) (hi := m - 4) rfl rfl rfl rfl rfl rfl rfl (fun w hw => ⟨by omega, by have := hcap w hw; omega⟩) rfl) ?_; rw [hbn]) | refine JO_v (oL (V_loadC (tb := tb) rfl hbR rfl rfl gb rfl)) ?_ | refine JO_v (V_conv (tb := tb) rfl rfl rfl c4 rfl) ?_ | refine JO_v (V_add rfl rfl cv rfl) ?_ | refine JO_v (V_slice (tb := tb) (lo := 1) (hi := m - 8) rfl rfl rfl rfl rfl rfl rfl (fun w hw => ⟨by omega, by have := hcb w hw; omega⟩) rfl) ?_) | (refine sx ?_; try intro _))
  refine JO_call Tryz.call51 rfl rfl fun w hw => (hNx w hw).mono ?_
  rintro e w' ⟨rfl, hw'⟩
  (refine ⟨_, rfl, _, hw', ?_⟩; clear hw' hw w w')
  clear hNx
  have hcase : (D.2.2 ≠ 0) ∨ (D.2.2 = 0 ∧ 1048576 < D.1) ∨ (D.2.2 = 0 ∧ ¬ 1048576 < D.1) := by omega
  rcases hcase with he | ⟨he, hbig⟩ | ⟨he, hbig⟩
  · have hno : ∀ v k T, ¬ EV B v k T := fun v k T h => by
      rcases hv23 v k T h with rfl | rfl
      · obtain ⟨_, u, e1, _⟩ := hE2 k T h; exact he (by rw [e1])
      · obtain ⟨_, u, t, e1, _⟩ := hE3 k T h; exact he (by rw [e1])
    repeat (refine sx ?_; try intro _)
    (exact JS_ret Tryz.func23 rfl rfl fun w hw => .inl ⟨hno, rfl, dS hw⟩)
  · have hno : ∀ v k T, ¬ EV B v k T := fun v k T h => by
      have hl := h.len
      rcases hv23 v k T h with rfl | rfl
      · obtain ⟨_, u, e1, _⟩ := hE2 k T h; rw [e1] at hbig; dsimp only at hbig; omega
      · obtain ⟨_, u, t, e1, _⟩ := hE3 k T h; rw [e1] at hbig; dsimp only at hbig; omega
    repeat (refine sx ?_; try intro _)
    (exact JS_ret Tryz.func23 rfl rfl fun w hw => .inl ⟨hno, rfl, dS hw⟩)
  have cu : IntKind.i64.wrap (1 + (D.2.1 : Int)) = ((1 + D.2.1 : Nat) : Int) := by rw [wi64 (by omega)]; omega
  have hle1 : 1 + D.2.1 ≤ m - 8 := by omega
  have hT2 := Rd_dropC (n := 1 + D.2.1) hbR hbl hle1
  have l2 : (Bo.drop (1 + D.2.1)).length = m - 8 - (1 + D.2.1) := by rw [List.length_drop]; omega
  by_cases hb0 : b4 = 0
  · subst hb0
    repeat (first | (apply gJO; first | refine JO_v (V_add rfl rfl cu rfl) ?_ | refine JO_v (V_slice (tb := tb) (lo := 1 + D.2.1) (hi := m - 8) rfl rfl rfl rfl rfl rfl rfl (fun w hw => ⟨by omega, by have := hcb w hw; omega⟩) rfl) ?_) | apply hIc 26 | (refine sx ?_; try intro _))
    refine Hold.go ?_
    refine JS_of_at (fn := Tryz.f23) (p := [.b, .b, .b, .b, .b, .b, .b]) (JS_ov (by repeat (first | exact trivial | refine ⟨rfl, ?_⟩ | refine ⟨lookI rfl (by omega), ?_⟩)) (ROpT 2 (.inr (.inl rfl)) b3 hk3 p c m B hr hm hB _ _ _ (Bo.drop (1 + D.2.1)) hT2 l2 (hbo.drop _) (fun hn w hw => .inl ⟨fun v k T h => ?_, rfl, hw⟩) (fun hE w hw => .inr ⟨2, b3, Bo.drop (1 + D.2.1), _, _, H, hE, rfl, ?_, hw, fun w hw => hw⟩))) rfl
    · rcases hv23 v k T h with rfl | rfl
      · obtain ⟨_, u, e1, e2⟩ := hE2 k T h
        obtain rfl := (hhd 2 k T h).2.2.2
        rw [e1] at hn
        rw [e2] at h
        exact hn h
      · have := (hE3 k T h).1; omega
    · rw [l2]
      exact hT2
  have hb1 : b4 = 1 := by omega
  subst hb1
  have o2 := dec_ok 7 (Bo.drop (1 + D.2.1)) (hbo.drop _)
  have hNx := fun w hw => RNextV_c (w0 := w0) (H := H) _ _ (m - 8 - (1 + D.2.1)) (Bo.drop (1 + D.2.1)) hT2 l2 (hbo.drop _) (by omega) w hw
  have hE4 : ∀ v k T, EV B v k T → v = 3 ∧ k = b3 ∧ OKB T ∧ T.length ≤ 1048576 ∧ D.1 = (T.length : Int) ∧ ∃ t, dec 7 (Bo.drop (1 + D.2.1)) = (((pkB T).length : Int), t, 0) ∧ Bo.drop (1 + D.2.1 + t) = pkB T := fun v k T h => by
    rcases hv23 v k T h with rfl | rfl
    · have := (hE2 k T h).1; omega
    · obtain ⟨_, u, t, e1, e2, e3⟩ := hE3 k T h
      rw [e1]
      exact ⟨rfl, (hhd 3 k T h).2.2.2, h.ok, h.len, rfl, t, e2, e3⟩
  obtain ⟨E, hEe⟩ : ∃ E, dec 7 (Bo.drop (1 + D.2.1)) = E := ⟨_, rfl⟩
  rw [hEe] at o2 hNx hE4
  obtain ⟨r1, r2, r3⟩ := o2
  repeat (first | (apply gJO; first | refine JO_v (V_add rfl rfl cu rfl) ?_ | refine JO_v (V_slice (tb := tb) (lo := 1 + D.2.1) (hi := m - 8) rfl rfl rfl rfl rfl rfl rfl (fun w hw => ⟨by omega, by have := hcb w hw; omega⟩) rfl) ?_) | (refine sx ?_; try intro _))
  refine JO_call Tryz.call51 rfl rfl fun w hw => (hNx w hw).mono ?_
  rintro e w' ⟨rfl, hw'⟩
  (refine ⟨_, rfl, _, hw', ?_⟩; clear hw' hw w w')
  clear hNx hE2 hE3
  by_cases hf : E.2.2 = 0
  rotate_left
  · have hno : ∀ v k T, ¬ EV B v k T := fun v k T h => by
      obtain ⟨_, _, _, _, _, t, e1, _⟩ := hE4 v k T h
      exact hf (by rw [e1])
    repeat (refine sx ?_; try intro _)
    (exact JS_ret Tryz.func23 rfl rfl fun w hw => .inl ⟨hno, rfl, dS hw⟩)
  have hle2 : E.2.1 ≤ m - 8 - (1 + D.2.1) := by omega
  have hT3 := Rd_dropC (n := E.2.1) hT2 l2 hle2
  rw [List.drop_drop] at hT3
  have l3 : (Bo.drop (1 + D.2.1 + E.2.1)).length = m - 8 - (1 + D.2.1) - E.2.1 := by rw [List.length_drop]; omega
  have hcb2 := fun w hw => (hT2.lcap (w := w) hw).1
  have hZo := hbo.drop (1 + D.2.1 + E.2.1)
  have hE5 : ∀ v k T, EV B v k T → v = 3 ∧ k = b3 ∧ OKB T ∧ T.length ≤ 1048576 ∧ D.1 = (T.length : Int) ∧ Bo.drop (1 + D.2.1 + E.2.1) = pkB T := fun v k T h => by
    obtain ⟨e1, e2, e3, e4, e5, t, e6, e7⟩ := hE4 v k T h
    rw [e6]
    exact ⟨e1, e2, e3, e4, e5, e7⟩
  clear hE4
  generalize Bo.drop (1 + D.2.1 + E.2.1) = Z at *
  have cN : IntKind.i64.wrap D.1 = D.1 := wi64 (by omega)
  repeat (first | (apply gJO; first | refine JO_v (V_conv (tb := tb) rfl rfl rfl cN rfl) ?_ | refine JO_v (V_slice (tb := tb) (lo := E.2.1) (hi := m - 8 - (1 + D.2.1)) rfl rfl rfl rfl rfl rfl rfl (fun w hw => ⟨by omega, by have := hcb2 w hw; omega⟩) rfl) ?_) | (refine sx ?_; try intro _))
  refine JO_call Tryz.call52 rfl rfl fun w hw => (ROpen9_c _ _ (m - 8 - (1 + D.2.1) - E.2.1) Z hT3 l3 hZo (by omega) D.1 (by omega) w hw).mono ?_
  rintro e w' ⟨x0, P, q2, d2, hZR, rfl, hw'⟩
  have hPo := ZR_okbE hZo hZR
  have hE6 : ∀ v k T, EV B v k T → v = 3 ∧ k = b3 ∧ x0 = 0 ∧ T = P := fun v k T h => by
    obtain ⟨e1, e2, e3, e4, e5, e6⟩ := hE5 v k T h
    have hz := ZR_pk (S := []) e3 (fun _ => by simp) D.1 (by omega) (by omega)
    rw [if_pos rfl, if_pos rfl, List.append_nil, ← e6] at hz
    obtain ⟨g1, g2⟩ := ZR_one hZR hz
    exact ⟨e1, e2, g1, g2.symm⟩
  clear hE5
  (refine ⟨_, rfl, _, hw', ?_⟩; clear hw' hw w w')
  by_cases hx : x0 = 0
  rotate_left
  · have hno : ∀ v k T, ¬ EV B v k T := fun v k T h => hx (hE6 v k T h).2.2.1
    repeat (refine sx ?_; try intro _)
    (exact JS_ret Tryz.func23 rfl rfl fun w hw => .inl ⟨hno, rfl, dS hw⟩)
  repeat (first | apply hIc 26 | (refine sx ?_; try intro _))
  refine Hold.go ?_
  refine JS_of_at (fn := Tryz.f23) (p := [.b, .b, .b, .b, .b, .b, .b]) (JS_ov (by repeat (first | exact trivial | refine ⟨rfl, ?_⟩ | refine ⟨lookI rfl (by omega), ?_⟩)) (ROpT 3 (.inr (.inr rfl)) b3 hk3 p c m B (Rd_weak hr fun w hw => hw.drop) hm hB q2 P.length d2 P (vec_rd (List.Mem.head _)) rfl hPo (fun hn w hw => .inl ⟨fun v k T h => ?_, rfl, hw.drop⟩) (fun hE w hw => .inr ⟨3, b3, P, q2, d2, _, hE, rfl, vec_rd (List.Mem.head _), hw, fun w hw => hw.drop⟩))) rfl
  obtain ⟨rfl, rfl, _, rfl⟩ := hE6 v k T h
  exact hn h
end
end Go.Proofs.YteelffkghidpfaaGreat

namespace Go.Proofs.YteelffkghidpfaaGreat
open Sx Go
set_option linter.unusedVariables false
set_option linter.unusedSimpArgs false
set_option maxRecDepth 100000
theorem enc7_2 : encN 7 2 = [2] := by decide +kernel
theorem enc3_2 : encN 3 2 = [2, 0, 0, 0] := by decide +kernel
theorem ex26P : (envB 2 2 [97, 98]).take 8 = [81, 83, 2, 2, 0, 2, 97, 98] ∧ (envB 2 2 [97, 98]).length = 12 := by
  have e : envB 2 2 [97, 98] = [81, 83, 2, 2, 0, 2, 97, 98] ++ leB 4 (crcS ([81, 83] ++ [2, 2] ++ [0] ++ [2] ++ [97, 98])) := by
    unfold envB sealB
    rw [pre2 (by decide), show (([97, 98] : List Int).length : Int) = 2 from rfl, enc7_2]
    rfl
  rw [e]
  exact ⟨List.take_left' rfl, by rw [List.length_append, leB_len]; rfl⟩
theorem ex26O : (envB 1 2 [97, 98]).take 10 = [81, 83, 1, 2, 2, 0, 0, 0, 97, 98] ∧ (envB 1 2 [97, 98]).length = 14 := by
  have e : envB 1 2 [97, 98] = [81, 83, 1, 2, 2, 0, 0, 0, 97, 98] ++ leB 4 (crcS ([81, 83] ++ [1, 2] ++ [2, 0, 0, 0] ++ [97, 98])) := by
    unfold envB sealB
    rw [pre1 (by decide), show (([97, 98] : List Int).length : Int) = 2 from rfl, enc3_2]
    rfl
  rw [e]
  exact ⟨List.take_left' rfl, by rw [List.length_append, leB_len]; rfl⟩
section
variable {w0 : World} {H : List Asn}
set_option maxHeartbeats 4000000 in
theorem alive26_c (w : World) (hw : St w0 H w) : Calls Tryz.prog 13 #[] w fun e w' => e = .returned (.bool true) ∧ St w0 H w' := by
  have ok2 : OKB [97, 98] := okb_small (by decide)
  have hP := env_EV (v := 2) (k := 2) (T := [97, 98]) (by decide) (by decide) ok2 (.inr (.inl rfl))
  have hO := env_EV (v := 1) (k := 2) (T := [97, 98]) (by decide) (by decide) ok2 (.inl rfl)
  obtain ⟨p8, p12⟩ := ex26P
  obtain ⟨o10, o14⟩ := ex26O
  have hPo := envB_okb 2 (k := 2) (by decide) ok2 (by decide)
  have hOo := envB_okb 1 (k := 2) (by decide) ok2 (by decide)
  refine enter (vs := []) Tryz.func13 rfl rfl rfl hw ?_
  clear hw w
  repeat (refine sx ?_; try intro _)
  refine JO_e (E_convSl (tb := tb) rfl rfl rfl (by repeat (first | exact Sel.here _ _ | apply Sel.there)) (by decide) rfl) ?_
  intro cu
  repeat (refine sx ?_; try intro _)
  rename_i pa
  refine JO_call Tryz.call15 rfl rfl fun w hw => (ENew_c 2 (by decide) false (some pa) 2 2 [97, 98] (roV_rd (by repeat (first | apply List.Mem.head | apply List.Mem.tail))) rfl ok2 (by decide) w hw).mono ?_
  rintro e w' (⟨hn, rfl, hw'⟩ | ⟨hy, q1, d1, rfl, hw'⟩)
  · exact absurd ⟨by decide, by decide⟩ hn
  rw [show vOf false = 2 from rfl, p12] at hw' ⊢
  (refine ⟨_, rfl, _, hw', ?_⟩; clear hw' hw w w')
  repeat (refine sx ?_; try intro _)
  refine JO_e (E_convSl (tb := tb) rfl rfl rfl (by repeat (first | exact Sel.here _ _ | apply Sel.there)) (by decide) rfl) ?_
  intro cu
  repeat (refine sx ?_; try intro _)
  rename_i pb
  refine JO_call Tryz.call14 rfl rfl fun w hw => (EOld_c 2 (by decide) (some pb) 2 2 [97, 98] (roV_rd (by repeat (first | apply List.Mem.head | apply List.Mem.tail))) rfl ok2 (by decide) w hw).mono ?_
  rintro e w' (⟨hn, rfl, hw'⟩ | ⟨hy2, q2, d2, rfl, hw'⟩)
  · exact absurd ⟨by decide, by decide⟩ hn
  rw [o14] at hw' ⊢
  (refine ⟨_, rfl, _, hw', ?_⟩; clear hw' hw w w')
  have hnil := fun {H'} {w : World} (h : Rd w0 H' (.slice q2 14 d2) 14 (ints .u8 (envB 1 2 [97, 98]))) (hw : St w0 H' w) => Rd.nil h hw
  repeat (refine sx ?_; try intro _)
  refine JO_call Tryz.call21 rfl rfl fun w hw => (EUp_c q2 d2 14 (envB 1 2 [97, 98]) (vec_rd (by repeat (first | apply List.Mem.head | apply List.Mem.tail))) o14 hOo (by decide) (hnil (vec_rd (by repeat (first | apply List.Mem.head | apply List.Mem.tail))) hw) w hw).mono ?_
  rintro e w' (⟨hn, rfl, hw'⟩ | ⟨v, k, T, q3, d3, hE, rfl, hw'⟩)
  · exact absurd hO (hn _ _ _)
  obtain ⟨rfl, rfl, rfl⟩ := hE.fun hO
  rw [p12] at hw' ⊢
  (refine ⟨_, rfl, _, hw', ?_⟩; clear hw' hw w w')
  repeat (refine sx ?_; try intro _)
  refine JO_call Tryz.call20 rfl rfl fun w hw => (EOpen_c q2 d2 14 (envB 1 2 [97, 98]) 2 (by decide) (vec_rd (by repeat (first | apply List.Mem.head | apply List.Mem.tail))) o14 hOo (by decide) (hnil (vec_rd (by repeat (first | apply List.Mem.head | apply List.Mem.tail))) hw) w hw).mono ?_
  rintro e w' (⟨hn, rfl, hw'⟩ | ⟨v, k, T, q4, d4, hE, hl, rfl, hw'⟩)
  · exact absurd (by decide) (hn _ _ _ hO)
  obtain ⟨rfl, rfl, rfl⟩ := hE.fun hO
  (refine ⟨_, rfl, _, hw', ?_⟩; clear hw' hw w w')
  generalize envB 2 2 [97, 98] = A at *
  generalize envB 1 2 [97, 98] = B at *
  have rA : ∀ {H' : List Asn}, Rd w0 H' (.slice q1 12 d1) 12 (ints .u8 A) → Rd w0 H' (.slice (subB q1 0 d1 1) (8 - 0) (d1 - 0)) (8 - 0) (ints .u8 [81, 83, 2, 2, 0, 2, 97, 98]) := fun h => by
    have := Rd_takeC (n := 8) h (by decide); rw [p8] at this; exact this
  have rB : ∀ {H' : List Asn}, Rd w0 H' (.slice q2 14 d2) 14 (ints .u8 B) → Rd w0 H' (.slice (subB q2 0 d2 1) (10 - 0) (d2 - 0)) (10 - 0) (ints .u8 [81, 83, 1, 2, 2, 0, 0, 0, 97, 98]) := fun h => by
    have := Rd_takeC (n := 10) h (by decide); rw [o10] at this; exact this
  have cA : ∀ {H' : List Asn} (h : Rd w0 H' (.slice q1 12 d1) 12 (ints .u8 A)) w, St w0 H' w → 12 ≤ d1 := fun h w hw => (h.lcap hw).1
  have cB : ∀ {H' : List Asn} (h : Rd w0 H' (.slice q2 14 d2) 14 (ints .u8 B)) w, St w0 H' w → 14 ≤ d2 := fun h w hw => (h.lcap hw).1
  repeat (first | (apply gJO; first | refine JO_v (V_slice (tb := tb) (lo := 0) (hi := 8) rfl rfl rfl rfl rfl rfl rfl (fun w hw => ⟨by omega, by have := cA (vec_rd (by repeat (first | apply List.Mem.head | apply List.Mem.tail))) w hw; omega⟩) rfl) ?_ | refine JO_v (V_slice (tb := tb) (lo := 0) (hi := 10) rfl rfl rfl rfl rfl rfl rfl (fun w hw => ⟨by omega, by have := cB (vec_rd (by repeat (first | apply List.Mem.head | apply List.Mem.tail))) w hw; omega⟩) rfl) ?_ | refine JO_v (V_str (tb := tb) rfl (rA (vec_rd (by repeat (first | apply List.Mem.head | apply List.Mem.tail)))) rfl rfl rfl rfl rfl) ?_ | refine JO_v (V_str (tb := tb) rfl (rB (vec_rd (by repeat (first | apply List.Mem.head | apply List.Mem.tail)))) rfl rfl rfl rfl rfl) ?_ | refine JO_v (V_str (tb := tb) rfl (vec_rd (cs := ints .u8 A) (by repeat (first | apply List.Mem.head | apply List.Mem.tail))) p12 rfl rfl rfl rfl) ?_ | refine JO_v (V_eqStr1 (s := bstr [81, 83, 2, 2, 0, 2, 97, 98]) rfl rfl rfl) ?_ | refine JO_v (V_eqStr1 (s := bstr [81, 83, 1, 2, 2, 0, 0, 0, 97, 98]) rfl rfl rfl) ?_ | refine JO_v (V_eqStr1 (s := bstr [97, 98]) rfl rfl rfl) ?_ | refine JO_v (V_eqStr1 (s := bstr A) rfl rfl rfl) ?_) | (refine sx ?_; try intro _))
  exact JS_ret Tryz.func13 rfl rfl fun w hw => ⟨rfl, dS hw⟩
end
end Go.Proofs.YteelffkghidpfaaGreat

namespace Go.Proofs.YteelffkghidpfaaGreat
open Sx Go
set_option linter.unusedVariables false
set_option linter.unusedSimpArgs false
set_option maxRecDepth 100000
end Go.Proofs.YteelffkghidpfaaGreat

namespace Go.Proofs.YteelffkghidpfaaGreat
open Sx Go
set_option linter.unusedVariables false
set_option linter.unusedSimpArgs false
set_option maxRecDepth 100000
set_option maxHeartbeats 8000000 in
theorem EnvelopeAlone_l (a0 a1 : Int) (p : Option Addr) (c m : Nat) (B : List Int) (a3 : Int) (np : Option Addr) (nc nm : Nat) (N : List Int) (w0 : World) (h0 : 0 ≤ a0 ∧ a0 < 256) (h1 : 0 ≤ a1 ∧ a1 < 256) (ha : ArgRd w0 (.slice p m c) m (ints .u8 B)) (hm : B.length = m) (hO : OKB B ∧ (p = none → m = 0) ∧ m ≤ 140737488351232) (h3 : -9223372036854775808 ≤ a3 ∧ a3 < 9223372036854775808) (hb : ArgRd w0 (.slice np nm nc) nm (ints .u8 N)) (hn : N.length = nm) (hN : OKB N ∧ (np = none → nm = 0) ∧ nm ≤ 140737488351232) :
    Calls Tryz.prog 6 #[.int .u8 a0, .int .u8 a1, .slice p m c, .int .i64 a3, .slice np nm nc] w0 fun e w' => e = .returned (.bool true) ∧ RowKit.Below w0.heap.size w0 w' := by
  obtain ⟨hTo, hpm, hm1⟩ := hO
  obtain ⟨hNo, hnpm, hnm1⟩ := hN
  subst hm hn
  refine enter (vs := [.int .u8 a0, .int .u8 a1, .slice p B.length c, .int .i64 a3, .slice np N.length nc]) Tryz.func6 rfl rfl rfl (St.start w0) ?_
  repeat (refine sx ?_; try intro _)
  refine JO_call Tryz.call13 rfl rfl fun w hw => (alive26_c w hw).mono ?_
  rintro e w' ⟨rfl, hw'⟩
  (refine ⟨_, rfl, _, hw', ?_⟩; clear hw' hw w w')
  have hcase : (200 < B.length) ∨ (¬ 200 < B.length ∧ 200 < N.length) ∨ (¬ 200 < B.length ∧ ¬ 200 < N.length) := by omega
  rcases hcase with hl | ⟨hl, hl2⟩ | ⟨hl, hl2⟩
  · repeat (refine sx ?_; try intro _)
    exact JS_ret Tryz.func6 rfl rfl fun w hw => ⟨rfl, hw.grown⟩
  · repeat (refine sx ?_; try intro _)
    exact JS_ret Tryz.func6 rfl rfl fun w hw => ⟨rfl, hw.grown⟩
  have hR := ha.rd []
  have hRN := fun H => hb.rd H
  generalize B = T at *
  obtain ⟨r0, hr0⟩ : ∃ r, a0 % 3 = r := ⟨_, rfl⟩
  obtain ⟨r1, hr1⟩ : ∃ r, a1 % 4 = r := ⟨_, rfl⟩
  have t0 : Int.tmod a0 3 = r0 := (Int.tmod_eq_emod_of_nonneg (by omega)).trans hr0
  have t1 : Int.tmod a1 4 = r1 := (Int.tmod_eq_emod_of_nonneg (by omega)).trans hr1
  have b0 : 0 ≤ r0 ∧ r0 < 3 := by omega
  have b1 : 0 ≤ r1 ∧ r1 < 4 := by omega
  obtain ⟨v, hve⟩ : ∃ v : Nat, 1 + r0 = (v : Int) := ⟨(1 + r0).toNat, by omega⟩
  have hv : v = 1 ∨ v = 2 ∨ v = 3 := by omega
  have cv : IntKind.i64.wrap (1 + r0) = (v : Int) := by rw [wi64 (by omega)]; exact hve
  have cr : IntKind.i64.wrap r0 = r0 := wi64 (by omega)
  obtain ⟨k, hke⟩ : ∃ k, 1 + r1 = k := ⟨_, rfl⟩
  have ck : IntKind.u8.wrap (1 + r1) = k := by rw [wu8 (by omega)]; exact hke
  have hkk : 1 ≤ k ∧ k ≤ 4 := by omega
  have hE := env_EV (v := v) (k := k) (T := T) hkk (by omega) hTo hv
  have hAo := envB_okb v (k := k) (by omega) hTo (by omega)
  have hAl := envB_le v k hTo
  have hAny := fun w hw => RAny_c (w0 := w0) (H := []) v hv k (by omega) p T.length c T hR rfl hTo (by omega) w hw
  generalize envB v k T = A at *
  repeat (first | (apply gJO; first | refine JO_v (V_rem rfl rfl (by decide) t0 rfl) ?_ | refine JO_v (V_rem rfl rfl (by decide) t1 rfl) ?_ | refine JO_v (V_conv (tb := tb) rfl rfl rfl cr rfl) ?_ | refine JO_v (V_add rfl rfl cv rfl) ?_ | refine JO_v (V_add rfl rfl ck rfl) ?_) | (refine sx ?_; try intro _))
  refine JO_call Tryz.call19 rfl rfl fun w hw => (hAny w hw).mono ?_
  rintro e w' ⟨q1, d1, rfl, hw'⟩
  (refine ⟨_, rfl, _, hw', ?_⟩; clear hw' hw w w')
  have hV : Rd w0 (vec 5 1 (.slice q1 A.length d1) A.length (ints .u8 A) :: []) (.slice q1 A.length d1) A.length (ints .u8 A) := vec_rd (List.Mem.head _)
  generalize vec 5 1 (.slice q1 A.length d1) A.length (ints .u8 A) :: ([] : List Asn) = Q at *
  repeat (first | apply hIc 6 | (refine sx ?_; try intro _))
  refine Hold.go ?_
  refine JS_seq ?_
  refine JS_join1 (fun (_ : Unit) => [(4, .slice np N.length nc), (11, .slice q1 A.length d1)]) (fun _ => Q) (fun _ => True) ?_ ?_
  · intro _ _
    by_cases hz : N.length = 0
    · repeat (refine sx ?_; try intro _)
      exact JS_ret Tryz.func6 rfl rfl fun w hw => ⟨rfl, hw.grown⟩
    repeat (refine sx ?_; try intro _)
    refine JO_app (tb := tb) (cs := ints .u8 []) rfl rfl rfl rfl rfl rfl (by repeat (first | exact Sel.here _ _ | apply Sel.there)) (Rd_weak hV fun w hw => dS hw) (by rw [ints_len, Nat.mul_one]) ints_one (by omega) rfl ?_
    intro q2 d2
    rw [ints_app, List.nil_append, Nat.zero_add]
    repeat (refine sx ?_; try intro _)
    refine JO_app (tb := tb) rfl rfl rfl rfl rfl rfl (by repeat (first | exact Sel.here _ _ | apply Sel.there)) (hRN _) (by rw [ints_len, Nat.mul_one]) ints_one (by omega) rfl ?_
    intro q3 d3
    rw [ints_app]
    repeat (refine sx ?_; try intro _)
    have hAN : (A ++ N).length = A.length + N.length := List.length_append
    have hno : ∀ v' k' T', EV (A ++ N) v' k' T' → (T'.length : Int) ≤ 1048576 → False := fun v' k' T' h _ => by
      have := hE.alone h
      rw [this] at hz
      exact hz rfl
    refine JO_call Tryz.call20 rfl rfl fun w hw => (EOpen_c q3 d3 (A.length + N.length) (A ++ N) 1048576 (by decide) (vec_rd (List.Mem.head _)) hAN (OKB_app hAo hNo) (by omega) (Rd.nil (cs := ints .u8 (A ++ N)) (vec_rd (List.Mem.head _)) hw) w hw).mono ?_
    rintro e w' (⟨_, rfl, hw'⟩ | ⟨v', k', T', q4, d4, hE', hl', _⟩)
    rotate_left
    · exact absurd hl' (hno _ _ _ hE')
    (refine ⟨_, rfl, _, hw', ?_⟩; clear hw' hw w w')
    repeat (refine sx ?_; try intro _)
    exact JS_ret Tryz.func6 rfl rfl fun w hw => ⟨rfl, hw.grown⟩
  · intro K
    have hgo := K () trivial
    have hcase : (¬ 0 ≤ a3) ∨ (0 ≤ a3 ∧ ¬ a3 < A.length) ∨ (0 ≤ a3 ∧ a3 < A.length) := by omega
    rcases hcase with hc | ⟨hc, hc2⟩ | ⟨hc, hc2⟩
    · repeat (first | (apply gJS; exact JS_weak hgo (by repeat (first | exact trivial | refine ⟨rfl, ?_⟩ | refine ⟨lookI rfl (by omega), ?_⟩)) (fun w hw => hw)) | (refine sx ?_; try intro _))
    · repeat (first | (apply gJS; exact JS_weak hgo (by repeat (first | exact trivial | refine ⟨rfl, ?_⟩ | refine ⟨lookI rfl (by omega), ?_⟩)) (fun w hw => hw)) | (refine sx ?_; try intro _))
    · obtain ⟨j, rfl⟩ := Int.eq_ofNat_of_zero_le hc
      have hcap := fun w hw => (hV.lcap (w := w) hw).1
      have hS := Rd_takeC (n := j) hV (by omega)
      have hXl : (A.take j).length = j - 0 := by rw [List.length_take]; omega
      have hXo := okb_take hAo j
      have hno : ∀ v' k' T', ¬ EV (A.take j) v' k' T' := fun v' k' T' h => by
        have hA2 : A = A.take j ++ A.drop j := (List.take_append_drop _ _).symm
        rw [hA2] at hE
        have h2 := congrArg List.length (h.alone hE)
        rw [List.length_drop, List.length_nil] at h2
        omega
      generalize A.take j = X at *
      repeat (first | (apply gJO; first | refine JO_v (V_slice (tb := tb) (lo := 0) (hi := j) rfl rfl rfl rfl rfl rfl rfl (fun w hw => ⟨by omega, by have := hcap w hw; omega⟩) rfl) ?_) | (refine sx ?_; try intro _))
      refine JO_call Tryz.call20 rfl rfl fun w hw => (EOpen_c _ _ (j - 0) X 1048576 (by decide) hS hXl hXo (by omega) (Rd.nil hS hw) w hw).mono ?_
      rintro e w' (⟨_, rfl, hw'⟩ | ⟨v', k', T', q4, d4, hE', _⟩)
      rotate_left
      · exact absurd hE' (hno _ _ _)
      (refine ⟨_, rfl, _, hw', ?_⟩; clear hw' hw w w')
      repeat (first | (apply gJO; first | refine JO_v (V_slice (tb := tb) (lo := 0) (hi := j) rfl rfl rfl rfl rfl rfl rfl (fun w hw => ⟨by omega, by have := hcap w hw; omega⟩) rfl) ?_) | (refine sx ?_; try intro _))
      refine JO_call Tryz.call23 rfl rfl fun w hw => (ROpen26_c _ _ (j - 0) X hS hXl hXo (by omega) w hw).mono ?_
      unfold ROpnR
      rintro e w' (⟨_, rfl, hw'⟩ | ⟨v', k', T', q, d, Q2, hE', _⟩)
      rotate_left
      · exact absurd hE' (hno _ _ _)
      (refine ⟨_, rfl, _, hw', ?_⟩; clear hw' hw w w')
      repeat (first | (apply gJS; exact JS_weak hgo (by repeat (first | exact trivial | refine ⟨rfl, ?_⟩ | refine ⟨lookI rfl (by omega), ?_⟩)) (fun w hw => hw)) | (refine sx ?_; try intro _))
end Go.Proofs.YteelffkghidpfaaGreat

namespace Go.Proofs.YteelffkghidpfaaGreat
open Sx Go Go.ChangeShapes Go.WideShapes
set_option linter.unusedVariables false
set_option linter.unusedSimpArgs false
theorem cell_lt {w : World} {a : Addr} {v : Value} (h : w.cell? a = some v) : a.block < w.heap.size := by
  rcases Nat.lt_or_ge a.block w.heap.size with h1 | h1
  · exact h1
  · simp [World.cell?, Array.getElem?_eq_none h1] at h
theorem argRd_mk {w0 : World} {u : Value} {m : Nat} {cs : List Value} (h1 : isSl u m) (h2 : ∀ j v, cs[j]? = some v → ∃ a, cellPtr u j = .pointer (some a) ∧ a.block < w0.heap.size ∧ w0.cell? a = some v) : ArgRd w0 u m cs := by
  unfold ArgRd; exact ⟨h1, h2⟩
def iv : Value → Int
  | .int _ n => n
  | _ => 0
theorem wfu8 {a : Int} (h : (Lit.int .u8 a).wf = true) : 0 ≤ a ∧ a < 256 := by
  simp only [Lit.wf, Bool.and_eq_true, decide_eq_true_eq] at h
  have h1 : IntKind.u8.min = 0 := by decide
  have h2 : IntKind.u8.max = 256 - 1 := by decide
  omega
end Go.Proofs.YteelffkghidpfaaGreat

namespace Go.Proofs.YteelffkghidpfaaGreat
open Sx Go Go.ChangeShapes Go.WideShapes
set_option linter.unusedVariables false
set_option linter.unusedSimpArgs false
theorem cells5 : Tryz.prog.cellsOf 5 = 1 := by kernel_rfl
set_option maxRecDepth 100000 in
theorem open_bytes {H : Type} {enc : TypeId × Value → H} {W : World} {base : Nat} {v : Value} {d : DataW H} {p : List MemPlace} (hval : Value.okWide Tryz.prog W .any base 22 v) (h : DataW.Trod enc Tryz.prog W 0 (fun _ => true) true 22 v d p) :
    ∃ (b : Option Addr) (c m : Nat) (B : List Int), v = .slice b m c ∧ ArgRd W (.slice b m c) m (ints .u8 B) ∧ B.length = m ∧ (OKB B ∧ (b = none → m = 0)) ∧ (m = 0 ∨ ∃ E S, d = .slice E S ∧ E.length = m) := by
  obtain ⟨b, m, c, rfl⟩ := okWide_slice Tryz.underlying22 hval
  obtain ⟨fuel, hf⟩ := h
  rcases Go.ChangeShapes.open_ints Tryz.underlying22 Tryz.underlying5 cells5 hf with ⟨hcs, _⟩ | ⟨a, len', cap', zs, hcs, _, hl, hm, hz, hx, hcell, hwz⟩
  · simp [Value.cells] at hcs
    obtain ⟨rfl, rfl, rfl⟩ := hcs
    exact ⟨none, 0, 0, [], rfl, argRd_mk ⟨none, 0, rfl, fun _ => rfl, Nat.le_refl _⟩ (fun j v h => by simp [ints] at h), rfl, ⟨fun j => by simp, fun _ => rfl⟩, .inl rfl⟩
  · simp [Value.cells] at hcs
    obtain ⟨rfl, rfl, rfl⟩ := hcs
    simp only [if_true] at hz
    refine ⟨some a, c, m, zs.take m, rfl, argRd_mk ⟨some a, c, rfl, (fun h => by cases h), hl⟩ (fun j v hv => ?_), by simp; omega, ⟨fun j => ?_, fun h => (by cases h)⟩, .inr ⟨_, _, congrArg Prod.fst hx, by simp [lits]; omega⟩⟩
    · have hj : j < m := by
        have := (List.getElem?_eq_some_iff.1 hv).1
        simp [ints] at this; omega
      have e : (ints .u8 (zs.take m))[j]? = some (.int .u8 (zs.getD j 0)) := by
        have := ints_get (K := .u8) (l := zs.take m) (j := j) (by simp; omega)
        rw [this]
        congr 2
        simp [List.getD_eq_getElem?_getD, List.getElem?_take, hj]
      rw [e] at hv
      obtain rfl := Option.some.inj hv
      exact ⟨a.add j, cellPtr_eq a m c j, by simpa using cell_lt (hcell j (by omega)), hcell j (by omega)⟩
    · rcases Nat.lt_or_ge j m with hj | hj
      · have : (zs.take m).getD j 0 = zs[j]'(by omega) := by simp [List.getD_eq_getElem?_getD, List.getElem?_take, hj, show j < zs.length by omega]
        rw [this]
        exact wfu8 (hwz _ (List.getElem_mem _))
      · have : (zs.take m).getD j 0 = 0 := by
          rw [List.getD_eq_getElem?_getD, List.getElem?_eq_none (by simp; omega)]; rfl
        rw [this]; decide
end Go.Proofs.YteelffkghidpfaaGreat

namespace Go.Proofs.YteelffkghidpfaaGreat
open Sx Go
set_option linter.unusedVariables false
set_option linter.unusedSimpArgs false
set_option maxRecDepth 100000
end Go.Proofs.YteelffkghidpfaaGreat
