import Derived.Test.YtakgoflfcgofdaaP6
namespace Go.Proofs.Ytakgoflfcgofdaa
open Sx Go
set_option linter.unusedVariables false
set_option linter.unusedSimpArgs false
attribute [local irreducible] syA
/-! ## bytes in stored blocks -/
theorem nbt_app (bt : Nat → Int) (a c : Nat) : ∀ d, nbt bt a (c + d) = nbt bt a c + nbt bt (a + c) d * 2 ^ c
  | 0 => by simp [nbt]
  | d + 1 => by
    rw [← Nat.add_assoc, nbt, nbt_app bt a c d, nbt, show a + (c + d) = a + c + d by omega, Int.pow_add, Int.add_mul, Int.add_assoc, Int.mul_assoc, Int.mul_comm (2 ^ d) (2 ^ c)]
theorem nbt_16 (B : List Int) (hB : OKB B) (j : Nat) : nbt (bitB B 0) (8 * j) 16 = B.getD j 0 + 256 * B.getD (j + 1) 0 := by
  rw [show (16 : Nat) = 8 + 8 from rfl, nbt_app, nbt_byte B hB j, show 8 * j + 8 = 8 * (j + 1) by omega, nbt_byte B hB (j + 1)]
  have : (2 : Int) ^ 8 = 256 := by decide
  rw [this]; omega
theorem nbt_hd (B : List Int) (hB : OKB B) (j : Nat) : nbt (bitB B 0) (8 * j) 1 = B.getD j 0 % 2 ∧ nbt (bitB B 0) (8 * j + 1) 2 = B.getD j 0 / 2 % 4 := by
  have h := hB j
  simp only [nbt, bitB, Nat.zero_add]
  have e : ∀ t, t < 8 → (8 * j + t) / 8 = j ∧ (8 * j + t) % 8 = t := fun t ht => by omega
  rw [(e 0 (by omega)).1, (e 0 (by omega)).2, show 8 * j + 1 + 0 = 8 * j + 1 from rfl, show 8 * j + 1 + 1 = 8 * j + 2 from rfl, (e 1 (by omega)).1, (e 1 (by omega)).2, (e 2 (by omega)).1, (e 2 (by omega)).2]
  simp only [Int.reducePow]
  omega
/-- a stored block that is not the last one -/
def stb (X : List Int) : List Int := [0, (X.length : Int) % 256, (X.length : Int) / 256, 255 - (X.length : Int) % 256, 255 - (X.length : Int) / 256] ++ X
def stbs : List (List Int) → List Int
  | [] => []
  | X :: r => stb X ++ stbs r
def alls : List (List Int) → List Int
  | [] => []
  | X :: r => X ++ alls r
theorem getD_app_r {A C : List Int} {k : Nat} : (A ++ C).getD (A.length + k) 0 = C.getD k 0 := by
  rw [List.getD_eq_getElem?_getD, List.getElem?_append_right (by omega), ← List.getD_eq_getElem?_getD]
  congr 1; omega
theorem stb_len (X : List Int) : (stb X).length = 5 + X.length := by simp [stb]; omega
theorem sto_step {P X S : List Int} {lim : Nat} {o : List Int} (hB : OKB (P ++ (stb X ++ S))) (hX : X.length ≤ 2000) (hl : o.length + X.length ≤ lim) :
    rdF (bitB (P ++ (stb X ++ S)) 0) (8 * (P ++ (stb X ++ S)).length) lim (8 * P.length) o = .go (8 * (P.length + (5 + X.length))) (o ++ X) := by
  obtain ⟨B, hBe⟩ : ∃ B, P ++ (stb X ++ S) = B := ⟨_, rfl⟩
  have hlen : B.length = P.length + (5 + X.length) + S.length := by rw [← hBe]; simp only [List.length_append, stb_len]; omega
  have g : ∀ k, k < 5 → B.getD (P.length + k) 0 = (stb X).getD k 0 := by
    intro k hk
    rw [← hBe, getD_app_r, List.getD_eq_getElem?_getD, List.getElem?_append_left (by rw [stb_len]; omega), ← List.getD_eq_getElem?_getD]
  have g0 : B.getD P.length 0 = 0 := by have := g 0 (by omega); simpa [stb] using this
  have g1 : B.getD (P.length + 1) 0 = (X.length : Int) % 256 := by rw [g 1 (by omega)]; simp [stb]
  have g2 : B.getD (P.length + 2) 0 = (X.length : Int) / 256 := by rw [g 2 (by omega)]; simp [stb]
  have g3 : B.getD (P.length + 3) 0 = 255 - (X.length : Int) % 256 := by rw [g 3 (by omega)]; simp [stb]
  have g4 : B.getD (P.length + 4) 0 = 255 - (X.length : Int) / 256 := by rw [g 4 (by omega)]; simp [stb]
  rw [hBe] at hB ⊢
  have hrow : (B.drop (P.length + 5)).take X.length = X := by
    rw [← hBe, ← List.drop_drop, List.drop_left]
    unfold stb
    rw [List.append_assoc, List.drop_append_of_le_length (by simp)]
    simp
  obtain ⟨h1, h2⟩ := nbt_hd B hB P.length
  have hu : upto8 (8 * P.length + 3) = 8 * (P.length + 1) := by unfold upto8; omega
  have n1 : nbt (bitB B 0) (8 * (P.length + 1)) 16 = X.length := by rw [nbt_16 B hB, g1, show P.length + 1 + 1 = P.length + 2 from rfl, g2]; omega
  have n2 : nbt (bitB B 0) (8 * (P.length + 1) + 16) 16 = 65535 - X.length := by rw [show 8 * (P.length + 1) + 16 = 8 * (P.length + 3) by omega, nbt_16 B hB, g3, show P.length + 3 + 1 = P.length + 4 from rfl, g4]; omega
  have hby : byts (bitB B 0) (8 * (P.length + 1) + 32) X.length = X := by
    rw [show 8 * (P.length + 1) + 32 = 8 * (P.length + 5) by omega, byts_eq B hB _ _ (by omega), hrow]
  have hk : kndF (bitB B 0) (8 * B.length) lim 0 (8 * P.length + 3) o = .ok (8 * (P.length + (5 + X.length))) (o ++ X) := by
    unfold kndF
    rw [if_pos rfl]
    unfold stoF
    rw [hu, n1, n2, if_neg (by omega), if_neg (by omega), if_neg (by omega), if_neg (by omega), if_neg (by omega), Int.toNat_natCast, hby]
    congr 1; omega
  unfold rdF
  rw [if_neg (by omega), if_neg (by omega), h1, h2, g0, show (0 : Int) / 2 % 4 = 0 by decide, hk]
  simp only
  rw [if_pos (by decide)]
theorem fix_end {P S : List Int} {lim : Nat} {o : List Int} (hB : OKB (P ++ (3 :: 0 :: S))) :
    rdF (bitB (P ++ (3 :: 0 :: S)) 0) (8 * (P ++ (3 :: 0 :: S)).length) lim (8 * P.length) o = .stop (8 * P.length + 10) o := by
  obtain ⟨B, hBe⟩ : ∃ B, P ++ (3 :: 0 :: S) = B := ⟨_, rfl⟩
  have hlen : B.length = P.length + 2 + S.length := by rw [← hBe]; simp; omega
  have g0 : B.getD P.length 0 = 3 := by have := getD_app_r (A := P) (C := 3 :: 0 :: S) (k := 0); rw [hBe] at this; simpa using this
  have g1 : B.getD (P.length + 1) 0 = 0 := by have := getD_app_r (A := P) (C := 3 :: 0 :: S) (k := 1); rw [hBe] at this; simpa using this
  rw [hBe] at hB ⊢
  obtain ⟨h1, h2⟩ := nbt_hd B hB P.length
  have hbits : ∀ j, j < 7 → bitB B 0 (8 * P.length + 3 + j) = 0 := by
    intro j hj
    unfold bitB
    rw [Nat.zero_add]
    rcases Nat.lt_or_ge j 5 with h | h
    · rw [show (8 * P.length + 3 + j) / 8 = P.length by omega, show (8 * P.length + 3 + j) % 8 = 3 + j by omega, g0]
      have : ∀ j : Fin 5, (3 : Int) / 2 ^ (3 + j.val) % 2 = 0 := by decide
      exact this ⟨j, h⟩
    · rw [show (8 * P.length + 3 + j) / 8 = P.length + 1 by omega, g1]; simp
  have hbv : bval (fun j => bitB B 0 (8 * P.length + 3 + j)) 7 = 0 := by
    simp only [bval]
    rw [hbits 0 (by omega), hbits 1 (by omega), hbits 2 (by omega), hbits 3 (by omega), hbits 4 (by omega), hbits 5 (by omega), hbits 6 (by omega)]
    decide
  have hsy : symS (bitB B 0) (8 * B.length) (tab 288 fixF) (8 * P.length + 3) = .ok 256 (8 * P.length + 10) := by
    have h := symS_of (bt := bitB B 0) (N := 8 * B.length) (a := 8 * P.length + 3) fix_okb fix_okl (bitB_01 _ _) (i := 256) (u := 7) (r := 0)
      (.inl ⟨256, rfl, rfl, ⟨7, by decide +kernel, by decide, by decide +kernel, by omega, by rw [hbv]; decide +kernel⟩, by decide +kernel⟩)
    rw [if_pos rfl] at h
    exact h
  have hb : blkF (bitB B 0) (8 * B.length) lim (tab 288 fixF) (List.replicate 32 5) (8 * P.length + 3) o = .stop (8 * P.length + 10) o := by
    unfold blkF; rw [hsy]; rfl
  have hk : kndF (bitB B 0) (8 * B.length) lim 1 (8 * P.length + 3) o = .ok (8 * P.length + 10) o := itF_of (.stop hb)
  unfold rdF
  rw [if_neg (by omega), if_neg (by omega), h1, h2, g0, show (3 : Int) / 2 % 4 = 1 by decide, hk]
  simp only
  rw [if_neg (by decide)]
theorem stored_It {lim : Nat} {S : List Int} : ∀ (R : List (List Int)) (P o : List Int), OKB (P ++ (stbs R ++ (3 :: 0 :: S))) → (∀ X ∈ R, X.length ≤ 2000) → o.length + (alls R).length ≤ lim →
    It (rdF (bitB (P ++ (stbs R ++ (3 :: 0 :: S))) 0) (8 * (P ++ (stbs R ++ (3 :: 0 :: S))).length) lim) (8 * P.length) o (.ok (8 * (P.length + (stbs R).length) + 10) (o ++ alls R))
  | [], P, o, hB, _, _ => by
    simp only [stbs, alls, List.nil_append, List.append_nil, List.length_nil, Nat.add_zero] at hB ⊢
    exact .stop (fix_end hB)
  | X :: R, P, o, hB, hR, hl => by
    simp only [stbs, alls, List.append_assoc] at hB hl ⊢
    have hX := hR X (by simp)
    rw [List.length_append] at hl
    have h1 := sto_step (P := P) (X := X) (S := stbs R ++ (3 :: 0 :: S)) (o := o) (lim := lim) hB hX (by omega)
    have h2 := stored_It (S := S) (lim := lim) R (P ++ stb X) (o ++ X) (by rw [List.append_assoc]; exact hB) (fun Y hY => hR Y (by simp [hY])) (by rw [List.length_append]; omega)
    have e0 : (P ++ stb X).length = P.length + (5 + X.length) := by rw [List.length_append, stb_len]
    have e1 : P ++ stb X ++ (stbs R ++ 3 :: 0 :: S) = P ++ (stb X ++ (stbs R ++ 3 :: 0 :: S)) := List.append_assoc ..
    have e2 : o ++ X ++ alls R = o ++ (X ++ alls R) := List.append_assoc ..
    rw [e0, e1, e2] at h2
    refine .go h1 ?_
    have e : P.length + (stb X ++ stbs R).length = P.length + (5 + X.length) + (stbs R).length := by rw [List.length_append, stb_len]; omega
    rw [e]
    exact h2
theorem ALLR_stored {R : List (List Int)} {lim : Nat} (hB : OKB (stbs R ++ [3, 0])) (hR : ∀ X ∈ R, X.length ≤ 2000) (hl : (alls R).length ≤ lim) : ALLR (stbs R ++ [3, 0]) lim (.ok (8 * (stbs R).length + 10) (alls R)) := by
  have := stored_It (lim := lim) (S := []) R [] [] (by simpa using hB) hR (by simpa using hl)
  have e : 8 * (([] : List Int).length + (stbs R).length) + 10 = 8 * (stbs R).length + 10 := by simp
  rw [e] at this
  unfold ALLR
  exact this
/-- a stored block of nothing, with any check -/
theorem ALLR_spoil (s : Nat) (hs : s < 65536) : ALLR [1, 0, 0, ((s % 256 : Nat) : Int), ((s / 256 : Nat) : Int)] 9 (if s = 65535 then .ok 40 [] else .err 61) := by
  obtain ⟨B, hBe⟩ : ∃ B : List Int, [1, 0, 0, ((s % 256 : Nat) : Int), ((s / 256 : Nat) : Int)] = B := ⟨_, rfl⟩
  have hB : OKB B := by
    intro j
    rw [← hBe]
    rcases (show j = 0 ∨ j = 1 ∨ j = 2 ∨ j = 3 ∨ j = 4 ∨ 5 ≤ j by omega) with rfl | rfl | rfl | rfl | rfl | h
    · simp
    · simp
    · simp
    · simp; omega
    · simp; omega
    · rw [List.getD_eq_getElem?_getD, List.getElem?_eq_none (by simp; omega)]; simp
  have g0 : B.getD 0 0 = 1 := by rw [← hBe]; rfl
  have g1 : B.getD 1 0 = 0 := by rw [← hBe]; rfl
  have g2 : B.getD 2 0 = 0 := by rw [← hBe]; rfl
  have g3 : B.getD 3 0 = ((s % 256 : Nat) : Int) := by rw [← hBe]; rfl
  have g4 : B.getD 4 0 = ((s / 256 : Nat) : Int) := by rw [← hBe]; rfl
  have hlen : B.length = 5 := by rw [← hBe]; rfl
  rw [hBe]
  obtain ⟨h1, h2⟩ := nbt_hd B hB 0
  have n1 : nbt (bitB B 0) 8 16 = 0 := by have := nbt_16 B hB 1; rw [g1, g2] at this; exact this
  have n2 : nbt (bitB B 0) 24 16 = s := by have := nbt_16 B hB 3; rw [g3, g4] at this; rw [show (24 : Nat) = 8 * 3 from rfl, this]; omega
  have hk : kndF (bitB B 0) 40 9 0 3 [] = if s = 65535 then .ok 40 [] else .err 61 := by
    unfold kndF
    rw [if_pos rfl]
    unfold stoF
    rw [show upto8 3 = 8 from rfl, show (8 : Nat) + 16 = 24 from rfl, n1, n2, if_neg (by omega), if_neg (by omega)]
    by_cases h : s = 65535
    · rw [if_neg (by omega), if_neg (by simp), if_neg (by omega), if_pos h]; rfl
    · rw [if_pos (by omega), if_neg h]
  have hr : rdF (bitB B 0) 40 9 0 [] = if s = 65535 then .stop 40 [] else .err 61 := by
    unfold rdF
    rw [if_neg (by omega), if_neg (by omega), show (0 : Nat) = 8 * 0 from rfl, h1, h2, g0, show (1 : Int) / 2 % 4 = 0 by decide, show 8 * 0 + 3 = 3 from rfl, hk]
    by_cases h : s = 65535
    · rw [if_pos h, if_pos h]; simp
    · rw [if_neg h, if_neg h]
  unfold ALLR
  rw [hlen]
  by_cases h : s = 65535
  · rw [if_pos h] at hr ⊢; exact .stop hr
  · rw [if_neg h] at hr ⊢; exact .err hr
end Go.Proofs.Ytakgoflfcgofdaa
