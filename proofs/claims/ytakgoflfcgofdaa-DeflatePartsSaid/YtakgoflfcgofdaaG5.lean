import Derived.Test.YtakgoflfcgofdaaG4
namespace Go.Proofs.Ytakgoflfcgofdaa
open Sx Go
set_option linter.unusedVariables false
set_option linter.unusedSimpArgs false
attribute [local irreducible] syA
/-! ## bytes in stored blocks -/
theorem nbt_app (bt : Nat → Int) (a c : Nat) : ∀ d, nbt bt a (c + d) = nbt bt a c + nbt bt (a + c) d * 2 ^ c
  | 0 => by simp [nbt]
  | d + 1 => by
    rw [← Nat.add_assoc, nbt, nbt_app bt a c d, nbt, show a + (c + d) = a + c + d by omega, Int.pow_add, Int.add_mul, Int.add_assoc, Int.mul_assoc, Int.mul_comm (2 ^ d) (2 ^ c)]
theorem nbt_16 (B : List Int) (hB : OKB B) (j : Nat) : nbt (bitB B 0) (8 * j) 16 = B.getD j 0 + 256 * B.getD (j + 1) 0 := by
  rw [show (16 : Nat) = 8 + 8 from rfl, nbt_app, nbt_byte B hB j, show 8 * j + 8 = 8 * (j + 1) by omega, nbt_byte B hB (j + 1)]
  have : (2 : Int) ^ 8 = 256 := by decide
  rw [this]; omega
theorem nbt_hd (B : List Int) (hB : OKB B) (j : Nat) : nbt (bitB B 0) (8 * j) 1 = B.getD j 0 % 2 ∧ nbt (bitB B 0) (8 * j + 1) 2 = B.getD j 0 / 2 % 4 := by
  have h := hB j
  simp only [nbt, bitB, Nat.zero_add]
  have e : ∀ t, t < 8 → (8 * j + t) / 8 = j ∧ (8 * j + t) % 8 = t := fun t ht => by omega
  rw [(e 0 (by omega)).1, (e 0 (by omega)).2, show 8 * j + 1 + 0 = 8 * j + 1 from rfl, show 8 * j + 1 + 1 = 8 * j + 2 from rfl, (e 1 (by omega)).1, (e 1 (by omega)).2, (e 2 (by omega)).1, (e 2 (by omega)).2]
  simp only [Int.reducePow]
  omega
/-- a stored block that is not the last one -/
def stb (X : List Int) : List Int := [0, (X.length : Int) % 256, (X.length : Int) / 256, 255 - (X.length : Int) % 256, 255 - (X.length : Int) / 256] ++ X
def stbs : List (List Int) → List Int
  | [] => []
  | X :: r => stb X ++ stbs r
def alls : List (List Int) → List Int
  | [] => []
  | X :: r => X ++ alls r
theorem getD_app_r {A C : List Int} {k : Nat} : (A ++ C).getD (A.length + k) 0 = C.getD k 0 := by
  rw [List.getD_eq_getElem?_getD, List.getElem?_append_right (by omega), ← List.getD_eq_getElem?_getD]
  congr 1; omega
theorem stb_len (X : List Int) : (stb X).length = 5 + X.length := by simp [stb]; omega
theorem sto_step {P X S : List Int} {lim : Nat} {o : List Int} (hB : OKB (P ++ (stb X ++ S))) (hX : X.length ≤ 2000) (hl : o.length + X.length ≤ lim) :
    rdF (bitB (P ++ (stb X ++ S)) 0) (8 * (P ++ (stb X ++ S)).length) lim (8 * P.length) o = .go (8 * (P.length + (5 + X.length))) (o ++ X) := by
  obtain ⟨B, hBe⟩ : ∃ B, P ++ (stb X ++ S) = B := ⟨_, rfl⟩
  have hlen : B.length = P.length + (5 + X.length) + S.length := by rw [← hBe]; simp only [List.length_append, stb_len]; omega
  have g : ∀ k, k < 5 → B.getD (P.length + k) 0 = (stb X).getD k 0 := by
    intro k hk
    rw [← hBe, getD_app_r, List.getD_eq_getElem?_getD, List.getElem?_append_left (by rw [stb_len]; omega), ← List.getD_eq_getElem?_getD]
  have g0 : B.getD P.length 0 = 0 := by have := g 0 (by omega); simpa [stb] using this
  have g1 : B.getD (P.length + 1) 0 = (X.length : Int) % 256 := by rw [g 1 (by omega)]; simp [stb]
  have g2 : B.getD (P.length + 2) 0 = (X.length : Int) / 256 := by rw [g 2 (by omega)]; simp [stb]
  have g3 : B.getD (P.length + 3) 0 = 255 - (X.length : Int) % 256 := by rw [g 3 (by omega)]; simp [stb]
  have g4 : B.getD (P.length + 4) 0 = 255 - (X.length : Int) / 256 := by rw [g 4 (by omega)]; simp [stb]
  rw [hBe] at hB ⊢
  have hrow : (B.drop (P.length + 5)).take X.length = X := by
    rw [← hBe, ← List.drop_drop, List.drop_left]
    unfold stb
    rw [List.append_assoc, List.drop_append_of_le_length (by simp)]
    simp
  obtain ⟨h1, h2⟩ := nbt_hd B hB P.length
  have hu : upto8 (8 * P.length + 3) = 8 * (P.length + 1) := by unfold upto8; omega
  have n1 : nbt (bitB B 0) (8 * (P.length + 1)) 16 = X.length := by rw [nbt_16 B hB, g1, show P.length + 1 + 1 = P.length + 2 from rfl, g2]; omega
  have n2 : nbt (bitB B 0) (8 * (P.length + 1) + 16) 16 = 65535 - X.length := by rw [show 8 * (P.length + 1) + 16 = 8 * (P.length + 3) by omega, nbt_16 B hB, g3, show P.length + 3 + 1 = P.length + 4 from rfl, g4]; omega
  have hby : byts (bitB B 0) (8 * (P.length + 1) + 32) X.length = X := by
    rw [show 8 * (P.length + 1) + 32 = 8 * (P.length + 5) by omega, byts_eq B hB _ _ (by omega), hrow]
  have hk : kndF (bitB B 0) (8 * B.length) lim 0 (8 * P.length + 3) o = .ok (8 * (P.length + (5 + X.length))) (o ++ X) := by
    unfold kndF
    rw [if_pos rfl]
    unfold stoF
    rw [hu, n1, n2, if_neg (by omega), if_neg (by omega), if_neg (by omega), if_neg (by omega), if_neg (by omega), Int.toNat_natCast, hby]
    congr 1; omega
  unfold rdF
  rw [if_neg (by omega), if_neg (by omega), h1, h2, g0, show (0 : Int) / 2 % 4 = 0 by decide, hk]
  simp only
  rw [if_pos (by decide)]
theorem fix_end {P S : List Int} {lim : Nat} {o : List Int} (hB : OKB (P ++ (3 :: 0 :: S))) :
    rdF (bitB (P ++ (3 :: 0 :: S)) 0) (8 * (P ++ (3 :: 0 :: S)).length) lim (8 * P.length) o = .stop (8 * P.length + 10) o := by
  obtain ⟨B, hBe⟩ : ∃ B, P ++ (3 :: 0 :: S) = B := ⟨_, rfl⟩
  have hlen : B.length = P.length + 2 + S.length := by rw [← hBe]; simp; omega
  have g0 : B.getD P.length 0 = 3 := by have := getD_app_r (A := P) (C := 3 :: 0 :: S) (k := 0); rw [hBe] at this; simpa using this
  have g1 : B.getD (P.length + 1) 0 = 0 := by have := getD_app_r (A := P) (C := 3 :: 0 :: S) (k := 1); rw [hBe] at this; simpa using this
  rw [hBe] at hB ⊢
  obtain ⟨h1, h2⟩ := nbt_hd B hB P.length
  have hbits : ∀ j, j < 7 → bitB B 0 (8 * P.length + 3 + j) = 0 := by
    intro j hj
    unfold bitB
    rw [Nat.zero_add]
    rcases Nat.lt_or_ge j 5 with h | h
    · rw [show (8 * P.length + 3 + j) / 8 = P.length by omega, show (8 * P.length + 3 + j) % 8 = 3 + j by omega, g0]
      have : ∀ j : Fin 5, (3 : Int) / 2 ^ (3 + j.val) % 2 = 0 := by decide
      exact this ⟨j, h⟩
    · rw [show (8 * P.length + 3 + j) / 8 = P.length + 1 by omega, g1]; simp
  have hbv : bval (fun j => bitB B 0 (8 * P.length + 3 + j)) 7 = 0 := by
    simp only [bval]
    rw [hbits 0 (by omega), hbits 1 (by omega), hbits 2 (by omega), hbits 3 (by omega), hbits 4 (by omega), hbits 5 (by omega), hbits 6 (by omega)]
    decide
  have hsy : symS (bitB B 0) (8 * B.length) (tab 288 fixF) (8 * P.length + 3) = .ok 256 (8 * P.length + 10) := by
    have h := symS_of (bt := bitB B 0) (N := 8 * B.length) (a := 8 * P.length + 3) fix_okb fix_okl (bitB_01 _ _) (i := 256) (u := 7) (r := 0)
      (.inl ⟨256, rfl, rfl, ⟨7, by decide +kernel, by decide, by decide +kernel, by omega, by rw [hbv]; decide +kernel⟩, by decide +kernel⟩)
    rw [if_pos rfl] at h
    exact h
  have hb : blkF (bitB B 0) (8 * B.length) lim (tab 288 fixF) (List.replicate 32 5) (8 * P.length + 3) o = .stop (8 * P.length + 10) o := by
    unfold blkF; rw [hsy]; rfl
  have hk : kndF (bitB B 0) (8 * B.length) lim 1 (8 * P.length + 3) o = .ok (8 * P.length + 10) o := itF_of (.stop hb)
  unfold rdF
  rw [if_neg (by omega), if_neg (by omega), h1, h2, g0, show (3 : Int) / 2 % 4 = 1 by decide, hk]
  simp only
  rw [if_neg (by decide)]
theorem stored_It {lim : Nat} {S : List Int} : ∀ (R : List (List Int)) (P o : List Int), OKB (P ++ (stbs R ++ (3 :: 0 :: S))) → (∀ X ∈ R, X.length ≤ 2000) → o.length + (alls R).length ≤ lim →
    It (rdF (bitB (P ++ (stbs R ++ (3 :: 0 :: S))) 0) (8 * (P ++ (stbs R ++ (3 :: 0 :: S))).length) lim) (8 * P.length) o (.ok (8 * (P.length + (stbs R).length) + 10) (o ++ alls R))
  | [], P, o, hB, _, _ => by
    simp only [stbs, alls, List.nil_append, List.append_nil, List.length_nil, Nat.add_zero] at hB ⊢
    exact .stop (fix_end hB)
  | X :: R, P, o, hB, hR, hl => by
    simp only [stbs, alls, List.append_assoc] at hB hl ⊢
    have hX := hR X (by simp)
    rw [List.length_append] at hl
    have h1 := sto_step (P := P) (X := X) (S := stbs R ++ (3 :: 0 :: S)) (o := o) (lim := lim) hB hX (by omega)
    have h2 := stored_It (S := S) (lim := lim) R (P ++ stb X) (o ++ X) (by rw [List.append_assoc]; exact hB) (fun Y hY => hR Y (by simp [hY])) (by rw [List.length_append]; omega)
    have e0 : (P ++ stb X).length = P.length + (5 + X.length) := by rw [List.length_append, stb_len]
    have e1 : P ++ stb X ++ (stbs R ++ 3 :: 0 :: S) = P ++ (stb X ++ (stbs R ++ 3 :: 0 :: S)) := List.append_assoc ..
    have e2 : o ++ X ++ alls R = o ++ (X ++ alls R) := List.append_assoc ..
    rw [e0, e1, e2] at h2
    refine .go h1 ?_
    have e : P.length + (stb X ++ stbs R).length = P.length + (5 + X.length) + (stbs R).length := by rw [List.length_append, stb_len]; omega
    rw [e]
    exact h2
theorem ALLR_stored {R : List (List Int)} {lim : Nat} (hB : OKB (stbs R ++ [3, 0])) (hR : ∀ X ∈ R, X.length ≤ 2000) (hl : (alls R).length ≤ lim) : ALLR (stbs R ++ [3, 0]) lim (.ok (8 * (stbs R).length + 10) (alls R)) := by
  have := stored_It (lim := lim) (S := []) R [] [] (by simpa using hB) hR (by simpa using hl)
  have e : 8 * (([] : List Int).length + (stbs R).length) + 10 = 8 * (stbs R).length + 10 := by simp
  rw [e] at this
  unfold ALLR
  exact this
/-- a stored block of nothing, with any check -/
theorem ALLR_spoil (s : Nat) (hs : s < 65536) : ALLR [1, 0, 0, ((s % 256 : Nat) : Int), ((s / 256 : Nat) : Int)] 9 (if s = 65535 then .ok 40 [] else .err 61) := by
  obtain ⟨B, hBe⟩ : ∃ B : List Int, [1, 0, 0, ((s % 256 : Nat) : Int), ((s / 256 : Nat) : Int)] = B := ⟨_, rfl⟩
  have hB : OKB B := by
    intro j
    rw [← hBe]
    rcases (show j = 0 ∨ j = 1 ∨ j = 2 ∨ j = 3 ∨ j = 4 ∨ 5 ≤ j by omega) with rfl | rfl | rfl | rfl | rfl | h
    · simp
    · simp
    · simp
    · simp; omega
    · simp; omega
    · rw [List.getD_eq_getElem?_getD, List.getElem?_eq_none (by simp; omega)]; simp
  have g0 : B.getD 0 0 = 1 := by rw [← hBe]; rfl
  have g1 : B.getD 1 0 = 0 := by rw [← hBe]; rfl
  have g2 : B.getD 2 0 = 0 := by rw [← hBe]; rfl
  have g3 : B.getD 3 0 = ((s % 256 : Nat) : Int) := by rw [← hBe]; rfl
  have g4 : B.getD 4 0 = ((s / 256 : Nat) : Int) := by rw [← hBe]; rfl
  have hlen : B.length = 5 := by rw [← hBe]; rfl
  rw [hBe]
  obtain ⟨h1, h2⟩ := nbt_hd B hB 0
  have n1 : nbt (bitB B 0) 8 16 = 0 := by have := nbt_16 B hB 1; rw [g1, g2] at this; exact this
  have n2 : nbt (bitB B 0) 24 16 = s := by have := nbt_16 B hB 3; rw [g3, g4] at this; rw [show (24 : Nat) = 8 * 3 from rfl, this]; omega
  have hk : kndF (bitB B 0) 40 9 0 3 [] = if s = 65535 then .ok 40 [] else .err 61 := by
    unfold kndF
    rw [if_pos rfl]
    unfold stoF
    rw [show upto8 3 = 8 from rfl, show (8 : Nat) + 16 = 24 from rfl, n1, n2, if_neg (by omega), if_neg (by omega)]
    by_cases h : s = 65535
    · rw [if_neg (by omega), if_neg (by simp), if_neg (by omega), if_pos h]; rfl
    · rw [if_pos (by omega), if_neg h]
  have hr : rdF (bitB B 0) 40 9 0 [] = if s = 65535 then .stop 40 [] else .err 61 := by
    unfold rdF
    rw [if_neg (by omega), if_neg (by omega), show (0 : Nat) = 8 * 0 from rfl, h1, h2, g0, show (1 : Int) / 2 % 4 = 0 by decide, show 8 * 0 + 3 = 3 from rfl, hk]
    by_cases h : s = 65535
    · rw [if_pos h, if_pos h]; simp
    · rw [if_neg h, if_neg h]
  unfold ALLR
  rw [hlen]
  by_cases h : s = 65535
  · rw [if_pos h] at hr ⊢; exact .stop hr
  · rw [if_neg h] at hr ⊢; exact .err hr
end Go.Proofs.Ytakgoflfcgofdaa

set_option linter.unusedVariables false
set_option linter.unusedSimpArgs false
namespace Go.Proofs.Ytakgoflfcgofdaa
open Sx Go
attribute [local irreducible] syA
/-! ## stored blocks are read as they are -/
theorem hd5_len (la n : Int) : (hd5 la n).length = 5 := rfl
theorem sto_stepL {P X S : List Int} {lim : Nat} {o : List Int} {la : Int} (hla : la = 0 ∨ la = 1) (hB : OKB (P ++ (hd5 la X.length ++ X ++ S))) (hX : X.length ≤ 65535) (hl : o.length + X.length ≤ lim) :
    rdF (bitB (P ++ (hd5 la X.length ++ X ++ S)) 0) (8 * (P ++ (hd5 la X.length ++ X ++ S)).length) lim (8 * P.length) o = if la = 0 then .go (8 * (P.length + (5 + X.length))) (o ++ X) else .stop (8 * (P.length + (5 + X.length))) (o ++ X) := by
  obtain ⟨B, hBe⟩ : ∃ B, P ++ (hd5 la X.length ++ X ++ S) = B := ⟨_, rfl⟩
  have hlen : B.length = P.length + (5 + X.length) + S.length := by rw [← hBe]; simp only [List.length_append, hd5_len]; omega
  have g : ∀ k, k < 5 → B.getD (P.length + k) 0 = (hd5 la X.length).getD k 0 := by
    intro k hk
    rw [← hBe, getD_app_r, List.append_assoc, List.getD_eq_getElem?_getD, List.getElem?_append_left (by rw [hd5_len]; omega), ← List.getD_eq_getElem?_getD]
  have g0 : B.getD P.length 0 = la := by have := g 0 (by omega); simpa [hd5] using this
  have g1 : B.getD (P.length + 1) 0 = (X.length : Int) % 256 := by rw [g 1 (by omega)]; simp [hd5]
  have g2 : B.getD (P.length + 2) 0 = (X.length : Int) / 256 := by rw [g 2 (by omega)]; simp [hd5]
  have g3 : B.getD (P.length + 3) 0 = 255 - (X.length : Int) % 256 := by rw [g 3 (by omega)]; simp [hd5]
  have g4 : B.getD (P.length + 4) 0 = 255 - (X.length : Int) / 256 := by rw [g 4 (by omega)]; simp [hd5]
  rw [hBe] at hB ⊢
  have hrow : (B.drop (P.length + 5)).take X.length = X := by
    rw [← hBe, ← List.drop_drop, List.drop_left, List.append_assoc, show (5 : Nat) = (hd5 la X.length).length from rfl, List.drop_left, List.take_left]
  obtain ⟨h1, h2⟩ := nbt_hd B hB P.length
  have hu : upto8 (8 * P.length + 3) = 8 * (P.length + 1) := by unfold upto8; omega
  have n1 : nbt (bitB B 0) (8 * (P.length + 1)) 16 = X.length := by rw [nbt_16 B hB, g1, show P.length + 1 + 1 = P.length + 2 from rfl, g2]; omega
  have n2 : nbt (bitB B 0) (8 * (P.length + 1) + 16) 16 = 65535 - X.length := by rw [show 8 * (P.length + 1) + 16 = 8 * (P.length + 3) by omega, nbt_16 B hB, g3, show P.length + 3 + 1 = P.length + 4 from rfl, g4]; omega
  have hby : byts (bitB B 0) (8 * (P.length + 1) + 32) X.length = X := by
    rw [show 8 * (P.length + 1) + 32 = 8 * (P.length + 5) by omega, byts_eq B hB _ _ (by omega), hrow]
  have hk : kndF (bitB B 0) (8 * B.length) lim 0 (8 * P.length + 3) o = .ok (8 * (P.length + (5 + X.length))) (o ++ X) := by
    unfold kndF
    rw [if_pos rfl]
    unfold stoF
    rw [hu, n1, n2, if_neg (by omega), if_neg (by omega), if_neg (by omega), if_neg (by omega), if_neg (by omega), Int.toNat_natCast, hby]
    congr 1; omega
  unfold rdF
  have hla2 : la / 2 % 4 = 0 := by omega
  rw [if_neg (by omega), if_neg (by omega), h1, h2, g0, hla2, hk]
  simp only
  rcases hla with rfl | rfl
  · rw [if_pos (by decide), if_pos rfl]
  · rw [if_neg (by decide), if_neg (by decide)]
theorem sb_len : ∀ f X, X.length < f → (sb f X).length = X.length + 5 * (if X.length ≤ 65535 then 1 else 1 + (X.length - 1) / 65535) := by
  intro f
  induction f with
  | zero => intro X h; omega
  | succ f ih =>
    intro X h
    rw [sb]
    split
    · rw [List.length_append, hd5_len]; omega
    · have := ih (X.drop 65535) (by rw [List.length_drop]; omega)
      rw [List.length_append, List.length_append, hd5_len, List.length_take, this, List.length_drop]
      split <;> omega
theorem stored_ItL {lim : Nat} {S : List Int} : ∀ (f : Nat) (X P o : List Int), X.length < f → OKB (P ++ (sb f X ++ S)) → o.length + X.length ≤ lim →
    It (rdF (bitB (P ++ (sb f X ++ S)) 0) (8 * (P ++ (sb f X ++ S)).length) lim) (8 * P.length) o (.ok (8 * (P.length + (sb f X).length)) (o ++ X))
  | 0, X, P, o, h, _, _ => absurd h (by omega)
  | f + 1, X, P, o, h, hB, hl => by
    rw [sb] at hB ⊢
    by_cases hX : X.length ≤ 65535
    · rw [if_pos hX] at hB ⊢
      have h1 := sto_stepL (P := P) (X := X) (S := S) (o := o) (lim := lim) (.inr rfl) hB hX hl
      rw [if_neg (by decide)] at h1
      have e : P.length + (hd5 1 X.length ++ X).length = P.length + (5 + X.length) := by rw [List.length_append, hd5_len]
      rw [e]
      exact .stop h1
    · rw [if_neg hX] at hB ⊢
      have ht : (X.take 65535).length = 65535 := by rw [List.length_take]; omega
      have hd : (X.drop 65535).length = X.length - 65535 := List.length_drop ..
      have e0 : P ++ (hd5 0 65535 ++ X.take 65535 ++ sb f (X.drop 65535) ++ S) = P ++ (hd5 0 (X.take 65535).length ++ X.take 65535 ++ (sb f (X.drop 65535) ++ S)) := by
        rw [ht]; simp only [List.append_assoc]; rfl
      have e1 : P ++ (hd5 0 (X.take 65535).length ++ X.take 65535 ++ (sb f (X.drop 65535) ++ S)) = (P ++ (hd5 0 65535 ++ X.take 65535)) ++ (sb f (X.drop 65535) ++ S) := by
        rw [ht]; simp only [List.append_assoc]; rfl
      rw [e0] at hB ⊢
      have h1 := sto_stepL (P := P) (X := X.take 65535) (S := sb f (X.drop 65535) ++ S) (o := o) (lim := lim) (.inl rfl) hB (by omega) (by omega)
      rw [if_pos rfl] at h1
      have h2 := stored_ItL (S := S) (lim := lim) f (X.drop 65535) (P ++ (hd5 0 65535 ++ X.take 65535)) (o ++ X.take 65535) (by omega) (by rw [← e1]; exact hB) (by rw [List.length_append]; omega)
      rw [← e1] at h2
      have e2 : (P ++ (hd5 0 65535 ++ X.take 65535)).length = P.length + (5 + (X.take 65535).length) := by rw [List.length_append, List.length_append, hd5_len]
      have e3 : o ++ X.take 65535 ++ X.drop 65535 = o ++ X := by rw [List.append_assoc, List.take_append_drop]
      rw [e2, e3] at h2
      refine .go h1 ?_
      have e4 : P.length + (hd5 0 65535 ++ X.take 65535 ++ sb f (X.drop 65535)).length = P.length + (5 + (X.take 65535).length) + (sb f (X.drop 65535)).length := by
        rw [List.length_append, List.length_append, hd5_len]; omega
      rw [e4]
      exact h2
/-- what was written in stored blocks, whatever stands behind -/
theorem ALLR_sbs {X S : List Int} {lim : Nat} (hB : OKB (sbs X ++ S)) (hl : X.length ≤ lim) : ALLR (sbs X ++ S) lim (.ok (8 * (sbs X).length) X) := by
  have := stored_ItL (S := S) (lim := lim) (X.length + 1) X [] [] (by omega) (by rw [List.nil_append]; exact hB) (by simpa using hl)
  unfold ALLR
  have e : 8 * (([] : List Int).length + (sb (X.length + 1) X).length) = 8 * (sbs X).length := by simp [sbs]
  rw [e] at this
  exact this
theorem sbs_okb {X : List Int} (hX : OKB X) : OKB (sbs X) := by
  have key : ∀ f X, OKB X → ∀ x ∈ sb f X, 0 ≤ x ∧ x < 256 := by
    intro f
    induction f with
    | zero => intro X _ x hx; rw [sb] at hx; simp at hx
    | succ f ih =>
      intro X hX x hx
      have hmem : ∀ Y : List Int, OKB Y → ∀ y ∈ Y, 0 ≤ y ∧ y < 256 := fun Y hY y hy => by
        obtain ⟨i, hi, rfl⟩ := List.mem_iff_getElem.1 hy
        have := hY i
        rwa [List.getD_eq_getElem?_getD, List.getElem?_eq_getElem hi] at this
      rw [sb] at hx
      split at hx
      · rcases List.mem_append.1 hx with h | h
        · exact hd5_okb (.inr rfl) ⟨by omega, by omega⟩ x h
        · exact hmem X hX x h
      · rcases List.mem_append.1 hx with h | h
        · rcases List.mem_append.1 h with h | h
          · exact hd5_okb (.inl rfl) ⟨by omega, by omega⟩ x h
          · exact hmem X hX x (List.mem_of_mem_take h)
        · exact ih (X.drop 65535) (fun j => by rw [List.getD_eq_getElem?_getD, List.getElem?_drop, ← List.getD_eq_getElem?_getD]; exact hX _) x h
  intro j
  rcases Nat.lt_or_ge j (sbs X).length with h | h
  · rw [List.getD_eq_getElem?_getD, List.getElem?_eq_getElem h]
    exact key _ X hX _ (List.getElem_mem h)
  · rw [List.getD_eq_getElem?_getD, List.getElem?_eq_none h]; decide
end Go.Proofs.Ytakgoflfcgofdaa

set_option linter.unusedVariables false
set_option linter.unusedSimpArgs false
namespace Go.Proofs.Ytakgoflfcgofdaa
open Sx Go
section
attribute [local irreducible] sbs
variable {w0 : World} {H : List Asn}
set_option maxRecDepth 10000 in
set_option maxHeartbeats 4000000 in
theorem DeflateParts_c (n x : Int) (hn : 0 ≤ n ∧ n < 4294967296) (hx : 0 ≤ x ∧ x < 256) (w : World) (hw : St w0 H w) :
    Calls Try.prog 12 #[.int .u32 n, .int .u8 x] w fun e w' => e = .returned (.bool true) ∧ St w0 H w' := by
  refine enter (vs := [.int .u32 n, .int .u8 x]) Try.func12 rfl rfl rfl hw ?_
  clear hw w
  repeat (first | (apply gJO; first | (apply kS; refine aK ?_) | (apply kX; refine JO_box rfl rfl rfl ?_; intro _) | (apply kA; refine JO_alloc (tb := tb) rfl rfl ?_; intro _) | (apply kBs; refine JO_buildSlice (tb := tb) rfl rfl rfl rfl rfl rfl rfl rfl rfl ?_; intro _) | (apply kM; refine JO_make (tb := tb) rfl rfl rfl rfl rfl rfl (by omega) rfl ?_; intro _) | refine aO ?_) | (apply gJR; first | apply JR_un | apply JR_nil | refine JR_yes rfl rfl ?_ | refine JR_no rfl rfl rfl rfl ?_ | refine JR_noU rfl rfl rfl ?_) | (apply gJS; first | apply JS_seq | apply JS_region | apply JS_skip | apply JS_block | apply JS_inBlock | apply JS_label | refine JS_exit rfl ?_ | refine JS_condT rfl ?_ | refine JS_condF rfl ?_ | refine JS_draw [0] (by kernel_rfl) (by kernel_rfl) (by decide +kernel) ?_ | refine JS_draw [] (by kernel_rfl) (by kernel_rfl) (by decide +kernel) ?_ | refine JS_cond_T rfl (by omega) ?_ | refine JS_cond_F rfl (by omega) ?_) | (apply gQR; first | apply QR_un | apply QR_nil | refine QR_yes rfl rfl ?_ | refine QR_no rfl rfl rfl rfl ?_ | refine QR_noU rfl rfl rfl ?_) | (apply gQO; first | refine aQ ?_ | refine aQK rfl ?_))
  refine JO_call Try.call13 rfl rfl fun w hw => (alive8_c w hw).mono ?_
  rintro e w' ⟨rfl, hw'⟩
  refine ⟨_, rfl, _, hw', ?_⟩
  clear hw' hw w w'
  obtain ⟨m, hm⟩ : ∃ m : Nat, 65530 + n % 12 = (m : Int) := ⟨(65530 + n % 12).toNat, by omega⟩
  have hwm : IntKind.i64.wrap (65530 + n % 12) = (m : Int) := by rw [hm]; exact wi64 (by omega)
  repeat (first | (apply gJO; refine JO_v (V_add rfl rfl hwm rfl) ?_) | (first | (apply gJO; first | (apply kS; refine aK ?_) | (apply kX; refine JO_box rfl rfl rfl ?_; intro _) | (apply kA; refine JO_alloc (tb := tb) rfl rfl ?_; intro _) | (apply kBs; refine JO_buildSlice (tb := tb) rfl rfl rfl rfl rfl rfl rfl rfl rfl ?_; intro _) | (apply kM; refine JO_make (tb := tb) rfl rfl rfl rfl rfl rfl (by omega) rfl ?_; intro _) | refine aO ?_) | (apply gJR; first | apply JR_un | apply JR_nil | refine JR_yes rfl rfl ?_ | refine JR_no rfl rfl rfl rfl ?_ | refine JR_noU rfl rfl rfl ?_) | (apply gJS; first | apply JS_seq | apply JS_region | apply JS_skip | apply JS_block | apply JS_inBlock | apply JS_label | refine JS_exit rfl ?_ | refine JS_condT rfl ?_ | refine JS_condF rfl ?_ | refine JS_draw [0] (by kernel_rfl) (by kernel_rfl) (by decide +kernel) ?_ | refine JS_draw [] (by kernel_rfl) (by kernel_rfl) (by decide +kernel) ?_ | refine JS_cond_T rfl (by omega) ?_ | refine JS_cond_F rfl (by omega) ?_) | (apply gQR; first | apply QR_un | apply QR_nil | refine QR_yes rfl rfl ?_ | refine QR_no rfl rfl rfl rfl ?_ | refine QR_noU rfl rfl rfl ?_) | (apply gQO; first | refine aQ ?_ | refine aQK rfl ?_)))
  rename_i p1
  rw [Int.toNat_natCast, ints_rep]
  have hm2 : 65530 ≤ m ∧ m ≤ 65541 := by omega
  refine JS_loop2 (fun (i : Nat) (X : List Int) => [(1, .int .u8 x), (5, .slice (some p1) m m), (6, .int .i64 i)]) (fun i X => vec 5 1 (.slice (some p1) m m) m (ints .u8 X) :: H) (fun i X => i ≤ m + 7 ∧ X.length = m ∧ OKB X) (fun i _ => m + 8 - i) 0 (List.replicate m 0)
    ⟨by omega, by simp, fun j => by rw [List.getD_eq_getElem?_getD, List.getElem?_replicate]; split <;> decide⟩ (by repeat (first | exact trivial | refine ⟨rfl, ?_⟩ | refine ⟨lookI rfl (by omega), ?_⟩)) (fun w hw => hw) ?_
  intro i X ⟨hi, hXl, hX⟩ again
  by_cases him : i < m
  · have hset : OKB (X.set i x) := fun j => by
      rw [List.getD_eq_getElem?_getD, List.getElem?_set]
      split
      · split
        · exact hx
        · decide
      · rw [← List.getD_eq_getElem?_getD]; exact hX j
    repeat (first | (apply gJO; first | (apply kS; refine aK ?_) | (apply kX; refine JO_box rfl rfl rfl ?_; intro _) | (apply kA; refine JO_alloc (tb := tb) rfl rfl ?_; intro _) | (apply kBs; refine JO_buildSlice (tb := tb) rfl rfl rfl rfl rfl rfl rfl rfl rfl ?_; intro _) | (apply kM; refine JO_make (tb := tb) rfl rfl rfl rfl rfl rfl (by omega) rfl ?_; intro _) | refine aO ?_) | (apply gJR; first | apply JR_un | apply JR_nil | refine JR_yes rfl rfl ?_ | refine JR_no rfl rfl rfl rfl ?_ | refine JR_noU rfl rfl rfl ?_) | (apply gJS; first | apply JS_seq | apply JS_region | apply JS_skip | apply JS_block | apply JS_inBlock | apply JS_label | refine JS_exit rfl ?_ | refine JS_condT rfl ?_ | refine JS_condF rfl ?_ | refine JS_draw [0] (by kernel_rfl) (by kernel_rfl) (by decide +kernel) ?_ | refine JS_draw [] (by kernel_rfl) (by kernel_rfl) (by decide +kernel) ?_ | refine JS_cond_T rfl (by omega) ?_ | refine JS_cond_F rfl (by omega) ?_) | (apply gQR; first | apply QR_un | apply QR_nil | refine QR_yes rfl rfl ?_ | refine QR_no rfl rfl rfl rfl ?_ | refine QR_noU rfl rfl rfl ?_) | (apply gQO; first | refine aQ ?_ | refine aQK rfl ?_))
    exact JS_again2 again (i + 7) (X.set i x) ⟨by omega, by rw [List.length_set]; exact hXl, hset⟩ (by omega) (by repeat (first | exact trivial | refine ⟨rfl, ?_⟩ | refine ⟨lookI rfl (by omega), ?_⟩)) (fun w hw => hw)
  · clear again
    have hok := sbs_okb hX
    have hA := ALLR_sbs (X := X) (S := []) (lim := m) (by rw [List.append_nil]; exact hok) (by omega)
    rw [List.append_nil] at hA
    have hlen := sb_len (X.length + 1) X (by omega)
    have hsl : (sbs X).length = (sb (X.length + 1) X).length := by unfold sbs; rfl
    rw [← hsl] at hlen
    obtain ⟨L, hL⟩ : ∃ L, (sbs X).length = L := ⟨_, rfl⟩
    rw [hL] at hlen hA
    have hq : (8 * L + 7) / 8 = L := by omega
    repeat (first | (apply gJO; first | (apply kS; refine aK ?_) | (apply kX; refine JO_box rfl rfl rfl ?_; intro _) | (apply kA; refine JO_alloc (tb := tb) rfl rfl ?_; intro _) | (apply kBs; refine JO_buildSlice (tb := tb) rfl rfl rfl rfl rfl rfl rfl rfl rfl ?_; intro _) | (apply kM; refine JO_make (tb := tb) rfl rfl rfl rfl rfl rfl (by omega) rfl ?_; intro _) | refine aO ?_) | (apply gJR; first | apply JR_un | apply JR_nil | refine JR_yes rfl rfl ?_ | refine JR_no rfl rfl rfl rfl ?_ | refine JR_noU rfl rfl rfl ?_) | (apply gJS; first | apply JS_seq | apply JS_region | apply JS_skip | apply JS_block | apply JS_inBlock | apply JS_label | refine JS_exit rfl ?_ | refine JS_condT rfl ?_ | refine JS_condF rfl ?_ | refine JS_draw [0] (by kernel_rfl) (by kernel_rfl) (by decide +kernel) ?_ | refine JS_draw [] (by kernel_rfl) (by kernel_rfl) (by decide +kernel) ?_ | refine JS_cond_T rfl (by omega) ?_ | refine JS_cond_F rfl (by omega) ?_) | (apply gQR; first | apply QR_un | apply QR_nil | refine QR_yes rfl rfl ?_ | refine QR_no rfl rfl rfl rfl ?_ | refine QR_noU rfl rfl rfl ?_) | (apply gQO; first | refine aQ ?_ | refine aQK rfl ?_))
    refine JO_call Try.call17 rfl rfl fun w hw => (DStored_c (some p1) m m X (vec_rd (by repeat (first | apply List.Mem.head | apply List.Mem.tail))) hXl hX (by omega) w hw).mono ?_
    rw [hL]
    rintro e w' ⟨q1, d1, rfl, hw'⟩
    refine ⟨_, rfl, _, hw', ?_⟩
    clear hw' hw w w'
    repeat (first | (apply gJO; first | (apply kS; refine aK ?_) | (apply kX; refine JO_box rfl rfl rfl ?_; intro _) | (apply kA; refine JO_alloc (tb := tb) rfl rfl ?_; intro _) | (apply kBs; refine JO_buildSlice (tb := tb) rfl rfl rfl rfl rfl rfl rfl rfl rfl ?_; intro _) | (apply kM; refine JO_make (tb := tb) rfl rfl rfl rfl rfl rfl (by omega) rfl ?_; intro _) | refine aO ?_) | (apply gJR; first | apply JR_un | apply JR_nil | refine JR_yes rfl rfl ?_ | refine JR_no rfl rfl rfl rfl ?_ | refine JR_noU rfl rfl rfl ?_) | (apply gJS; first | apply JS_seq | apply JS_region | apply JS_skip | apply JS_block | apply JS_inBlock | apply JS_label | refine JS_exit rfl ?_ | refine JS_condT rfl ?_ | refine JS_condF rfl ?_ | refine JS_draw [0] (by kernel_rfl) (by kernel_rfl) (by decide +kernel) ?_ | refine JS_draw [] (by kernel_rfl) (by kernel_rfl) (by decide +kernel) ?_ | refine JS_cond_T rfl (by omega) ?_ | refine JS_cond_F rfl (by omega) ?_) | (apply gQR; first | apply QR_un | apply QR_nil | refine QR_yes rfl rfl ?_ | refine QR_no rfl rfl rfl rfl ?_ | refine QR_noU rfl rfl rfl ?_) | (apply gQO; first | refine aQ ?_ | refine aQK rfl ?_))
    have hL2 : L ≤ 65600 := by rw [hlen]; split <;> omega
    refine JO_call Try.call28 rfl rfl fun w hw => (IRead_ok q1 d1 L (sbs X) (vec_rd (by repeat (first | apply List.Mem.head | apply List.Mem.tail))) hL hok (by omega) m (by omega) hA w hw).mono ?_
    rw [hq]
    rintro e w' ⟨q2, d2, rfl, hw'⟩
    rw [hXl] at hw' ⊢
    refine ⟨_, rfl, _, hw', ?_⟩
    clear hw' hw w w'
    by_cases hbig : 65535 < m
    case' pos => rw [if_neg (by omega)] at hlen
    case' neg => rw [if_pos (by omega)] at hlen
    all_goals
      repeat (first | (apply gQO; refine QO_v rfl (V_eqStr1 (s := bstr X) rfl rfl rfl) ?_) | first | (apply gJO; first | (apply kS; refine aK ?_) | (apply kX; refine JO_box rfl rfl rfl ?_; intro _) | (apply kA; refine JO_alloc (tb := tb) rfl rfl ?_; intro _) | (apply kBs; refine JO_buildSlice (tb := tb) rfl rfl rfl rfl rfl rfl rfl rfl rfl ?_; intro _) | (apply kM; refine JO_make (tb := tb) rfl rfl rfl rfl rfl rfl (by omega) rfl ?_; intro _) | refine aO ?_) | (apply gJR; first | apply JR_un | apply JR_nil | refine JR_yes rfl rfl ?_ | refine JR_no rfl rfl rfl rfl ?_ | refine JR_noU rfl rfl rfl ?_) | (apply gJS; first | apply JS_seq | apply JS_region | apply JS_skip | apply JS_block | apply JS_inBlock | apply JS_label | refine JS_exit rfl ?_ | refine JS_condT rfl ?_ | refine JS_condF rfl ?_ | refine JS_draw [0] (by kernel_rfl) (by kernel_rfl) (by decide +kernel) ?_ | refine JS_draw [] (by kernel_rfl) (by kernel_rfl) (by decide +kernel) ?_ | refine JS_cond_T rfl (by omega) ?_ | refine JS_cond_F rfl (by omega) ?_) | (apply gQR; first | apply QR_un | apply QR_nil | refine QR_yes rfl rfl ?_ | refine QR_no rfl rfl rfl rfl ?_ | refine QR_noU rfl rfl rfl ?_) | (apply gQO; first | refine aQ ?_ | refine aQK rfl ?_))
      refine QO_call Try.call18 rfl rfl fun w hw => (RStored_c (some p1) m m X (vec_rd (by repeat (first | apply List.Mem.head | apply List.Mem.tail))) hXl hX (by omega) w hw).mono ?_
      rw [hL]
      rintro e w' ⟨q3, d3, rfl, hw'⟩
      refine ⟨_, rfl, _, hw', .inl fun w hw => St.sub (by repeat (first | exact List.Sublist.refl _ | apply List.Sublist.cons_cons | apply List.Sublist.cons)) hw, ?_⟩
      clear hw' hw w w'
      repeat (first | (apply gQO; refine QO_v rfl (V_eqStr1 (s := bstr (sbs X)) rfl rfl rfl) ?_) | first | (apply gJO; first | (apply kS; refine aK ?_) | (apply kX; refine JO_box rfl rfl rfl ?_; intro _) | (apply kA; refine JO_alloc (tb := tb) rfl rfl ?_; intro _) | (apply kBs; refine JO_buildSlice (tb := tb) rfl rfl rfl rfl rfl rfl rfl rfl rfl ?_; intro _) | (apply kM; refine JO_make (tb := tb) rfl rfl rfl rfl rfl rfl (by omega) rfl ?_; intro _) | refine aO ?_) | (apply gJR; first | apply JR_un | apply JR_nil | refine JR_yes rfl rfl ?_ | refine JR_no rfl rfl rfl rfl ?_ | refine JR_noU rfl rfl rfl ?_) | (apply gJS; first | apply JS_seq | apply JS_region | apply JS_skip | apply JS_block | apply JS_inBlock | apply JS_label | refine JS_exit rfl ?_ | refine JS_condT rfl ?_ | refine JS_condF rfl ?_ | refine JS_draw [0] (by kernel_rfl) (by kernel_rfl) (by decide +kernel) ?_ | refine JS_draw [] (by kernel_rfl) (by kernel_rfl) (by decide +kernel) ?_ | refine JS_cond_T rfl (by omega) ?_ | refine JS_cond_F rfl (by omega) ?_) | (apply gQR; first | apply QR_un | apply QR_nil | refine QR_yes rfl rfl ?_ | refine QR_no rfl rfl rfl rfl ?_ | refine QR_noU rfl rfl rfl ?_) | (apply gQO; first | refine aQ ?_ | refine aQK rfl ?_))
      exact JS_ret Try.func12 rfl rfl fun w hw => ⟨rfl, St.sub (by repeat (first | exact List.Sublist.refl _ | apply List.Sublist.cons_cons | apply List.Sublist.cons)) hw⟩
end
theorem DeflateParts_l (n x : Int) (hn : 0 ≤ n ∧ n < 4294967296) (hx : 0 ≤ x ∧ x < 256) (w0 : World) :
    Calls Try.prog 12 #[.int .u32 n, .int .u8 x] w0 fun e w' => e = .returned (.bool true) ∧ RowKit.Below w0.heap.size w0 w' :=
  (DeflateParts_c (w0 := w0) (H := []) n x hn hx w0 (St.start w0)).mono fun e w' h => ⟨h.1, h.2.grown⟩
end Go.Proofs.Ytakgoflfcgofdaa

set_option linter.unusedVariables false
set_option linter.unusedSimpArgs false
namespace Go.Proofs.Ytakgoflfcgofdaa
open Sx Go
/-! ## the stream of one byte that is repeated: how long it is -/
theorem rep_getD (n i : Nat) : (List.replicate n (0 : Int)).getD i 0 = 0 := by
  rw [List.getD_eq_getElem?_getD, List.getElem?_replicate]; split <;> rfl
theorem sam_rep (n i k : Nat) : ∀ f, sam (List.replicate n 0) i k f = min f (n - k)
  | 0 => by rw [sam]; omega
  | f + 1 => by
    rw [sam, rep_getD, rep_getD, List.length_replicate]
    by_cases h : k < n
    · rw [if_pos ⟨h, rfl⟩, sam_rep n (i + 1) (k + 1) f]; omega
    · rw [if_neg (fun h' => h h'.1)]; omega
theorem bst_rep (n at_ : Nat) : ∀ (i : Nat) (s : Nat × Nat), s.1 = min 258 (n - at_) → bst (List.replicate n 0) at_ i s = s
  | 0, s, _ => rfl
  | i + 1, s, h => by
    rw [bst, sam_rep, if_neg (show ¬ s.1 < min 258 (n - at_) by omega), bst_rep n at_ i s h]
    split <;> rfl
theorem tok_rep (n at_ : Nat) (h1 : 1 ≤ at_) (hn : at_ < n) : tok (List.replicate n 0) at_ = if min 258 (n - at_) < 3 then (0, 0, 0) else (0, min 258 (n - at_), 1) := by
  obtain ⟨i, rfl⟩ : ∃ i, at_ = i + 1 := ⟨at_ - 1, by omega⟩
  have hb : bst (List.replicate n 0) (i + 1) (i + 1) (0, 0) = (min 258 (n - (i + 1)), 1) := by
    rw [bst, if_neg (by omega), sam_rep, if_pos (show 0 < min 258 (n - (i + 1)) by omega), Nat.add_sub_cancel_left, bst_rep n (i + 1) i _ rfl]
  unfold tok
  rw [hb, rep_getD]
theorem len_258 : (tkb (0, 258, 1)).length = 13 := by decide +kernel
theorem len_lit0 : (tkb (0, 0, 0)).length = 8 := by decide +kernel
theorem len_more : ∀ k : Fin 258, 3 ≤ k.val → (tkb (0, k.val, 1)).length ≤ 18 := by decide +kernel
theorem toks_rep (n : Nat) : ∀ (f at_ : Nat), 1 ≤ at_ → ((toks (List.replicate n 0) f at_).flatMap tkb).length ≤ 13 * ((n - at_) / 258) + 18
  | 0, at_, _ => by rw [toks]; simp
  | f + 1, at_, h1 => by
    rw [toks, List.length_replicate]
    by_cases h : at_ < n
    · rw [if_pos h, tok_rep n at_ h1 h, List.flatMap_cons, List.length_append]
      by_cases h3 : min 258 (n - at_) < 3
      · rw [if_pos h3, len_lit0]
        have hfin : ((toks (List.replicate n 0) f (at_ + max 1 ((0 : Int), 0, 0).2.1)).flatMap tkb).length ≤ 8 := by
          show ((toks (List.replicate n 0) f (at_ + 1)).flatMap tkb).length ≤ 8
          cases f with
          | zero => rw [toks]; simp
          | succ f =>
            rw [toks, List.length_replicate]
            by_cases h' : at_ + 1 < n
            · rw [if_pos h', tok_rep n (at_ + 1) (by omega) h', if_pos (by omega), List.flatMap_cons, List.length_append, len_lit0]
              have : (toks (List.replicate n 0) f (at_ + 1 + max 1 ((0 : Int), 0, 0).2.1)) = [] := by
                show toks (List.replicate n 0) f (at_ + 1 + 1) = []
                cases f with
                | zero => rw [toks]
                | succ f => rw [toks, List.length_replicate, if_neg (by omega)]
              rw [this]; simp
            · rw [if_neg h']; simp
        omega
      · rw [if_neg h3]
        by_cases h258 : 258 ≤ n - at_
        · rw [show min 258 (n - at_) = 258 by omega, len_258]
          have := toks_rep n f (at_ + 258) (by omega)
          show 13 + ((toks (List.replicate n 0) f (at_ + 258)).flatMap tkb).length ≤ _
          omega
        · obtain ⟨k, hk⟩ : ∃ k, n - at_ = k := ⟨_, rfl⟩
          rw [show min 258 (n - at_) = k by omega]
          have hl := len_more ⟨k, by omega⟩ (show 3 ≤ k by omega)
          simp only [] at hl
          have hz : toks (List.replicate n 0) f (at_ + max 1 ((0 : Int), k, 1).2.1) = [] := by
            show toks (List.replicate n 0) f (at_ + max 1 k) = []
            cases f with
            | zero => rw [toks]
            | succ f => rw [toks, List.length_replicate, if_neg (by omega)]
          rw [hz]
          simp
          omega
    · rw [if_neg h]; simp
theorem tok_rep0 (n : Nat) : tok (List.replicate n 0) 0 = (0, 0, 0) := by
  unfold tok
  rw [bst, if_pos (by decide), rep_getD]
theorem fix_rep (n : Nat) : (fixL (List.replicate n 0)).length ≤ 3 + 8 + 13 * (n / 258) + 18 + 9 := by
  unfold fixL
  have h3 := fxS_len 256 (by omega)
  simp only [List.length_append, grp_len]
  have : ((toks (List.replicate n 0) (List.replicate n (0 : Int)).length 0).flatMap tkb).length ≤ 8 + 13 * (n / 258) + 18 := by
    rw [List.length_replicate]
    cases n with
    | zero => rw [toks]; simp
    | succ n =>
      rw [toks, List.length_replicate, if_pos (by omega), tok_rep0, List.flatMap_cons, List.length_append, len_lit0]
      have := toks_rep (n + 1) n (0 + max 1 ((0 : Int), 0, 0).2.1) (by show 1 ≤ 0 + 1; omega)
      have e : (0 + max 1 ((0 : Int), 0, 0).2.1) = 1 := rfl
      rw [e] at this ⊢
      omega
  omega
theorem best_rep (n : Nat) (h : n ≤ 4000) : (bestB (List.replicate n 0)).length ≤ 6 + n / 80 := by
  have h1 := fix_rep n
  have h2 : (bestB (List.replicate n 0)).length ≤ (pack (fixL (List.replicate n 0))).length := by
    unfold bestB; split <;> omega
  rw [pack_len] at h2
  omega
theorem best_le (B : List Int) (h : B.length ≤ 2000) : (bestB B).length ≤ B.length + 5 ∧ (bestB B).length ≤ (pack (fixL B)).length ∧ (bestB B).length ≤ (sbs B).length := by
  have hl := sb_len (B.length + 1) B (by omega)
  rw [if_pos (by omega)] at hl
  have hs : (sbs B).length = B.length + 5 := by unfold sbs; omega
  unfold bestB
  split <;> omega
section
attribute [local irreducible] sbs pack fixL bestB
variable {w0 : World} {H : List Asn}
set_option maxRecDepth 10000 in
set_option maxHeartbeats 4000000 in
theorem DeflateShort_c (p : Option Addr) (c m : Nat) (B : List Int) (n : Int) (hr : Rd w0 H (.slice p m c) m (ints .u8 B)) (hm : B.length = m) (hB : OKB B) (hmx : m ≤ 140737488351232) (hn : 0 ≤ n ∧ n < 65536) (w : World) (hw : St w0 H w) :
    Calls Try.prog 4 #[.slice p m c, .int .u16 n] w fun e w' => e = .returned (.bool true) ∧ St w0 H w' := by
  refine enter (vs := [.slice p m c, .int .u16 n]) Try.func4 rfl rfl rfl hw ?_
  clear hw w
  repeat (first | (apply gJO; first | (apply kS; refine aK ?_) | (apply kX; refine JO_box rfl rfl rfl ?_; intro _) | (apply kA; refine JO_alloc (tb := tb) rfl rfl ?_; intro _) | (apply kBs; refine JO_buildSlice (tb := tb) rfl rfl rfl rfl rfl rfl rfl rfl rfl ?_; intro _) | (apply kM; refine JO_make (tb := tb) rfl rfl rfl rfl rfl rfl (by omega) rfl ?_; intro _) | refine aO ?_) | (apply gJR; first | apply JR_un | apply JR_nil | refine JR_yes rfl rfl ?_ | refine JR_no rfl rfl rfl rfl ?_ | refine JR_noU rfl rfl rfl ?_) | (apply gJS; first | apply JS_seq | apply JS_region | apply JS_skip | apply JS_block | apply JS_inBlock | apply JS_label | refine JS_exit rfl ?_ | refine JS_condT rfl ?_ | refine JS_condF rfl ?_ | refine JS_draw [0] (by kernel_rfl) (by kernel_rfl) (by decide +kernel) ?_ | refine JS_draw [] (by kernel_rfl) (by kernel_rfl) (by decide +kernel) ?_ | refine JS_cond_T rfl (by omega) ?_ | refine JS_cond_F rfl (by omega) ?_) | (apply gQR; first | apply QR_un | apply QR_nil | refine QR_yes rfl rfl ?_ | refine QR_no rfl rfl rfl rfl ?_ | refine QR_noU rfl rfl rfl ?_) | (apply gQO; first | refine aQ ?_ | refine aQK rfl ?_))
  refine JO_call Try.call13 rfl rfl fun w hw => (alive8_c w hw).mono ?_
  rintro e w' ⟨rfl, hw'⟩
  refine ⟨_, rfl, _, hw', ?_⟩
  clear hw' hw w w'
  by_cases hbig : 2000 < m
  · repeat (first | (apply gJO; first | (apply kS; refine aK ?_) | (apply kX; refine JO_box rfl rfl rfl ?_; intro _) | (apply kA; refine JO_alloc (tb := tb) rfl rfl ?_; intro _) | (apply kBs; refine JO_buildSlice (tb := tb) rfl rfl rfl rfl rfl rfl rfl rfl rfl ?_; intro _) | (apply kM; refine JO_make (tb := tb) rfl rfl rfl rfl rfl rfl (by omega) rfl ?_; intro _) | refine aO ?_) | (apply gJR; first | apply JR_un | apply JR_nil | refine JR_yes rfl rfl ?_ | refine JR_no rfl rfl rfl rfl ?_ | refine JR_noU rfl rfl rfl ?_) | (apply gJS; first | apply JS_seq | apply JS_region | apply JS_skip | apply JS_block | apply JS_inBlock | apply JS_label | refine JS_exit rfl ?_ | refine JS_condT rfl ?_ | refine JS_condF rfl ?_ | refine JS_draw [0] (by kernel_rfl) (by kernel_rfl) (by decide +kernel) ?_ | refine JS_draw [] (by kernel_rfl) (by kernel_rfl) (by decide +kernel) ?_ | refine JS_cond_T rfl (by omega) ?_ | refine JS_cond_F rfl (by omega) ?_) | (apply gQR; first | apply QR_un | apply QR_nil | refine QR_yes rfl rfl ?_ | refine QR_no rfl rfl rfl rfl ?_ | refine QR_noU rfl rfl rfl ?_) | (apply gQO; first | refine aQ ?_ | refine aQK rfl ?_))
    exact JS_ret Try.func4 rfl rfl fun w hw => ⟨rfl, hw⟩
  · obtain ⟨b1, b2, b3⟩ := best_le B (by omega)
    repeat (first | (apply gJO; first | (apply kS; refine aK ?_) | (apply kX; refine JO_box rfl rfl rfl ?_; intro _) | (apply kA; refine JO_alloc (tb := tb) rfl rfl ?_; intro _) | (apply kBs; refine JO_buildSlice (tb := tb) rfl rfl rfl rfl rfl rfl rfl rfl rfl ?_; intro _) | (apply kM; refine JO_make (tb := tb) rfl rfl rfl rfl rfl rfl (by omega) rfl ?_; intro _) | refine aO ?_) | (apply gJR; first | apply JR_un | apply JR_nil | refine JR_yes rfl rfl ?_ | refine JR_no rfl rfl rfl rfl ?_ | refine JR_noU rfl rfl rfl ?_) | (apply gJS; first | apply JS_seq | apply JS_region | apply JS_skip | apply JS_block | apply JS_inBlock | apply JS_label | refine JS_exit rfl ?_ | refine JS_condT rfl ?_ | refine JS_condF rfl ?_ | refine JS_draw [0] (by kernel_rfl) (by kernel_rfl) (by decide +kernel) ?_ | refine JS_draw [] (by kernel_rfl) (by kernel_rfl) (by decide +kernel) ?_ | refine JS_cond_T rfl (by omega) ?_ | refine JS_cond_F rfl (by omega) ?_) | (apply gQR; first | apply QR_un | apply QR_nil | refine QR_yes rfl rfl ?_ | refine QR_no rfl rfl rfl rfl ?_ | refine QR_noU rfl rfl rfl ?_) | (apply gQO; first | refine aQ ?_ | refine aQK rfl ?_))
    refine JO_call Try.call19 rfl rfl fun w hw => (DBest_c p c m B hr hm hB (by omega) w hw).mono ?_
    rintro e w' ⟨q1, d1, rfl, hw'⟩
    refine ⟨_, rfl, _, hw', ?_⟩
    clear hw' hw w w'
    obtain ⟨k, hk⟩ : ∃ k : Nat, n % 4000 = (k : Int) := ⟨(n % 4000).toNat, by omega⟩
    have hwk : IntKind.i64.wrap (n % 4000) = (k : Int) := by rw [hk]; exact wi64 (by omega)
    have hkx : k < 4000 := by omega
    have b4 := best_rep k (by omega)
    repeat (first | apply hIx 7 | (apply gJO; refine JO_v (oCv (V_conv (tb := tb) rfl rfl rfl hwk rfl)) ?_) | (first | (apply gJO; first | (apply kS; refine aK ?_) | (apply kX; refine JO_box rfl rfl rfl ?_; intro _) | (apply kA; refine JO_alloc (tb := tb) rfl rfl ?_; intro _) | (apply kBs; refine JO_buildSlice (tb := tb) rfl rfl rfl rfl rfl rfl rfl rfl rfl ?_; intro _) | (apply kM; refine JO_make (tb := tb) rfl rfl rfl rfl rfl rfl (by omega) rfl ?_; intro _) | refine aO ?_) | (apply gJR; first | apply JR_un | apply JR_nil | refine JR_yes rfl rfl ?_ | refine JR_no rfl rfl rfl rfl ?_ | refine JR_noU rfl rfl rfl ?_) | (apply gJS; first | apply JS_seq | apply JS_region | apply JS_skip | apply JS_block | apply JS_inBlock | apply JS_label | refine JS_exit rfl ?_ | refine JS_condT rfl ?_ | refine JS_condF rfl ?_ | refine JS_draw [0] (by kernel_rfl) (by kernel_rfl) (by decide +kernel) ?_ | refine JS_draw [] (by kernel_rfl) (by kernel_rfl) (by decide +kernel) ?_ | refine JS_cond_T rfl (by omega) ?_ | refine JS_cond_F rfl (by omega) ?_) | (apply gQR; first | apply QR_un | apply QR_nil | refine QR_yes rfl rfl ?_ | refine QR_no rfl rfl rfl rfl ?_ | refine QR_noU rfl rfl rfl ?_) | (apply gQO; first | refine aQ ?_ | refine aQK rfl ?_)))
    refine Hold.go ?_
    rename_i p1
    rw [Int.toNat_natCast, ints_rep]
    repeat (first | (apply gJO; first | (apply kS; refine aK ?_) | (apply kX; refine JO_box rfl rfl rfl ?_; intro _) | (apply kA; refine JO_alloc (tb := tb) rfl rfl ?_; intro _) | (apply kBs; refine JO_buildSlice (tb := tb) rfl rfl rfl rfl rfl rfl rfl rfl rfl ?_; intro _) | (apply kM; refine JO_make (tb := tb) rfl rfl rfl rfl rfl rfl (by omega) rfl ?_; intro _) | refine aO ?_) | (apply gJR; first | apply JR_un | apply JR_nil | refine JR_yes rfl rfl ?_ | refine JR_no rfl rfl rfl rfl ?_ | refine JR_noU rfl rfl rfl ?_) | (apply gJS; first | apply JS_seq | apply JS_region | apply JS_skip | apply JS_block | apply JS_inBlock | apply JS_label | refine JS_exit rfl ?_ | refine JS_condT rfl ?_ | refine JS_condF rfl ?_ | refine JS_draw [0] (by kernel_rfl) (by kernel_rfl) (by decide +kernel) ?_ | refine JS_draw [] (by kernel_rfl) (by kernel_rfl) (by decide +kernel) ?_ | refine JS_cond_T rfl (by omega) ?_ | refine JS_cond_F rfl (by omega) ?_) | (apply gQR; first | apply QR_un | apply QR_nil | refine QR_yes rfl rfl ?_ | refine QR_no rfl rfl rfl rfl ?_ | refine QR_noU rfl rfl rfl ?_) | (apply gQO; first | refine aQ ?_ | refine aQK rfl ?_))
    refine JO_call Try.call15 rfl rfl fun w hw => (DFixed_c p c m B (Rd_weak hr fun w hw => St.sub (by repeat (first | exact List.Sublist.refl _ | apply List.Sublist.cons_cons | apply List.Sublist.cons)) hw) hm hB (by omega) w hw).mono ?_
    rintro e w' ⟨q2, d2, rfl, hw'⟩
    refine ⟨_, rfl, _, hw', ?_⟩
    clear hw' hw w w'
    repeat (first | (apply gJO; first | (apply kS; refine aK ?_) | (apply kX; refine JO_box rfl rfl rfl ?_; intro _) | (apply kA; refine JO_alloc (tb := tb) rfl rfl ?_; intro _) | (apply kBs; refine JO_buildSlice (tb := tb) rfl rfl rfl rfl rfl rfl rfl rfl rfl ?_; intro _) | (apply kM; refine JO_make (tb := tb) rfl rfl rfl rfl rfl rfl (by omega) rfl ?_; intro _) | refine aO ?_) | (apply gJR; first | apply JR_un | apply JR_nil | refine JR_yes rfl rfl ?_ | refine JR_no rfl rfl rfl rfl ?_ | refine JR_noU rfl rfl rfl ?_) | (apply gJS; first | apply JS_seq | apply JS_region | apply JS_skip | apply JS_block | apply JS_inBlock | apply JS_label | refine JS_exit rfl ?_ | refine JS_condT rfl ?_ | refine JS_condF rfl ?_ | refine JS_draw [0] (by kernel_rfl) (by kernel_rfl) (by decide +kernel) ?_ | refine JS_draw [] (by kernel_rfl) (by kernel_rfl) (by decide +kernel) ?_ | refine JS_cond_T rfl (by omega) ?_ | refine JS_cond_F rfl (by omega) ?_) | (apply gQR; first | apply QR_un | apply QR_nil | refine QR_yes rfl rfl ?_ | refine QR_no rfl rfl rfl rfl ?_ | refine QR_noU rfl rfl rfl ?_) | (apply gQO; first | refine aQ ?_ | refine aQK rfl ?_))
    refine JO_call Try.call17 rfl rfl fun w hw => (DStored_c p c m B (Rd_weak hr fun w hw => St.sub (by repeat (first | exact List.Sublist.refl _ | apply List.Sublist.cons_cons | apply List.Sublist.cons)) hw) hm hB (by omega) w hw).mono ?_
    rintro e w' ⟨q3, d3, rfl, hw'⟩
    refine ⟨_, rfl, _, hw', ?_⟩
    clear hw' hw w w'
    repeat (first | (apply gJO; first | (apply kS; refine aK ?_) | (apply kX; refine JO_box rfl rfl rfl ?_; intro _) | (apply kA; refine JO_alloc (tb := tb) rfl rfl ?_; intro _) | (apply kBs; refine JO_buildSlice (tb := tb) rfl rfl rfl rfl rfl rfl rfl rfl rfl ?_; intro _) | (apply kM; refine JO_make (tb := tb) rfl rfl rfl rfl rfl rfl (by omega) rfl ?_; intro _) | refine aO ?_) | (apply gJR; first | apply JR_un | apply JR_nil | refine JR_yes rfl rfl ?_ | refine JR_no rfl rfl rfl rfl ?_ | refine JR_noU rfl rfl rfl ?_) | (apply gJS; first | apply JS_seq | apply JS_region | apply JS_skip | apply JS_block | apply JS_inBlock | apply JS_label | refine JS_exit rfl ?_ | refine JS_condT rfl ?_ | refine JS_condF rfl ?_ | refine JS_draw [0] (by kernel_rfl) (by kernel_rfl) (by decide +kernel) ?_ | refine JS_draw [] (by kernel_rfl) (by kernel_rfl) (by decide +kernel) ?_ | refine JS_cond_T rfl (by omega) ?_ | refine JS_cond_F rfl (by omega) ?_) | (apply gQR; first | apply QR_un | apply QR_nil | refine QR_yes rfl rfl ?_ | refine QR_no rfl rfl rfl rfl ?_ | refine QR_noU rfl rfl rfl ?_) | (apply gQO; first | refine aQ ?_ | refine aQK rfl ?_))
    refine JO_call Try.call19 rfl rfl fun w hw => (DBest_c (some p1) k k (List.replicate k 0) (vec_rd (by repeat (first | apply List.Mem.head | apply List.Mem.tail))) (List.length_replicate) (fun j => by rw [rep_getD]; decide) (by omega) w hw).mono ?_
    rintro e w' ⟨q4, d4, rfl, hw'⟩
    refine ⟨_, rfl, _, hw', ?_⟩
    clear hw' hw w w'
    repeat (first | (apply gJO; first | (apply kS; refine aK ?_) | (apply kX; refine JO_box rfl rfl rfl ?_; intro _) | (apply kA; refine JO_alloc (tb := tb) rfl rfl ?_; intro _) | (apply kBs; refine JO_buildSlice (tb := tb) rfl rfl rfl rfl rfl rfl rfl rfl rfl ?_; intro _) | (apply kM; refine JO_make (tb := tb) rfl rfl rfl rfl rfl rfl (by omega) rfl ?_; intro _) | refine aO ?_) | (apply gJR; first | apply JR_un | apply JR_nil | refine JR_yes rfl rfl ?_ | refine JR_no rfl rfl rfl rfl ?_ | refine JR_noU rfl rfl rfl ?_) | (apply gJS; first | apply JS_seq | apply JS_region | apply JS_skip | apply JS_block | apply JS_inBlock | apply JS_label | refine JS_exit rfl ?_ | refine JS_condT rfl ?_ | refine JS_condF rfl ?_ | refine JS_draw [0] (by kernel_rfl) (by kernel_rfl) (by decide +kernel) ?_ | refine JS_draw [] (by kernel_rfl) (by kernel_rfl) (by decide +kernel) ?_ | refine JS_cond_T rfl (by omega) ?_ | refine JS_cond_F rfl (by omega) ?_) | (apply gQR; first | apply QR_un | apply QR_nil | refine QR_yes rfl rfl ?_ | refine QR_no rfl rfl rfl rfl ?_ | refine QR_noU rfl rfl rfl ?_) | (apply gQO; first | refine aQ ?_ | refine aQK rfl ?_))
    exact JS_ret Try.func4 rfl rfl fun w hw => ⟨rfl, St.sub (by repeat (first | exact List.Sublist.refl _ | apply List.Sublist.cons_cons | apply List.Sublist.cons)) hw⟩
end
theorem DeflateShort_l (p : Option Addr) (c m : Nat) (B : List Int) (n : Int) (w0 : World) (ha : ArgRd w0 (.slice p m c) m (ints .u8 B)) (hm : B.length = m) (hO : OKB B ∧ (p = none → m = 0) ∧ m ≤ 140737488351232) (hn : 0 ≤ n ∧ n < 65536) :
    Calls Try.prog 4 #[.slice p m c, .int .u16 n] w0 fun e w' => e = .returned (.bool true) ∧ RowKit.Below w0.heap.size w0 w' :=
  (DeflateShort_c (w0 := w0) (H := []) p c m B n (ha.rd _) hm hO.1 hO.2.2 hn w0 (St.start w0)).mono fun e w' h => ⟨h.1, h.2.grown⟩
end Go.Proofs.Ytakgoflfcgofdaa
