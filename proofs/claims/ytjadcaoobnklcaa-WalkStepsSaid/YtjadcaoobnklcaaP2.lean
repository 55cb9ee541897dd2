/- Numbers as lists of digits to the base 65536, the lowest first: plain facts. -/
namespace Go.Proofs.Ytjadcaoobnklcaa
/-- the number that digits make -/
def val : List Int → Int
  | [] => 0
  | x :: r => x + 65536 * val r
/-- digits -/
def D16 (L : List Int) : Prop := ∀ j, 0 ≤ L.getD j 0 ∧ L.getD j 0 < 65536
theorem D16_nil : D16 [] := fun j => by simp
theorem D16_cons {x : Int} {r : List Int} (hx : 0 ≤ x ∧ x < 65536) (h : D16 r) : D16 (x :: r) := fun j => by
  cases j with
  | zero => simpa using hx
  | succ j => simpa using h j
theorem D16_tail {x : Int} {r : List Int} (h : D16 (x :: r)) : D16 r := fun j => by simpa using h (j + 1)
theorem D16_set {L : List Int} (h : D16 L) (j : Nat) {x : Int} (hx : 0 ≤ x ∧ x < 65536) : D16 (L.set j x) := fun i => by
  rw [List.getD_eq_getElem?_getD, List.getElem?_set]
  split
  · split
    · simpa using hx
    · simp
  · rw [← List.getD_eq_getElem?_getD]; exact h i
theorem D16_rep (n : Nat) : D16 (List.replicate n 0) := fun j => by
  rw [List.getD_eq_getElem?_getD, List.getElem?_replicate]
  split <;> simp
theorem D16_app {L : List Int} (h : D16 L) {x : Int} (hx : 0 ≤ x ∧ x < 65536) : D16 (L ++ [x]) := fun j => by
  rw [List.getD_eq_getElem?_getD]
  rcases Nat.lt_trichotomy j L.length with h1 | h1 | h1
  · rw [List.getElem?_append_left h1, ← List.getD_eq_getElem?_getD]; exact h j
  · subst h1; simpa using hx
  · rw [List.getElem?_eq_none (by simp; omega)]; simp
theorem val_app (L : List Int) (x : Int) : val (L ++ [x]) = val L + x * 65536 ^ L.length := by
  induction L with
  | nil => simp [val]
  | cons y r ih => simp only [List.cons_append, val, ih, List.length_cons, Int.pow_succ]; grind
theorem val_app' (L M : List Int) : val (L ++ M) = val L + 65536 ^ L.length * val M := by
  induction L with
  | nil => simp [val]
  | cons y r ih => simp only [List.cons_append, val, ih, List.length_cons, Int.pow_succ]; grind
theorem val_rep (n : Nat) : val (List.replicate n 0) = 0 := by
  induction n with
  | zero => rfl
  | succ n ih => simp [List.replicate_succ, val, ih]
theorem val_set : ∀ (L : List Int) (j : Nat) (x : Int), j < L.length → val (L.set j x) = val L + (x - L.getD j 0) * 65536 ^ j
  | [], j, x, h => by simp at h
  | y :: r, 0, x, h => by simp [val]; omega
  | y :: r, j + 1, x, h => by
    have ih := val_set r j x (by simpa using h)
    simp only [List.set_cons_succ, val, ih, List.getD_cons_succ, Int.pow_succ]; grind
theorem val_take (L : List Int) : ∀ k, k < L.length → val (L.take (k + 1)) = val (L.take k) + L.getD k 0 * 65536 ^ k := by
  intro k hk
  rw [List.take_succ_eq_append_getElem hk, val_app]
  rw [List.length_take, Nat.min_eq_left (Nat.le_of_lt hk)]
  congr 2
  simp [hk]
theorem val_nonneg : ∀ {L : List Int}, D16 L → 0 ≤ val L
  | [], _ => Int.le_refl _
  | x :: r, h => by
    have h0 := h 0
    have ih := val_nonneg (D16_tail h)
    simp only [List.getD_cons_zero] at h0
    simp only [val]; omega
theorem val_lt : ∀ {L : List Int}, D16 L → val L < 65536 ^ L.length
  | [], _ => by simp [val]
  | x :: r, h => by
    have h0 := h 0
    have ih := val_lt (D16_tail h)
    simp only [List.getD_cons_zero] at h0
    simp only [val, List.length_cons, Int.pow_succ]
    omega
theorem mul_step {vL vL' base x y Yk o c n : Int} {i k : Nat} (h1 : vL' = vL + (n % 65536 - o) * 65536 ^ (i + k)) (hn : n = o + x * y + c) (inv : vL + c * 65536 ^ (i + k) = base + x * Yk * 65536 ^ i) :
    vL' + n / 65536 * 65536 ^ (i + (k + 1)) = base + x * (Yk + y * 65536 ^ k) * 65536 ^ i := by
  have e : n = 65536 * (n / 65536) + n % 65536 := by omega
  generalize n / 65536 = q at *
  generalize n % 65536 = r at *
  rw [show i + (k + 1) = i + k + 1 from by omega, Int.pow_succ]
  rw [Int.pow_add] at *
  generalize (65536 : Int) ^ i = A at *
  generalize (65536 : Int) ^ k = B at *
  subst h1
  grind
theorem mul_row {vL vL' X Y x c : Int} {i : Nat} (h1 : vL' = vL + (0 + c - 0) * 65536 ^ (i + 4)) (inv : vL + c * 65536 ^ (i + 4) = X * Y + x * Y * 65536 ^ i) : vL' = (X + x * 65536 ^ i) * Y := by
  rw [h1]
  generalize (65536 : Int) ^ i = A at *
  generalize (65536 : Int) ^ (i + 4) = B at *
  grind
theorem eight {L : List Int} (h : L.length = 8) : ∃ a b c d e f g i, L = [a, b, c, d, e, f, g, i] := by
  match L, h with
  | [a, b, c, d, e, f, g, i], _ => exact ⟨a, b, c, d, e, f, g, i, rfl⟩
theorem four {L : List Int} (h : L.length = 4) : ∃ a b c d, L = [a, b, c, d] := by
  match L, h with
  | [a, b, c, d], _ => exact ⟨a, b, c, d, rfl⟩
/-- the four digits of a number of 64 bits -/
def dig4 (a : Int) : List Int := [a % 65536, a / 65536 % 65536, a / 4294967296 % 65536, a / 281474976710656]
theorem dig4_val (a : Int) : val (dig4 a) = a := by simp only [dig4, val]; omega
theorem dig4_D {a : Int} (h : 0 ≤ a ∧ a < 18446744073709551616) : D16 (dig4 a) :=
  D16_cons (by omega) (D16_cons (by omega) (D16_cons (by omega) (D16_cons (by omega) D16_nil)))
/-- four digits from a place on -/
def num4 (L : List Int) (f : Nat) : Int := L.getD f 0 + 65536 * (L.getD (f + 1) 0 + 65536 * (L.getD (f + 2) 0 + 65536 * L.getD (f + 3) 0))
theorem num4_bd {L : List Int} (h : D16 L) (f : Nat) : 0 ≤ num4 L f ∧ num4 L f < 18446744073709551616 := by
  have h0 := h f; have h1 := h (f + 1); have h2 := h (f + 2); have h3 := h (f + 3)
  unfold num4; omega
theorem num4_val {L : List Int} (hl : L.length = 8) : num4 L 0 + 18446744073709551616 * num4 L 4 = val L := by
  obtain ⟨a, b, c, d, e, f, g, i, rfl⟩ := eight hl
  simp only [num4, val, List.getD_cons_zero, List.getD_cons_succ]; omega
theorem num4_of {L : List Int} (hl : L.length = 8) (hd : D16 L) {v : Int} (hv : val L = v) : num4 L 0 = v % 18446744073709551616 ∧ num4 L 4 = v / 18446744073709551616 := by
  have h1 := num4_val hl
  have h2 := num4_bd hd 0
  omega
end Go.Proofs.Ytjadcaoobnklcaa
