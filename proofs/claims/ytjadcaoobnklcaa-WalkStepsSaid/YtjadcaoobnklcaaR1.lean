/- The judgement once more, for a round's frame: printed by rcopy.py out of Sx and a.tpl. -/
import Derived.Test.YtjadcaoobnklcaaA
import Derived.Test.YtjadcaoobnklcaaK1
import Derived.RangeFuncLeaves
import Derived.RangeFuncRecord
namespace Go.Proofs.Ytjadcaoobnklcaa.Ro
open Sx Go
set_option linter.unusedVariables false
set_option linter.unusedSimpArgs false
-- Sx2.lean
/-- within a round of loop f: from this point on it hands back to the iterator as R says -/
def J (P : Program) (f : Nat) (todo : List Item) (a : Act) (w : World) (R : Ending → World → Prop) : Prop :=
  ∀ (b c : Frame) (cs : List Frame), b.roundOf = some f → b.kind = .normal →
    ∃ v w', R (.returned v) w' ∧ Steps P (lone (b.atR a todo) (c :: cs) w) (lone (c.finish v) cs w')
theorem J.step {P f todo todo' a a' w w' R} (hs : ∀ (b : Frame) cs, b.roundOf = some f → b.kind = .normal → step P (lone (b.atR a todo) cs w) = .next (lone (b.atR a' todo') cs w'))
    (h : J P f todo' a' w' R) : J P f todo a w R := by
  intro b c cs hb hk
  obtain ⟨v, w'', hR, hc⟩ := h b c cs hb hk
  exact ⟨v, w'', hR, .head (hs b (c :: cs) hb hk) hc⟩
theorem J.mono {P f todo a w R R'} (h : J P f todo a w R) (hr : ∀ e w', R e w' → R' e w') : J P f todo a w R' :=
  fun b c cs hb hk => let ⟨v, w', r, rest⟩ := h b c cs hb hk; ⟨v, w', hr _ _ r, rest⟩
theorem semAt_run {P : Program} {ro : Option Nat} {ρ : Operand → Value} {o : Oper} {w w' : World} {x : Next} (h : (execOp ρ o).run P w = .ok x w') (hx : ∀ d, x ≠ .defer d) : (o.semAt ro ρ).run P w = .ok x w' := by
  by_cases hd : ∃ c, o.op = .defer c
  · obtain ⟨c, hc⟩ := hd
    exfalso
    simp only [execOp, hc, Sem.run_bind, Sem.run_pure] at h
    cases hr : Sem.run P (resolve ρ c o.type) w with
    | ok d w1 => rw [hr] at h; simp only [Result.andThen_ok] at h; cases h; exact hx _ rfl
    | _ => rw [hr] at h; simp [Result.andThen] at h
  · rw [Oper.semAt_eq ro ρ o fun c hc => hd ⟨c, hc⟩]; exact h
section
variable (P : Program) (f n : Nat) (R : Ending → World → Prop) (D : List Deferred) (w0 : World)

def JS (todo : List Item) (ov : Ov) (H : List Asn) : Prop :=
  ∀ a w, Rep n D ov a → St w0 H w → J P f todo a w R
end

section
variable {P : Program} {f n : Nat} {R : Ending → World → Prop} {D : List Deferred} {w0 : World} {k : List Item} {ov : Ov} {H : List Asn}

theorem JS_seq {x y : Code} (h : JS P f n R D w0 (.code x :: .code y :: k) ov H) : JS P f n R D w0 (.code (.seq x y) :: k) ov H :=
  fun a w ha hw => (h a w ha hw).step fun _ _ _ _ => stepR_seq
theorem JS_skip (h : JS P f n R D w0 k ov H) : JS P f n R D w0 (.code .skip :: k) ov H :=
  fun a w ha hw => (h a w ha hw).step fun _ _ _ _ => stepR_skip
theorem JS_label {l} (h : JS P f n R D w0 k ov H) : JS P f n R D w0 (.code (.label l) :: k) ov H :=
  fun a w ha hw => (h a w ha hw).step fun _ _ _ _ => stepR_label
theorem JS_inBlock {id} (h : JS P f n R D w0 k ov H) : JS P f n R D w0 (.inBlock id :: k) ov H :=
  fun a w ha hw => (h a w ha hw).step fun _ _ _ _ => stepR_inBlock
theorem JS_block {id x} (h : JS P f n R D w0 (.code x :: .inBlock id :: k) ov H) : JS P f n R D w0 (.code (.block id x) :: k) ov H :=
  fun a w ha hw => (h a w ha hw).step fun _ _ _ _ => stepR_block
theorem JS_loop' {x} (h : JS P f n R D w0 (.code x :: .inLoop x :: k) ov H) : JS P f n R D w0 (.code (.loop x) :: k) ov H :=
  fun a w ha hw => (h a w ha hw).step fun _ _ _ _ => stepR_loop
theorem JS_inLoop {x} (h : JS P f n R D w0 (.code x :: .inLoop x :: k) ov H) : JS P f n R D w0 (.inLoop x :: k) ov H :=
  fun a w ha hw => (h a w ha hw).step fun _ _ _ _ => stepR_inLoop
theorem JS_exit {id k'} (he : exitTo id k = some k') (h : JS P f n R D w0 k' ov H) : JS P f n R D w0 (.code (.exit id) :: k) ov H :=
  fun a w ha hw => (h a w ha hw).step fun _ _ _ _ => stepR_exit he
theorem JS_cond {c x y b} (hc : ev ov c = some (.bool b)) (ht : b = true → JS P f n R D w0 (.code x :: k) ov H) (hf : b = false → JS P f n R D w0 (.code y :: k) ov H) :
    JS P f n R D w0 (.code (.cond c x y) :: k) ov H := by
  intro a w ha hw
  cases b with
  | true => exact (ht rfl a w ha hw).step fun _ _ _ _ => stepR_cond (t := true) (ha.ev hc)
  | false => exact (hf rfl a w ha hw).step fun _ _ _ _ => stepR_cond (t := false) (ha.ev hc)
theorem JS_condT {c x y} (hc : ev ov c = some (.bool true)) (h : JS P f n R D w0 (.code x :: k) ov H) :
    JS P f n R D w0 (.code (.cond c x y) :: k) ov H := JS_cond hc (fun _ => h) (fun e => nomatch e)
theorem JS_condF {c x y} (hc : ev ov c = some (.bool false)) (h : JS P f n R D w0 (.code y :: k) ov H) :
    JS P f n R D w0 (.code (.cond c x y) :: k) ov H := JS_cond hc (fun e => nomatch e) (fun _ => h)
theorem JS_condD {c x y} {p : Prop} [Decidable p] (hc : ev ov c = some (.bool (decide p))) (ht : p → JS P f n R D w0 (.code x :: k) ov H) (hf : ¬ p → JS P f n R D w0 (.code y :: k) ov H) :
    JS P f n R D w0 (.code (.cond c x y) :: k) ov H := JS_cond hc (fun e => ht (of_decide_eq_true e)) (fun e => hf (of_decide_eq_false e))
theorem JS_cond_T {c x y} {p : Prop} [Decidable p] (hc : ev ov c = some (.bool (decide p))) (hp : p) (h : JS P f n R D w0 (.code x :: k) ov H) :
    JS P f n R D w0 (.code (.cond c x y) :: k) ov H := JS_condD hc (fun _ => h) (fun e => absurd hp e)
theorem JS_cond_F {c x y} {p : Prop} [Decidable p] (hc : ev ov c = some (.bool (decide p))) (hp : ¬ p) (h : JS P f n R D w0 (.code y :: k) ov H) :
    JS P f n R D w0 (.code (.cond c x y) :: k) ov H := JS_condD hc (fun e => absurd e hp) (fun _ => h)
theorem JS_weak {ov' H'} (h : JS P f n R D w0 k ov' H') (hs : sub ov' ov) (hH : ∀ w, St w0 H w → St w0 H' w) : JS P f n R D w0 k ov H :=
  fun a w ha hw => h a w (ha.sub hs) (hH w hw)
theorem JS_ov {ov'} (hs : sub ov' ov) (h : JS P f n R D w0 k ov' H) : JS P f n R D w0 k ov H :=
  fun a w ha hw => h a w (ha.sub hs) hw
theorem JS_H {H'} (hH : ∀ w, St w0 H w → St w0 H' w) (h : JS P f n R D w0 k ov H') : JS P f n R D w0 k ov H :=
  fun a w ha hw => h a w ha (hH w hw)
theorem JS_fact {p : Prop} (hp : ∀ w, St w0 H w → p) (h : p → JS P f n R D w0 k ov H) : JS P f n R D w0 k ov H :=
  fun a w ha hw => h (hp w hw) a w ha hw

theorem JS_loop {ι : Type} {c : Code} (o : ι → Ov) (H' : ι → List Asn) (I : ι → Prop) (μ : ι → Nat) (x0 : ι) (h0 : I x0) (hs : sub (o x0) ov) (hH : ∀ w, St w0 H w → St w0 (H' x0) w)
    (round : ∀ x, I x → (∀ y, I y → μ y < μ x → JS P f n R D w0 (.inLoop c :: k) (o y) (H' y)) → JS P f n R D w0 (.code c :: .inLoop c :: k) (o x) (H' x)) :
    JS P f n R D w0 (.code (.loop c) :: k) ov H := by
  have key : ∀ m x, μ x = m → I x → JS P f n R D w0 (.code c :: .inLoop c :: k) (o x) (H' x) := by
    intro m
    induction m using Nat.strongRecOn with
    | _ m ih =>
      intro x hm hx
      exact round x hx fun y hy hlt => JS_inLoop (ih (μ y) (hm ▸ hlt) y rfl hy)
  exact JS_loop' (JS_weak (key _ x0 rfl h0) hs hH)

theorem JS_join {ι : Type} {c : Code} (o : ι → Ov) (H' : ι → List Asn) (I : ι → Prop) (cont : ∀ x, I x → JS P f n R D w0 k (o x) (H' x))
    (h : (∀ x, I x → JS P f n R D w0 k (o x) (H' x)) → JS P f n R D w0 (.code c :: k) ov H) : JS P f n R D w0 (.code c :: k) ov H := h cont
theorem JS_to {ι : Type} {o : ι → Ov} {H' : ι → List Asn} {I : ι → Prop} (K : ∀ x, I x → JS P f n R D w0 k (o x) (H' x)) (x : ι) (hI : I x) (hs : sub (o x) ov) (hH : ∀ w, St w0 H w → St w0 (H' x) w) : JS P f n R D w0 k ov H :=
  JS_weak (K x hI) hs hH
theorem JS_join1 {α : Type} {c : Code} (o : α → Ov) (H' : α → List Asn) (I : α → Prop) (cont : ∀ (x1 : α), I x1 → JS P f n R D w0 k (o x1) (H' x1))
    (h : (∀ (x1 : α), I x1 → JS P f n R D w0 k (o x1) (H' x1)) → JS P f n R D w0 (.code c :: k) ov H) : JS P f n R D w0 (.code c :: k) ov H := h cont
theorem JS_to1 {α : Type} {o : α → Ov} {H' : α → List Asn} {I : α → Prop} (K : ∀ (x1 : α), I x1 → JS P f n R D w0 k (o x1) (H' x1)) (x1 : α) (hI : I x1) (hs : sub (o x1) ov) (hH : ∀ w, St w0 H w → St w0 (H' x1) w) : JS P f n R D w0 k ov H :=
  JS_weak (K x1 hI) hs hH
theorem JS_loop1 {α : Type} {c : Code} (o : α → Ov) (H' : α → List Asn) (I : α → Prop) (μ : α → Nat) (x1 : α) (h0 : I x1) (hs : sub (o x1) ov) (hH : ∀ w, St w0 H w → St w0 (H' x1) w)
    (round : ∀ (x1 : α), I x1 → (∀ (y1 : α), I y1 → μ y1 < μ x1 → JS P f n R D w0 (.inLoop c :: k) (o y1) (H' y1)) → JS P f n R D w0 (.code c :: .inLoop c :: k) (o x1) (H' x1)) :
    JS P f n R D w0 (.code (.loop c) :: k) ov H :=
  JS_loop (ι := α) (fun p => o p) (fun p => H' p) (fun p => I p) (fun p => μ p) (x1) h0 hs hH (fun p hp hr => round p hp fun y1 hy hlt => hr (y1) hy hlt)
theorem JS_again1 {α : Type} {c : Code} {o : α → Ov} {H' : α → List Asn} {I : α → Prop} {μ : α → Nat} {m : Nat} (K : ∀ (y1 : α), I y1 → μ y1 < m → JS P f n R D w0 (.inLoop c :: k) (o y1) (H' y1)) (x1 : α) (hI : I x1) (hm : μ x1 < m) (hs : sub (o x1) ov) (hH : ∀ w, St w0 H w → St w0 (H' x1) w) : JS P f n R D w0 (.inLoop c :: k) ov H :=
  JS_weak (K x1 hI hm) hs hH
theorem JS_join2 {α : Type} {β : Type} {c : Code} (o : α → β → Ov) (H' : α → β → List Asn) (I : α → β → Prop) (cont : ∀ (x1 : α) (x2 : β), I x1 x2 → JS P f n R D w0 k (o x1 x2) (H' x1 x2))
    (h : (∀ (x1 : α) (x2 : β), I x1 x2 → JS P f n R D w0 k (o x1 x2) (H' x1 x2)) → JS P f n R D w0 (.code c :: k) ov H) : JS P f n R D w0 (.code c :: k) ov H := h cont
theorem JS_to2 {α : Type} {β : Type} {o : α → β → Ov} {H' : α → β → List Asn} {I : α → β → Prop} (K : ∀ (x1 : α) (x2 : β), I x1 x2 → JS P f n R D w0 k (o x1 x2) (H' x1 x2)) (x1 : α) (x2 : β) (hI : I x1 x2) (hs : sub (o x1 x2) ov) (hH : ∀ w, St w0 H w → St w0 (H' x1 x2) w) : JS P f n R D w0 k ov H :=
  JS_weak (K x1 x2 hI) hs hH
theorem JS_loop2 {α : Type} {β : Type} {c : Code} (o : α → β → Ov) (H' : α → β → List Asn) (I : α → β → Prop) (μ : α → β → Nat) (x1 : α) (x2 : β) (h0 : I x1 x2) (hs : sub (o x1 x2) ov) (hH : ∀ w, St w0 H w → St w0 (H' x1 x2) w)
    (round : ∀ (x1 : α) (x2 : β), I x1 x2 → (∀ (y1 : α) (y2 : β), I y1 y2 → μ y1 y2 < μ x1 x2 → JS P f n R D w0 (.inLoop c :: k) (o y1 y2) (H' y1 y2)) → JS P f n R D w0 (.code c :: .inLoop c :: k) (o x1 x2) (H' x1 x2)) :
    JS P f n R D w0 (.code (.loop c) :: k) ov H :=
  JS_loop (ι := α × β) (fun p => o p.1 p.2) (fun p => H' p.1 p.2) (fun p => I p.1 p.2) (fun p => μ p.1 p.2) (x1, x2) h0 hs hH (fun p hp hr => round p.1 p.2 hp fun y1 y2 hy hlt => hr (y1, y2) hy hlt)
theorem JS_again2 {α : Type} {β : Type} {c : Code} {o : α → β → Ov} {H' : α → β → List Asn} {I : α → β → Prop} {μ : α → β → Nat} {m : Nat} (K : ∀ (y1 : α) (y2 : β), I y1 y2 → μ y1 y2 < m → JS P f n R D w0 (.inLoop c :: k) (o y1 y2) (H' y1 y2)) (x1 : α) (x2 : β) (hI : I x1 x2) (hm : μ x1 x2 < m) (hs : sub (o x1 x2) ov) (hH : ∀ w, St w0 H w → St w0 (H' x1 x2) w) : JS P f n R D w0 (.inLoop c :: k) ov H :=
  JS_weak (K x1 x2 hI hm) hs hH
theorem JS_join3 {α : Type} {β : Type} {γ : Type} {c : Code} (o : α → β → γ → Ov) (H' : α → β → γ → List Asn) (I : α → β → γ → Prop) (cont : ∀ (x1 : α) (x2 : β) (x3 : γ), I x1 x2 x3 → JS P f n R D w0 k (o x1 x2 x3) (H' x1 x2 x3))
    (h : (∀ (x1 : α) (x2 : β) (x3 : γ), I x1 x2 x3 → JS P f n R D w0 k (o x1 x2 x3) (H' x1 x2 x3)) → JS P f n R D w0 (.code c :: k) ov H) : JS P f n R D w0 (.code c :: k) ov H := h cont
theorem JS_to3 {α : Type} {β : Type} {γ : Type} {o : α → β → γ → Ov} {H' : α → β → γ → List Asn} {I : α → β → γ → Prop} (K : ∀ (x1 : α) (x2 : β) (x3 : γ), I x1 x2 x3 → JS P f n R D w0 k (o x1 x2 x3) (H' x1 x2 x3)) (x1 : α) (x2 : β) (x3 : γ) (hI : I x1 x2 x3) (hs : sub (o x1 x2 x3) ov) (hH : ∀ w, St w0 H w → St w0 (H' x1 x2 x3) w) : JS P f n R D w0 k ov H :=
  JS_weak (K x1 x2 x3 hI) hs hH
theorem JS_loop3 {α : Type} {β : Type} {γ : Type} {c : Code} (o : α → β → γ → Ov) (H' : α → β → γ → List Asn) (I : α → β → γ → Prop) (μ : α → β → γ → Nat) (x1 : α) (x2 : β) (x3 : γ) (h0 : I x1 x2 x3) (hs : sub (o x1 x2 x3) ov) (hH : ∀ w, St w0 H w → St w0 (H' x1 x2 x3) w)
    (round : ∀ (x1 : α) (x2 : β) (x3 : γ), I x1 x2 x3 → (∀ (y1 : α) (y2 : β) (y3 : γ), I y1 y2 y3 → μ y1 y2 y3 < μ x1 x2 x3 → JS P f n R D w0 (.inLoop c :: k) (o y1 y2 y3) (H' y1 y2 y3)) → JS P f n R D w0 (.code c :: .inLoop c :: k) (o x1 x2 x3) (H' x1 x2 x3)) :
    JS P f n R D w0 (.code (.loop c) :: k) ov H :=
  JS_loop (ι := α × β × γ) (fun p => o p.1 p.2.1 p.2.2) (fun p => H' p.1 p.2.1 p.2.2) (fun p => I p.1 p.2.1 p.2.2) (fun p => μ p.1 p.2.1 p.2.2) (x1, x2, x3) h0 hs hH (fun p hp hr => round p.1 p.2.1 p.2.2 hp fun y1 y2 y3 hy hlt => hr (y1, y2, y3) hy hlt)
theorem JS_again3 {α : Type} {β : Type} {γ : Type} {c : Code} {o : α → β → γ → Ov} {H' : α → β → γ → List Asn} {I : α → β → γ → Prop} {μ : α → β → γ → Nat} {m : Nat} (K : ∀ (y1 : α) (y2 : β) (y3 : γ), I y1 y2 y3 → μ y1 y2 y3 < m → JS P f n R D w0 (.inLoop c :: k) (o y1 y2 y3) (H' y1 y2 y3)) (x1 : α) (x2 : β) (x3 : γ) (hI : I x1 x2 x3) (hm : μ x1 x2 x3 < m) (hs : sub (o x1 x2 x3) ov) (hH : ∀ w, St w0 H w → St w0 (H' x1 x2 x3) w) : JS P f n R D w0 (.inLoop c :: k) ov H :=
  JS_weak (K x1 x2 x3 hI hm) hs hH
theorem JS_join4 {α : Type} {β : Type} {γ : Type} {δ : Type} {c : Code} (o : α → β → γ → δ → Ov) (H' : α → β → γ → δ → List Asn) (I : α → β → γ → δ → Prop) (cont : ∀ (x1 : α) (x2 : β) (x3 : γ) (x4 : δ), I x1 x2 x3 x4 → JS P f n R D w0 k (o x1 x2 x3 x4) (H' x1 x2 x3 x4))
    (h : (∀ (x1 : α) (x2 : β) (x3 : γ) (x4 : δ), I x1 x2 x3 x4 → JS P f n R D w0 k (o x1 x2 x3 x4) (H' x1 x2 x3 x4)) → JS P f n R D w0 (.code c :: k) ov H) : JS P f n R D w0 (.code c :: k) ov H := h cont
theorem JS_to4 {α : Type} {β : Type} {γ : Type} {δ : Type} {o : α → β → γ → δ → Ov} {H' : α → β → γ → δ → List Asn} {I : α → β → γ → δ → Prop} (K : ∀ (x1 : α) (x2 : β) (x3 : γ) (x4 : δ), I x1 x2 x3 x4 → JS P f n R D w0 k (o x1 x2 x3 x4) (H' x1 x2 x3 x4)) (x1 : α) (x2 : β) (x3 : γ) (x4 : δ) (hI : I x1 x2 x3 x4) (hs : sub (o x1 x2 x3 x4) ov) (hH : ∀ w, St w0 H w → St w0 (H' x1 x2 x3 x4) w) : JS P f n R D w0 k ov H :=
  JS_weak (K x1 x2 x3 x4 hI) hs hH
theorem JS_loop4 {α : Type} {β : Type} {γ : Type} {δ : Type} {c : Code} (o : α → β → γ → δ → Ov) (H' : α → β → γ → δ → List Asn) (I : α → β → γ → δ → Prop) (μ : α → β → γ → δ → Nat) (x1 : α) (x2 : β) (x3 : γ) (x4 : δ) (h0 : I x1 x2 x3 x4) (hs : sub (o x1 x2 x3 x4) ov) (hH : ∀ w, St w0 H w → St w0 (H' x1 x2 x3 x4) w)
    (round : ∀ (x1 : α) (x2 : β) (x3 : γ) (x4 : δ), I x1 x2 x3 x4 → (∀ (y1 : α) (y2 : β) (y3 : γ) (y4 : δ), I y1 y2 y3 y4 → μ y1 y2 y3 y4 < μ x1 x2 x3 x4 → JS P f n R D w0 (.inLoop c :: k) (o y1 y2 y3 y4) (H' y1 y2 y3 y4)) → JS P f n R D w0 (.code c :: .inLoop c :: k) (o x1 x2 x3 x4) (H' x1 x2 x3 x4)) :
    JS P f n R D w0 (.code (.loop c) :: k) ov H :=
  JS_loop (ι := α × β × γ × δ) (fun p => o p.1 p.2.1 p.2.2.1 p.2.2.2) (fun p => H' p.1 p.2.1 p.2.2.1 p.2.2.2) (fun p => I p.1 p.2.1 p.2.2.1 p.2.2.2) (fun p => μ p.1 p.2.1 p.2.2.1 p.2.2.2) (x1, x2, x3, x4) h0 hs hH (fun p hp hr => round p.1 p.2.1 p.2.2.1 p.2.2.2 hp fun y1 y2 y3 y4 hy hlt => hr (y1, y2, y3, y4) hy hlt)
theorem JS_again4 {α : Type} {β : Type} {γ : Type} {δ : Type} {c : Code} {o : α → β → γ → δ → Ov} {H' : α → β → γ → δ → List Asn} {I : α → β → γ → δ → Prop} {μ : α → β → γ → δ → Nat} {m : Nat} (K : ∀ (y1 : α) (y2 : β) (y3 : γ) (y4 : δ), I y1 y2 y3 y4 → μ y1 y2 y3 y4 < m → JS P f n R D w0 (.inLoop c :: k) (o y1 y2 y3 y4) (H' y1 y2 y3 y4)) (x1 : α) (x2 : β) (x3 : γ) (x4 : δ) (hI : I x1 x2 x3 x4) (hm : μ x1 x2 x3 x4 < m) (hs : sub (o x1 x2 x3 x4) ov) (hH : ∀ w, St w0 H w → St w0 (H' x1 x2 x3 x4) w) : JS P f n R D w0 (.inLoop c :: k) ov H :=
  JS_weak (K x1 x2 x3 x4 hI hm) hs hH
theorem JS_join5 {α : Type} {β : Type} {γ : Type} {δ : Type} {ε : Type} {c : Code} (o : α → β → γ → δ → ε → Ov) (H' : α → β → γ → δ → ε → List Asn) (I : α → β → γ → δ → ε → Prop) (cont : ∀ (x1 : α) (x2 : β) (x3 : γ) (x4 : δ) (x5 : ε), I x1 x2 x3 x4 x5 → JS P f n R D w0 k (o x1 x2 x3 x4 x5) (H' x1 x2 x3 x4 x5))
    (h : (∀ (x1 : α) (x2 : β) (x3 : γ) (x4 : δ) (x5 : ε), I x1 x2 x3 x4 x5 → JS P f n R D w0 k (o x1 x2 x3 x4 x5) (H' x1 x2 x3 x4 x5)) → JS P f n R D w0 (.code c :: k) ov H) : JS P f n R D w0 (.code c :: k) ov H := h cont
theorem JS_to5 {α : Type} {β : Type} {γ : Type} {δ : Type} {ε : Type} {o : α → β → γ → δ → ε → Ov} {H' : α → β → γ → δ → ε → List Asn} {I : α → β → γ → δ → ε → Prop} (K : ∀ (x1 : α) (x2 : β) (x3 : γ) (x4 : δ) (x5 : ε), I x1 x2 x3 x4 x5 → JS P f n R D w0 k (o x1 x2 x3 x4 x5) (H' x1 x2 x3 x4 x5)) (x1 : α) (x2 : β) (x3 : γ) (x4 : δ) (x5 : ε) (hI : I x1 x2 x3 x4 x5) (hs : sub (o x1 x2 x3 x4 x5) ov) (hH : ∀ w, St w0 H w → St w0 (H' x1 x2 x3 x4 x5) w) : JS P f n R D w0 k ov H :=
  JS_weak (K x1 x2 x3 x4 x5 hI) hs hH
theorem JS_loop5 {α : Type} {β : Type} {γ : Type} {δ : Type} {ε : Type} {c : Code} (o : α → β → γ → δ → ε → Ov) (H' : α → β → γ → δ → ε → List Asn) (I : α → β → γ → δ → ε → Prop) (μ : α → β → γ → δ → ε → Nat) (x1 : α) (x2 : β) (x3 : γ) (x4 : δ) (x5 : ε) (h0 : I x1 x2 x3 x4 x5) (hs : sub (o x1 x2 x3 x4 x5) ov) (hH : ∀ w, St w0 H w → St w0 (H' x1 x2 x3 x4 x5) w)
    (round : ∀ (x1 : α) (x2 : β) (x3 : γ) (x4 : δ) (x5 : ε), I x1 x2 x3 x4 x5 → (∀ (y1 : α) (y2 : β) (y3 : γ) (y4 : δ) (y5 : ε), I y1 y2 y3 y4 y5 → μ y1 y2 y3 y4 y5 < μ x1 x2 x3 x4 x5 → JS P f n R D w0 (.inLoop c :: k) (o y1 y2 y3 y4 y5) (H' y1 y2 y3 y4 y5)) → JS P f n R D w0 (.code c :: .inLoop c :: k) (o x1 x2 x3 x4 x5) (H' x1 x2 x3 x4 x5)) :
    JS P f n R D w0 (.code (.loop c) :: k) ov H :=
  JS_loop (ι := α × β × γ × δ × ε) (fun p => o p.1 p.2.1 p.2.2.1 p.2.2.2.1 p.2.2.2.2) (fun p => H' p.1 p.2.1 p.2.2.1 p.2.2.2.1 p.2.2.2.2) (fun p => I p.1 p.2.1 p.2.2.1 p.2.2.2.1 p.2.2.2.2) (fun p => μ p.1 p.2.1 p.2.2.1 p.2.2.2.1 p.2.2.2.2) (x1, x2, x3, x4, x5) h0 hs hH (fun p hp hr => round p.1 p.2.1 p.2.2.1 p.2.2.2.1 p.2.2.2.2 hp fun y1 y2 y3 y4 y5 hy hlt => hr (y1, y2, y3, y4, y5) hy hlt)
theorem JS_again5 {α : Type} {β : Type} {γ : Type} {δ : Type} {ε : Type} {c : Code} {o : α → β → γ → δ → ε → Ov} {H' : α → β → γ → δ → ε → List Asn} {I : α → β → γ → δ → ε → Prop} {μ : α → β → γ → δ → ε → Nat} {m : Nat} (K : ∀ (y1 : α) (y2 : β) (y3 : γ) (y4 : δ) (y5 : ε), I y1 y2 y3 y4 y5 → μ y1 y2 y3 y4 y5 < m → JS P f n R D w0 (.inLoop c :: k) (o y1 y2 y3 y4 y5) (H' y1 y2 y3 y4 y5)) (x1 : α) (x2 : β) (x3 : γ) (x4 : δ) (x5 : ε) (hI : I x1 x2 x3 x4 x5) (hm : μ x1 x2 x3 x4 x5 < m) (hs : sub (o x1 x2 x3 x4 x5) ov) (hH : ∀ w, St w0 H w → St w0 (H' x1 x2 x3 x4 x5) w) : JS P f n R D w0 (.inLoop c :: k) ov H :=
  JS_weak (K x1 x2 x3 x4 x5 hI hm) hs hH
theorem JS_join6 {α : Type} {β : Type} {γ : Type} {δ : Type} {ε : Type} {ζ : Type} {c : Code} (o : α → β → γ → δ → ε → ζ → Ov) (H' : α → β → γ → δ → ε → ζ → List Asn) (I : α → β → γ → δ → ε → ζ → Prop) (cont : ∀ (x1 : α) (x2 : β) (x3 : γ) (x4 : δ) (x5 : ε) (x6 : ζ), I x1 x2 x3 x4 x5 x6 → JS P f n R D w0 k (o x1 x2 x3 x4 x5 x6) (H' x1 x2 x3 x4 x5 x6))
    (h : (∀ (x1 : α) (x2 : β) (x3 : γ) (x4 : δ) (x5 : ε) (x6 : ζ), I x1 x2 x3 x4 x5 x6 → JS P f n R D w0 k (o x1 x2 x3 x4 x5 x6) (H' x1 x2 x3 x4 x5 x6)) → JS P f n R D w0 (.code c :: k) ov H) : JS P f n R D w0 (.code c :: k) ov H := h cont
theorem JS_to6 {α : Type} {β : Type} {γ : Type} {δ : Type} {ε : Type} {ζ : Type} {o : α → β → γ → δ → ε → ζ → Ov} {H' : α → β → γ → δ → ε → ζ → List Asn} {I : α → β → γ → δ → ε → ζ → Prop} (K : ∀ (x1 : α) (x2 : β) (x3 : γ) (x4 : δ) (x5 : ε) (x6 : ζ), I x1 x2 x3 x4 x5 x6 → JS P f n R D w0 k (o x1 x2 x3 x4 x5 x6) (H' x1 x2 x3 x4 x5 x6)) (x1 : α) (x2 : β) (x3 : γ) (x4 : δ) (x5 : ε) (x6 : ζ) (hI : I x1 x2 x3 x4 x5 x6) (hs : sub (o x1 x2 x3 x4 x5 x6) ov) (hH : ∀ w, St w0 H w → St w0 (H' x1 x2 x3 x4 x5 x6) w) : JS P f n R D w0 k ov H :=
  JS_weak (K x1 x2 x3 x4 x5 x6 hI) hs hH
theorem JS_loop6 {α : Type} {β : Type} {γ : Type} {δ : Type} {ε : Type} {ζ : Type} {c : Code} (o : α → β → γ → δ → ε → ζ → Ov) (H' : α → β → γ → δ → ε → ζ → List Asn) (I : α → β → γ → δ → ε → ζ → Prop) (μ : α → β → γ → δ → ε → ζ → Nat) (x1 : α) (x2 : β) (x3 : γ) (x4 : δ) (x5 : ε) (x6 : ζ) (h0 : I x1 x2 x3 x4 x5 x6) (hs : sub (o x1 x2 x3 x4 x5 x6) ov) (hH : ∀ w, St w0 H w → St w0 (H' x1 x2 x3 x4 x5 x6) w)
    (round : ∀ (x1 : α) (x2 : β) (x3 : γ) (x4 : δ) (x5 : ε) (x6 : ζ), I x1 x2 x3 x4 x5 x6 → (∀ (y1 : α) (y2 : β) (y3 : γ) (y4 : δ) (y5 : ε) (y6 : ζ), I y1 y2 y3 y4 y5 y6 → μ y1 y2 y3 y4 y5 y6 < μ x1 x2 x3 x4 x5 x6 → JS P f n R D w0 (.inLoop c :: k) (o y1 y2 y3 y4 y5 y6) (H' y1 y2 y3 y4 y5 y6)) → JS P f n R D w0 (.code c :: .inLoop c :: k) (o x1 x2 x3 x4 x5 x6) (H' x1 x2 x3 x4 x5 x6)) :
    JS P f n R D w0 (.code (.loop c) :: k) ov H :=
  JS_loop (ι := α × β × γ × δ × ε × ζ) (fun p => o p.1 p.2.1 p.2.2.1 p.2.2.2.1 p.2.2.2.2.1 p.2.2.2.2.2) (fun p => H' p.1 p.2.1 p.2.2.1 p.2.2.2.1 p.2.2.2.2.1 p.2.2.2.2.2) (fun p => I p.1 p.2.1 p.2.2.1 p.2.2.2.1 p.2.2.2.2.1 p.2.2.2.2.2) (fun p => μ p.1 p.2.1 p.2.2.1 p.2.2.2.1 p.2.2.2.2.1 p.2.2.2.2.2) (x1, x2, x3, x4, x5, x6) h0 hs hH (fun p hp hr => round p.1 p.2.1 p.2.2.1 p.2.2.2.1 p.2.2.2.2.1 p.2.2.2.2.2 hp fun y1 y2 y3 y4 y5 y6 hy hlt => hr (y1, y2, y3, y4, y5, y6) hy hlt)
theorem JS_again6 {α : Type} {β : Type} {γ : Type} {δ : Type} {ε : Type} {ζ : Type} {c : Code} {o : α → β → γ → δ → ε → ζ → Ov} {H' : α → β → γ → δ → ε → ζ → List Asn} {I : α → β → γ → δ → ε → ζ → Prop} {μ : α → β → γ → δ → ε → ζ → Nat} {m : Nat} (K : ∀ (y1 : α) (y2 : β) (y3 : γ) (y4 : δ) (y5 : ε) (y6 : ζ), I y1 y2 y3 y4 y5 y6 → μ y1 y2 y3 y4 y5 y6 < m → JS P f n R D w0 (.inLoop c :: k) (o y1 y2 y3 y4 y5 y6) (H' y1 y2 y3 y4 y5 y6)) (x1 : α) (x2 : β) (x3 : γ) (x4 : δ) (x5 : ε) (x6 : ζ) (hI : I x1 x2 x3 x4 x5 x6) (hm : μ x1 x2 x3 x4 x5 x6 < m) (hs : sub (o x1 x2 x3 x4 x5 x6) ov) (hH : ∀ w, St w0 H w → St w0 (H' x1 x2 x3 x4 x5 x6) w) : JS P f n R D w0 (.inLoop c :: k) ov H :=
  JS_weak (K x1 x2 x3 x4 x5 x6 hI hm) hs hH
section
variable (P : Program) (f n : Nat) (R : Ending → World → Prop) (D : List Deferred) (w0 : World)
def JR (ops : Array Oper) (l : List Oper) (k : List Item) (ov : Ov) (H : List Asn) : Prop :=
  ∀ is : List Nat, is.map (fun i => ops[i]?) = l.map some → JS P f n R D w0 (.inRegion ops is :: k) ov H
def JO (ops : Array Oper) (o : Oper) (l : List Oper) (k : List Item) (ov : Ov) (H : List Asn) : Prop :=
  ∀ i is, ops[i]? = some o → is.map (fun i => ops[i]?) = l.map some → ∀ a w, Rep n D ov a → St w0 H w → Region.wanted o (yielded ops a.tmps) = true → J P f (.inRegion ops (i :: is) :: k) a w R
end

theorem JS_region {id} {l : List Oper} (h : JR P f n R D w0 l.toArray l k ov H) : JS P f n R D w0 (.code (.region id l.toArray false) :: k) ov H := by
  intro a w ha hw
  refine (h (List.range l.toArray.size) ?_ a w ha hw).step fun _ _ _ _ => stepR_region
  apply List.ext_getElem?
  intro i
  simp only [List.size_toArray, List.getElem?_map, List.getElem?_toArray]
  by_cases hi : i < l.length
  · simp [hi]
  · simp [hi]
theorem JR_nil {ops} (h : JS P f n R D w0 k ov H) : JR P f n R D w0 ops [] k ov H := by
  intro is hm a w ha hw
  have : is = [] := by simpa using hm
  subst this
  exact (h a w ha hw).step fun _ _ _ _ => stepR_region_end
theorem JR_cons' {ops o l} (hy : ∀ a, Rep n D ov a → Region.wanted o (yielded ops a.tmps) = true) (h : JO P f n R D w0 ops o l k ov H) : JR P f n R D w0 ops (o :: l) k ov H := by
  intro is hm a w ha hw
  cases is with
  | nil => simp at hm
  | cons i is =>
    simp only [List.map_cons, List.cons.injEq] at hm
    exact h i is hm.1 hm.2 a w ha hw (hy a ha)
theorem JR_un {ops l d op T pos af} (h : JO P f n R D w0 ops ⟨d, op, T, pos, af, none⟩ l k ov H) : JR P f n R D w0 ops (⟨d, op, T, pos, af, none⟩ :: l) k ov H :=
  JR_cons' (fun _ _ => rfl) h
theorem JR_yes {ops : Array Oper} {l d op T pos af j t b} (hj : (ops[j]?).bind Oper.dst = some t) (hv : Sx.look ov t = some (.bool b)) (h : JO P f n R D w0 ops ⟨d, op, T, pos, af, some (j, b)⟩ l k ov H) :
    JR P f n R D w0 ops (⟨d, op, T, pos, af, some (j, b)⟩ :: l) k ov H :=
  JR_cons' (fun a ha => by simp [Region.wanted, yielded_of ha hj hv]) h
theorem JR_no {ops : Array Oper} {l d op T pos af j t b c} (hj : (ops[j]?).bind Oper.dst = some t) (hv : Sx.look ov t = some (.bool c)) (hbc : (c == b) = false) (hd : dOk d n = true) (h : JR P f n R D w0 ops l k (put d undef ov) H) :
    JR P f n R D w0 ops (⟨d, op, T, pos, af, some (j, b)⟩ :: l) k ov H := by
  intro is hm a w ha hw
  cases is with
  | nil => simp at hm
  | cons i is =>
    simp only [List.map_cons, List.cons.injEq] at hm
    have hno : Region.wanted (⟨d, op, T, pos, af, some (j, b)⟩ : Oper) (yielded ops a.tmps) = false := by
      simp [Region.wanted, yielded_of ha hj hv]; simpa using hbc
    refine (h is hm.2 (a.put d undef) w (ha.put hd undef) hw).step fun b' cs _ _ => ?_
    have := stepR_op_skip (P := P) (b := b') (a := a) (k := k) (cs := cs) (w := w) (ops := ops) (i := i) (rest := is) (by simp [hm.1, hno])
    simpa [hm.1] using this
theorem JR_split {ops : Array Oper} {o l} {j t : Nat} {b : Bool} (_hj : (ops[j]?).bind Oper.dst = some t) (hv : Sx.look ov t = some (.bool b)) (ht : b = true → JR P f n R D w0 ops (o :: l) k ((t, .bool true) :: ov) H) (hf : b = false → JR P f n R D w0 ops (o :: l) k ((t, .bool false) :: ov) H) :
    JR P f n R D w0 ops (o :: l) k ov H := by
  intro is hm a w ha hw
  cases b with
  | true => exact ht rfl is hm a w ⟨ha.size, ha.defers, fun s v hs => by rw [look_cons] at hs; split at hs; (rename_i he; subst he; cases hs; exact ha.val _ _ hv); exact ha.val s v hs⟩ hw
  | false => exact hf rfl is hm a w ⟨ha.size, ha.defers, fun s v hs => by rw [look_cons] at hs; split at hs; (rename_i he; subst he; cases hs; exact ha.val _ _ hv); exact ha.val s v hs⟩ hw

theorem JO_step {ops o l} (h : ∀ a w, Rep n D ov a → St w0 H w → ∃ v w', (execOp a.eval o).run P w = .ok (.value v) w' ∧ dOk o.dst n = true ∧ ∃ H', St w0 H' w' ∧ JR P f n R D w0 ops l k (put o.dst v ov) H') :
    JO P f n R D w0 ops o l k ov H := by
  intro i is hi hm a w ha hw hy
  obtain ⟨v, w', hrun, hd, H', hw', hn⟩ := h a w ha hw
  refine (hn is hm (a.put o.dst v) w' (ha.put hd v) hw').step fun b cs _ _ => ?_
  refine step_lone_go ?_
  have hg := stepGR_op (P := P) (b := b) (k := k) (cs := cs) (w := w) (rest := is) hi hy
  have hfin : (b.atR a (.inRegion ops (i :: is) :: k)).finish v = b.atR (a.put o.dst v) (.inRegion ops is :: k) := by
    rw [Frame.finish_atR, hi]; rfl
  rw [hg, ← hfin]
  simp [stepG.apply, semAt_run hrun (fun d e => by cases e)]
theorem JO_skip {ops o l} (h : ∀ a w, Rep n D ov a → St w0 H w → ∃ w', (execOp a.eval o).run P w = .ok .skip w' ∧ dOk o.dst n = true ∧ ∃ H', St w0 H' w' ∧ JR P f n R D w0 ops l k (put o.dst undef ov) H') :
    JO P f n R D w0 ops o l k ov H := by
  intro i is hi hm a w ha hw hy
  obtain ⟨w', hrun, hd, H', hw', hn⟩ := h a w ha hw
  refine (hn is hm (a.put o.dst undef) w' (ha.put hd undef) hw').step fun b cs _ _ => ?_
  refine step_lone_go ?_
  have hg := stepGR_op (P := P) (b := b) (k := k) (cs := cs) (w := w) (rest := is) hi hy
  have hfin : (b.atR a (.inRegion ops (i :: is) :: k)).finish undef = b.atR (a.put o.dst undef) (.inRegion ops is :: k) := by
    rw [Frame.finish_atR, hi]; rfl
  rw [hg, ← hfin]
  simp [stepG.apply, semAt_run hrun (fun d e => by cases e)]
theorem JO_val {ops o l v} (hd : dOk o.dst n = true) (h : ∀ a w, Rep n D ov a → St w0 H w → (execOp a.eval o).run P w = .ok (.value v) w) (hn : JR P f n R D w0 ops l k (put o.dst v ov) H) :
    JO P f n R D w0 ops o l k ov H :=
  JO_step fun a w ha hw => ⟨v, w, h a w ha hw, hd, H, hw, hn⟩
theorem JO_v {ops l v d op T pos af g} (h : OpV P n D w0 ov H ⟨d, op, T, pos, af, g⟩ v) (hn : JR P f n R D w0 ops l k (put d v ov) H) : JO P f n R D w0 ops ⟨d, op, T, pos, af, g⟩ l k ov H := by
  unfold OpV at h; exact JO_val h.1 h.2 hn
theorem JO_k {ops l H' d op T pos af g} (h : OpK P n D w0 ov H ⟨d, op, T, pos, af, g⟩ H') (hn : JR P f n R D w0 ops l k (put d undef ov) H') : JO P f n R D w0 ops ⟨d, op, T, pos, af, g⟩ l k ov H := by
  unfold OpK at h; exact JO_skip fun a w ha hw => let ⟨w', h1, h2⟩ := h.2 a w ha hw; ⟨w', h1, h.1, H', h2, hn⟩
theorem JO_call' {ops o l g args} (hd : dOk o.dst n = true) (hrun : ∀ a w, Rep n D ov a → St w0 H w → (execOp a.eval o).run P w = .ok (.enter g args) w)
    (h : ∀ w, St w0 H w → Calls P g args w fun e w' => ∃ v, e = .returned v ∧ ∃ H', St w0 H' w' ∧ JR P f n R D w0 ops l k (put o.dst v ov) H') :
    JO P f n R D w0 ops o l k ov H := by
  intro i is hi hm a w ha hw hy b c cs hb hk
  have hg := stepGR_op (P := P) (b := b) (k := k) (cs := c :: cs) (w := w) (rest := is) hi hy
  obtain ⟨e, w', fr, ⟨v, he, H', hw', hn⟩, hsteps, _, hleave⟩ := h w hw (b.atR a (.inRegion ops (i :: is) :: k) :: c :: cs)
  subst he
  have henter : step P (lone (b.atR a (.inRegion ops (i :: is) :: k)) (c :: cs) w) =
      .next (lone (Frame.enter P g args .normal) (b.atR a (.inRegion ops (i :: is) :: k) :: c :: cs) w) :=
    step_lone_go (by rw [hg]; simp [stepG.apply, semAt_run (hrun a w ha hw) (fun d e => by cases e), Frame.atR])
  have hfin : (b.atR a (.inRegion ops (i :: is) :: k)).finish v = b.atR (a.put o.dst v) (.inRegion ops is :: k) := by
    rw [Frame.finish_atR, hi]; rfl
  obtain ⟨e, w'', hR, hc⟩ := hn is hm (a.put o.dst v) w' (ha.put hd v) hw' b c cs hb hk
  refine ⟨e, w'', hR, ?_⟩
  refine .head henter (Steps.trans hsteps (.head ?_ hc))
  rw [← hfin]
  exact step_leave_returned hleave
end
-- Sx3.lean
section
variable {P : Program} {tb : Tb P} {t : Nat} {ty : Ty} {sz by' : Nat} {z : Option (List Value)}
end

section
variable {P : Program} {f n : Nat} {R : Ending → World → Prop} {D : List Deferred} {w0 : World} {k : List Item} {ov : Ov} {H : List Asn}
  {ops : Array Oper} {l : List Oper} {d : Option Nat} {T : Nat} {pos : String} {af : Array Edge} {g : Option (Nat × Bool)} {x y : Operand} {v : Value}

section
variable {K : IntKind} {a b c : Int} {T1 T2 : Nat}
end
theorem JO_call {q : Nat} {xs : List Operand} {vs : List Value} {ts : Array Nat} (hc : ∀ args w, (callFunc q args).run P w = .ok (.enter q args) w) (hx : evs ov xs = some vs) (hd : dOk d n = true)
    (h : ∀ w, St w0 H w → Calls P q vs.toArray w fun e w' => ∃ v, e = .returned v ∧ ∃ H', St w0 H' w' ∧ JR P f n R D w0 ops l k (put d v ov) H') :
    JO P f n R D w0 ops ⟨d, .call ⟨.value (.func q), xs.toArray, ts⟩, T, pos, af, g⟩ l k ov H :=
  JO_call' hd (fun A w ha _ => by
    simp only [execOp, resolve, Deferred.ofValue, Act.eval, Sem.run_bind, Sem.run_pure, Result.andThen_ok, invoke]
    rw [List.map_toArray, ha.evs hx]
    simpa using hc vs.toArray w) h
theorem JO_callv {q : Nat} {xs : List Operand} {vs : List Value} {us cs : List Value} {ts : Array Nat} (hv : ev ov x = some (.func (.func q) us.toArray cs.toArray)) (hc : ∀ args w, (callFunc q args).run P w = .ok (.enter q args) w) (hx : evs ov xs = some vs) (hd : dOk d n = true)
    (h : ∀ w, St w0 H w → Calls P q (us ++ vs ++ cs).toArray w fun e w' => ∃ v, e = .returned v ∧ ∃ H', St w0 H' w' ∧ JR P f n R D w0 ops l k (put d v ov) H') :
    JO P f n R D w0 ops ⟨d, .call ⟨.value x, xs.toArray, ts⟩, T, pos, af, g⟩ l k ov H :=
  JO_call' hd (fun A w ha _ => by
    simp only [execOp, resolve, ha.ev hv, Deferred.ofValue, Sem.run_bind, Sem.run_pure, Result.andThen_ok, invoke]
    rw [List.map_toArray, ha.evs hx]
    simpa using hc (us ++ vs ++ cs).toArray w) h
end
-- Sx4.lean
section
variable {P : Program} {f n : Nat} {R : Ending → World → Prop} {D : List Deferred} {w0 : World} {k : List Item} {ov : Ov} {H : List Asn}
  {ops : Array Oper} {l : List Oper} {d : Option Nat} {T : Nat} {pos : String} {af : Array Edge} {g : Option (Nat × Bool)} {x y : Operand} {v : Value} {tb : Tb P}

theorem JO_box {e : Nat} {cs : List Value} (hx : ev ov x = some v) (hc : cellsL v = cs) (hd : dOk d n = true)
    (hn : ∀ b, JR P f n R D w0 ops l k (put d (.pointer (some ⟨b, 0, none⟩)) ov) (blk b cs :: H)) : JO P f n R D w0 ops ⟨d, .box e x, T, pos, af, g⟩ l k ov H :=
  JO_step fun a w ha hw => ⟨.pointer (some ⟨w.heap.size, 0, none⟩), w.alloc (.cells cs.toArray e), by
    simp [execOp, ha.ev hx, Instr.box, newVar, newRow, cellsL_eq, hc], hd, _, hw.new cs e _ fun w' h' => blk_holds.2 ⟨rfl, e, h'⟩, hn w.heap.size⟩
theorem JO_alloc {e : Nat} {ty : Ty} {sz by' : Nat} {cs : List Value} (hT : tlook tb.l e = some ⟨ty, sz, by', some cs⟩) (hd : dOk d n = true)
    (hn : ∀ b, JR P f n R D w0 ops l k (put d (.pointer (some ⟨b, 0, none⟩)) ov) (blk b cs :: H)) : JO P f n R D w0 ops ⟨d, .alloc e, T, pos, af, g⟩ l k ov H :=
  JO_step fun a w ha hw => ⟨.pointer (some ⟨w.heap.size, 0, none⟩), w.alloc (.cells cs.toArray e), by
    obtain ⟨zv, hc, hz⟩ := Tb.run_zero w hT
    simp [execOp, Instr.alloc, newVar, newRow, cellsL_eq, hc, hz], hd, _, hw.new cs e _ fun w' h' => blk_holds.2 ⟨rfl, e, h'⟩, hn w.heap.size⟩

section
variable {s s1 b1 s2 b2 fi ft fo : Nat} {fs : List (Nat × Nat)} {z1 z2 : Option (List Value)} {ty2 : Ty}
end
section
variable {s s1 b1 s2 b2 fi ft fo : Nat} {fs : List (Nat × Nat)} {z1 z2 : Option (List Value)} {ty2 : Ty}
end
section
variable {t e s1 b1 s2 b2 : Nat} {z1 z2 : Option (List Value)} {ty2 : Ty}
end
end
-- Sx6.lean
section
variable {P : Program} {f n : Nat} {R : Ending → World → Prop} {D : List Deferred} {w0 : World} {k : List Item} {ov : Ov} {H H' : List Asn}
  {ops : Array Oper} {l : List Oper} {d : Option Nat} {T : Nat} {pos : String} {af : Array Edge} {g : Option (Nat × Bool)} {x y : Operand} {v : Value} {tb : Tb P}

section
variable {t e sz by' s1 b1 : Nat} {ty2 : Ty} {z1 : Option (List Value)} {z : List Value}
theorem JO_buildSlice {m : Nat} {xs : List (Nat × Operand)} {vs : List (Nat × Value)} {cs : List Value} (h : tlook tb.l t = some ⟨.slice e, s1, b1, z1⟩) (h2 : tlook tb.l e = some ⟨ty2, sz, by', some z⟩) (hzl : Nat.beq z.length sz = true) (hsz : Nat.blt 0 sz = true)
    (hm : Nat.ble (m * sz) 16777216 = true) (hx : pevs ov xs = some vs) (hc : fillL (fun i => some (i * sz, sz)) (rep m z) vs = some cs) (hcl : Nat.beq cs.length (m * sz) = true) (hd : dOk d n = true) (hn : ∀ p, JR P f n R D w0 ops l k (put d (.slice (some p) m m) ov) (vec e sz (.slice (some p) m m) m cs :: H)) :
    JO P f n R D w0 ops ⟨d, .buildSlice t m xs.toArray, T, pos, af, g⟩ l k ov H :=
  JO_step fun a w ha hw => by
    have e1 := run_underlying (und_slice h) w
    obtain ⟨zv, hz, e3⟩ := Tb.run_zero w h2
    have hsz' : 0 < sz := by rw [Nat.blt_eq] at hsz; exact hsz
    have hzl' := Nat.eq_of_beq_eq_true hzl
    have hm' : m * sz ≤ 16777216 := Nat.le_of_ble_eq_true hm
    have hfill := fill_eq _ hc
    have hx' := ha.pevs hx
    have hmr := made_rep z (by omega) m
    rw [hzl'] at hmr
    have hma : madeCells z.toArray (m * sz) = (rep m z).toArray := by rw [← hmr]
    refine ⟨.slice (some ⟨w.heap.size, 0, none⟩) m m, w.alloc (.cells cs.toArray e), ?_, hd, _, hw.new cs e _ fun w' h' => ?_, hn ⟨w.heap.size, 0, none⟩⟩
    · simp only [execOp, Instr.buildSlice, Sem.run_bind, e1, Result.andThen_ok, Tb.run_size w h2]
      rw [if_neg (by omega)]
      simp only [Sem.run_pure, pure_bind, Sem.run_ite, List.map_toArray, hx']
      by_cases h0 : m * sz = 0
      · have hm0 : m = 0 := by
          rcases Nat.mul_eq_zero.1 h0 with h | h <;> omega
        subst hm0
        simp only [h0, ↓reduceIte]
        rw [show (Array.range 0).map (fun i => (#[] : Array Value)[i % (#[] : Array Value).size]!) = ([] : List Value).toArray from by simp]
        rw [show fillL (fun i => some (i * sz, sz)) (rep 0 z) vs = fillL (fun i => some (i * sz, sz)) [] vs from rfl] at hc
        have hfill := fill_eq _ hc
        simp [hfill, newRow]
      · simp only [h0, ↓reduceIte, Sem.run_bind, e3, Result.andThen_ok, cellsL_eq, hz]
        rw [show (Array.range (m * sz)).map (fun i => z.toArray[i % z.toArray.size]!) = madeCells z.toArray (m * sz) from rfl, hma]
        simp [hfill, newRow]
    · rw [vec_holds]
      have hcl' := Nat.eq_of_beq_eq_true hcl
      refine ⟨hcl', .inr ⟨_, m, _, rfl, rfl, h', Nat.le_refl _, ?_, by simp [hcl'], by simp [← hcl']⟩⟩
      have : m ≤ m * sz := Nat.le_mul_of_pos_right m hsz'
      unfold maxLen; omega
theorem JO_make {K1 K2 : IntKind} {m : Int} (hx : ev ov x = some (.int K1 m)) (hy : ev ov y = some (.int K2 m)) (h : tlook tb.l t = some ⟨.slice e, s1, b1, z1⟩) (h2 : tlook tb.l e = some ⟨ty2, sz, by', some z⟩) (hzl : Nat.beq z.length sz = true) (hsz : Nat.blt 0 sz = true)
    (hb : 0 ≤ m ∧ (by' : Int) * m ≤ 281474976710656 ∧ m ≤ 281474976710656) (hd : dOk d n = true) (hn : ∀ p, JR P f n R D w0 ops l k (put d (.slice (some p) m.toNat m.toNat) ov) (vec e sz (.slice (some p) m.toNat m.toNat) m.toNat (rep m.toNat z) :: H)) :
    JO P f n R D w0 ops ⟨d, .makeSlice t x y, T, pos, af, g⟩ l k ov H :=
  JO_step fun a w ha hw => by
    have e1 := und_slice h
    obtain ⟨inf, zv, hi, hs1, hs2, hs3, hz⟩ := Tb.inf' h2
    have hsz' : 0 < sz := by rw [Nat.blt_eq] at hsz; exact hsz
    have hzl' := Nat.eq_of_beq_eq_true hzl
    have hr := run_make (P := P) w t e inf zv e1 hi hs3 K1 K2 m m hb.1 (Int.le_refl _) (by rw [hs2]; exact hb.2.1) (by omega)
    rw [cellsL_eq, hz, hs1] at hr
    have hmr := made_rep z (by omega) m.toNat
    rw [hzl'] at hmr
    rw [show madeCells z.toArray (m.toNat * sz) = (rep m.toNat z).toArray from by rw [← hmr]] at hr
    refine ⟨_, _, by simp only [execOp, ha.ev hx, ha.ev hy, Sem.run_bind, hr, Result.andThen_ok, Sem.run_pure], hd, _, hw.new (rep m.toNat z) e _ fun w' h' => ?_, hn ⟨w.heap.size, 0, none⟩⟩
    rw [vec_holds]
    refine ⟨by rw [length_rep, hzl'], .inr ⟨_, m.toNat, _, rfl, rfl, h', Nat.le_refl _, ?_, by simp [length_rep, hzl'], by rw [← hzl', ← length_rep]; simp⟩⟩
    unfold maxLen; omega
end
end
-- Sx7.lean
section
variable {P : Program} {f n : Nat} {R : Ending → World → Prop} {D : List Deferred} {w0 : World} {k : List Item} {ov : Ov} {H : List Asn}
  {ops : Array Oper} {l : List Oper} {d : Option Nat} {T : Nat} {pos : String} {af : Array Edge} {g : Option (Nat × Bool)} {x y : Operand} {v : Value} {tb : Tb P}

theorem JO_append {t e sz by' m q sz1 by1 : Nat} {ty2 : Ty} {z1 : Option (List Value)} {z : List Value} {u ux : Value} {cs news : List Value} {H' : Option Addr → Nat → List Asn}
    (hx : ev ov x = some u) (hy : ev ov y = some ux) (h : tlook tb.l t = some ⟨.slice e, sz1, by1, z1⟩) (h2 : tlook tb.l e = some ⟨ty2, sz, by', some z⟩) (hzl : Nat.beq z.length sz = true) (hsz : Nat.blt 0 sz = true)
    (hu : ∀ p c, Upd H (vec e sz u m cs) (vec e sz (.slice p (m + q) c) (m + q) (cs ++ news)) (H' p c)) (hr : Rd w0 H ux q news) (hl : news.length = q * sz) (h1 : All1 news) (hb : (m + q) * by' ≤ 140737488355328 ∧ m + q ≤ 140737488355328) (hd : dOk d n = true)
    (hn : ∀ p c, JR P f n R D w0 ops l k (put d (.slice p (m + q) c) ov) (H' p c)) : JO P f n R D w0 ops ⟨d, .call ⟨.builtin .append, #[x, y], #[t, t]⟩, T, pos, af, g⟩ l k ov H :=
  JO_step fun a w ha hw => by
    obtain ⟨inf, zv, hi, hs1, hs2, hs3, hz⟩ := Tb.inf' h2
    obtain ⟨p, c, w', h3, h4⟩ := run_appendV (ty := T) (z := zv) hw (und_slice h) hi hs3 hs1 hs2 (by rw [cellsL_eq, hz]; simpa using Nat.eq_of_beq_eq_true hzl) (by rw [Nat.blt_eq] at hsz; exact hsz) hu hr hl h1 hb.1 hb.2
    exact ⟨_, w', by simp [execOp, resolve, invoke, builtin, ha.ev hx, ha.ev hy, h3], hd, _, h4, hn p c⟩
end

-- Sx8.lean
section
variable (P : Program)
end
section
variable {P : Program} {ops : Array Oper} {C : World → Prop} {S : List Nat} {Q : Act → World → Prop}
section
variable (P : Program) (ops : Array Oper) (sy : List Nat) (K : (World → Prop) → Act → Prop)
end
end

section
variable (P : Program) (n : Nat) (D : List Deferred) (w0 : World)
end
section
variable {P : Program} {f n : Nat} {R : Ending → World → Prop} {D : List Deferred} {w0 : World} {k : List Item} {ov : Ov} {H H' : List Asn} {K : (World → Prop) → Act → Prop}
  {Z : Array Oper × List Nat} {l : List Oper} {d : Option Nat} {T : Nat} {pos : String} {af : Array Edge} {g : Option (Nat × Bool)} {v : Value} {op : Op}
theorem JR_noU {ops : Array Oper} {l d op T pos af j t b} (hj : (ops[j]?).bind Oper.dst = some t) (hv : Sx.look ov t = some (.tuple #[])) (hd : dOk d n = true) (h : JR P f n R D w0 ops l k (put d undef ov) H) :
    JR P f n R D w0 ops (⟨d, op, T, pos, af, some (j, b)⟩ :: l) k ov H := by
  intro is hm a w ha hw
  cases is with
  | nil => simp at hm
  | cons i is =>
    simp only [List.map_cons, List.cons.injEq] at hm
    have hno : Region.wanted (⟨d, op, T, pos, af, some (j, b)⟩ : Oper) (yielded ops a.tmps) = false := by
      simp [Region.wanted, yielded_undef ha hj hv]
    refine (h is hm.2 (a.put d undef) w (ha.put hd undef) hw).step fun b' cs _ _ => ?_
    have := stepR_op_skip (P := P) (b := b') (a := a) (k := k) (cs := cs) (w := w) (ops := ops) (i := i) (rest := is) (by simp [hm.1, hno])
    simpa [hm.1] using this
end
-- Sx10.lean
section
variable {P : Program} {f n : Nat} {R : Ending → World → Prop} {D : List Deferred} {w0 : World} {k : List Item} {ov : Ov} {H : List Asn} {K : (World → Prop) → Act → Prop} {Z : Array Oper × List Nat} {l : List Oper} {ops : Array Oper} {o : Oper}
  {d : Option Nat} {T : Nat} {pos : String} {af : Array Edge} {g : Option (Nat × Bool)} {x y : Operand} {op : BinOp} {T1 T2 : Nat}
theorem gJS (h : JS P f n R D w0 k ov H) : JS P f n R D w0 k ov H := h
theorem gJR (h : JR P f n R D w0 ops l k ov H) : JR P f n R D w0 ops l k ov H := h
theorem gJO (h : JO P f n R D w0 ops o l k ov H) : JO P f n R D w0 ops o l k ov H := h
theorem gB (h : JO P f n R D w0 ops ⟨d, .binOp op T1 x y T2, T, pos, af, g⟩ l k ov H) : JO P f n R D w0 ops ⟨d, .binOp op T1 x y T2, T, pos, af, g⟩ l k ov H := h
theorem gK {u : Value} (h : JO P f n R D w0 ops ⟨d, .binOp op T1 x (.const u) T2, T, pos, af, g⟩ l k ov H) : JO P f n R D w0 ops ⟨d, .binOp op T1 x (.const u) T2, T, pos, af, g⟩ l k ov H := h
theorem gC {c : Call} (h : JO P f n R D w0 ops ⟨d, .call c, T, pos, af, g⟩ l k ov H) : JO P f n R D w0 ops ⟨d, .call c, T, pos, af, g⟩ l k ov H := h
end
section
variable {P : Program} {n : Nat} {D : List Deferred} {w0 : World} {ov : Ov} {H : List Asn}
  {d : Option Nat} {T : Nat} {pos : String} {af : Array Edge} {g : Option (Nat × Bool)} {x y : Operand} {tb : Tb P} {t s1 b1 : Nat} {z1 : Option (List Value)}
end

-- Sx11.lean
section
variable {P : Program} {f n : Nat} {R : Ending → World → Prop} {D : List Deferred} {w0 : World} {k : List Item} {ov : Ov} {H H' : List Asn}
  {ops : Array Oper} {l : List Oper} {d : Option Nat} {T : Nat} {pos : String} {af : Array Edge} {g : Option (Nat × Bool)} {x y : Operand} {v : Value} {tb : Tb P}
  {t e s1 b1 sz b2 : Nat} {z1 z2 : Option (List Value)} {ty2 : Ty}
end
section
variable {P : Program} {f n : Nat} {R : Ending → World → Prop} {D : List Deferred} {w0 : World} {k : List Item} {ov : Ov} {H H' : List Asn}
  {d : Option Nat} {T : Nat} {pos : String} {af : Array Edge} {g : Option (Nat × Bool)} {x y : Operand} {v : Value} {tb : Tb P}
  {t e s1 b1 s2 b2 s3 b3 : Nat} {z1 z2 z3 : Option (List Value)}
end
section
variable {P : Program} {n : Nat} {D : List Deferred} {w0 : World} {ov : Ov} {H : List Asn} {d : Option Nat} {T : Nat} {pos : String} {af : Array Edge} {g : Option (Nat × Bool)} {x y : Operand} {tb : Tb P}
end
section
variable {P : Program} {n : Nat} {D : List Deferred} {w0 : World} {ov : Ov} {H : List Asn} {d : Option Nat} {T : Nat} {pos : String} {af : Array Edge} {g : Option (Nat × Bool)} {x y : Operand} {tb : Tb P}
end
section
variable {P : Program} {f n : Nat} {R : Ending → World → Prop} {D : List Deferred} {w0 : World} {k : List Item} {ov : Ov} {H : List Asn}
  {ops : Array Oper} {l : List Oper} {d : Option Nat} {T : Nat} {pos : String} {af : Array Edge} {g : Option (Nat × Bool)} {x y : Operand} {tb : Tb P}
theorem JO_app {t e sz by' m q sz1 by1 : Nat} {ty2 : Ty} {z1 : Option (List Value)} {z : List Value} {u ux : Value} {cs news : List Value} {F : Asn → List Asn}
    (hx : ev ov x = some u) (hy : ev ov y = some ux) (h : tlook tb.l t = some ⟨.slice e, sz1, by1, z1⟩) (h2 : tlook tb.l e = some ⟨ty2, sz, by', some z⟩) (hzl : Nat.beq z.length sz = true) (hsz : Nat.blt 0 sz = true)
    (hu : Sel H (vec e sz u m cs) F) (hr : Rd w0 H ux q news) (hl : news.length = q * sz) (h1 : All1 news) (hb : (m + q) * by' ≤ 140737488355328 ∧ m + q ≤ 140737488355328) (hd : dOk d n = true)
    (hn : ∀ p c, JR P f n R D w0 ops l k (put d (.slice p (m + q) c) ov) (F (vec e sz (.slice p (m + q) c) (m + q) (cs ++ news)))) : JO P f n R D w0 ops ⟨d, .call ⟨.builtin .append, #[x, y], #[t, t]⟩, T, pos, af, g⟩ l k ov H :=
  JO_append hx hy h h2 hzl hsz (fun _ _ => hu.upd _) hr hl h1 hb hd hn
end

attribute [irreducible] J JS JR JO
-- k1
section
variable {P : Program} {f n : Nat} {R : Ending → World → Prop} {D : List Deferred} {w0 : World} {k : List Item} {ov : Ov} {H : List Asn} {K : (World → Prop) → Act → Prop} {Z : Array Oper × List Nat}
  {ops : Array Oper} {l : List Oper} {d : Option Nat} {T : Nat} {pos : String} {af : Array Edge} {g : Option (Nat × Bool)} {x y : Operand} {op : Op} {tb : Tb P}
theorem JO_e {ι : Type} {v : ι → Value} {H' : ι → List Asn} (h : OpE P n D w0 ov H ⟨d, op, T, pos, af, g⟩ v H') (hn : ∀ c, JR P f n R D w0 ops l k (put d (v c) ov) (H' c)) : JO P f n R D w0 ops ⟨d, op, T, pos, af, g⟩ l k ov H :=
  JO_step fun a w ha hw => let ⟨c, w', h1, h2⟩ := h.2 a w ha hw; ⟨v c, w', h1, h.1, H' c, h2, hn c⟩
end

-- a
section
variable {f n : Nat} {R : Ending → World → Prop} {D : List Deferred} {w0 : World} {k : List Item} {ov : Ov} {H H' : List Asn} {K : (World → Prop) → Act → Prop} {Z : Array Oper × List Nat}
  {ops : Array Oper} {l : List Oper} {d : Option Nat} {T T1 T2 : Nat} {pos : String} {af : Array Edge} {g : Option (Nat × Bool)} {x y z : Operand} {v u : Value} {op : Op} {bop : BinOp} {c : Call}
theorem oJL (h : JO Try.prog f n R D w0 ops ⟨d, .load T1 x, T, pos, af, g⟩ l k ov H) : JO Try.prog f n R D w0 ops ⟨d, .load T1 x, T, pos, af, g⟩ l k ov H := h
theorem kS (h : JO Try.prog f n R D w0 ops ⟨d, .store T1 x y, T, pos, af, g⟩ l k ov H) : JO Try.prog f n R D w0 ops ⟨d, .store T1 x y, T, pos, af, g⟩ l k ov H := h
theorem kX (h : JO Try.prog f n R D w0 ops ⟨d, .box T1 x, T, pos, af, g⟩ l k ov H) : JO Try.prog f n R D w0 ops ⟨d, .box T1 x, T, pos, af, g⟩ l k ov H := h
theorem kA (h : JO Try.prog f n R D w0 ops ⟨d, .alloc T1, T, pos, af, g⟩ l k ov H) : JO Try.prog f n R D w0 ops ⟨d, .alloc T1, T, pos, af, g⟩ l k ov H := h
theorem kBs {ps : Array (Nat × Operand)} (h : JO Try.prog f n R D w0 ops ⟨d, .buildSlice T1 T2 ps, T, pos, af, g⟩ l k ov H) : JO Try.prog f n R D w0 ops ⟨d, .buildSlice T1 T2 ps, T, pos, af, g⟩ l k ov H := h
theorem kM (h : JO Try.prog f n R D w0 ops ⟨d, .makeSlice T1 x y, T, pos, af, g⟩ l k ov H) : JO Try.prog f n R D w0 ops ⟨d, .makeSlice T1 x y, T, pos, af, g⟩ l k ov H := h
theorem kC {xs : Array Operand} {ts : Array Nat} (h : JO Try.prog f n R D w0 ops ⟨d, .call ⟨.value x, xs, ts⟩, T, pos, af, g⟩ l k ov H) : JO Try.prog f n R D w0 ops ⟨d, .call ⟨.value x, xs, ts⟩, T, pos, af, g⟩ l k ov H := h
theorem aO (hn : JR Try.prog f n R D w0 ops l k (put d v ov) H) (h : OpV Try.prog n D w0 ov H ⟨d, op, T, pos, af, g⟩ v := by first | (apply oMv; exact V_move rfl rfl) | (apply oAs; exact V_assign rfl rfl) | (apply oL; first | exact V_load (tb := tb) rfl (by repeat (first | apply List.Mem.head | apply List.Mem.tail)) rfl rfl rfl rfl | exact V_loadC (tb := tb) rfl (by first | exact vec_rd (by repeat (first | apply List.Mem.head | apply List.Mem.tail)) | assumption | exact ArgRd.rd (by assumption) _ | (apply Rd_weak; assumption; intro _ hx; exact St.sub (by repeat (first | exact List.Sublist.refl _ | apply List.Sublist.cons_cons | apply List.Sublist.cons)) hx)) rfl rfl (by first | exact ints_get (by omega) | exact rfl) rfl | exact V_loadA (tb := tb) rfl (by repeat (first | apply List.Mem.head | apply List.Mem.tail)) rfl rfl rfl rfl) | (apply oB; first | (apply ob_add; first | exact V_add rfl rfl (by first | exact wi64 (by omega) | exact wu64 (by omega) | exact wu32 (by omega) | exact wu8 (by omega) | exact mu64 _ | exact mu32 _ | exact mu8 _ | exact mi64 _ | exact rfl) rfl) | (apply ob_sub; first | exact V_sub rfl rfl (by first | exact wi64 (by omega) | exact wu64 (by omega) | exact wu32 (by omega) | exact wu8 (by omega) | exact mu64 _ | exact mu32 _ | exact mu8 _ | exact mi64 _ | exact rfl) rfl) | (apply ob_mul; first | exact V_mul rfl rfl (by first | exact wi64 (by omega) | exact wu64 (by omega) | exact wu32 (by omega) | exact wu8 (by omega) | exact mu64 _ | exact mu32 _ | exact mu8 _ | exact mi64 _ | exact rfl) rfl) | (apply ob_eql; first | exact V_eqlT rfl rfl (by omega) rfl | exact V_eqlF rfl rfl (by omega) rfl | exact V_eql rfl rfl rfl) | (apply ob_neq; first | exact V_neqT rfl rfl (by omega) rfl | exact V_neqF rfl rfl (by omega) rfl | exact V_neq rfl rfl rfl) | (apply ob_lss; first | exact V_lssT rfl rfl (by omega) rfl | exact V_lssF rfl rfl (by omega) rfl | exact V_lss rfl rfl rfl) | (apply ob_leq; first | exact V_leqT rfl rfl (by omega) rfl | exact V_leqF rfl rfl (by omega) rfl | exact V_leq rfl rfl rfl) | (apply ob_gtr; first | exact V_gtrT rfl rfl (by omega) rfl | exact V_gtrF rfl rfl (by omega) rfl | exact V_gtr rfl rfl rfl) | (apply ob_geq; first | exact V_geqT rfl rfl (by omega) rfl | exact V_geqF rfl rfl (by omega) rfl | exact V_geq rfl rfl rfl) | (apply ob_quo; first | exact V_quo rfl rfl (by omega) (by first | exact IntWalk.i64_quo _ _ (by omega) | exact IntWalk.u64_quo _ _ (by omega) | exact IntWalk.u32_quo _ _ (by omega) | exact IntWalk.u8_quo _ _ (by omega)) rfl) | (apply ob_rem; first | exact V_rem rfl rfl (by omega) (Int.tmod_eq_emod_of_nonneg (by omega)) rfl) | (apply ob_and; first | exact V_and rfl rfl (by first | exact mask32_u64 (by omega) | exact mask_u64 8 (by decide) (by omega) rfl | exact mask_u64 16 (by decide) (by omega) rfl) rfl) | (apply ob_eql; first | exact V_eqP (tb := tb) rfl rfl rfl rfl | exact V_eqBB (tb := tb) rfl rfl rfl rfl | exact V_eqB (tb := tb) rfl rfl rfl rfl | exact V_eqNil (tb := tb) rfl rfl rfl rfl | exact V_eqStr rfl rfl (by assumption) (by assumption) rfl) | (apply ob_neq; first | exact V_neP (tb := tb) rfl rfl rfl rfl | exact V_neBB (tb := tb) rfl rfl rfl rfl | exact V_neB (tb := tb) rfl rfl rfl rfl | exact V_neStr rfl rfl (by assumption) (by assumption) rfl) | (apply oK; first | (apply ob_shr; exact V_shr (m := _) rfl rfl (by omega) (by simp only [IntKind.bits, Int.reduceToNat, Nat.reduceLeDiff, Nat.min_eq_left]; exact rfl) (by first | (simp only [Int.reducePow]; exact rfl) | exact rfl) rfl) | (apply ob_shl; exact V_shl (m := _) rfl rfl (by omega) (by simp only [IntKind.bits, Int.reduceToNat, Nat.reduceLeDiff, Nat.min_eq_left]; exact rfl) (by (try simp only [Int.reducePow]); first | exact wi64 (by omega) | exact wu64 (by omega) | exact wu32 (by omega) | exact wu8 (by omega) | exact mu64 _ | exact mu32 _ | exact mu8 _ | exact mi64 _ | exact rfl) rfl))) | (apply oE; first | exact V_extract rfl rfl rfl) | (apply oc_len; exact V_len (tb := tb) rfl rfl rfl) | (apply oc_len; exact V_lenS (tb := tb) rfl rfl rfl) | (apply oc_min; exact V_min rfl rfl rfl rfl) | (apply oc_max; exact V_max rfl rfl rfl rfl) | (apply oCv; first | exact V_conv (tb := tb) rfl rfl rfl (by first | exact wi64 (by omega) | exact wu64 (by omega) | exact wu32 (by omega) | exact wu8 (by omega) | exact mu64 _ | exact mu32 _ | exact mu8 _ | exact mi64 _ | exact rfl) rfl | exact V_str (tb := tb) rfl (by first | exact vec_rd (by repeat (first | apply List.Mem.head | apply List.Mem.tail)) | assumption | exact ArgRd.rd (by assumption) _ | (apply Rd_weak; assumption; intro _ hx; exact St.sub (by repeat (first | exact List.Sublist.refl _ | apply List.Sublist.cons_cons | apply List.Sublist.cons)) hx)) (by first | assumption | rfl | omega) rfl rfl rfl rfl) | (apply oP; first | exact V_pickT rfl rfl rfl | exact V_pickF rfl rfl rfl | exact V_pickB rfl rfl rfl rfl) | (apply oU; first | exact V_notD rfl rfl | exact V_not rfl rfl | exact V_neg rfl (by first | exact wi64 (by omega) | exact wu64 (by omega) | exact wu32 (by omega) | exact wu8 (by omega) | exact mu64 _ | exact mu32 _ | exact mu8 _ | exact mi64 _ | exact rfl) rfl) | (apply oN; first | exact V_nilCheck rfl rfl) | (apply oFA; first | exact V_field (tb := tb) rfl rfl rfl rfl rfl rfl | exact V_fieldC (tb := tb) rfl (by first | exact Rd.sl (vec_rd (by repeat (first | apply List.Mem.head | apply List.Mem.tail))) | exact Rd.sl (by assumption) | exact Rd.sl (ArgRd.rd (by assumption) _) | (apply Rd.sl; (apply Rd_weak; assumption; intro _ hx; exact St.sub (by repeat (first | exact List.Sublist.refl _ | apply List.Sublist.cons_cons | apply List.Sublist.cons)) hx))) (by omega) rfl rfl rfl rfl rfl) | (apply oIA; first | exact V_index (tb := tb) rfl rfl rfl rfl (by first | exact Rd.sl (vec_rd (by repeat (first | apply List.Mem.head | apply List.Mem.tail))) | exact Rd.sl (by assumption) | exact Rd.sl (ArgRd.rd (by assumption) _) | (apply Rd.sl; (apply Rd_weak; assumption; intro _ hx; exact St.sub (by repeat (first | exact List.Sublist.refl _ | apply List.Sublist.cons_cons | apply List.Sublist.cons)) hx))) (by omega) (by (try simp only [tn, tna, tn1, tn2, tn3, tn4, tnd16, tnd8, Int.reduceToNat]); first | exact Nat.mul_one _ | exact rfl) rfl | exact V_indexA (tb := tb) rfl rfl rfl rfl (by omega) rfl) | (apply oBd; first | exact V_build (tb := tb) rfl rfl rfl rfl rfl) | (apply oF; first | exact V_makeFunc rfl rfl rfl)) : JO Try.prog f n R D w0 ops ⟨d, op, T, pos, af, g⟩ l k ov H := JO_v h hn
theorem aU (hn : JR Try.prog f n R D w0 ops l k (put d v ov) H) (h : OpV Try.prog n D w0 ov H ⟨d, op, T, pos, af, g⟩ v := by first | (apply oMv; exact V_move rfl rfl) | (apply oAs; exact V_assign rfl rfl) | (apply oL; first | exact V_load (tb := tb) rfl (by repeat (first | apply List.Mem.head | apply List.Mem.tail)) rfl rfl rfl rfl | exact V_loadC (tb := tb) rfl (by first | exact vec_rd (by repeat (first | apply List.Mem.head | apply List.Mem.tail)) | assumption | exact ArgRd.rd (by assumption) _ | (apply Rd_weak; assumption; intro _ hx; exact St.sub (by repeat (first | exact List.Sublist.refl _ | apply List.Sublist.cons_cons | apply List.Sublist.cons)) hx)) rfl rfl (by first | exact ints_get (by omega) | exact rfl) rfl | exact V_loadA (tb := tb) rfl (by repeat (first | apply List.Mem.head | apply List.Mem.tail)) rfl rfl rfl rfl) | (apply oB; first | (apply ob_add; first | exact V_add rfl rfl (by first | exact mu64 _ | exact mu32 _ | exact mu8 _ | exact rfl) rfl) | (apply ob_sub; first | exact V_sub rfl rfl (by first | exact mu64 _ | exact mu32 _ | exact mu8 _ | exact rfl) rfl) | (apply ob_mul; first | exact V_mul rfl rfl (by first | exact mu64 _ | exact mu32 _ | exact mu8 _ | exact rfl) rfl) | (apply ob_eql; first | exact V_eqlT rfl rfl (by omega) rfl | exact V_eqlF rfl rfl (by omega) rfl | exact V_eql rfl rfl rfl) | (apply ob_neq; first | exact V_neqT rfl rfl (by omega) rfl | exact V_neqF rfl rfl (by omega) rfl | exact V_neq rfl rfl rfl) | (apply ob_lss; first | exact V_lssT rfl rfl (by omega) rfl | exact V_lssF rfl rfl (by omega) rfl | exact V_lss rfl rfl rfl) | (apply ob_leq; first | exact V_leqT rfl rfl (by omega) rfl | exact V_leqF rfl rfl (by omega) rfl | exact V_leq rfl rfl rfl) | (apply ob_gtr; first | exact V_gtrT rfl rfl (by omega) rfl | exact V_gtrF rfl rfl (by omega) rfl | exact V_gtr rfl rfl rfl) | (apply ob_geq; first | exact V_geqT rfl rfl (by omega) rfl | exact V_geqF rfl rfl (by omega) rfl | exact V_geq rfl rfl rfl) | (apply ob_quo; first | exact V_quo rfl rfl (by omega) (by first | exact IntWalk.i64_quo _ _ (by omega) | exact IntWalk.u64_quo _ _ (by omega) | exact IntWalk.u32_quo _ _ (by omega) | exact IntWalk.u8_quo _ _ (by omega)) rfl) | (apply ob_rem; first | exact V_rem rfl rfl (by omega) (Int.tmod_eq_emod_of_nonneg (by omega)) rfl) | (apply ob_and; first | exact V_and rfl rfl (by first | exact mask32_u64 (by omega) | exact mask_u64 8 (by decide) (by omega) rfl | exact mask_u64 16 (by decide) (by omega) rfl) rfl) | (apply ob_eql; first | exact V_eqP (tb := tb) rfl rfl rfl rfl | exact V_eqBB (tb := tb) rfl rfl rfl rfl | exact V_eqB (tb := tb) rfl rfl rfl rfl | exact V_eqNil (tb := tb) rfl rfl rfl rfl | exact V_eqStr rfl rfl (by assumption) (by assumption) rfl) | (apply ob_neq; first | exact V_neP (tb := tb) rfl rfl rfl rfl | exact V_neBB (tb := tb) rfl rfl rfl rfl | exact V_neB (tb := tb) rfl rfl rfl rfl | exact V_neStr rfl rfl (by assumption) (by assumption) rfl) | (apply oK; first | (apply ob_shr; exact V_shr (m := _) rfl rfl (by omega) (by simp only [IntKind.bits, Int.reduceToNat, Nat.reduceLeDiff, Nat.min_eq_left]; exact rfl) (by first | (simp only [Int.reducePow]; exact rfl) | exact rfl) rfl) | (apply ob_shl; exact V_shl (m := _) rfl rfl (by omega) (by simp only [IntKind.bits, Int.reduceToNat, Nat.reduceLeDiff, Nat.min_eq_left]; exact rfl) (by (try simp only [Int.reducePow]); first | exact mu64 _ | exact mu32 _ | exact mu8 _ | exact rfl) rfl))) | (apply oE; first | exact V_extract rfl rfl rfl) | (apply oc_len; exact V_len (tb := tb) rfl rfl rfl) | (apply oc_len; exact V_lenS (tb := tb) rfl rfl rfl) | (apply oc_min; exact V_min rfl rfl rfl rfl) | (apply oc_max; exact V_max rfl rfl rfl rfl) | (apply oCv; first | exact V_conv (tb := tb) rfl rfl rfl (by first | exact mu64 _ | exact mu32 _ | exact mu8 _ | exact rfl) rfl | exact V_str (tb := tb) rfl (by first | exact vec_rd (by repeat (first | apply List.Mem.head | apply List.Mem.tail)) | assumption | exact ArgRd.rd (by assumption) _ | (apply Rd_weak; assumption; intro _ hx; exact St.sub (by repeat (first | exact List.Sublist.refl _ | apply List.Sublist.cons_cons | apply List.Sublist.cons)) hx)) (by first | assumption | rfl | omega) rfl rfl rfl rfl) | (apply oP; first | exact V_pickT rfl rfl rfl | exact V_pickF rfl rfl rfl | exact V_pickB rfl rfl rfl rfl) | (apply oU; first | exact V_notD rfl rfl | exact V_not rfl rfl | exact V_neg rfl (by first | exact mu64 _ | exact mu32 _ | exact mu8 _ | exact rfl) rfl) | (apply oN; first | exact V_nilCheck rfl rfl) | (apply oFA; first | exact V_field (tb := tb) rfl rfl rfl rfl rfl rfl | exact V_fieldC (tb := tb) rfl (by first | exact Rd.sl (vec_rd (by repeat (first | apply List.Mem.head | apply List.Mem.tail))) | exact Rd.sl (by assumption) | exact Rd.sl (ArgRd.rd (by assumption) _) | (apply Rd.sl; (apply Rd_weak; assumption; intro _ hx; exact St.sub (by repeat (first | exact List.Sublist.refl _ | apply List.Sublist.cons_cons | apply List.Sublist.cons)) hx))) (by omega) rfl rfl rfl rfl rfl) | (apply oIA; first | exact V_index (tb := tb) rfl rfl rfl rfl (by first | exact Rd.sl (vec_rd (by repeat (first | apply List.Mem.head | apply List.Mem.tail))) | exact Rd.sl (by assumption) | exact Rd.sl (ArgRd.rd (by assumption) _) | (apply Rd.sl; (apply Rd_weak; assumption; intro _ hx; exact St.sub (by repeat (first | exact List.Sublist.refl _ | apply List.Sublist.cons_cons | apply List.Sublist.cons)) hx))) (by omega) (by (try simp only [tn, tna, tn1, tn2, tn3, tn4, tnd16, tnd8, Int.reduceToNat]); first | exact Nat.mul_one _ | exact rfl) rfl | exact V_indexA (tb := tb) rfl rfl rfl rfl (by omega) rfl) | (apply oBd; first | exact V_build (tb := tb) rfl rfl rfl rfl rfl) | (apply oF; first | exact V_makeFunc rfl rfl rfl)) : JO Try.prog f n R D w0 ops ⟨d, op, T, pos, af, g⟩ l k ov H := JO_v h hn
theorem aK (hn : JR Try.prog f n R D w0 ops l k (put d undef ov) H') (h : OpK Try.prog n D w0 ov H ⟨d, op, T, pos, af, g⟩ H' := by first | exact K_store (tb := tb) rfl rfl (by repeat (first | apply Upd.here | apply Upd.there)) rfl rfl rfl (by repeat (first | exact trivial | refine ⟨rfl, ?_⟩)) rfl rfl | exact K_storeC1 (tb := tb) rfl rfl ints_set (by repeat (first | apply Upd.here | apply Upd.there)) rfl rfl (by rw [ints_len]; omega) rfl) : JO Try.prog f n R D w0 ops ⟨d, op, T, pos, af, g⟩ l k ov H := JO_k h hn
end

end Go.Proofs.Ytjadcaoobnklcaa.Ro
