/- A judgement over the model's machine ('from here on the function ends as R says'), with an overlay of known frame slots and assertions on owned blocks; one rule an operation. Program-independent. -/
import Derived.WalkKit
import Derived.Defers
import Derived.Deep.Quiet
import Derived.StillTail
import Derived.Laws.BytesString
namespace Sx
open Go

/-! ### overlay frames -/
abbrev Ov := List (Nat × Value)
def look : Ov → Nat → Option Value
  | [], _ => none
  | (s, v) :: r, t => match Nat.beq s t with
    | true => some v
    | false => look r t
theorem look_cons (s : Nat) (v : Value) (r : Ov) (t : Nat) : look ((s, v) :: r) t = if s = t then some v else look r t := by
  simp only [look]
  by_cases h : s = t
  · subst h; simp
  · have : Nat.beq s t = false := by
      cases hb : Nat.beq s t with
      | false => rfl
      | true => exact absurd (Nat.eq_of_beq_eq_true hb) h
    simp [this, h]
def put (d : Option Nat) (v : Value) (ov : Ov) : Ov := match d with
  | some t => (t, v) :: ov
  | none => ov
def ev (ov : Ov) : Operand → Option Value
  | .tmp t => look ov t
  | .const v => some v
  | .global g => some (.pointer (some ⟨g, 0, none⟩))
  | .func f => some (.func (.func f) #[] #[])
def evs (ov : Ov) : List Operand → Option (List Value)
  | [] => some []
  | x :: r => match ev ov x with
    | none => none
    | some v => match evs ov r with
      | none => none
      | some l => some (v :: l)
def dOk (d : Option Nat) (n : Nat) : Bool := match d with
  | some t => Nat.blt t n
  | none => true
def sub : Ov → Ov → Prop
  | [], _ => True
  | p :: r, ov => look ov p.1 = some p.2 ∧ sub r ov
theorem sub_look : ∀ {a ov : Ov}, sub a ov → ∀ t v, look a t = some v → look ov t = some v
  | [], _, _, t, v, h => by simp [look] at h
  | (s, x) :: r, ov, ⟨h1, h2⟩, t, v, h => by
    rw [look_cons] at h
    split at h
    · rename_i he; subst he; cases h; exact h1
    · exact sub_look h2 t v h

theorem lookI {ov : Ov} {t : Nat} {K : IntKind} {a b : Int} (h : look ov t = some (.int K a)) (e : a = b) : look ov t = some (.int K b) := e ▸ h
structure Rep (n : Nat) (D : List Deferred) (ov : Ov) (a : Act) : Prop where
  size : a.tmps.size = n
  defers : a.defers = D
  val : ∀ t v, look ov t = some v → a.tmps[t]? = some v

theorem Rep.sub {n D ov ov' a} (h : Rep n D ov a) (hs : Sx.sub ov' ov) : Rep n D ov' a :=
  ⟨h.size, h.defers, fun t v ht => h.val t v (sub_look hs t v ht)⟩
theorem Rep.ev {n D ov a} (h : Rep n D ov a) {x : Operand} {v : Value} (hv : Sx.ev ov x = some v) : a.eval x = v := by
  cases x with
  | tmp t => simp only [Sx.ev] at hv; have := h.val t v hv; simp [Act.eval, Array.getD_eq_getD_getElem?, this]
  | const c => simp [Sx.ev] at hv; simp [Act.eval, hv]
  | global g => simp [Sx.ev] at hv; simp [Act.eval, hv]
  | func f => simp [Sx.ev] at hv; simp [Act.eval, hv]
theorem Rep.evs {n D ov a} (h : Rep n D ov a) : ∀ {xs : List Operand} {vs : List Value}, Sx.evs ov xs = some vs → xs.map a.eval = vs
  | [], vs, hv => by simp [Sx.evs] at hv; simp [hv]
  | x :: r, vs, hv => by
    simp only [Sx.evs] at hv
    split at hv
    · cases hv
    · rename_i v hx
      split at hv
      · cases hv
      · rename_i l hl
        cases hv
        simp [h.ev hx, h.evs hl]
theorem Rep.put {n D ov a} (h : Rep n D ov a) {d : Option Nat} (hd : dOk d n = true) (v : Value) : Rep n D (Sx.put d v ov) (a.put d v) := by
  cases d with
  | none => exact h
  | some t =>
    have ht : t < n := by simpa [dOk, Nat.blt_eq] using hd
    refine ⟨by simp [Act.put, h.size], by simp [Act.put, h.defers], ?_⟩
    intro s u hs
    simp only [Sx.put, look_cons] at hs
    simp only [Act.put, Array.getElem?_setIfInBounds]
    split at hs
    · rename_i he; subst he; cases hs; simp [h.size, ht]
    · rename_i he
      simp [he]
      exact h.val s u hs

/-! ### assertions -/
structure Asn where
  holds : World → List Nat → Prop
  frame : ∀ w w' fp, holds w fp → (∀ b ∈ fp, w'.heap[b]? = w.heap[b]?) → holds w' fp
  live : ∀ w fp, holds w fp → ∀ b ∈ fp, b < w.heap.size

def All : List Asn → World → List Nat → Prop
  | [], _, fp => fp = []
  | a :: H, w, fp => ∃ f1 f2, fp = f1 ++ f2 ∧ a.holds w f1 ∧ All H w f2
theorem All.frame : ∀ {H : List Asn} {w w' fp}, All H w fp → (∀ b ∈ fp, w'.heap[b]? = w.heap[b]?) → All H w' fp
  | [], _, _, _, h, _ => h
  | a :: H, w, w', fp, ⟨f1, f2, e, h1, h2⟩, hk => by
    subst e
    exact ⟨f1, f2, rfl, a.frame w w' f1 h1 fun b hb => hk b (by simp [hb]), h2.frame fun b hb => hk b (by simp [hb])⟩
theorem All.live : ∀ {H : List Asn} {w fp}, All H w fp → ∀ b ∈ fp, b < w.heap.size
  | [], _, _, h, b, hb => by simp [All] at h; subst h; simp at hb
  | a :: H, w, fp, ⟨f1, f2, e, h1, h2⟩, b, hb => by
    subst e
    rcases List.mem_append.1 hb with h | h
    · exact a.live w f1 h1 b h
    · exact h2.live b h

structure St (w0 : World) (H : List Asn) (w : World) : Prop where
  os : w.os = w0.os
  tape : w.tape = w0.tape
  output : w.output = w0.output
  size : w0.heap.size ≤ w.heap.size
  old : ∀ b, b < w0.heap.size → w.heap[b]? = w0.heap[b]?
  own : ∃ fp : List Nat, fp.Nodup ∧ (∀ b ∈ fp, w0.heap.size ≤ b) ∧ All H w fp

theorem St.start (w : World) : St w [] w := ⟨rfl, rfl, rfl, Nat.le_refl _, fun _ _ => rfl, [], List.nodup_nil, by simp, rfl⟩
theorem St.drew {w0 H w} (h : St w0 H w) : St w0 H w.drew := by
  obtain ⟨fp, h1, h2, h3⟩ := h.own
  exact ⟨h.os, h.tape, h.output, h.size, h.old, fp, h1, h2, h3.frame fun _ _ => rfl⟩
theorem St.drop {w0 a H w} (h : St w0 (a :: H) w) : St w0 H w := by
  obtain ⟨fp, h1, h2, f1, f2, e, h3, h4⟩ := h.own
  subst e
  exact ⟨h.os, h.tape, h.output, h.size, h.old, f2, (List.nodup_append.1 h1).2.1, fun b hb => h2 b (by simp [hb]), h4⟩
/-- the step of St under a change of heap blocks in the footprint of the first assertion, or new ones -/
theorem St.step {w0 : World} {as H : List Asn} {w w' : World} {bs : List Asn} (h : St w0 (as ++ H) w)
    (os : w'.os = w.os) (tape : w'.tape = w.tape) (output : w'.output = w.output) (size : w.heap.size ≤ w'.heap.size)
    (k : ∀ f1, All as w f1 → f1.Nodup → (∀ b ∈ f1, w0.heap.size ≤ b) → (∀ b, b < w.heap.size → b ∉ f1 → w'.heap[b]? = w.heap[b]?) ∧
      ∃ f1', f1'.Nodup ∧ (∀ b ∈ f1', b ∈ f1 ∨ w.heap.size ≤ b) ∧ All bs w' f1') : St w0 (bs ++ H) w' := by
  obtain ⟨fp, h1, h2, h3⟩ := h.own
  have split : ∀ (as : List Asn) fp, All (as ++ H) w fp → ∃ f1 f2, fp = f1 ++ f2 ∧ All as w f1 ∧ All H w f2 := by
    intro as
    induction as with
    | nil => intro fp h; exact ⟨[], fp, rfl, rfl, h⟩
    | cons a r ih =>
      rintro fp ⟨f1, f2, e, ha, hr⟩
      obtain ⟨g1, g2, e2, hg1, hg2⟩ := ih f2 hr
      exact ⟨f1 ++ g1, g2, by rw [e, e2, List.append_assoc], ⟨f1, g1, rfl, ha, hg1⟩, hg2⟩
  have join : ∀ (bs : List Asn) f1 f2, All bs w' f1 → All H w' f2 → All (bs ++ H) w' (f1 ++ f2) := by
    intro bs
    induction bs with
    | nil => intro f1 f2 ha hb; simp [All] at ha; subst ha; exact hb
    | cons b r ih =>
      rintro f1 f2 ⟨g1, g2, e, hb1, hr⟩ hH
      exact ⟨g1, g2 ++ f2, by rw [e, List.append_assoc], hb1, ih g2 f2 hr hH⟩
  obtain ⟨f1, f2, e, ha, hH⟩ := split as fp h3
  subst e
  obtain ⟨n1, n2, nd⟩ := List.nodup_append.1 h1
  obtain ⟨hkeep, f1', m1, m2, m3⟩ := k f1 ha n1 (fun b hb => h2 b (by simp [hb]))
  have hH' : All H w' f2 := hH.frame fun b hb => hkeep b (hH.live b hb) (fun hb1 => nd b hb1 b hb rfl)
  refine ⟨os.trans h.os, tape.trans h.tape, output.trans h.output, Nat.le_trans h.size size, ?_, f1' ++ f2, ?_, ?_, join bs f1' f2 m3 hH'⟩
  · intro b hb
    rw [hkeep b (Nat.lt_of_lt_of_le hb h.size) (fun hb1 => absurd (h2 b (by simp [hb1])) (by omega))]
    exact h.old b hb
  · refine List.nodup_append.2 ⟨m1, n2, ?_⟩
    rintro b hb c hc rfl
    rcases m2 b hb with hb | hb
    · exact nd b hb b hc rfl
    · exact absurd (hH.live b hc) (by omega)
  · intro b hb
    rcases List.mem_append.1 hb with hb | hb
    · rcases m2 b hb with hb | hb
      · exact h2 b (by simp [hb])
      · have := h.size; omega
    · exact h2 b (by simp [hb])
/-- a weakening of assertions in place -/
theorem St.conv {w0 : World} {as H bs : List Asn} {w : World} (h : St w0 (as ++ H) w) (k : ∀ f, All as w f → All bs w f) : St w0 (bs ++ H) w :=
  h.step rfl rfl rfl (Nat.le_refl _) fun f1 h1 hn _ => ⟨fun _ _ _ => rfl, f1, hn, fun _ hb => .inl hb, k f1 h1⟩
theorem All_perm {w : World} : ∀ {H H' : List Asn}, H.Perm H' → ∀ {fp}, All H w fp → ∃ fp', fp.Perm fp' ∧ All H' w fp' := by
  intro H H' h
  induction h with
  | nil => intro fp h; exact ⟨fp, .refl _, h⟩
  | cons a _ ih =>
    rintro fp ⟨f1, f2, e, h1, h2⟩
    obtain ⟨f2', p, h2'⟩ := ih h2
    exact ⟨f1 ++ f2', by rw [e]; exact List.Perm.append_left f1 p, f1, f2', rfl, h1, h2'⟩
  | swap a b l =>
    rintro fp ⟨f1, f2, e, h1, f3, f4, e2, h3, h4⟩
    refine ⟨f3 ++ (f1 ++ f4), ?_, f3, f1 ++ f4, rfl, h3, f1, f4, rfl, h1, h4⟩
    rw [e, e2, ← List.append_assoc, ← List.append_assoc]
    exact List.Perm.append_right f4 List.perm_append_comm
  | trans _ _ ih1 ih2 =>
    intro fp h
    obtain ⟨f', p1, h'⟩ := ih1 h
    obtain ⟨f'', p2, h''⟩ := ih2 h'
    exact ⟨f'', p1.trans p2, h''⟩
theorem St.perm {w0 H H' w} (h : St w0 H w) (p : H.Perm H') : St w0 H' w := by
  obtain ⟨fp, h1, h2, h3⟩ := h.own
  obtain ⟨fp', q, h3'⟩ := All_perm p h3
  exact ⟨h.os, h.tape, h.output, h.size, h.old, fp', q.nodup_iff.1 h1, fun b hb => h2 b (q.mem_iff.2 hb), h3'⟩

theorem St.grown {w0 H w} (h : St w0 H w) : RowKit.Below w0.heap.size w0 w := ⟨h.os, h.tape, h.output, h.size, h.old⟩
end Sx

namespace Sx
open Go

/-- from this point of the function on, it ends as R says -/
def J (P : Program) (f : FuncId) (todo : List Item) (a : Act) (w : World) (R : Ending → World → Prop) : Prop :=
  ∀ (b : Frame) (cs : List Frame), b.fn = f → b.kind = .normal ∨ b.kind = .deferred →
    ∃ e w' fr, R e w' ∧ Comes P (lone (b.at a todo) cs w) (lone fr cs w') e ∧ fr.fn = f ∧ fr.kind = b.kind ∧ fr.going P w' e

theorem J.step {P f todo todo' a a' w w' R} (hs : ∀ (b : Frame) cs, b.fn = f → b.kind = .normal ∨ b.kind = .deferred → step P (lone (b.at a todo) cs w) = .next (lone (b.at a' todo') cs w'))
    (h : J P f todo' a' w' R) : J P f todo a w R := by
  intro b cs hb hk
  obtain ⟨e, w'', fr, hR, hc, hrest⟩ := h b cs hb hk
  exact ⟨e, w'', fr, hR, Comes.of_steps (.one (hs b cs hb hk)) hc, hrest⟩
theorem Calls_of_J {P f todo a w R} (h : J P f todo a w R) (b : Frame) (cs : List Frame) (hb : b.fn = f) (hk : b.kind = .normal) :
    ∃ e w' fr, R e w' ∧ Comes P (lone (b.at a todo) cs w) (lone fr cs w') e ∧ fr.fn = f ∧ fr.leaving P w' e := by
  obtain ⟨e, w', fr, hR, hc, hf, hk', hg⟩ := h b cs hb (.inl hk)
  refine ⟨e, w', fr, hR, hc, hf, ?_⟩
  cases e with
  | returned v => exact ⟨hg.1, hg.2.1, hk'.trans hk, hg.2.2⟩
  | panicked chain => exact hg
  | outgrown => trivial
theorem J.mono {P f todo a w R R'} (h : J P f todo a w R) (hr : ∀ e w', R e w' → R' e w') : J P f todo a w R' :=
  fun b cs hb hk => let ⟨e, w', fr, r, rest⟩ := h b cs hb hk; ⟨e, w', fr, hr _ _ r, rest⟩

section
variable (P : Program) (f n : Nat) (R : Ending → World → Prop) (D : List Deferred) (w0 : World)

def JS (todo : List Item) (ov : Ov) (H : List Asn) : Prop :=
  ∀ a w, Rep n D ov a → St w0 H w → J P f todo a w R
end

section
variable {P : Program} {f n : Nat} {R : Ending → World → Prop} {D : List Deferred} {w0 : World} {k : List Item} {ov : Ov} {H : List Asn}

theorem JS_seq {x y : Code} (h : JS P f n R D w0 (.code x :: .code y :: k) ov H) : JS P f n R D w0 (.code (.seq x y) :: k) ov H :=
  fun a w ha hw => (h a w ha hw).step fun _ _ _ _ => step_seq
theorem JS_skip (h : JS P f n R D w0 k ov H) : JS P f n R D w0 (.code .skip :: k) ov H :=
  fun a w ha hw => (h a w ha hw).step fun _ _ _ _ => step_skip
theorem JS_label {l} (h : JS P f n R D w0 k ov H) : JS P f n R D w0 (.code (.label l) :: k) ov H :=
  fun a w ha hw => (h a w ha hw).step fun _ _ _ _ => step_label
theorem JS_inBlock {id} (h : JS P f n R D w0 k ov H) : JS P f n R D w0 (.inBlock id :: k) ov H :=
  fun a w ha hw => (h a w ha hw).step fun _ _ _ _ => step_inBlock
theorem JS_block {id x} (h : JS P f n R D w0 (.code x :: .inBlock id :: k) ov H) : JS P f n R D w0 (.code (.block id x) :: k) ov H :=
  fun a w ha hw => (h a w ha hw).step fun _ _ _ _ => step_block
theorem JS_loop' {x} (h : JS P f n R D w0 (.code x :: .inLoop x :: k) ov H) : JS P f n R D w0 (.code (.loop x) :: k) ov H :=
  fun a w ha hw => (h a w ha hw).step fun _ _ _ _ => step_loop
theorem JS_inLoop {x} (h : JS P f n R D w0 (.code x :: .inLoop x :: k) ov H) : JS P f n R D w0 (.inLoop x :: k) ov H :=
  fun a w ha hw => (h a w ha hw).step fun _ _ _ _ => step_inLoop
theorem JS_exit {id k'} (he : exitTo id k = some k') (h : JS P f n R D w0 k' ov H) : JS P f n R D w0 (.code (.exit id) :: k) ov H :=
  fun a w ha hw => (h a w ha hw).step fun _ _ _ _ => step_exit he
theorem JS_cond {c x y b} (hc : ev ov c = some (.bool b)) (ht : b = true → JS P f n R D w0 (.code x :: k) ov H) (hf : b = false → JS P f n R D w0 (.code y :: k) ov H) :
    JS P f n R D w0 (.code (.cond c x y) :: k) ov H := by
  intro a w ha hw
  cases b with
  | true => exact (ht rfl a w ha hw).step fun _ _ _ _ => step_cond (t := true) (ha.ev hc)
  | false => exact (hf rfl a w ha hw).step fun _ _ _ _ => step_cond (t := false) (ha.ev hc)
theorem JS_condT {c x y} (hc : ev ov c = some (.bool true)) (h : JS P f n R D w0 (.code x :: k) ov H) :
    JS P f n R D w0 (.code (.cond c x y) :: k) ov H := JS_cond hc (fun _ => h) (fun e => nomatch e)
theorem JS_condF {c x y} (hc : ev ov c = some (.bool false)) (h : JS P f n R D w0 (.code y :: k) ov H) :
    JS P f n R D w0 (.code (.cond c x y) :: k) ov H := JS_cond hc (fun e => nomatch e) (fun _ => h)
theorem JS_condD {c x y} {p : Prop} [Decidable p] (hc : ev ov c = some (.bool (decide p))) (ht : p → JS P f n R D w0 (.code x :: k) ov H) (hf : ¬ p → JS P f n R D w0 (.code y :: k) ov H) :
    JS P f n R D w0 (.code (.cond c x y) :: k) ov H := JS_cond hc (fun e => ht (of_decide_eq_true e)) (fun e => hf (of_decide_eq_false e))
theorem JS_cond_T {c x y} {p : Prop} [Decidable p] (hc : ev ov c = some (.bool (decide p))) (hp : p) (h : JS P f n R D w0 (.code x :: k) ov H) :
    JS P f n R D w0 (.code (.cond c x y) :: k) ov H := JS_condD hc (fun _ => h) (fun e => absurd hp e)
theorem JS_cond_F {c x y} {p : Prop} [Decidable p] (hc : ev ov c = some (.bool (decide p))) (hp : ¬ p) (h : JS P f n R D w0 (.code y :: k) ov H) :
    JS P f n R D w0 (.code (.cond c x y) :: k) ov H := JS_condD hc (fun e => absurd e hp) (fun _ => h)
theorem JS_weak {ov' H'} (h : JS P f n R D w0 k ov' H') (hs : sub ov' ov) (hH : ∀ w, St w0 H w → St w0 H' w) : JS P f n R D w0 k ov H :=
  fun a w ha hw => h a w (ha.sub hs) (hH w hw)
theorem JS_ov {ov'} (hs : sub ov' ov) (h : JS P f n R D w0 k ov' H) : JS P f n R D w0 k ov H :=
  fun a w ha hw => h a w (ha.sub hs) hw
theorem JS_H {H'} (hH : ∀ w, St w0 H w → St w0 H' w) (h : JS P f n R D w0 k ov H') : JS P f n R D w0 k ov H :=
  fun a w ha hw => h a w ha (hH w hw)
theorem JS_fact {p : Prop} (hp : ∀ w, St w0 H w → p) (h : p → JS P f n R D w0 k ov H) : JS P f n R D w0 k ov H :=
  fun a w ha hw => h (hp w hw) a w ha hw

/-- a loop: an induction on a measure -/
theorem JS_loop {ι : Type} {c : Code} (o : ι → Ov) (H' : ι → List Asn) (I : ι → Prop) (μ : ι → Nat) (x0 : ι) (h0 : I x0) (hs : sub (o x0) ov) (hH : ∀ w, St w0 H w → St w0 (H' x0) w)
    (round : ∀ x, I x → (∀ y, I y → μ y < μ x → JS P f n R D w0 (.inLoop c :: k) (o y) (H' y)) → JS P f n R D w0 (.code c :: .inLoop c :: k) (o x) (H' x)) :
    JS P f n R D w0 (.code (.loop c) :: k) ov H := by
  have key : ∀ m x, μ x = m → I x → JS P f n R D w0 (.code c :: .inLoop c :: k) (o x) (H' x) := by
    intro m
    induction m using Nat.strongRecOn with
    | _ m ih =>
      intro x hm hx
      exact round x hx fun y hy hlt => JS_inLoop (ih (μ y) (hm ▸ hlt) y rfl hy)
  exact JS_loop' (JS_weak (key _ x0 rfl h0) hs hH)

/-- ways that meet again -/
theorem JS_join {ι : Type} {c : Code} (o : ι → Ov) (H' : ι → List Asn) (I : ι → Prop) (cont : ∀ x, I x → JS P f n R D w0 k (o x) (H' x))
    (h : (∀ x, I x → JS P f n R D w0 k (o x) (H' x)) → JS P f n R D w0 (.code c :: k) ov H) : JS P f n R D w0 (.code c :: k) ov H := h cont
/-- to the head of a known continuation -/
theorem JS_to {ι : Type} {o : ι → Ov} {H' : ι → List Asn} {I : ι → Prop} (K : ∀ x, I x → JS P f n R D w0 k (o x) (H' x)) (x : ι) (hI : I x) (hs : sub (o x) ov) (hH : ∀ w, St w0 H w → St w0 (H' x) w) : JS P f n R D w0 k ov H :=
  JS_weak (K x hI) hs hH
theorem JS_join1 {α : Type} {c : Code} (o : α → Ov) (H' : α → List Asn) (I : α → Prop) (cont : ∀ (x1 : α), I x1 → JS P f n R D w0 k (o x1) (H' x1))
    (h : (∀ (x1 : α), I x1 → JS P f n R D w0 k (o x1) (H' x1)) → JS P f n R D w0 (.code c :: k) ov H) : JS P f n R D w0 (.code c :: k) ov H := h cont
theorem JS_to1 {α : Type} {o : α → Ov} {H' : α → List Asn} {I : α → Prop} (K : ∀ (x1 : α), I x1 → JS P f n R D w0 k (o x1) (H' x1)) (x1 : α) (hI : I x1) (hs : sub (o x1) ov) (hH : ∀ w, St w0 H w → St w0 (H' x1) w) : JS P f n R D w0 k ov H :=
  JS_weak (K x1 hI) hs hH
theorem JS_loop1 {α : Type} {c : Code} (o : α → Ov) (H' : α → List Asn) (I : α → Prop) (μ : α → Nat) (x1 : α) (h0 : I x1) (hs : sub (o x1) ov) (hH : ∀ w, St w0 H w → St w0 (H' x1) w)
    (round : ∀ (x1 : α), I x1 → (∀ (y1 : α), I y1 → μ y1 < μ x1 → JS P f n R D w0 (.inLoop c :: k) (o y1) (H' y1)) → JS P f n R D w0 (.code c :: .inLoop c :: k) (o x1) (H' x1)) :
    JS P f n R D w0 (.code (.loop c) :: k) ov H :=
  JS_loop (ι := α) (fun p => o p) (fun p => H' p) (fun p => I p) (fun p => μ p) (x1) h0 hs hH (fun p hp hr => round p hp fun y1 hy hlt => hr (y1) hy hlt)
theorem JS_again1 {α : Type} {c : Code} {o : α → Ov} {H' : α → List Asn} {I : α → Prop} {μ : α → Nat} {m : Nat} (K : ∀ (y1 : α), I y1 → μ y1 < m → JS P f n R D w0 (.inLoop c :: k) (o y1) (H' y1)) (x1 : α) (hI : I x1) (hm : μ x1 < m) (hs : sub (o x1) ov) (hH : ∀ w, St w0 H w → St w0 (H' x1) w) : JS P f n R D w0 (.inLoop c :: k) ov H :=
  JS_weak (K x1 hI hm) hs hH
theorem JS_join2 {α : Type} {β : Type} {c : Code} (o : α → β → Ov) (H' : α → β → List Asn) (I : α → β → Prop) (cont : ∀ (x1 : α) (x2 : β), I x1 x2 → JS P f n R D w0 k (o x1 x2) (H' x1 x2))
    (h : (∀ (x1 : α) (x2 : β), I x1 x2 → JS P f n R D w0 k (o x1 x2) (H' x1 x2)) → JS P f n R D w0 (.code c :: k) ov H) : JS P f n R D w0 (.code c :: k) ov H := h cont
theorem JS_to2 {α : Type} {β : Type} {o : α → β → Ov} {H' : α → β → List Asn} {I : α → β → Prop} (K : ∀ (x1 : α) (x2 : β), I x1 x2 → JS P f n R D w0 k (o x1 x2) (H' x1 x2)) (x1 : α) (x2 : β) (hI : I x1 x2) (hs : sub (o x1 x2) ov) (hH : ∀ w, St w0 H w → St w0 (H' x1 x2) w) : JS P f n R D w0 k ov H :=
  JS_weak (K x1 x2 hI) hs hH
theorem JS_loop2 {α : Type} {β : Type} {c : Code} (o : α → β → Ov) (H' : α → β → List Asn) (I : α → β → Prop) (μ : α → β → Nat) (x1 : α) (x2 : β) (h0 : I x1 x2) (hs : sub (o x1 x2) ov) (hH : ∀ w, St w0 H w → St w0 (H' x1 x2) w)
    (round : ∀ (x1 : α) (x2 : β), I x1 x2 → (∀ (y1 : α) (y2 : β), I y1 y2 → μ y1 y2 < μ x1 x2 → JS P f n R D w0 (.inLoop c :: k) (o y1 y2) (H' y1 y2)) → JS P f n R D w0 (.code c :: .inLoop c :: k) (o x1 x2) (H' x1 x2)) :
    JS P f n R D w0 (.code (.loop c) :: k) ov H :=
  JS_loop (ι := α × β) (fun p => o p.1 p.2) (fun p => H' p.1 p.2) (fun p => I p.1 p.2) (fun p => μ p.1 p.2) (x1, x2) h0 hs hH (fun p hp hr => round p.1 p.2 hp fun y1 y2 hy hlt => hr (y1, y2) hy hlt)
theorem JS_again2 {α : Type} {β : Type} {c : Code} {o : α → β → Ov} {H' : α → β → List Asn} {I : α → β → Prop} {μ : α → β → Nat} {m : Nat} (K : ∀ (y1 : α) (y2 : β), I y1 y2 → μ y1 y2 < m → JS P f n R D w0 (.inLoop c :: k) (o y1 y2) (H' y1 y2)) (x1 : α) (x2 : β) (hI : I x1 x2) (hm : μ x1 x2 < m) (hs : sub (o x1 x2) ov) (hH : ∀ w, St w0 H w → St w0 (H' x1 x2) w) : JS P f n R D w0 (.inLoop c :: k) ov H :=
  JS_weak (K x1 x2 hI hm) hs hH
theorem JS_join3 {α : Type} {β : Type} {γ : Type} {c : Code} (o : α → β → γ → Ov) (H' : α → β → γ → List Asn) (I : α → β → γ → Prop) (cont : ∀ (x1 : α) (x2 : β) (x3 : γ), I x1 x2 x3 → JS P f n R D w0 k (o x1 x2 x3) (H' x1 x2 x3))
    (h : (∀ (x1 : α) (x2 : β) (x3 : γ), I x1 x2 x3 → JS P f n R D w0 k (o x1 x2 x3) (H' x1 x2 x3)) → JS P f n R D w0 (.code c :: k) ov H) : JS P f n R D w0 (.code c :: k) ov H := h cont
theorem JS_to3 {α : Type} {β : Type} {γ : Type} {o : α → β → γ → Ov} {H' : α → β → γ → List Asn} {I : α → β → γ → Prop} (K : ∀ (x1 : α) (x2 : β) (x3 : γ), I x1 x2 x3 → JS P f n R D w0 k (o x1 x2 x3) (H' x1 x2 x3)) (x1 : α) (x2 : β) (x3 : γ) (hI : I x1 x2 x3) (hs : sub (o x1 x2 x3) ov) (hH : ∀ w, St w0 H w → St w0 (H' x1 x2 x3) w) : JS P f n R D w0 k ov H :=
  JS_weak (K x1 x2 x3 hI) hs hH
theorem JS_loop3 {α : Type} {β : Type} {γ : Type} {c : Code} (o : α → β → γ → Ov) (H' : α → β → γ → List Asn) (I : α → β → γ → Prop) (μ : α → β → γ → Nat) (x1 : α) (x2 : β) (x3 : γ) (h0 : I x1 x2 x3) (hs : sub (o x1 x2 x3) ov) (hH : ∀ w, St w0 H w → St w0 (H' x1 x2 x3) w)
    (round : ∀ (x1 : α) (x2 : β) (x3 : γ), I x1 x2 x3 → (∀ (y1 : α) (y2 : β) (y3 : γ), I y1 y2 y3 → μ y1 y2 y3 < μ x1 x2 x3 → JS P f n R D w0 (.inLoop c :: k) (o y1 y2 y3) (H' y1 y2 y3)) → JS P f n R D w0 (.code c :: .inLoop c :: k) (o x1 x2 x3) (H' x1 x2 x3)) :
    JS P f n R D w0 (.code (.loop c) :: k) ov H :=
  JS_loop (ι := α × β × γ) (fun p => o p.1 p.2.1 p.2.2) (fun p => H' p.1 p.2.1 p.2.2) (fun p => I p.1 p.2.1 p.2.2) (fun p => μ p.1 p.2.1 p.2.2) (x1, x2, x3) h0 hs hH (fun p hp hr => round p.1 p.2.1 p.2.2 hp fun y1 y2 y3 hy hlt => hr (y1, y2, y3) hy hlt)
theorem JS_again3 {α : Type} {β : Type} {γ : Type} {c : Code} {o : α → β → γ → Ov} {H' : α → β → γ → List Asn} {I : α → β → γ → Prop} {μ : α → β → γ → Nat} {m : Nat} (K : ∀ (y1 : α) (y2 : β) (y3 : γ), I y1 y2 y3 → μ y1 y2 y3 < m → JS P f n R D w0 (.inLoop c :: k) (o y1 y2 y3) (H' y1 y2 y3)) (x1 : α) (x2 : β) (x3 : γ) (hI : I x1 x2 x3) (hm : μ x1 x2 x3 < m) (hs : sub (o x1 x2 x3) ov) (hH : ∀ w, St w0 H w → St w0 (H' x1 x2 x3) w) : JS P f n R D w0 (.inLoop c :: k) ov H :=
  JS_weak (K x1 x2 x3 hI hm) hs hH
theorem JS_join4 {α : Type} {β : Type} {γ : Type} {δ : Type} {c : Code} (o : α → β → γ → δ → Ov) (H' : α → β → γ → δ → List Asn) (I : α → β → γ → δ → Prop) (cont : ∀ (x1 : α) (x2 : β) (x3 : γ) (x4 : δ), I x1 x2 x3 x4 → JS P f n R D w0 k (o x1 x2 x3 x4) (H' x1 x2 x3 x4))
    (h : (∀ (x1 : α) (x2 : β) (x3 : γ) (x4 : δ), I x1 x2 x3 x4 → JS P f n R D w0 k (o x1 x2 x3 x4) (H' x1 x2 x3 x4)) → JS P f n R D w0 (.code c :: k) ov H) : JS P f n R D w0 (.code c :: k) ov H := h cont
theorem JS_to4 {α : Type} {β : Type} {γ : Type} {δ : Type} {o : α → β → γ → δ → Ov} {H' : α → β → γ → δ → List Asn} {I : α → β → γ → δ → Prop} (K : ∀ (x1 : α) (x2 : β) (x3 : γ) (x4 : δ), I x1 x2 x3 x4 → JS P f n R D w0 k (o x1 x2 x3 x4) (H' x1 x2 x3 x4)) (x1 : α) (x2 : β) (x3 : γ) (x4 : δ) (hI : I x1 x2 x3 x4) (hs : sub (o x1 x2 x3 x4) ov) (hH : ∀ w, St w0 H w → St w0 (H' x1 x2 x3 x4) w) : JS P f n R D w0 k ov H :=
  JS_weak (K x1 x2 x3 x4 hI) hs hH
theorem JS_loop4 {α : Type} {β : Type} {γ : Type} {δ : Type} {c : Code} (o : α → β → γ → δ → Ov) (H' : α → β → γ → δ → List Asn) (I : α → β → γ → δ → Prop) (μ : α → β → γ → δ → Nat) (x1 : α) (x2 : β) (x3 : γ) (x4 : δ) (h0 : I x1 x2 x3 x4) (hs : sub (o x1 x2 x3 x4) ov) (hH : ∀ w, St w0 H w → St w0 (H' x1 x2 x3 x4) w)
    (round : ∀ (x1 : α) (x2 : β) (x3 : γ) (x4 : δ), I x1 x2 x3 x4 → (∀ (y1 : α) (y2 : β) (y3 : γ) (y4 : δ), I y1 y2 y3 y4 → μ y1 y2 y3 y4 < μ x1 x2 x3 x4 → JS P f n R D w0 (.inLoop c :: k) (o y1 y2 y3 y4) (H' y1 y2 y3 y4)) → JS P f n R D w0 (.code c :: .inLoop c :: k) (o x1 x2 x3 x4) (H' x1 x2 x3 x4)) :
    JS P f n R D w0 (.code (.loop c) :: k) ov H :=
  JS_loop (ι := α × β × γ × δ) (fun p => o p.1 p.2.1 p.2.2.1 p.2.2.2) (fun p => H' p.1 p.2.1 p.2.2.1 p.2.2.2) (fun p => I p.1 p.2.1 p.2.2.1 p.2.2.2) (fun p => μ p.1 p.2.1 p.2.2.1 p.2.2.2) (x1, x2, x3, x4) h0 hs hH (fun p hp hr => round p.1 p.2.1 p.2.2.1 p.2.2.2 hp fun y1 y2 y3 y4 hy hlt => hr (y1, y2, y3, y4) hy hlt)
theorem JS_again4 {α : Type} {β : Type} {γ : Type} {δ : Type} {c : Code} {o : α → β → γ → δ → Ov} {H' : α → β → γ → δ → List Asn} {I : α → β → γ → δ → Prop} {μ : α → β → γ → δ → Nat} {m : Nat} (K : ∀ (y1 : α) (y2 : β) (y3 : γ) (y4 : δ), I y1 y2 y3 y4 → μ y1 y2 y3 y4 < m → JS P f n R D w0 (.inLoop c :: k) (o y1 y2 y3 y4) (H' y1 y2 y3 y4)) (x1 : α) (x2 : β) (x3 : γ) (x4 : δ) (hI : I x1 x2 x3 x4) (hm : μ x1 x2 x3 x4 < m) (hs : sub (o x1 x2 x3 x4) ov) (hH : ∀ w, St w0 H w → St w0 (H' x1 x2 x3 x4) w) : JS P f n R D w0 (.inLoop c :: k) ov H :=
  JS_weak (K x1 x2 x3 x4 hI hm) hs hH
theorem JS_join5 {α : Type} {β : Type} {γ : Type} {δ : Type} {ε : Type} {c : Code} (o : α → β → γ → δ → ε → Ov) (H' : α → β → γ → δ → ε → List Asn) (I : α → β → γ → δ → ε → Prop) (cont : ∀ (x1 : α) (x2 : β) (x3 : γ) (x4 : δ) (x5 : ε), I x1 x2 x3 x4 x5 → JS P f n R D w0 k (o x1 x2 x3 x4 x5) (H' x1 x2 x3 x4 x5))
    (h : (∀ (x1 : α) (x2 : β) (x3 : γ) (x4 : δ) (x5 : ε), I x1 x2 x3 x4 x5 → JS P f n R D w0 k (o x1 x2 x3 x4 x5) (H' x1 x2 x3 x4 x5)) → JS P f n R D w0 (.code c :: k) ov H) : JS P f n R D w0 (.code c :: k) ov H := h cont
theorem JS_to5 {α : Type} {β : Type} {γ : Type} {δ : Type} {ε : Type} {o : α → β → γ → δ → ε → Ov} {H' : α → β → γ → δ → ε → List Asn} {I : α → β → γ → δ → ε → Prop} (K : ∀ (x1 : α) (x2 : β) (x3 : γ) (x4 : δ) (x5 : ε), I x1 x2 x3 x4 x5 → JS P f n R D w0 k (o x1 x2 x3 x4 x5) (H' x1 x2 x3 x4 x5)) (x1 : α) (x2 : β) (x3 : γ) (x4 : δ) (x5 : ε) (hI : I x1 x2 x3 x4 x5) (hs : sub (o x1 x2 x3 x4 x5) ov) (hH : ∀ w, St w0 H w → St w0 (H' x1 x2 x3 x4 x5) w) : JS P f n R D w0 k ov H :=
  JS_weak (K x1 x2 x3 x4 x5 hI) hs hH
theorem JS_loop5 {α : Type} {β : Type} {γ : Type} {δ : Type} {ε : Type} {c : Code} (o : α → β → γ → δ → ε → Ov) (H' : α → β → γ → δ → ε → List Asn) (I : α → β → γ → δ → ε → Prop) (μ : α → β → γ → δ → ε → Nat) (x1 : α) (x2 : β) (x3 : γ) (x4 : δ) (x5 : ε) (h0 : I x1 x2 x3 x4 x5) (hs : sub (o x1 x2 x3 x4 x5) ov) (hH : ∀ w, St w0 H w → St w0 (H' x1 x2 x3 x4 x5) w)
    (round : ∀ (x1 : α) (x2 : β) (x3 : γ) (x4 : δ) (x5 : ε), I x1 x2 x3 x4 x5 → (∀ (y1 : α) (y2 : β) (y3 : γ) (y4 : δ) (y5 : ε), I y1 y2 y3 y4 y5 → μ y1 y2 y3 y4 y5 < μ x1 x2 x3 x4 x5 → JS P f n R D w0 (.inLoop c :: k) (o y1 y2 y3 y4 y5) (H' y1 y2 y3 y4 y5)) → JS P f n R D w0 (.code c :: .inLoop c :: k) (o x1 x2 x3 x4 x5) (H' x1 x2 x3 x4 x5)) :
    JS P f n R D w0 (.code (.loop c) :: k) ov H :=
  JS_loop (ι := α × β × γ × δ × ε) (fun p => o p.1 p.2.1 p.2.2.1 p.2.2.2.1 p.2.2.2.2) (fun p => H' p.1 p.2.1 p.2.2.1 p.2.2.2.1 p.2.2.2.2) (fun p => I p.1 p.2.1 p.2.2.1 p.2.2.2.1 p.2.2.2.2) (fun p => μ p.1 p.2.1 p.2.2.1 p.2.2.2.1 p.2.2.2.2) (x1, x2, x3, x4, x5) h0 hs hH (fun p hp hr => round p.1 p.2.1 p.2.2.1 p.2.2.2.1 p.2.2.2.2 hp fun y1 y2 y3 y4 y5 hy hlt => hr (y1, y2, y3, y4, y5) hy hlt)
theorem JS_again5 {α : Type} {β : Type} {γ : Type} {δ : Type} {ε : Type} {c : Code} {o : α → β → γ → δ → ε → Ov} {H' : α → β → γ → δ → ε → List Asn} {I : α → β → γ → δ → ε → Prop} {μ : α → β → γ → δ → ε → Nat} {m : Nat} (K : ∀ (y1 : α) (y2 : β) (y3 : γ) (y4 : δ) (y5 : ε), I y1 y2 y3 y4 y5 → μ y1 y2 y3 y4 y5 < m → JS P f n R D w0 (.inLoop c :: k) (o y1 y2 y3 y4 y5) (H' y1 y2 y3 y4 y5)) (x1 : α) (x2 : β) (x3 : γ) (x4 : δ) (x5 : ε) (hI : I x1 x2 x3 x4 x5) (hm : μ x1 x2 x3 x4 x5 < m) (hs : sub (o x1 x2 x3 x4 x5) ov) (hH : ∀ w, St w0 H w → St w0 (H' x1 x2 x3 x4 x5) w) : JS P f n R D w0 (.inLoop c :: k) ov H :=
  JS_weak (K x1 x2 x3 x4 x5 hI hm) hs hH
theorem JS_join6 {α : Type} {β : Type} {γ : Type} {δ : Type} {ε : Type} {ζ : Type} {c : Code} (o : α → β → γ → δ → ε → ζ → Ov) (H' : α → β → γ → δ → ε → ζ → List Asn) (I : α → β → γ → δ → ε → ζ → Prop) (cont : ∀ (x1 : α) (x2 : β) (x3 : γ) (x4 : δ) (x5 : ε) (x6 : ζ), I x1 x2 x3 x4 x5 x6 → JS P f n R D w0 k (o x1 x2 x3 x4 x5 x6) (H' x1 x2 x3 x4 x5 x6))
    (h : (∀ (x1 : α) (x2 : β) (x3 : γ) (x4 : δ) (x5 : ε) (x6 : ζ), I x1 x2 x3 x4 x5 x6 → JS P f n R D w0 k (o x1 x2 x3 x4 x5 x6) (H' x1 x2 x3 x4 x5 x6)) → JS P f n R D w0 (.code c :: k) ov H) : JS P f n R D w0 (.code c :: k) ov H := h cont
theorem JS_to6 {α : Type} {β : Type} {γ : Type} {δ : Type} {ε : Type} {ζ : Type} {o : α → β → γ → δ → ε → ζ → Ov} {H' : α → β → γ → δ → ε → ζ → List Asn} {I : α → β → γ → δ → ε → ζ → Prop} (K : ∀ (x1 : α) (x2 : β) (x3 : γ) (x4 : δ) (x5 : ε) (x6 : ζ), I x1 x2 x3 x4 x5 x6 → JS P f n R D w0 k (o x1 x2 x3 x4 x5 x6) (H' x1 x2 x3 x4 x5 x6)) (x1 : α) (x2 : β) (x3 : γ) (x4 : δ) (x5 : ε) (x6 : ζ) (hI : I x1 x2 x3 x4 x5 x6) (hs : sub (o x1 x2 x3 x4 x5 x6) ov) (hH : ∀ w, St w0 H w → St w0 (H' x1 x2 x3 x4 x5 x6) w) : JS P f n R D w0 k ov H :=
  JS_weak (K x1 x2 x3 x4 x5 x6 hI) hs hH
theorem JS_loop6 {α : Type} {β : Type} {γ : Type} {δ : Type} {ε : Type} {ζ : Type} {c : Code} (o : α → β → γ → δ → ε → ζ → Ov) (H' : α → β → γ → δ → ε → ζ → List Asn) (I : α → β → γ → δ → ε → ζ → Prop) (μ : α → β → γ → δ → ε → ζ → Nat) (x1 : α) (x2 : β) (x3 : γ) (x4 : δ) (x5 : ε) (x6 : ζ) (h0 : I x1 x2 x3 x4 x5 x6) (hs : sub (o x1 x2 x3 x4 x5 x6) ov) (hH : ∀ w, St w0 H w → St w0 (H' x1 x2 x3 x4 x5 x6) w)
    (round : ∀ (x1 : α) (x2 : β) (x3 : γ) (x4 : δ) (x5 : ε) (x6 : ζ), I x1 x2 x3 x4 x5 x6 → (∀ (y1 : α) (y2 : β) (y3 : γ) (y4 : δ) (y5 : ε) (y6 : ζ), I y1 y2 y3 y4 y5 y6 → μ y1 y2 y3 y4 y5 y6 < μ x1 x2 x3 x4 x5 x6 → JS P f n R D w0 (.inLoop c :: k) (o y1 y2 y3 y4 y5 y6) (H' y1 y2 y3 y4 y5 y6)) → JS P f n R D w0 (.code c :: .inLoop c :: k) (o x1 x2 x3 x4 x5 x6) (H' x1 x2 x3 x4 x5 x6)) :
    JS P f n R D w0 (.code (.loop c) :: k) ov H :=
  JS_loop (ι := α × β × γ × δ × ε × ζ) (fun p => o p.1 p.2.1 p.2.2.1 p.2.2.2.1 p.2.2.2.2.1 p.2.2.2.2.2) (fun p => H' p.1 p.2.1 p.2.2.1 p.2.2.2.1 p.2.2.2.2.1 p.2.2.2.2.2) (fun p => I p.1 p.2.1 p.2.2.1 p.2.2.2.1 p.2.2.2.2.1 p.2.2.2.2.2) (fun p => μ p.1 p.2.1 p.2.2.1 p.2.2.2.1 p.2.2.2.2.1 p.2.2.2.2.2) (x1, x2, x3, x4, x5, x6) h0 hs hH (fun p hp hr => round p.1 p.2.1 p.2.2.1 p.2.2.2.1 p.2.2.2.2.1 p.2.2.2.2.2 hp fun y1 y2 y3 y4 y5 y6 hy hlt => hr (y1, y2, y3, y4, y5, y6) hy hlt)
theorem JS_again6 {α : Type} {β : Type} {γ : Type} {δ : Type} {ε : Type} {ζ : Type} {c : Code} {o : α → β → γ → δ → ε → ζ → Ov} {H' : α → β → γ → δ → ε → ζ → List Asn} {I : α → β → γ → δ → ε → ζ → Prop} {μ : α → β → γ → δ → ε → ζ → Nat} {m : Nat} (K : ∀ (y1 : α) (y2 : β) (y3 : γ) (y4 : δ) (y5 : ε) (y6 : ζ), I y1 y2 y3 y4 y5 y6 → μ y1 y2 y3 y4 y5 y6 < m → JS P f n R D w0 (.inLoop c :: k) (o y1 y2 y3 y4 y5 y6) (H' y1 y2 y3 y4 y5 y6)) (x1 : α) (x2 : β) (x3 : γ) (x4 : δ) (x5 : ε) (x6 : ζ) (hI : I x1 x2 x3 x4 x5 x6) (hm : μ x1 x2 x3 x4 x5 x6 < m) (hs : sub (o x1 x2 x3 x4 x5 x6) ov) (hH : ∀ w, St w0 H w → St w0 (H' x1 x2 x3 x4 x5 x6) w) : JS P f n R D w0 (.inLoop c :: k) ov H :=
  JS_weak (K x1 x2 x3 x4 x5 x6 hI hm) hs hH
/-- the function's end -/
theorem JS_end {fn v} (hf : P.funcs[f]? = some fn) (hr : ∀ a w, Rep n [] ov a → St w0 H w → (results fn a.tmps).run P w = .ok v w ∧ R (.returned v) w) :
    JS P f n R [] w0 [] ov H := by
  intro a w ha hw b cs hb hk
  obtain ⟨h1, h2⟩ := hr a w ha hw
  exact ⟨.returned v, w, _, h2, .one step_end, hb, rfl, rfl, ha.defers, fn, by rw [← hf]; exact congrArg (P.funcs[·]?) hb, h1⟩
theorem JS_ret' {fn v} (hf : P.funcs[f]? = some fn) (hr : ∀ a w, Rep n [] ov a → St w0 H w → (results fn a.tmps).run P w = .ok v w ∧ R (.returned v) w) :
    JS P f n R [] w0 (.code .ret :: k) ov H := by
  intro a w ha hw b cs hb hk
  obtain ⟨h1, h2⟩ := hr a w ha hw
  exact ⟨.returned v, w, _, h2, .one step_ret, hb, rfl, rfl, ha.defers, fn, by rw [← hf]; exact congrArg (P.funcs[·]?) hb, h1⟩

def rslots : List ResultVar → Option (List Operand)
  | [] => some []
  | .tmp t :: r => match rslots r with
    | some l => some (.tmp t :: l)
    | none => none
  | .cell _ _ :: _ => none
def tupleOf : List Value → Value
  | [v] => v
  | vs => .tuple vs.toArray
def rv (tmps : Array Value) : ResultVar → Sem Value
  | .tmp t => pure (tmps.getD t undef)
  | .cell a t => do loadVar t (← asAddr (tmps.getD a undef))
theorem results_eq (fn : Func) (tmps : Array Value) : results fn tmps = (do
    let vs ← fn.results.mapM (rv tmps)
    pure (if h : vs.size = 1 then vs[0] else .tuple vs)) := by
  unfold results
  congr 1
theorem mapM_tmps {P : Program} {w : World} (tmps : Array Value) (D : List Deferred) : ∀ (rs : List ResultVar) (xs : List Operand), rslots rs = some xs →
    Sem.run P (rs.mapM (rv tmps)) w = .ok (xs.map (Act.eval ⟨tmps, D⟩)) w
  | [], xs, h => by simp [rslots] at h; subst h; simp
  | .tmp t :: r, xs, h => by
    simp only [rslots] at h
    split at h
    · rename_i l hl
      cases h
      have ih := mapM_tmps (P := P) (w := w) tmps D r l hl
      rw [List.mapM_cons]
      simp only [Sem.run_bind, rv, Sem.run_pure, Result.andThen_ok]
      rw [show Sem.run P (List.mapM (rv tmps) r) w = _ from ih]
      simp [Act.eval]
    · cases h
  | .cell _ _ :: _, xs, h => by simp [rslots] at h
theorem results_of {P : Program} {fn : Func} {xs : List Operand} {a : Act} {w : World} (h : rslots fn.results.toList = some xs) :
    (results fn a.tmps).run P w = .ok (tupleOf (xs.map a.eval)) w := by
  have hm := mapM_tmps (P := P) (w := w) a.tmps a.defers fn.results.toList xs h
  rw [results_eq, Array.mapM_eq_mapM_toList]
  simp only [Sem.run_bind, Sem.run_map]
  rw [hm]
  simp only [Result.andThen_ok, Sem.run_pure]
  congr 1
  match xs with
  | [] => rfl
  | [x] => rfl
  | x :: y :: r => rfl

theorem JS_ret {fn xs vs} (hf : P.funcs[f]? = some fn) (hr : rslots fn.results.toList = some xs) (hv : evs ov xs = some vs) (h : ∀ w, St w0 H w → R (.returned (tupleOf vs)) w) :
    JS P f n R [] w0 (.code .ret :: k) ov H :=
  JS_ret' hf fun a w ha hw => ⟨by rw [results_of hr, ha.evs hv], h w hw⟩
theorem JS_fin {fn xs vs} (hf : P.funcs[f]? = some fn) (hr : rslots fn.results.toList = some xs) (hv : evs ov xs = some vs) (h : ∀ w, St w0 H w → R (.returned (tupleOf vs)) w) :
    JS P f n R [] w0 [] ov H :=
  JS_end hf fun a w ha hw => ⟨by rw [results_of hr, ha.evs hv], h w hw⟩

/-- entering a function -/
def argsOv : Nat → List Value → Ov
  | _, [] => []
  | i, v :: r => (i, v) :: argsOv (i + 1) r
theorem look_args : ∀ (vs : List Value) (i t : Nat) (v : Value), look (argsOv i vs) t = some v → i ≤ t ∧ vs[t - i]? = some v
  | [], i, t, v, h => by simp [argsOv, look] at h
  | x :: r, i, t, v, h => by
    simp only [argsOv, look_cons] at h
    split at h
    · rename_i he; subst he; cases h; simp
    · obtain ⟨h1, h2⟩ := look_args r (i + 1) t v h
      refine ⟨by omega, ?_⟩
      rw [show t - i = (t - (i + 1)) + 1 from by omega]
      simpa using h2
theorem enter {fn : Func} {c : Code} {vs : List Value} {w : World} {H : List Asn} (hf : P.funcs[f]? = some fn) (hb : fn.body = some c) (hn : fn.ntmps = n) (hl : Nat.ble vs.length n = true)
    (hw : St w0 H w) (h : JS P f n R [] w0 [.code c] (argsOv 0 vs) H) : Calls P f vs.toArray w R := by
  intro cs
  let b : Frame := { (default : Frame) with fn := f, kind := .normal }
  have hl' : vs.length ≤ n := Nat.le_of_ble_eq_true hl
  have henter : Frame.enter P f vs.toArray .normal = b.at { tmps := vs.toArray ++ Array.replicate (fn.ntmps - vs.toArray.size) undef, defers := [] } [.code c] := by
    simp [Frame.enter, Frame.at, hf, hb, b]
  rw [henter]
  refine Calls_of_J (h _ w ?_ hw) b cs rfl rfl
  refine ⟨by simp [hn]; omega, rfl, ?_⟩
  intro t v ht
  obtain ⟨_, h2⟩ := look_args vs 0 t v ht
  simp only [Nat.sub_zero] at h2
  have hlt : t < vs.length := (List.getElem?_eq_some_iff.1 h2).1
  simp only []
  rw [Array.getElem?_append_left (by simpa using hlt)]
  simpa using h2

/-! ### regions -/
section
variable (P : Program) (f n : Nat) (R : Ending → World → Prop) (D : List Deferred) (w0 : World)
/-- a region's operations that are left -/
def JR (ops : Array Oper) (l : List Oper) (k : List Item) (ov : Ov) (H : List Asn) : Prop :=
  ∀ is : List Nat, is.map (fun i => ops[i]?) = l.map some → JS P f n R D w0 (.inRegion ops is :: k) ov H
/-- its first operation runs -/
def JO (ops : Array Oper) (o : Oper) (l : List Oper) (k : List Item) (ov : Ov) (H : List Asn) : Prop :=
  ∀ i is, ops[i]? = some o → is.map (fun i => ops[i]?) = l.map some → ∀ a w, Rep n D ov a → St w0 H w → Region.wanted o (yielded ops a.tmps) = true → J P f (.inRegion ops (i :: is) :: k) a w R
end

theorem JS_region {id} {l : List Oper} (h : JR P f n R D w0 l.toArray l k ov H) : JS P f n R D w0 (.code (.region id l.toArray false) :: k) ov H := by
  intro a w ha hw
  refine (h (List.range l.toArray.size) ?_ a w ha hw).step fun _ _ _ _ => step_region
  apply List.ext_getElem?
  intro i
  simp only [List.size_toArray, List.getElem?_map, List.getElem?_toArray]
  by_cases hi : i < l.length
  · simp [hi]
  · simp [hi]
theorem JR_nil {ops} (h : JS P f n R D w0 k ov H) : JR P f n R D w0 ops [] k ov H := by
  intro is hm a w ha hw
  have : is = [] := by simpa using hm
  subst this
  exact (h a w ha hw).step fun _ _ _ _ => step_region_end
theorem JR_cons' {ops o l} (hy : ∀ a, Rep n D ov a → Region.wanted o (yielded ops a.tmps) = true) (h : JO P f n R D w0 ops o l k ov H) : JR P f n R D w0 ops (o :: l) k ov H := by
  intro is hm a w ha hw
  cases is with
  | nil => simp at hm
  | cons i is =>
    simp only [List.map_cons, List.cons.injEq] at hm
    exact h i is hm.1 hm.2 a w ha hw (hy a ha)
/-- an operation without a guard -/
theorem JR_un {ops l d op T pos af} (h : JO P f n R D w0 ops ⟨d, op, T, pos, af, none⟩ l k ov H) : JR P f n R D w0 ops (⟨d, op, T, pos, af, none⟩ :: l) k ov H :=
  JR_cons' (fun _ _ => rfl) h
theorem yielded_of {ops : Array Oper} {a : Act} {j t b} (ha : Rep n D ov a) (hj : (ops[j]?).bind Oper.dst = some t) (hv : look ov t = some (.bool b)) : yielded ops a.tmps j = some b := by
  simp only [yielded, hj, Option.bind_some, ha.val t _ hv]
theorem JR_yes {ops : Array Oper} {l d op T pos af j t b} (hj : (ops[j]?).bind Oper.dst = some t) (hv : look ov t = some (.bool b)) (h : JO P f n R D w0 ops ⟨d, op, T, pos, af, some (j, b)⟩ l k ov H) :
    JR P f n R D w0 ops (⟨d, op, T, pos, af, some (j, b)⟩ :: l) k ov H :=
  JR_cons' (fun a ha => by simp [Region.wanted, yielded_of ha hj hv]) h
theorem JR_no {ops : Array Oper} {l d op T pos af j t b c} (hj : (ops[j]?).bind Oper.dst = some t) (hv : look ov t = some (.bool c)) (hbc : (c == b) = false) (hd : dOk d n = true) (h : JR P f n R D w0 ops l k (put d undef ov) H) :
    JR P f n R D w0 ops (⟨d, op, T, pos, af, some (j, b)⟩ :: l) k ov H := by
  intro is hm a w ha hw
  cases is with
  | nil => simp at hm
  | cons i is =>
    simp only [List.map_cons, List.cons.injEq] at hm
    have hno : Region.wanted (⟨d, op, T, pos, af, some (j, b)⟩ : Oper) (yielded ops a.tmps) = false := by
      simp [Region.wanted, yielded_of ha hj hv]; simpa using hbc
    refine (h is hm.2 (a.put d undef) w (ha.put hd undef) hw).step fun b' cs _ _ => ?_
    have := step_op_skip (P := P) (b := b') (a := a) (k := k) (cs := cs) (w := w) (ops := ops) (i := i) (rest := is) (by simp [hm.1, hno])
    simpa [hm.1] using this
/-- a guard that is not known: both ways -/
theorem JR_split {ops : Array Oper} {o l} {j t : Nat} {b : Bool} (_hj : (ops[j]?).bind Oper.dst = some t) (hv : look ov t = some (.bool b)) (ht : b = true → JR P f n R D w0 ops (o :: l) k ((t, .bool true) :: ov) H) (hf : b = false → JR P f n R D w0 ops (o :: l) k ((t, .bool false) :: ov) H) :
    JR P f n R D w0 ops (o :: l) k ov H := by
  intro is hm a w ha hw
  cases b with
  | true => exact ht rfl is hm a w ⟨ha.size, ha.defers, fun s v hs => by rw [look_cons] at hs; split at hs; (rename_i he; subst he; cases hs; exact ha.val _ _ hv); exact ha.val s v hs⟩ hw
  | false => exact hf rfl is hm a w ⟨ha.size, ha.defers, fun s v hs => by rw [look_cons] at hs; split at hs; (rename_i he; subst he; cases hs; exact ha.val _ _ hv); exact ha.val s v hs⟩ hw

/-! ### what an operation does -/
theorem JO_step {ops o l} (h : ∀ a w, Rep n D ov a → St w0 H w → ∃ v w', (execOp a.eval o).run P w = .ok (.value v) w' ∧ dOk o.dst n = true ∧ ∃ H', St w0 H' w' ∧ JR P f n R D w0 ops l k (put o.dst v ov) H') :
    JO P f n R D w0 ops o l k ov H := by
  intro i is hi hm a w ha hw hy
  obtain ⟨v, w', hrun, hd, H', hw', hn⟩ := h a w ha hw
  refine (hn is hm (a.put o.dst v) w' (ha.put hd v) hw').step fun b cs _ _ => ?_
  refine step_lone_go ?_
  have hg := stepG_op (P := P) (b := b) (k := k) (cs := cs) (w := w) (rest := is) hi hy
  have hfin : (b.at a (.inRegion ops (i :: is) :: k)).finish v = b.at (a.put o.dst v) (.inRegion ops is :: k) := by
    rw [Frame.finish_at, hi]; rfl
  rw [hg, ← hfin]
  simp [stepG.apply, hrun]
theorem JO_skip {ops o l} (h : ∀ a w, Rep n D ov a → St w0 H w → ∃ w', (execOp a.eval o).run P w = .ok .skip w' ∧ dOk o.dst n = true ∧ ∃ H', St w0 H' w' ∧ JR P f n R D w0 ops l k (put o.dst undef ov) H') :
    JO P f n R D w0 ops o l k ov H := by
  intro i is hi hm a w ha hw hy
  obtain ⟨w', hrun, hd, H', hw', hn⟩ := h a w ha hw
  refine (hn is hm (a.put o.dst undef) w' (ha.put hd undef) hw').step fun b cs _ _ => ?_
  refine step_lone_go ?_
  have hg := stepG_op (P := P) (b := b) (k := k) (cs := cs) (w := w) (rest := is) hi hy
  have hfin : (b.at a (.inRegion ops (i :: is) :: k)).finish undef = b.at (a.put o.dst undef) (.inRegion ops is :: k) := by
    rw [Frame.finish_at, hi]; rfl
  rw [hg, ← hfin]
  simp [stepG.apply, hrun]
/-- a value, the world as it was -/
theorem JO_val {ops o l v} (hd : dOk o.dst n = true) (h : ∀ a w, Rep n D ov a → St w0 H w → (execOp a.eval o).run P w = .ok (.value v) w) (hn : JR P f n R D w0 ops l k (put o.dst v ov) H) :
    JO P f n R D w0 ops o l k ov H :=
  JO_step fun a w ha hw => ⟨v, w, h a w ha hw, hd, H, hw, hn⟩
/-- operation o yields v and leaves the world alone -/
def OpV (P : Program) (n : Nat) (D : List Deferred) (w0 : World) (ov : Ov) (H : List Asn) (o : Oper) (v : Value) : Prop :=
  dOk o.dst n = true ∧ ∀ a w, Rep n D ov a → St w0 H w → (execOp a.eval o).run P w = .ok (.value v) w
/-- operation o yields nothing; the assertions become H' -/
def OpK (P : Program) (n : Nat) (D : List Deferred) (w0 : World) (ov : Ov) (H : List Asn) (o : Oper) (H' : List Asn) : Prop :=
  dOk o.dst n = true ∧ ∀ a w, Rep n D ov a → St w0 H w → ∃ w', (execOp a.eval o).run P w = .ok .skip w' ∧ St w0 H' w'
theorem JO_v {ops l v d op T pos af g} (h : OpV P n D w0 ov H ⟨d, op, T, pos, af, g⟩ v) (hn : JR P f n R D w0 ops l k (put d v ov) H) : JO P f n R D w0 ops ⟨d, op, T, pos, af, g⟩ l k ov H :=
  JO_val h.1 h.2 hn
theorem JO_k {ops l H' d op T pos af g} (h : OpK P n D w0 ov H ⟨d, op, T, pos, af, g⟩ H') (hn : JR P f n R D w0 ops l k (put d undef ov) H') : JO P f n R D w0 ops ⟨d, op, T, pos, af, g⟩ l k ov H :=
  JO_skip fun a w ha hw => let ⟨w', h1, h2⟩ := h.2 a w ha hw; ⟨w', h1, h.1, H', h2, hn⟩
/-- a call -/
theorem JO_call' {ops o l g args} (hd : dOk o.dst n = true) (hrun : ∀ a w, Rep n D ov a → St w0 H w → (execOp a.eval o).run P w = .ok (.enter g args) w)
    (h : ∀ w, St w0 H w → Calls P g args w fun e w' => ∃ v, e = .returned v ∧ ∃ H', St w0 H' w' ∧ JR P f n R D w0 ops l k (put o.dst v ov) H') :
    JO P f n R D w0 ops o l k ov H := by
  intro i is hi hm a w ha hw hy b cs hb hk
  have hg := stepG_op (P := P) (b := b) (k := k) (cs := cs) (w := w) (rest := is) hi hy
  obtain ⟨e, w', fr, ⟨v, he, H', hw', hn⟩, hsteps, _, hleave⟩ := h w hw (b.at a (.inRegion ops (i :: is) :: k) :: cs)
  subst he
  have henter : step P (lone (b.at a (.inRegion ops (i :: is) :: k)) cs w) =
      .next (lone (Frame.enter P g args .normal) (b.at a (.inRegion ops (i :: is) :: k) :: cs) w) :=
    step_lone_go (by rw [hg]; simp [stepG.apply, hrun a w ha hw, Frame.at])
  have hfin : (b.at a (.inRegion ops (i :: is) :: k)).finish v = b.at (a.put o.dst v) (.inRegion ops is :: k) := by
    rw [Frame.finish_at, hi]; rfl
  obtain ⟨e, w'', fr', hR, hc, hrest⟩ := hn is hm (a.put o.dst v) w' (ha.put hd v) hw' b cs hb hk
  refine ⟨e, w'', fr', hR, ?_, hrest⟩
  refine Comes.of_steps (.head henter (Steps.trans hsteps (.one ?_))) hc
  rw [← hfin]
  exact step_leave_returned hleave
end
end Sx

namespace Sx
open Go

/-! ### the types' table -/
inductive Ty where
  | int (K : IntKind)
  | bool
  | str
  | slice (e : Nat)
  | ptr (e : Nat)
  | struct (fs : List (Nat × Nat))
  | arr (n e : Nat)
  | map (k e : Nat)
  | fn
  | iface
  | other
def tyOf : TypeDesc → Ty
  | .int K => .int K
  | .bool => .bool
  | .string => .str
  | .slice e => .slice e
  | .pointer e => .ptr e
  | .struct fs => .struct (fs.toList.map fun f => (f.type, f.offset))
  | .array n e => .arr n e
  | .map k e => .map k e
  | .func _ _ _ => .fn
  | .interface _ => .iface
  | _ => .other
def cellsL : Value → List Value
  | .agg cs => cs.toList
  | v => [v]
theorem cellsL_eq (v : Value) : v.cells = (cellsL v).toArray := by cases v <;> simp [Value.cells, cellsL]
structure Inf where
  ty : Ty
  size : Nat
  bytes : Nat
  zero : Option (List Value)
def Good (P : Program) (t : Nat) (i : Inf) : Prop :=
  (P.underlying t).map tyOf = some i.ty ∧ (P.info? t).map (fun x => (x.size, x.bytes, x.zero.map cellsL)) = some (i.size, i.bytes, i.zero)
def AllGood (P : Program) : List (Nat × Inf) → Prop
  | [] => True
  | p :: r => Good P p.1 p.2 ∧ AllGood P r
def tlook : List (Nat × Inf) → Nat → Option Inf
  | [], _ => none
  | (s, i) :: r, t => match Nat.beq s t with
    | true => some i
    | false => tlook r t
structure Tb (P : Program) where
  l : List (Nat × Inf)
  ok : AllGood P l
theorem good_of {P : Program} : ∀ {l : List (Nat × Inf)}, AllGood P l → ∀ {t i}, tlook l t = some i → Good P t i
  | [], _, t, i, h => by simp [tlook] at h
  | (s, q) :: r, ⟨h1, h2⟩, t, i, h => by
    simp only [tlook] at h
    split at h
    · rename_i hb
      cases h
      rw [← Nat.eq_of_beq_eq_true hb]; exact h1
    · exact good_of h2 h
section
variable {P : Program} {tb : Tb P} {t : Nat} {ty : Ty} {sz by' : Nat} {z : Option (List Value)}
theorem Tb.und (h : tlook tb.l t = some ⟨ty, sz, by', z⟩) : ∃ d, P.underlying t = some d ∧ tyOf d = ty := by
  have := (good_of tb.ok h).1
  cases hx : P.underlying t with
  | none => rw [hx] at this; simp at this
  | some x => rw [hx] at this; simp at this; exact ⟨x, rfl, this⟩
theorem Tb.inf (h : tlook tb.l t = some ⟨ty, sz, by', z⟩) : ∃ x : TypeInfo, P.info? t = some x ∧ x.size = sz ∧ x.bytes = by' ∧ x.zero.map cellsL = z := by
  have := (good_of tb.ok h).2
  cases hx : P.info? t with
  | none => rw [hx] at this; simp at this
  | some x => rw [hx] at this; simp at this; exact ⟨x, rfl, this⟩
theorem Tb.inf' {z : List Value} (h : tlook tb.l t = some ⟨ty, sz, by', some z⟩) : ∃ (x : TypeInfo) (zv : Value), P.info? t = some x ∧ x.size = sz ∧ x.bytes = by' ∧ x.zero = some zv ∧ cellsL zv = z := by
  obtain ⟨x, h1, h2, h3, h4⟩ := Tb.inf h
  cases hz : x.zero with
  | none => rw [hz] at h4; simp at h4
  | some v => rw [hz] at h4; simp at h4; exact ⟨x, v, h1, h2, h3, hz, h4⟩
theorem und_int {K : IntKind} (h : tlook tb.l t = some ⟨.int K, sz, by', z⟩) : P.underlying t = some (.int K) := by
  obtain ⟨d, h1, h2⟩ := Tb.und h
  cases d <;> simp [tyOf] at h2
  rw [h1, h2]
theorem und_slice {e : Nat} (h : tlook tb.l t = some ⟨.slice e, sz, by', z⟩) : P.underlying t = some (.slice e) := by
  obtain ⟨d, h1, h2⟩ := Tb.und h
  cases d <;> simp [tyOf] at h2
  rw [h1, h2]
theorem und_ptr {e : Nat} (h : tlook tb.l t = some ⟨.ptr e, sz, by', z⟩) : P.underlying t = some (.pointer e) := by
  obtain ⟨d, h1, h2⟩ := Tb.und h
  cases d <;> simp [tyOf] at h2
  rw [h1, h2]
theorem und_bool (h : tlook tb.l t = some ⟨.bool, sz, by', z⟩) : P.underlying t = some .bool := by
  obtain ⟨d, h1, h2⟩ := Tb.und h
  cases d <;> simp [tyOf] at h2
  rw [h1]
theorem und_str (h : tlook tb.l t = some ⟨.str, sz, by', z⟩) : P.underlying t = some .string := by
  obtain ⟨d, h1, h2⟩ := Tb.und h
  cases d <;> simp [tyOf] at h2
  rw [h1]
theorem und_arr {m e : Nat} (h : tlook tb.l t = some ⟨.arr m e, sz, by', z⟩) : P.underlying t = some (.array m e) := by
  obtain ⟨d, h1, h2⟩ := Tb.und h
  cases d <;> simp [tyOf] at h2
  rw [h1, h2.1, h2.2]
theorem und_map {m e : Nat} (h : tlook tb.l t = some ⟨.map m e, sz, by', z⟩) : P.underlying t = some (.map m e) := by
  obtain ⟨d, h1, h2⟩ := Tb.und h
  cases d <;> simp [tyOf] at h2
  rw [h1, h2.1, h2.2]
theorem und_struct {fs : List (Nat × Nat)} (h : tlook tb.l t = some ⟨.struct fs, sz, by', z⟩) : ∃ fa, P.underlying t = some (.struct fa) ∧ fa.toList.map (fun f => (f.type, f.offset)) = fs := by
  obtain ⟨d, h1, h2⟩ := Tb.und h
  cases d <;> simp [tyOf] at h2
  exact ⟨_, h1, h2⟩
theorem Tb.run_size (w : World) (h : tlook tb.l t = some ⟨ty, sz, by', z⟩) : (Go.sizeOf t).run P w = .ok sz w := by
  obtain ⟨x, hx, h1, _⟩ := Tb.inf h
  simp [Go.sizeOf, typeInfo, hx, h1]
theorem Tb.run_zero {z : List Value} (w : World) (h : tlook tb.l t = some ⟨ty, sz, by', some z⟩) : ∃ zv, cellsL zv = z ∧ (zeroValue t).run P w = .ok zv w := by
  obtain ⟨x, zv, hx, _, _, h1, h2⟩ := Tb.inf' h
  exact ⟨zv, h2, by simp [zeroValue, typeInfo, hx, h1]⟩
end

/-! ### wraps -/
theorem wu64 {n : Int} (h : 0 ≤ n ∧ n < 18446744073709551616) : IntKind.u64.wrap n = n := IntWalk.u64_in n (by omega)
theorem wu32 {n : Int} (h : 0 ≤ n ∧ n < 4294967296) : IntKind.u32.wrap n = n := IntWalk.u32_in n (by omega)
theorem wu16 {n : Int} (h : 0 ≤ n ∧ n < 65536) : IntKind.u16.wrap n = n := IntWalk.u16_in n (by omega)
theorem wu8 {n : Int} (h : 0 ≤ n ∧ n < 256) : IntKind.u8.wrap n = n := IntWalk.u8_in n (by omega)
theorem wi64 {n : Int} (h : -9223372036854775808 ≤ n ∧ n < 9223372036854775808) : IntKind.i64.wrap n = n := IntWalk.i64_in n (by omega)
theorem wi32 {n : Int} (h : -2147483648 ≤ n ∧ n < 2147483648) : IntKind.i32.wrap n = n := IntWalk.i32_in n (by omega)
theorem mi64 (n : Int) : IntKind.i64.wrap n = (n + 9223372036854775808) % 18446744073709551616 - 9223372036854775808 := by rw [IntKind.wrap_i64]
theorem mu64 (n : Int) : IntKind.u64.wrap n = n % 18446744073709551616 := by simp [IntKind.wrap, IntKind.bits, IntKind.signed]
theorem mu32 (n : Int) : IntKind.u32.wrap n = n % 4294967296 := by simp [IntKind.wrap, IntKind.bits, IntKind.signed]
theorem mu16 (n : Int) : IntKind.u16.wrap n = n % 65536 := by simp [IntKind.wrap, IntKind.bits, IntKind.signed]
theorem mu8 (n : Int) : IntKind.u8.wrap n = n % 256 := by simp [IntKind.wrap, IntKind.bits, IntKind.signed]

section
variable {P : Program} {f n : Nat} {R : Ending → World → Prop} {D : List Deferred} {w0 : World} {k : List Item} {ov : Ov} {H : List Asn}
  {ops : Array Oper} {l : List Oper} {d : Option Nat} {T : Nat} {pos : String} {af : Array Edge} {g : Option (Nat × Bool)} {x y : Operand} {v : Value}

theorem V_move (hx : ev ov x = some v) (hd : dOk d n = true) : OpV P n D w0 ov H ⟨d, .move x, T, pos, af, g⟩ v :=
  ⟨hd, (fun a w ha _ => by simp [execOp, ha.ev hx])⟩
theorem V_assign (hx : ev ov x = some v) (hd : dOk d n = true) : OpV P n D w0 ov H ⟨d, .assign x, T, pos, af, g⟩ v :=
  ⟨hd, (fun a w ha _ => by simp [execOp, ha.ev hx])⟩
theorem V_pickT {c : Operand} (hc : ev ov c = some (.bool true)) (hx : ev ov x = some v) (hd : dOk d n = true) : OpV P n D w0 ov H ⟨d, .pick c x y, T, pos, af, g⟩ v :=
  ⟨hd, (fun a w ha _ => by simp [execOp, ha.ev hx, ha.ev hc, asBool])⟩
theorem V_pickF {c : Operand} (hc : ev ov c = some (.bool false)) (hy : ev ov y = some v) (hd : dOk d n = true) : OpV P n D w0 ov H ⟨d, .pick c x y, T, pos, af, g⟩ v :=
  ⟨hd, (fun a w ha _ => by simp [execOp, ha.ev hy, ha.ev hc, asBool])⟩

/-! integers -/
section
variable {K : IntKind} {a b c : Int} {T1 T2 : Nat}
theorem V_bin {op : BinOp} {u : Value} (hx : ev ov x = some (.int K a)) (hy : ev ov y = some (.int K b)) (h : ∀ w, (binOp op T1 (.int K a) (.int K b)).run P w = .ok u w) (hd : dOk d n = true) : OpV P n D w0 ov H ⟨d, .binOp op T1 x y T2, T, pos, af, g⟩ u :=
  ⟨hd, (fun A w ha _ => by
    have hg : (eqGuard op T1 x y (.int K a) (.int K b)).run P w = .ok () w := by unfold eqGuard; cases op <;> simp
    simp [execOp, ha.ev hx, ha.ev hy, hg, h])⟩
theorem V_add (hx : ev ov x = some (.int K a)) (hy : ev ov y = some (.int K b)) (hc : K.wrap (a + b) = c) (hd : dOk d n = true) : OpV P n D w0 ov H ⟨d, .binOp .add T1 x y T2, T, pos, af, g⟩ (.int K c) := V_bin hx hy (fun w => by subst hc; simp [binOp, Op.intArith]) hd
theorem V_sub (hx : ev ov x = some (.int K a)) (hy : ev ov y = some (.int K b)) (hc : K.wrap (a - b) = c) (hd : dOk d n = true) : OpV P n D w0 ov H ⟨d, .binOp .sub T1 x y T2, T, pos, af, g⟩ (.int K c) := V_bin hx hy (fun w => by subst hc; simp [binOp, Op.intArith]) hd
theorem V_mul (hx : ev ov x = some (.int K a)) (hy : ev ov y = some (.int K b)) (hc : K.wrap (a * b) = c) (hd : dOk d n = true) : OpV P n D w0 ov H ⟨d, .binOp .mul T1 x y T2, T, pos, af, g⟩ (.int K c) := V_bin hx hy (fun w => by subst hc; simp [binOp, Op.intArith]) hd
theorem V_quo (hx : ev ov x = some (.int K a)) (hy : ev ov y = some (.int K b)) (hb : b ≠ 0) (hc : K.wrap (a.tdiv b) = c) (hd : dOk d n = true) : OpV P n D w0 ov H ⟨d, .binOp .quo T1 x y T2, T, pos, af, g⟩ (.int K c) := V_bin hx hy (fun w => by subst hc; simp [binOp, Op.intDiv, hb]) hd
theorem V_rem (hx : ev ov x = some (.int K a)) (hy : ev ov y = some (.int K b)) (hb : b ≠ 0) (hc : a.tmod b = c) (hd : dOk d n = true) : OpV P n D w0 ov H ⟨d, .binOp .rem T1 x y T2, T, pos, af, g⟩ (.int K c) := V_bin hx hy (fun w => by subst hc; simp [binOp, Op.intDiv, hb]) hd
theorem V_and (hx : ev ov x = some (.int K a)) (hy : ev ov y = some (.int K b)) (hc : K.wrap ((BitVec.ofInt K.bits a &&& BitVec.ofInt K.bits b).toNat) = c) (hd : dOk d n = true) : OpV P n D w0 ov H ⟨d, .binOp .and T1 x y T2, T, pos, af, g⟩ (.int K c) := V_bin hx hy (fun w => by subst hc; simp [binOp, Op.intBits]) hd
theorem V_or (hx : ev ov x = some (.int K a)) (hy : ev ov y = some (.int K b)) (hc : K.wrap ((BitVec.ofInt K.bits a ||| BitVec.ofInt K.bits b).toNat) = c) (hd : dOk d n = true) : OpV P n D w0 ov H ⟨d, .binOp .or T1 x y T2, T, pos, af, g⟩ (.int K c) := V_bin hx hy (fun w => by subst hc; simp [binOp, Op.intBits]) hd
theorem V_xor (hx : ev ov x = some (.int K a)) (hy : ev ov y = some (.int K b)) (hc : K.wrap ((BitVec.ofInt K.bits a ^^^ BitVec.ofInt K.bits b).toNat) = c) (hd : dOk d n = true) : OpV P n D w0 ov H ⟨d, .binOp .xor T1 x y T2, T, pos, af, g⟩ (.int K c) := V_bin hx hy (fun w => by subst hc; simp [binOp, Op.intBits]) hd
theorem V_eql (hx : ev ov x = some (.int K a)) (hy : ev ov y = some (.int K b)) (hd : dOk d n = true) : OpV P n D w0 ov H ⟨d, .binOp .eql T1 x y T2, T, pos, af, g⟩ (.bool (decide (a = b))) := V_bin hx hy (fun w => by simp [binOp, Op.intCmp]; rfl) hd
theorem V_neq (hx : ev ov x = some (.int K a)) (hy : ev ov y = some (.int K b)) (hd : dOk d n = true) : OpV P n D w0 ov H ⟨d, .binOp .neq T1 x y T2, T, pos, af, g⟩ (.bool (decide (a ≠ b))) := V_bin hx hy (fun w => by simp [binOp, Op.intCmp, bne]; rfl) hd
theorem V_lss (hx : ev ov x = some (.int K a)) (hy : ev ov y = some (.int K b)) (hd : dOk d n = true) : OpV P n D w0 ov H ⟨d, .binOp .lss T1 x y T2, T, pos, af, g⟩ (.bool (decide (a < b))) := V_bin hx hy (fun w => by simp [binOp, Op.intCmp]) hd
theorem V_leq (hx : ev ov x = some (.int K a)) (hy : ev ov y = some (.int K b)) (hd : dOk d n = true) : OpV P n D w0 ov H ⟨d, .binOp .leq T1 x y T2, T, pos, af, g⟩ (.bool (decide (a ≤ b))) := V_bin hx hy (fun w => by simp [binOp, Op.intCmp]) hd
theorem V_gtr (hx : ev ov x = some (.int K a)) (hy : ev ov y = some (.int K b)) (hd : dOk d n = true) : OpV P n D w0 ov H ⟨d, .binOp .gtr T1 x y T2, T, pos, af, g⟩ (.bool (decide (b < a))) := V_bin hx hy (fun w => by simp [binOp, Op.intCmp]) hd
theorem V_geq (hx : ev ov x = some (.int K a)) (hy : ev ov y = some (.int K b)) (hd : dOk d n = true) : OpV P n D w0 ov H ⟨d, .binOp .geq T1 x y T2, T, pos, af, g⟩ (.bool (decide (b ≤ a))) := V_bin hx hy (fun w => by simp [binOp, Op.intCmp]) hd
theorem V_sh {op : BinOp} {K2 : IntKind} {u : Value} (hx : ev ov x = some (.int K a)) (hy : ev ov y = some (.int K2 b)) (hop : op = .shl ∨ op = .shr) (h : ∀ w, (Op.shift op K a K2 b).run P w = .ok u w) (hd : dOk d n = true) : OpV P n D w0 ov H ⟨d, .binOp op T1 x y T2, T, pos, af, g⟩ u :=
  ⟨hd, (fun A w ha _ => by
    have hg : (eqGuard op T1 x y (.int K a) (.int K2 b)).run P w = .ok () w := by rcases hop with rfl | rfl <;> simp [eqGuard]
    rcases hop with rfl | rfl <;> simp [execOp, ha.ev hx, ha.ev hy, hg, binOp, h])⟩
theorem V_shl {K2 : IntKind} {m : Nat} (hx : ev ov x = some (.int K a)) (hy : ev ov y = some (.int K2 b)) (hb : 0 ≤ b) (hm : min b.toNat K.bits = m) (hc : K.wrap (a * 2 ^ m) = c) (hd : dOk d n = true) : OpV P n D w0 ov H ⟨d, .binOp .shl T1 x y T2, T, pos, af, g⟩ (.int K c) :=
  V_sh hx hy (.inl rfl) (fun w => by subst hc; subst hm; simp [Op.shift, Int.not_lt.2 hb]) hd
theorem V_shr {K2 : IntKind} {m : Nat} (hx : ev ov x = some (.int K a)) (hy : ev ov y = some (.int K2 b)) (hb : 0 ≤ b) (hm : min b.toNat K.bits = m) (hc : a / 2 ^ m = c) (hd : dOk d n = true) : OpV P n D w0 ov H ⟨d, .binOp .shr T1 x y T2, T, pos, af, g⟩ (.int K c) :=
  V_sh hx hy (.inr rfl) (fun w => by
    subst hc; subst hm
    simp only [Op.shift, if_neg (Int.not_lt.2 hb), Sem.run_pure]
    rw [Int.fdiv_eq_ediv_of_nonneg _ (by exact Int.pow_nonneg (by decide))]) hd
theorem V_conv {K2 : IntKind} {tb : Tb P} {ty1 : Ty} {s1 b1 s2 b2 : Nat} {z1 z2 : Option (List Value)} (hx : ev ov x = some (.int K a)) (h1 : tlook tb.l T1 = some ⟨ty1, s1, b1, z1⟩) (h2 : tlook tb.l T2 = some ⟨.int K2, s2, b2, z2⟩) (hc : K2.wrap a = c) (hd : dOk d n = true) : OpV P n D w0 ov H ⟨d, .convert T1 T2 x, T, pos, af, g⟩ (.int K2 c) :=
  ⟨hd, (fun A w ha _ => by
    obtain ⟨d1, e1, _⟩ := Tb.und h1
    have e2 := und_int h2
    subst hc
    simp only [execOp, ha.ev hx, convert, Sem.run_bind, run_underlying e1, run_underlying e2, Result.andThen_ok]
    cases d1 <;> simp [Conv.intToInt])⟩
theorem V_neg (hx : ev ov x = some (.int K a)) (hc : K.wrap (0 - a) = c) (hd : dOk d n = true) : OpV P n D w0 ov H ⟨d, .unOp .neg T1 x, T, pos, af, g⟩ (.int K c) :=
  ⟨hd, (fun A w ha _ => by subst hc; simp [execOp, ha.ev hx, Op.unary, Op.intArith])⟩
end
theorem V_not {b : Bool} {T1 : Nat} (hx : ev ov x = some (.bool b)) (hd : dOk d n = true) : OpV P n D w0 ov H ⟨d, .unOp .not T1 x, T, pos, af, g⟩ (.bool (!b)) :=
  ⟨hd, (fun A w ha _ => by simp [execOp, ha.ev hx, Op.unary])⟩
theorem V_notD {p : Prop} [Decidable p] {T1 : Nat} (hx : ev ov x = some (.bool (decide p))) (hd : dOk d n = true) : OpV P n D w0 ov H ⟨d, .unOp .not T1 x, T, pos, af, g⟩ (.bool (decide (¬ p))) :=
  by rw [decide_not]; exact V_not hx hd

/-! tuples, functions -/
def nth : List Value → Nat → Option Value
  | [], _ => none
  | v :: _, 0 => some v
  | _ :: r, i + 1 => nth r i
theorem nth_eq : ∀ (l : List Value) (i : Nat), nth l i = l[i]?
  | [], _ => by simp [nth]
  | _ :: _, 0 => by simp [nth]
  | _ :: r, i + 1 => by simp [nth, nth_eq r i]
theorem V_extract {vs : List Value} {i : Nat} (hx : ev ov x = some (.tuple vs.toArray)) (hi : nth vs i = some v) (hd : dOk d n = true) : OpV P n D w0 ov H ⟨d, .extract x i, T, pos, af, g⟩ v :=
  ⟨hd, (fun A w ha _ => by rw [nth_eq] at hi; simp [execOp, ha.ev hx, Instr.extract, hi])⟩
theorem V_makeFunc {fn : Fn} {xs ys : List Operand} {us vs : List Value} (hx : evs ov xs = some us) (hy : evs ov ys = some vs) (hd : dOk d n = true) : OpV P n D w0 ov H ⟨d, .makeFunc fn xs.toArray ys.toArray, T, pos, af, g⟩ (.func fn us.toArray vs.toArray) :=
  ⟨hd, (fun A w ha _ => by simp [execOp, Instr.makeFunc, ha.evs hx, ha.evs hy])⟩

/-- a call of a named function -/
theorem JO_call {q : Nat} {xs : List Operand} {vs : List Value} {ts : Array Nat} (hc : ∀ args w, (callFunc q args).run P w = .ok (.enter q args) w) (hx : evs ov xs = some vs) (hd : dOk d n = true)
    (h : ∀ w, St w0 H w → Calls P q vs.toArray w fun e w' => ∃ v, e = .returned v ∧ ∃ H', St w0 H' w' ∧ JR P f n R D w0 ops l k (put d v ov) H') :
    JO P f n R D w0 ops ⟨d, .call ⟨.value (.func q), xs.toArray, ts⟩, T, pos, af, g⟩ l k ov H :=
  JO_call' hd (fun A w ha _ => by
    simp only [execOp, resolve, Deferred.ofValue, Act.eval, Sem.run_bind, Sem.run_pure, Result.andThen_ok, invoke]
    rw [List.map_toArray, ha.evs hx]
    simpa using hc vs.toArray w) h
/-- a call of a function without a Go body -/
theorem V_ext {q : Nat} {xs : List Operand} {vs : List Value} {ts : Array Nat} (hx : evs ov xs = some vs) (hc : ∀ w, (callFunc q vs.toArray).run P w = .ok (.value v) w) (hd : dOk d n = true)
    : OpV P n D w0 ov H ⟨d, .call ⟨.value (.func q), xs.toArray, ts⟩, T, pos, af, g⟩ v :=
  ⟨hd, (fun A w ha _ => by
    simp only [execOp, resolve, Deferred.ofValue, Act.eval, Sem.run_bind, Sem.run_pure, Result.andThen_ok, invoke]
    rw [List.map_toArray, ha.evs hx]
    simpa using hc w)⟩
/-- a call of a function value -/
theorem JO_callv {q : Nat} {xs : List Operand} {vs : List Value} {us cs : List Value} {ts : Array Nat} (hv : ev ov x = some (.func (.func q) us.toArray cs.toArray)) (hc : ∀ args w, (callFunc q args).run P w = .ok (.enter q args) w) (hx : evs ov xs = some vs) (hd : dOk d n = true)
    (h : ∀ w, St w0 H w → Calls P q (us ++ vs ++ cs).toArray w fun e w' => ∃ v, e = .returned v ∧ ∃ H', St w0 H' w' ∧ JR P f n R D w0 ops l k (put d v ov) H') :
    JO P f n R D w0 ops ⟨d, .call ⟨.value x, xs.toArray, ts⟩, T, pos, af, g⟩ l k ov H :=
  JO_call' hd (fun A w ha _ => by
    simp only [execOp, resolve, ha.ev hv, Deferred.ofValue, Sem.run_bind, Sem.run_pure, Result.andThen_ok, invoke]
    rw [List.map_toArray, ha.evs hx]
    simpa using hc (us ++ vs ++ cs).toArray w) h
end
end Sx

namespace Sx
open Go

/-! ### blocks and slices that are owned -/
@[irreducible] def blk (b : Nat) (cs : List Value) : Asn where
  holds w fp := fp = [b] ∧ ∃ T, w.heap[b]? = some (.cells cs.toArray T (0, 0))
  frame w w' fp h hk := ⟨h.1, h.2.elim fun T hT => ⟨T, by rw [hk b (by simp [h.1])]; exact hT⟩⟩
  live w fp h b' hb := by
    obtain ⟨rfl, T, hT⟩ := h
    simp at hb; subst hb
    exact (Array.getElem?_eq_some_iff.1 hT).1
theorem blk_holds {b cs w fp} : (blk b cs).holds w fp ↔ fp = [b] ∧ ∃ T, w.heap[b]? = some (.cells cs.toArray T (0, 0)) := by unfold blk; exact Iff.rfl

def VecIn (e size : Nat) (v : Value) (n : Nat) (cs : List Value) (w : World) (fp : List Nat) : Prop :=
  cs.length = n * size ∧ ((∃ base, v = .slice base 0 0 ∧ n = 0 ∧ fp = []) ∨
    ∃ g cap cur, v = .slice (some ⟨g, 0, none⟩) n cap ∧ fp = [g] ∧ w.heap[g]? = some (.cells cur e (0, 0)) ∧ n ≤ cap ∧ cap ≤ maxLen ∧ cur.size = cap * size ∧ cur.toList.take (n * size) = cs)
@[irreducible] def vec (e size : Nat) (v : Value) (n : Nat) (cs : List Value) : Asn where
  holds := VecIn e size v n cs
  frame w w' fp h hk := by
    obtain ⟨h1, h2⟩ := h
    refine ⟨h1, ?_⟩
    rcases h2 with h2 | ⟨g, cap, cur, h3, rfl, h4, h5⟩
    · exact .inl h2
    · exact .inr ⟨g, cap, cur, h3, rfl, by rw [hk g (by simp)]; exact h4, h5⟩
  live w fp h b hb := by
    obtain ⟨h1, h2⟩ := h
    rcases h2 with ⟨_, _, _, rfl⟩ | ⟨g, cap, cur, h3, rfl, h4, h5⟩
    · simp at hb
    · simp at hb; subst hb; exact (Array.getElem?_eq_some_iff.1 h4).1
theorem vec_holds {e size v n cs w fp} : (vec e size v n cs).holds w fp ↔ VecIn e size v n cs w fp := by unfold vec; exact Iff.rfl

inductive Upd : List Asn → Asn → Asn → List Asn → Prop
  | here (a a' : Asn) (r : List Asn) : Upd (a :: r) a a' (a' :: r)
  | there (x a a' : Asn) (r r' : List Asn) (h : Upd r a a' r') : Upd (x :: r) a a' (x :: r')
theorem Upd.perm {H a a' H'} (h : Upd H a a' H') : ∃ r, H.Perm (a :: r) ∧ H'.Perm (a' :: r) := by
  induction h with
  | here a a' r => exact ⟨r, .refl _, .refl _⟩
  | there x a a' r r' _ ih =>
    obtain ⟨q, h1, h2⟩ := ih
    exact ⟨x :: q, (List.Perm.cons x h1).trans (List.Perm.swap a x q), (List.Perm.cons x h2).trans (List.Perm.swap a' x q)⟩
theorem St.upd {w0 : World} {H H' : List Asn} {a a' : Asn} {w w' : World} (h : St w0 H w) (hu : Upd H a a' H')
    (os : w'.os = w.os) (tape : w'.tape = w.tape) (output : w'.output = w.output) (size : w.heap.size ≤ w'.heap.size)
    (k : ∀ f1, a.holds w f1 → (∀ b, b < w.heap.size → b ∉ f1 → w'.heap[b]? = w.heap[b]?) ∧
      ∃ f1', f1'.Nodup ∧ (∀ b ∈ f1', b ∈ f1 ∨ w.heap.size ≤ b) ∧ a'.holds w' f1') : St w0 H' w' := by
  obtain ⟨r, h1, h2⟩ := hu.perm
  have hs : St w0 ([a] ++ r) w := h.perm h1
  refine (St.step (bs := [a']) hs os tape output size ?_).perm h2.symm
  rintro f1 ⟨g1, g2, e, ha, hnil⟩ hn _
  simp [All] at hnil
  subst hnil
  simp at e
  subst e
  obtain ⟨h3, f1', h4, h5, h6⟩ := k f1 ha
  exact ⟨h3, f1', h4, h5, f1', [], by simp, h6, rfl⟩
theorem All.mem : ∀ {H : List Asn} {a : Asn} {w fp}, All H w fp → a ∈ H → ∃ f, a.holds w f
  | b :: H, a, w, fp, ⟨f1, f2, e, h1, h2⟩, h => by
    cases h with
    | head => exact ⟨f1, h1⟩
    | tail _ h => exact h2.mem h
theorem St.mem {w0 H a w} (h : St w0 H w) (ha : a ∈ H) : ∃ f, a.holds w f := by
  obtain ⟨fp, _, _, h3⟩ := h.own
  exact h3.mem ha
/-- a new block -/
theorem St.new {w0 H w} (h : St w0 H w) (cs : List Value) (T : Nat) (a : Asn) (ha : ∀ w', w'.heap[w.heap.size]? = some (.cells cs.toArray T (0, 0)) → a.holds w' [w.heap.size]) : St w0 (a :: H) (w.alloc (.cells cs.toArray T)) := by
  refine St.step (as := []) (bs := [a]) h rfl rfl rfl (by simp) ?_
  intro f1 hf _ _
  simp [All] at hf
  subst hf
  refine ⟨fun b hb _ => heap_alloc_old w _ hb, [w.heap.size], by simp, by simp, [w.heap.size], [], by simp, ha _ (heap_alloc_new w _), rfl⟩

section
variable {P : Program} {f n : Nat} {R : Ending → World → Prop} {D : List Deferred} {w0 : World} {k : List Item} {ov : Ov} {H : List Asn}
  {ops : Array Oper} {l : List Oper} {d : Option Nat} {T : Nat} {pos : String} {af : Array Edge} {g : Option (Nat × Bool)} {x y : Operand} {v : Value} {tb : Tb P}

/-! new blocks -/
theorem JO_box {e : Nat} {cs : List Value} (hx : ev ov x = some v) (hc : cellsL v = cs) (hd : dOk d n = true)
    (hn : ∀ b, JR P f n R D w0 ops l k (put d (.pointer (some ⟨b, 0, none⟩)) ov) (blk b cs :: H)) : JO P f n R D w0 ops ⟨d, .box e x, T, pos, af, g⟩ l k ov H :=
  JO_step fun a w ha hw => ⟨.pointer (some ⟨w.heap.size, 0, none⟩), w.alloc (.cells cs.toArray e), by
    simp [execOp, ha.ev hx, Instr.box, newVar, newRow, cellsL_eq, hc], hd, _, hw.new cs e _ fun w' h' => blk_holds.2 ⟨rfl, e, h'⟩, hn w.heap.size⟩
theorem JO_alloc {e : Nat} {ty : Ty} {sz by' : Nat} {cs : List Value} (hT : tlook tb.l e = some ⟨ty, sz, by', some cs⟩) (hd : dOk d n = true)
    (hn : ∀ b, JR P f n R D w0 ops l k (put d (.pointer (some ⟨b, 0, none⟩)) ov) (blk b cs :: H)) : JO P f n R D w0 ops ⟨d, .alloc e, T, pos, af, g⟩ l k ov H :=
  JO_step fun a w ha hw => ⟨.pointer (some ⟨w.heap.size, 0, none⟩), w.alloc (.cells cs.toArray e), by
    obtain ⟨zv, hc, hz⟩ := Tb.run_zero w hT
    simp [execOp, Instr.alloc, newVar, newRow, cellsL_eq, hc, hz], hd, _, hw.new cs e _ fun w' h' => blk_holds.2 ⟨rfl, e, h'⟩, hn w.heap.size⟩

/-! addresses within a block -/
theorem add_blk (b off i : Nat) : (⟨b, off, none⟩ : Addr).add i = ⟨b, off + i, none⟩ := by unfold Addr.add; split <;> simp_all
def nthP : List (Nat × Nat) → Nat → Option (Nat × Nat)
  | [], _ => none
  | v :: _, 0 => some v
  | _ :: r, i + 1 => nthP r i
theorem nthP_eq : ∀ (l : List (Nat × Nat)) (i : Nat), nthP l i = l[i]?
  | [], _ => by simp [nthP]
  | _ :: _, 0 => by simp [nthP]
  | _ :: r, i + 1 => by simp [nthP, nthP_eq r i]
section
variable {s s1 b1 s2 b2 fi ft fo : Nat} {fs : List (Nat × Nat)} {z1 z2 : Option (List Value)} {ty2 : Ty}
theorem run_fieldAt {a : Addr} (w : World) (h1 : tlook tb.l s = some ⟨.struct fs, s1, b1, z1⟩) (h2 : nthP fs fi = some (ft, fo)) (h3 : tlook tb.l ft = some ⟨ty2, s2, b2, z2⟩) (h4 : Nat.blt 0 s2 = true) :
    (Instr.fieldAt s (.pointer (some a)) fi).run P w = .ok (.pointer (some (a.add fo))) w := by
  obtain ⟨fa, e1, e2⟩ := und_struct h1
  have h4' : s2 ≠ 0 := by rw [Nat.blt_eq] at h4; omega
  rw [nthP_eq, ← e2, List.getElem?_map] at h2
  cases hf : fa[fi]? with
  | none => simp [hf] at h2
  | some fd =>
    simp [hf] at h2
    obtain ⟨rfl, rfl⟩ := h2
    simp [Instr.fieldAt, run_underlying e1, hf, Instr.sureAddr, fieldPlace, Tb.run_size w h3, h4']
theorem V_field {off b : Nat} (hx : ev ov x = some (.pointer (some ⟨b, off, none⟩))) (h1 : tlook tb.l s = some ⟨.struct fs, s1, b1, z1⟩) (h2 : nthP fs fi = some (ft, fo)) (h3 : tlook tb.l ft = some ⟨ty2, s2, b2, z2⟩) (h4 : Nat.blt 0 s2 = true) (hd : dOk d n = true)
    : OpV P n D w0 ov H ⟨d, .fieldAddr s x fi, T, pos, af, g⟩ (.pointer (some ⟨b, off + fo, none⟩)) :=
  ⟨hd, (fun a w ha _ => by simp [execOp, ha.ev hx, run_fieldAt w h1 h2 h3 h4, add_blk])⟩
end
/-- a pointer to a slice's cell -/
@[irreducible] def cellPtr (v : Value) (j : Nat) : Value := match v with
  | .slice (some a) _ _ => .pointer (some (a.add j))
  | _ => undef
theorem cellPtr_eq (a : Addr) (m c j : Nat) : cellPtr (.slice (some a) m c) j = .pointer (some (a.add j)) := by unfold cellPtr; rfl
theorem add_add (a : Addr) (i j : Nat) : (a.add i).add j = a.add (i + j) := by
  unfold Addr.add
  by_cases hi : i = 0
  · subst hi; simp
  · by_cases hj : j = 0
    · subst hj; simp
    · simp [hi, hj, Nat.add_assoc]
def isSl (v : Value) (n : Nat) : Prop := ∃ base cap, v = .slice base n cap ∧ (base = none → n = 0) ∧ n ≤ cap
theorem isSl_some {u : Value} {m : Nat} (h : isSl u m) (hm : 0 < m) : ∃ a cap, u = .slice (some a) m cap := by
  obtain ⟨base, cap, rfl, hb, _⟩ := h
  cases base with
  | none => simp at hb; omega
  | some a => exact ⟨a, cap, rfl⟩
section
variable {s s1 b1 s2 b2 fi ft fo : Nat} {fs : List (Nat × Nat)} {z1 z2 : Option (List Value)} {ty2 : Ty}
theorem V_fieldC {j m : Nat} {u : Value} (hx : ev ov x = some (cellPtr u j)) (hs : ∀ w, St w0 H w → isSl u m) (hm : 0 < m) (h1 : tlook tb.l s = some ⟨.struct fs, s1, b1, z1⟩) (h2 : nthP fs fi = some (ft, fo)) (h3 : tlook tb.l ft = some ⟨ty2, s2, b2, z2⟩) (h4 : Nat.blt 0 s2 = true) (hd : dOk d n = true)
    : OpV P n D w0 ov H ⟨d, .fieldAddr s x fi, T, pos, af, g⟩ (cellPtr u (j + fo)) :=
  ⟨hd, (fun A w ha hw => by
    obtain ⟨a, cap, rfl⟩ := isSl_some (hs w hw) hm
    simp only [execOp, ha.ev hx]
    simp [cellPtr_eq, run_fieldAt w h1 h2 h3 h4, add_add])⟩
end
section
variable {t e s1 b1 s2 b2 : Nat} {z1 z2 : Option (List Value)} {ty2 : Ty}
theorem run_indexAt {a : Addr} {m cap : Nat} {K : IntKind} {i : Int} (w : World) (h1 : tlook tb.l t = some ⟨.slice e, s1, b1, z1⟩) (h3 : tlook tb.l e = some ⟨ty2, s2, b2, z2⟩) (h0 : 0 ≤ i) (hi : i < m) :
    (Instr.indexAt t (.slice (some a) m cap) (.int K i)).run P w = .ok (.pointer (some (a.add (i.toNat * s2)))) w := by
  have e1 := run_underlying (und_slice h1) w
  simp [Instr.indexAt, asIntOf, e1, h0, hi, Tb.run_size w h3]
theorem V_index {u : Value} {m j : Nat} {K : IntKind} {i : Int} (hx : ev ov x = some u) (hy : ev ov y = some (.int K i)) (h1 : tlook tb.l t = some ⟨.slice e, s1, b1, z1⟩) (h3 : tlook tb.l e = some ⟨ty2, s2, b2, z2⟩) (hs : ∀ w, St w0 H w → isSl u m) (h0 : 0 ≤ i ∧ i < m) (hj : i.toNat * s2 = j) (hd : dOk d n = true)
    : OpV P n D w0 ov H ⟨d, .indexAddr t x y, T, pos, af, g⟩ (cellPtr u j) :=
  ⟨hd, (fun A w ha hw => by
    obtain ⟨a, cap, rfl⟩ := isSl_some (hs w hw) (by omega)
    subst hj
    simp [execOp, ha.ev hx, ha.ev hy, cellPtr_eq, run_indexAt w h1 h3 h0.1 h0.2])⟩
/-- an array behind a pointer -/
theorem V_indexA {off b m : Nat} {K : IntKind} {i : Int} (hx : ev ov x = some (.pointer (some ⟨b, off, none⟩))) (hy : ev ov y = some (.int K i)) (h1 : tlook tb.l t = some ⟨.arr m e, s1, b1, z1⟩) (h3 : tlook tb.l e = some ⟨ty2, s2, b2, z2⟩) (h0 : 0 ≤ i ∧ i < m) (hd : dOk d n = true)
    : OpV P n D w0 ov H ⟨d, .indexAddr t x y, T, pos, af, g⟩ (.pointer (some ⟨b, off + i.toNat * s2, none⟩)) :=
  ⟨hd, (fun A w ha hw => by
    have e1 := run_underlying (und_arr h1) w
    simp [execOp, ha.ev hx, ha.ev hy, Instr.indexAt, asIntOf, e1, h0.1, h0.2, Instr.sureAddr, Tb.run_size w h3, add_blk])⟩
end
end
end Sx

namespace Sx
open Go

def aggT : Ty → Bool
  | .struct _ => true
  | .arr _ _ => true
  | _ => false
theorem run_isAgg {P : Program} {tb : Tb P} {t sz by' : Nat} {ty : Ty} {z : Option (List Value)} (w : World) (h : tlook tb.l t = some ⟨ty, sz, by', z⟩) : (isAgg t).run P w = .ok (aggT ty) w := by
  obtain ⟨d, e, h2⟩ := Tb.und h
  simp only [isAgg, Sem.run_bind, run_underlying e, Result.andThen_ok]
  subst h2
  cases d <;> simp [tyOf, aggT]

/-! evaluators on lists of cells -/
def over : List Value → List Value → Option (List Value)
  | cs, [] => some cs
  | _ :: cs, v :: vs => match over cs vs with
    | some r => some (v :: r)
    | none => none
  | [], _ :: _ => none
def setSeg : List Value → Nat → List Value → Option (List Value)
  | cs, 0, vs => over cs vs
  | c :: cs, i + 1, vs => match setSeg cs i vs with
    | some r => some (c :: r)
    | none => none
  | [], _ + 1, _ => none
def pre : List Value → Nat → Option (List Value)
  | _, 0 => some []
  | c :: cs, m + 1 => match pre cs m with
    | some r => some (c :: r)
    | none => none
  | [], _ + 1 => none
def seg : List Value → Nat → Nat → Option (List Value)
  | cs, 0, m => pre cs m
  | _ :: cs, i + 1, m => seg cs i m
  | [], _ + 1, _ => none
theorem over_eq : ∀ {cs vs r : List Value}, over cs vs = some r → vs.length ≤ cs.length ∧ r = vs ++ cs.drop vs.length
  | cs, [], r, h => by simp [over] at h; simp [h]
  | c :: cs, v :: vs, r, h => by
    simp only [over] at h
    split at h
    · rename_i q hq
      cases h
      obtain ⟨h1, h2⟩ := over_eq hq
      simp [h2]; exact h1
    · cases h
  | [], _ :: _, r, h => by simp [over] at h
theorem setSeg_eq : ∀ {cs : List Value} {i : Nat} {vs r : List Value}, setSeg cs i vs = some r → i + vs.length ≤ cs.length ∧ r = cs.take i ++ vs ++ cs.drop (i + vs.length)
  | cs, 0, vs, r, h => by
    have h' : over cs vs = some r := by cases cs <;> exact h
    obtain ⟨h1, h2⟩ := over_eq h'
    simp [h2]; exact h1
  | c :: cs, i + 1, vs, r, h => by
    simp only [setSeg] at h
    split at h
    · rename_i q hq
      cases h
      obtain ⟨h1, h2⟩ := setSeg_eq hq
      refine ⟨by simp; omega, ?_⟩
      rw [h2, show i + 1 + vs.length = (i + vs.length) + 1 from by omega]
      simp
    · cases h
  | [], _ + 1, _, r, h => by simp [setSeg] at h
theorem pre_eq : ∀ {cs : List Value} {m : Nat} {r : List Value}, pre cs m = some r → m ≤ cs.length ∧ r = cs.take m
  | cs, 0, r, h => by
    have : some [] = some r := by cases cs <;> exact h
    simp at this; simp [← this]
  | c :: cs, m + 1, r, h => by
    simp only [pre] at h
    split at h
    · rename_i q hq
      cases h
      obtain ⟨h1, h2⟩ := pre_eq hq
      simp [h2]; exact h1
    · cases h
  | [], _ + 1, r, h => by simp [pre] at h
theorem seg_eq : ∀ {cs : List Value} {i m : Nat} {r : List Value}, seg cs i m = some r → i + m ≤ cs.length ∧ r = (cs.drop i).take m
  | cs, 0, m, r, h => by
    have h' : pre cs m = some r := by cases cs <;> exact h
    obtain ⟨h1, h2⟩ := pre_eq h'
    simp [h2]; exact h1
  | c :: cs, i + 1, m, r, h => by
    simp only [seg] at h
    obtain ⟨h1, h2⟩ := seg_eq h
    refine ⟨by simp; omega, by simp [h2]⟩
  | [], _ + 1, _, r, h => by simp [seg] at h
def one (v : Value) : Prop := v.oneCell' = true
theorem one_cells {v : Value} (h : one v) : v.cells = #[v] := by
  cases v <;> simp [one, Value.oneCell'] at h <;> rfl
theorem one_cellsL {v : Value} (h : one v) : cellsL v = [v] := by
  cases v <;> simp [one, Value.oneCell'] at h <;> rfl
def All1 : List Value → Prop
  | [] => True
  | v :: r => one v ∧ All1 r
theorem All1.mem : ∀ {l : List Value}, All1 l → ∀ v ∈ l, v.oneCell' = true
  | [], _, v, h => by simp at h
  | x :: r, ⟨h1, h2⟩, v, h => by
    cases h with
    | head => exact h1
    | tail _ h => exact h2.mem v h
theorem All1.of : ∀ {l : List Value}, (∀ v ∈ l, one v) → All1 l
  | [], _ => trivial
  | _ :: _, h => ⟨h _ (by simp), All1.of fun v hv => h v (by simp [hv])⟩

/-! reading of slices -/
def reads (w : World) (u : Value) (cs : List Value) : Prop := ∀ j v, cs[j]? = some v → ∃ a, cellPtr u j = .pointer (some a) ∧ w.cell? a = some v
def Rd (w0 : World) (H : List Asn) (u : Value) (m : Nat) (cs : List Value) : Prop := ∀ w, St w0 H w → isSl u m ∧ reads w u cs
/-- an argument's slice -/
def ArgRd (w0 : World) (u : Value) (m : Nat) (cs : List Value) : Prop :=
  isSl u m ∧ ∀ j v, cs[j]? = some v → ∃ a, cellPtr u j = .pointer (some a) ∧ a.block < w0.heap.size ∧ w0.cell? a = some v
theorem ArgRd.rd {w0 u m cs} (h : ArgRd w0 u m cs) (H : List Asn) : Rd w0 H u m cs := fun w hw => ⟨h.1, fun j v hv => by
  obtain ⟨a, h1, h2, h3⟩ := h.2 j v hv
  exact ⟨a, h1, by rw [World.cell?_of_block (w := w0) (hw.old a.block h2)]; exact h3⟩⟩
theorem Rd_weak {w0 : World} {H H' : List Asn} {u : Value} {m : Nat} {cs : List Value} (h : Rd w0 H u m cs) (hH : ∀ w, St w0 H' w → St w0 H w) : Rd w0 H' u m cs := fun w hw => h w (hH w hw)
theorem VecIn.sl {e size v n cs w fp} (h : VecIn e size v n cs w fp) : isSl v n := by
  rcases h.2 with ⟨base, rfl, rfl, _⟩ | ⟨g, cap, cur, rfl, _, _, hle, _⟩
  · exact ⟨base, 0, rfl, fun _ => rfl, Nat.le_refl _⟩
  · exact ⟨_, cap, rfl, (fun h => nomatch h), hle⟩
theorem cell_row {w : World} {g j : Nat} {cur : Array Value} {t : Nat} (hg : w.heap[g]? = some (.cells cur t (0, 0))) : w.cell? ⟨g, j, none⟩ = cur[j]? := by simp [World.cell?, hg]
theorem VecIn.reads {e size v n cs w fp} (h : VecIn e size v n cs w fp) : reads w v cs := by
  intro j u hu
  rcases h.2 with ⟨base, rfl, rfl, _⟩ | ⟨g, cap, cur, rfl, _, hg, hn, hc, hs, ht⟩
  · have : cs = [] := List.eq_nil_of_length_eq_zero (by simpa using h.1)
    subst this; simp at hu
  · refine ⟨⟨g, j, none⟩, by simp [cellPtr_eq, add_blk], ?_⟩
    rw [cell_row hg]
    rw [← ht, List.getElem?_take] at hu
    split at hu
    · simpa using hu
    · cases hu
theorem vec_rd {w0 H e size v n cs} (h : vec e size v n cs ∈ H) : Rd w0 H v n cs := fun w hw => by
  obtain ⟨f, hf⟩ := hw.mem h
  rw [vec_holds] at hf
  exact ⟨hf.sl, hf.reads⟩
theorem vec_len {w0 H e size v n cs w} (h : vec e size v n cs ∈ H) (hw : St w0 H w) : cs.length = n * size := by
  obtain ⟨f, hf⟩ := hw.mem h
  rw [vec_holds] at hf
  exact hf.1
theorem blk_heap {w0 H b cs w} (h : blk b cs ∈ H) (hw : St w0 H w) : ∃ T, w.heap[b]? = some (.cells cs.toArray T (0, 0)) := by
  obtain ⟨f, hf⟩ := hw.mem h
  rw [blk_holds] at hf
  exact hf.2

section
variable {P : Program} {f n : Nat} {R : Ending → World → Prop} {D : List Deferred} {w0 : World} {k : List Item} {ov : Ov} {H H' : List Asn} {ty : Ty} {sz by' : Nat} {z : Option (List Value)}
  {ops : Array Oper} {l : List Oper} {d : Option Nat} {T : Nat} {pos : String} {af : Array Edge} {g : Option (Nat × Bool)} {x y : Operand} {v : Value} {tb : Tb P}

theorem run_load1 {t : Nat} {a : Addr} {w : World} (h : tlook tb.l t = some ⟨ty, sz, by', z⟩) (ha : aggT ty = false) (hc : w.cell? a = some v) : (loadVar t a).run P w = .ok v w := by
  simp [loadVar, run_isAgg w h, ha, hc]
theorem run_loadA {t : Nat} {a : Addr} {w : World} {vs : List Value} (h : tlook tb.l t = some ⟨ty, sz, by', z⟩) (ha : aggT ty = true) (hl : vs.length = sz) (hc : ∀ j v, vs[j]? = some v → w.cell? (a.add j) = some v) : (loadVar t a).run P w = .ok (.agg vs.toArray) w := by
  have := run_loadCells_list (P := P) w a vs hc
  subst hl
  simp [loadVar, run_isAgg w h, ha, Tb.run_size w h, this]
theorem V_load {t off b : Nat} {cs : List Value} (hx : ev ov x = some (.pointer (some ⟨b, off, none⟩))) (hb : blk b cs ∈ H) (h : tlook tb.l t = some ⟨ty, sz, by', z⟩) (ha : aggT ty = false) (hv : nth cs off = some v) (hd : dOk d n = true)
    : OpV P n D w0 ov H ⟨d, .load t x, T, pos, af, g⟩ v :=
  ⟨hd, (fun a w haa hw => by
    obtain ⟨E, hE⟩ := blk_heap hb hw
    have hc : w.cell? ⟨b, off, none⟩ = some v := by rw [cell_row hE]; rw [nth_eq] at hv; simpa using hv
    simp [execOp, haa.ev hx, Instr.loadAt, Instr.sureAddr, run_load1 h ha hc])⟩
theorem V_loadA {t off b : Nat} {cs vs : List Value} (hx : ev ov x = some (.pointer (some ⟨b, off, none⟩))) (hb : blk b cs ∈ H) (h : tlook tb.l t = some ⟨ty, sz, by', z⟩) (ha : aggT ty = true) (hv : seg cs off sz = some vs) (hd : dOk d n = true)
    : OpV P n D w0 ov H ⟨d, .load t x, T, pos, af, g⟩ (.agg vs.toArray) :=
  ⟨hd, (fun a w haa hw => by
    obtain ⟨E, hE⟩ := blk_heap hb hw
    obtain ⟨h1, h2⟩ := seg_eq hv
    have hr := run_loadA (P := P) (tb := tb) (a := ⟨b, off, none⟩) (w := w) (vs := vs) h ha (by rw [h2]; simp; omega) (fun j u hu => by
      rw [add_blk, cell_row hE]
      rw [h2, List.getElem?_take] at hu
      split at hu
      · simpa using hu
      · cases hu)
    simp [execOp, haa.ev hx, Instr.loadAt, Instr.sureAddr, hr])⟩
theorem V_loadC {t j m : Nat} {u : Value} {cs : List Value} (hx : ev ov x = some (cellPtr u j)) (hr : Rd w0 H u m cs) (h : tlook tb.l t = some ⟨ty, sz, by', z⟩) (ha : aggT ty = false) (hv : cs[j]? = some v) (hd : dOk d n = true)
    : OpV P n D w0 ov H ⟨d, .load t x, T, pos, af, g⟩ v :=
  ⟨hd, (fun a w haa hw => by
    obtain ⟨ad, h1, h2⟩ := (hr w hw).2 j v hv
    simp [execOp, haa.ev hx, h1, Instr.loadAt, Instr.sureAddr, run_load1 h ha h2])⟩
theorem V_loadCA {t j m : Nat} {u : Value} {cs vs : List Value} (hx : ev ov x = some (cellPtr u j)) (hr : Rd w0 H u m cs) (h : tlook tb.l t = some ⟨ty, sz, by', z⟩) (ha : aggT ty = true) (hl : vs.length = sz) (hp : 0 < sz) (hv : (cs.drop j).take sz = vs) (hd : dOk d n = true)
    : OpV P n D w0 ov H ⟨d, .load t x, T, pos, af, g⟩ (.agg vs.toArray) :=
  ⟨hd, (fun a w haa hw => by
    have hall : ∀ s, s < sz → cs[j + s]? = vs[s]? := fun s hs => by rw [← hv, List.getElem?_take]; simp [hs]
    have h0 : ∃ v0, vs[0]? = some v0 := ⟨vs[0]'(by omega), by simp⟩
    obtain ⟨v0, hv0⟩ := h0
    obtain ⟨ad, h1, _⟩ := (hr w hw).2 j v0 (by have := hall 0 hp; simpa [hv0] using this)
    have hsl := (hr w hw).1
    obtain ⟨base, cap, rfl, _⟩ := hsl
    cases base with
    | none => unfold cellPtr at h1; simp [undef] at h1
    | some a0 =>
      rw [cellPtr_eq] at h1
      simp only [Value.pointer.injEq, Option.some.injEq] at h1
      have hrr := run_loadA (P := P) (tb := tb) (a := ad) (w := w) (vs := vs) h ha hl (fun s u hu => by
        have hs : s < sz := by rw [← hl]; exact (List.getElem?_eq_some_iff.1 hu).1
        obtain ⟨ad', h3, h4⟩ := (hr w hw).2 (j + s) u (by rw [hall s hs]; exact hu)
        rw [cellPtr_eq] at h3
        simp only [Value.pointer.injEq, Option.some.injEq] at h3
        rw [← h1, add_add, h3]; exact h4)
      simp [execOp, haa.ev hx, cellPtr_eq, h1, Instr.loadAt, Instr.sureAddr, hrr])⟩

/-! stores -/
theorem run_storeV {t : Nat} {b off E : Nat} {cs vs : List Value} {w : World} (h : tlook tb.l t = some ⟨ty, sz, by', z⟩) (hv : v.cells = vs.toArray) (hl : vs.length = sz) (h1 : All1 vs) (hg : w.heap[b]? = some (.cells cs.toArray E (0, 0))) (hf : off + vs.length ≤ cs.length) :
    (storeVar t ⟨b, off, none⟩ v).run P w = .ok () (w.setRow b (cs.take off ++ vs ++ cs.drop (off + vs.length)).toArray) := by
  have hst := run_storeCells_at P b off E vs 0 cs.toArray w hg (by simpa using hf) h1.mem
  simp only [Nat.add_zero] at hst
  simp [storeVar, Tb.run_size w h, hv, hl]
  rw [hl] at hst
  simpa [List.append_assoc] using hst
theorem St.row {b E : Nat} {cs cs' : List Value} {w : World} {a' : Asn} {a : Asn} (hw : St w0 H w) (hu : Upd H a a' H') (hg : w.heap[b]? = some (.cells cs.toArray E (0, 0))) (hfp : ∀ f, a.holds w f → f = [b])
    (hk : ∀ w' : World, w'.heap[b]? = some (.cells cs'.toArray E (0, 0)) → a'.holds w' [b]) : St w0 H' (w.setRow b cs'.toArray) := by
  refine hw.upd hu rfl rfl rfl (by simp [World.setRow]) ?_
  intro f1 h1
  have := hfp f1 h1
  subst this
  exact ⟨fun c hc hne => setRow_other w b c _ (by simpa using hne), [b], by simp, fun c hc => .inl hc, hk _ (setRow_heap w b _ _ E _ hg)⟩
theorem K_store {t off b : Nat} {cs vs cs' : List Value} (hx : ev ov x = some (.pointer (some ⟨b, off, none⟩))) (hy : ev ov y = some v) (hu : Upd H (blk b cs) (blk b cs') H') (h : tlook tb.l t = some ⟨ty, sz, by', z⟩) (hc : cellsL v = vs) (hl : Nat.beq vs.length sz = true) (h1 : All1 vs) (hs : setSeg cs off vs = some cs') (hd : dOk d n = true) : OpK P n D w0 ov H ⟨d, .store t x y, T, pos, af, g⟩ H' :=
  ⟨hd, fun a w ha hw => by
    have hb : blk b cs ∈ H := by
      obtain ⟨r, hp, _⟩ := hu.perm
      exact hp.mem_iff.2 (by simp)
    obtain ⟨E, hE⟩ := blk_heap hb hw
    obtain ⟨h3, h4⟩ := setSeg_eq hs
    have hv : v.cells = vs.toArray := by rw [cellsL_eq, hc]
    have hr := run_storeV (P := P) (tb := tb) (v := v) (b := b) (off := off) h hv (Nat.eq_of_beq_eq_true hl) h1 hE h3
    rw [← h4] at hr
    refine ⟨_, by simp [execOp, ha.ev hx, ha.ev hy, Instr.storeAt, Instr.sureAddr, hr]; rfl, ?_⟩
    exact hw.row hu hE (fun f hf => (blk_holds.1 hf).1) fun w' h' => blk_holds.2 ⟨rfl, E, h'⟩⟩
theorem run_storeVec {t : Nat} {e size m j : Nat} {u : Value} {cs vs : List Value} {w : World} (hu : Upd H (vec e size u m cs) (vec e size u m (cs.take j ++ vs ++ cs.drop (j + vs.length))) H') (hw : St w0 H w)
    (h : tlook tb.l t = some ⟨ty, sz, by', z⟩) (hv : v.cells = vs.toArray) (hl : vs.length = sz) (hp : 0 < sz) (h1 : All1 vs) (hf : j + vs.length ≤ cs.length) :
    ∃ a w', cellPtr u j = .pointer (some a) ∧ (storeVar t a v).run P w = .ok () w' ∧ St w0 H' w' := by
  have hmem : vec e size u m cs ∈ H := by
    obtain ⟨r, hp, _⟩ := hu.perm
    exact hp.mem_iff.2 (by simp)
  obtain ⟨fp, hfp⟩ := hw.mem hmem
  rw [vec_holds] at hfp
  rcases hfp.2 with ⟨base, rfl, rfl, _⟩ | ⟨gb, cap, cur, rfl, _, hg, hn, hcm, hsz, ht⟩
  · have := hfp.1; rw [Nat.zero_mul] at this; omega
  · have hcl := hfp.1
    have hlen : cs.length ≤ cur.size := by rw [hcl, hsz]; exact Nat.mul_le_mul_right _ hn
    have hr := run_storeV (P := P) (tb := tb) (v := v) (b := gb) (off := j) (E := e) (cs := cur.toList) h hv hl h1 (by simpa using hg) (by simp; omega)
    refine ⟨⟨gb, j, none⟩, _, by simp [cellPtr_eq, add_blk], hr, ?_⟩
    refine hw.row hu (cs := cur.toList) (by simpa using hg) (fun fq hq2 => ?_) fun w' h' => ?_
    · rw [vec_holds] at hq2
      rcases hq2.2 with ⟨base, hb, _⟩ | ⟨g', cap', cur', hv', hfq, _⟩
      · simp at hb; rw [hb.2.1, Nat.zero_mul] at hcl; omega
      · simp at hv'; rw [hfq, hv'.1]
    · rw [vec_holds]
      refine ⟨by rw [← hcl]; simp; omega, .inr ⟨gb, cap, _, rfl, rfl, h', hn, hcm, by simp; omega, ?_⟩⟩
      have hcs : cs = cur.toList.take cs.length := by rw [hcl]; exact ht.symm
      rw [← hcl]
      have e1 : cs.take j = cur.toList.take j := by rw [hcs, List.take_take]; congr 1; omega
      rw [e1, List.take_append, List.take_append]
      congr 1
      · congr 1
        · rw [List.take_take]; congr 1; omega
        · simp
          rw [List.take_of_length_le (by omega)]
      · have e2 : cs.drop (j + vs.length) = (cur.toList.drop (j + vs.length)).take (cs.length - (j + vs.length)) := by
          conv => lhs; rw [hcs]
          rw [List.drop_take]
        rw [e2]
        congr 1
        simp
        omega
theorem K_storeC {t e size m j : Nat} {u : Value} {cs vs : List Value} (hx : ev ov x = some (cellPtr u j)) (hy : ev ov y = some v) (hu : Upd H (vec e size u m cs) (vec e size u m (cs.take j ++ vs ++ cs.drop (j + vs.length))) H')
    (h : tlook tb.l t = some ⟨ty, sz, by', z⟩) (hc : cellsL v = vs) (hl : Nat.beq vs.length sz = true) (hp : Nat.blt 0 sz = true) (h1 : All1 vs) (hf : j + vs.length ≤ cs.length) (hd : dOk d n = true) : OpK P n D w0 ov H ⟨d, .store t x y, T, pos, af, g⟩ H' :=
  ⟨hd, fun a w ha hw => by
    obtain ⟨ad, w', h2, h3, h4⟩ := run_storeVec (v := v) hu hw h (by rw [cellsL_eq, hc]) (Nat.eq_of_beq_eq_true hl) (by rw [Nat.blt_eq] at hp; exact hp) h1 hf
    exact ⟨w', by simp [execOp, ha.ev hx, ha.ev hy, h2, Instr.storeAt, Instr.sureAddr, h3], h4⟩⟩
theorem take_set {cs : List Value} {j : Nat} {v : Value} (h : j < cs.length) : cs.take j ++ [v] ++ cs.drop (j + [v].length) = cs.set j v := by
  rw [List.set_eq_take_append_cons_drop]; simp [h]
/-- one cell -/
theorem K_storeC1 {t e size m j : Nat} {u : Value} {cs cs' : List Value} (hx : ev ov x = some (cellPtr u j)) (hy : ev ov y = some v) (hs : cs.set j v = cs') (hu : Upd H (vec e size u m cs) (vec e size u m cs') H')
    (h : tlook tb.l t = some ⟨ty, 1, by', z⟩) (h1 : one v) (hf : j < cs.length) (hd : dOk d n = true) : OpK P n D w0 ov H ⟨d, .store t x y, T, pos, af, g⟩ H' := by
  subst hs
  rw [← take_set hf] at hu
  exact K_storeC hx hy hu h (one_cellsL h1) rfl rfl ⟨h1, trivial⟩ (by simp; omega) hd
end
end Sx

namespace Sx
open Go

def fillL (place : Nat → Option (Nat × Nat)) : List Value → List (Nat × Value) → Option (List Value)
  | cs, [] => some cs
  | cs, (i, v) :: r => match place i with
    | none => none
    | some (off, sz) => match Nat.beq (cellsL v).length sz with
      | false => none
      | true => match setSeg cs off (cellsL v) with
        | none => none
        | some cs' => fillL place cs' r
theorem foldl_set : ∀ (vs : List Value) (off m : Nat) (A : Array Value), off + m + vs.length ≤ A.size →
    ((vs.zipIdx m).foldl (fun (cs : Array Value) (p : Value × Nat) => cs.setIfInBounds (off + p.2) p.1) A).toList = A.toList.take (off + m) ++ vs ++ A.toList.drop (off + m + vs.length)
  | [], off, m, A, _ => by simp
  | v :: vs, off, m, A, h => by
    simp only [List.zipIdx_cons, List.foldl_cons, List.length_cons] at *
    rw [foldl_set vs off (m + 1) (A.setIfInBounds (off + m) v) (by simp; omega)]
    have e := list_seg_step A.toList (off + m) v vs (by simp; omega)
    simpa [Array.toList_setIfInBounds, Nat.add_assoc] using e
theorem fill_eq (place : Nat → Option (Nat × Nat)) : ∀ {cs : List Value} {ps : List (Nat × Value)} {r : List Value}, fillL place cs ps = some r → Instr.fill place cs.toArray ps = some r.toArray
  | cs, [], r, h => by simp [fillL] at h; simp [Instr.fill, h]
  | cs, (i, v) :: ps, r, h => by
    simp only [fillL] at h
    split at h
    · cases h
    · rename_i off size hq
      split at h
      · cases h
      · rename_i hb
        split at h
        · cases h
        · rename_i cs' hs
          obtain ⟨h1, h2⟩ := setSeg_eq hs
          have ih := fill_eq place h
          have hl := Nat.eq_of_beq_eq_true hb
          simp only [Instr.fill, hq, cellsL_eq, List.size_toArray, hl]
          have hn : ¬ (size > cs.length - off ∧ False) := by simp
          rw [if_neg (by simp; omega)]
          rw [← ih]
          congr 1
          apply Array.ext'
          have := foldl_set (cellsL v) off 0 cs.toArray (by simp; omega)
          simp only [Nat.add_zero] at this
          rw [h2]
          simpa using this

def rep : Nat → List Value → List Value
  | 0, _ => []
  | n + 1, z => z ++ rep n z
theorem length_rep (z : List Value) : ∀ n, (rep n z).length = n * z.length
  | 0 => by simp [rep]
  | n + 1 => by simp [rep, length_rep z n, Nat.add_mul]; omega
theorem rep_get (z : List Value) (hz : 0 < z.length) : ∀ (n i : Nat), i < n * z.length → (rep n z)[i]? = z[i % z.length]?
  | 0, i, h => by simp at h
  | n + 1, i, h => by
    rw [Nat.add_mul, Nat.one_mul] at h
    simp only [rep]
    by_cases hi : i < z.length
    · rw [List.getElem?_append_left hi, Nat.mod_eq_of_lt hi]
    · rw [List.getElem?_append_right (by omega), rep_get z hz n (i - z.length) (by omega), ← Nat.mod_eq_sub_mod (by omega)]
theorem made_rep (z : List Value) (hz : 0 < z.length) (n : Nat) : (madeCells z.toArray (n * z.length)).toList = rep n z := by
  apply List.ext_getElem?
  intro i
  by_cases hi : i < n * z.length
  · rw [rep_get z hz n i hi]
    have hm : i % z.length < z.length := Nat.mod_lt _ hz
    simp [madeCells, hi, hm]
  · rw [List.getElem?_eq_none (by simp [madeCells]; omega), List.getElem?_eq_none (by rw [length_rep]; omega)]
theorem rep_one (v : Value) : ∀ n, rep n [v] = List.replicate n v
  | 0 => rfl
  | n + 1 => by simp [rep, rep_one v n, List.replicate_succ]

def pevs (ov : Ov) : List (Nat × Operand) → Option (List (Nat × Value))
  | [] => some []
  | (i, x) :: r => match ev ov x with
    | none => none
    | some v => match pevs ov r with
      | none => none
      | some l => some ((i, v) :: l)
theorem Rep.pevs {n D ov a} (h : Rep n D ov a) : ∀ {xs : List (Nat × Operand)} {vs : List (Nat × Value)}, Sx.pevs ov xs = some vs → xs.map (fun p => (p.1, a.eval p.2)) = vs
  | [], vs, hv => by simp [Sx.pevs] at hv; simp [hv]
  | x :: r, vs, hv => by
    simp only [Sx.pevs] at hv
    split at hv
    · cases hv
    · rename_i v hx
      split at hv
      · cases hv
      · rename_i l hl
        cases hv
        simp [h.ev hx, h.pevs hl]

def placesL {P : Program} (tb : Tb P) : List (Nat × Nat) → Option (List (Nat × Nat))
  | [] => some []
  | (ft, fo) :: r => match tlook tb.l ft with
    | none => none
    | some ⟨_, sz, _, _⟩ => match placesL tb r with
      | none => none
      | some l => some ((fo, sz) :: l)

section
variable {P : Program} {f n : Nat} {R : Ending → World → Prop} {D : List Deferred} {w0 : World} {k : List Item} {ov : Ov} {H H' : List Asn}
  {ops : Array Oper} {l : List Oper} {d : Option Nat} {T : Nat} {pos : String} {af : Array Edge} {g : Option (Nat × Bool)} {x y : Operand} {v : Value} {tb : Tb P}

theorem run_places : ∀ {fs : List Field} {ps : List (Nat × Nat)} (w : World), placesL tb (fs.map fun f => (f.type, f.offset)) = some ps → (fs.mapM (m := Sem) fun fd => do pure (fd.offset, ← Go.sizeOf fd.type)).run P w = .ok ps w
  | [], ps, w, h => by simp [placesL] at h; subst h; simp
  | fd :: r, ps, w, h => by
    simp only [List.map_cons, placesL] at h
    split at h
    · cases h
    · rename_i ty sz by' z hi
      split at h
      · cases h
      · rename_i q hq
        cases h
        have ih := run_places w hq
        rw [List.mapM_cons]
        simp only [Sem.run_bind, Tb.run_size w hi, Result.andThen_ok, Sem.run_pure]
        rw [ih]
        rfl
theorem V_build {t s1 b1 : Nat} {fs : List (Nat × Nat)} {ps : List (Nat × Nat)} {xs : List (Nat × Operand)} {vs : List (Nat × Value)} {z cs : List Value} (h : tlook tb.l t = some ⟨.struct fs, s1, b1, some z⟩) (hp : placesL tb fs = some ps)
    (hx : pevs ov xs = some vs) (hc : fillL (nthP ps) z vs = some cs) (hd : dOk d n = true) : OpV P n D w0 ov H ⟨d, .build t xs.toArray, T, pos, af, g⟩ (.agg cs.toArray) :=
  ⟨hd, (fun a w ha _ => by
    obtain ⟨fa, e1, e2⟩ := und_struct h
    obtain ⟨zv, hz, e3⟩ := Tb.run_zero w h
    subst e2
    have hpl := run_places (tb := tb) w hp
    have hfill := fill_eq (nthP ps) hc
    have hx' := ha.pevs hx
    rw [show nthP ps = fun i => ps[i]? from funext (nthP_eq ps)] at hfill
    have hm : Sem.run P (fa.mapM fun fd => do pure (fd.offset, ← Go.sizeOf fd.type)) w = .ok ps.toArray w := by
      rw [Array.mapM_eq_mapM_toList]
      simp only [Sem.run_map]
      rw [hpl]; rfl
    simp only [execOp, Instr.build, Sem.run_bind, e3, Result.andThen_ok, run_underlying e1, cellsL_eq, hz]
    rw [hm]
    simp only [Result.andThen_ok, List.map_toArray]
    rw [hx']
    simp only [List.getElem?_toArray] at *
    simp [hfill])⟩
section
variable {t e sz by' s1 b1 : Nat} {ty2 : Ty} {z1 : Option (List Value)} {z : List Value}
theorem JO_buildSlice {m : Nat} {xs : List (Nat × Operand)} {vs : List (Nat × Value)} {cs : List Value} (h : tlook tb.l t = some ⟨.slice e, s1, b1, z1⟩) (h2 : tlook tb.l e = some ⟨ty2, sz, by', some z⟩) (hzl : Nat.beq z.length sz = true) (hsz : Nat.blt 0 sz = true)
    (hm : Nat.ble (m * sz) 16777216 = true) (hx : pevs ov xs = some vs) (hc : fillL (fun i => some (i * sz, sz)) (rep m z) vs = some cs) (hcl : Nat.beq cs.length (m * sz) = true) (hd : dOk d n = true) (hn : ∀ p, JR P f n R D w0 ops l k (put d (.slice (some p) m m) ov) (vec e sz (.slice (some p) m m) m cs :: H)) :
    JO P f n R D w0 ops ⟨d, .buildSlice t m xs.toArray, T, pos, af, g⟩ l k ov H :=
  JO_step fun a w ha hw => by
    have e1 := run_underlying (und_slice h) w
    obtain ⟨zv, hz, e3⟩ := Tb.run_zero w h2
    have hsz' : 0 < sz := by rw [Nat.blt_eq] at hsz; exact hsz
    have hzl' := Nat.eq_of_beq_eq_true hzl
    have hm' : m * sz ≤ 16777216 := Nat.le_of_ble_eq_true hm
    have hfill := fill_eq _ hc
    have hx' := ha.pevs hx
    have hmr := made_rep z (by omega) m
    rw [hzl'] at hmr
    have hma : madeCells z.toArray (m * sz) = (rep m z).toArray := by rw [← hmr]
    refine ⟨.slice (some ⟨w.heap.size, 0, none⟩) m m, w.alloc (.cells cs.toArray e), ?_, hd, _, hw.new cs e _ fun w' h' => ?_, hn ⟨w.heap.size, 0, none⟩⟩
    · simp only [execOp, Instr.buildSlice, Sem.run_bind, e1, Result.andThen_ok, Tb.run_size w h2]
      rw [if_neg (by omega)]
      simp only [Sem.run_pure, pure_bind, Sem.run_ite, List.map_toArray, hx']
      by_cases h0 : m * sz = 0
      · have hm0 : m = 0 := by
          rcases Nat.mul_eq_zero.1 h0 with h | h <;> omega
        subst hm0
        simp only [h0, ↓reduceIte]
        rw [show (Array.range 0).map (fun i => (#[] : Array Value)[i % (#[] : Array Value).size]!) = ([] : List Value).toArray from by simp]
        rw [show fillL (fun i => some (i * sz, sz)) (rep 0 z) vs = fillL (fun i => some (i * sz, sz)) [] vs from rfl] at hc
        have hfill := fill_eq _ hc
        simp [hfill, newRow]
      · simp only [h0, ↓reduceIte, Sem.run_bind, e3, Result.andThen_ok, cellsL_eq, hz]
        rw [show (Array.range (m * sz)).map (fun i => z.toArray[i % z.toArray.size]!) = madeCells z.toArray (m * sz) from rfl, hma]
        simp [hfill, newRow]
    · rw [vec_holds]
      have hcl' := Nat.eq_of_beq_eq_true hcl
      refine ⟨hcl', .inr ⟨_, m, _, rfl, rfl, h', Nat.le_refl _, ?_, by simp [hcl'], by simp [← hcl']⟩⟩
      have : m ≤ m * sz := Nat.le_mul_of_pos_right m hsz'
      unfold maxLen; omega
theorem JO_make {K1 K2 : IntKind} {m : Int} (hx : ev ov x = some (.int K1 m)) (hy : ev ov y = some (.int K2 m)) (h : tlook tb.l t = some ⟨.slice e, s1, b1, z1⟩) (h2 : tlook tb.l e = some ⟨ty2, sz, by', some z⟩) (hzl : Nat.beq z.length sz = true) (hsz : Nat.blt 0 sz = true)
    (hb : 0 ≤ m ∧ (by' : Int) * m ≤ 281474976710656 ∧ m ≤ 281474976710656) (hd : dOk d n = true) (hn : ∀ p, JR P f n R D w0 ops l k (put d (.slice (some p) m.toNat m.toNat) ov) (vec e sz (.slice (some p) m.toNat m.toNat) m.toNat (rep m.toNat z) :: H)) :
    JO P f n R D w0 ops ⟨d, .makeSlice t x y, T, pos, af, g⟩ l k ov H :=
  JO_step fun a w ha hw => by
    have e1 := und_slice h
    obtain ⟨inf, zv, hi, hs1, hs2, hs3, hz⟩ := Tb.inf' h2
    have hsz' : 0 < sz := by rw [Nat.blt_eq] at hsz; exact hsz
    have hzl' := Nat.eq_of_beq_eq_true hzl
    have hr := run_make (P := P) w t e inf zv e1 hi hs3 K1 K2 m m hb.1 (Int.le_refl _) (by rw [hs2]; exact hb.2.1) (by omega)
    rw [cellsL_eq, hz, hs1] at hr
    have hmr := made_rep z (by omega) m.toNat
    rw [hzl'] at hmr
    rw [show madeCells z.toArray (m.toNat * sz) = (rep m.toNat z).toArray from by rw [← hmr]] at hr
    refine ⟨_, _, by simp only [execOp, ha.ev hx, ha.ev hy, Sem.run_bind, hr, Result.andThen_ok, Sem.run_pure], hd, _, hw.new (rep m.toNat z) e _ fun w' h' => ?_, hn ⟨w.heap.size, 0, none⟩⟩
    rw [vec_holds]
    refine ⟨by rw [length_rep, hzl'], .inr ⟨_, m.toNat, _, rfl, rfl, h', Nat.le_refl _, ?_, by simp [length_rep, hzl'], by rw [← hzl', ← length_rep]; simp⟩⟩
    unfold maxLen; omega
/-! len -/
theorem V_len {m : Nat} {base : Option Addr} {c : Nat} (hx : ev ov x = some (.slice base m c)) (h : tlook tb.l t = some ⟨.slice e, s1, b1, z1⟩) (hd : dOk d n = true) : OpV P n D w0 ov H ⟨d, .call ⟨.builtin .len, #[x], #[t]⟩, T, pos, af, g⟩ (.int .i64 (m : Int)) :=
  ⟨hd, (fun a w ha _ => by
    simp [execOp, resolve, invoke, builtin, Builtin.len_, ha.ev hx, run_underlying (und_slice h), goInt])⟩
theorem V_lenS {s : ByteArray} (hx : ev ov x = some (.string s)) (h : tlook tb.l t = some ⟨.str, s1, b1, z1⟩) (hd : dOk d n = true) : OpV P n D w0 ov H ⟨d, .call ⟨.builtin .len, #[x], #[t]⟩, T, pos, af, g⟩ (.int .i64 (s.size : Int)) :=
  ⟨hd, (fun a w ha _ => by
    simp [execOp, resolve, invoke, builtin, Builtin.len_, ha.ev hx, run_underlying (und_str h), goInt])⟩
end
theorem V_min {K : IntKind} {a b c : Int} {ts : Array Nat} (hx : ev ov x = some (.int K a)) (hy : ev ov y = some (.int K b)) (hc : min a b = c) (hd : dOk d n = true) : OpV P n D w0 ov H ⟨d, .call ⟨.builtin .min, #[x, y], ts⟩, T, pos, af, g⟩ (.int K c) :=
  ⟨hd, (fun A w ha _ => by
    have : (if b < a then b else a) = c := by rw [← hc]; split <;> omega
    simp [execOp, resolve, invoke, builtin, Builtin.min_, Builtin.min2, ha.ev hx, ha.ev hy, this])⟩
theorem V_max {K : IntKind} {a b c : Int} {ts : Array Nat} (hx : ev ov x = some (.int K a)) (hy : ev ov y = some (.int K b)) (hc : max a b = c) (hd : dOk d n = true) : OpV P n D w0 ov H ⟨d, .call ⟨.builtin .max, #[x, y], ts⟩, T, pos, af, g⟩ (.int K c) :=
  ⟨hd, (fun A w ha _ => by
    have : (if b > a then b else a) = c := by rw [← hc]; split <;> omega
    simp [execOp, resolve, invoke, builtin, Builtin.max_, Builtin.max2, ha.ev hx, ha.ev hy, this])⟩
theorem V_nilCheck {a : Addr} (hx : ev ov x = some (.pointer (some a))) (hd : dOk d n = true) : OpV P n D w0 ov H ⟨d, .nilCheck x, T, pos, af, g⟩ (.pointer (some a)) :=
  ⟨hd, (fun A w ha _ => by simp [execOp, ha.ev hx])⟩
end
end Sx

namespace Sx
open Go

section
variable {P : Program} {f n : Nat} {R : Ending → World → Prop} {D : List Deferred} {w0 : World} {k : List Item} {ov : Ov} {H : List Asn}
  {ops : Array Oper} {l : List Oper} {d : Option Nat} {T : Nat} {pos : String} {af : Array Edge} {g : Option (Nat × Bool)} {x y : Operand} {v : Value} {tb : Tb P}

theorem run_append0 {t ty e : TypeId} {i : TypeInfo} (w : World) (ht : P.underlying t = some (.slice e)) (hi : P.info? e = some i) (b bx : Option Addr) (m cap cx : Nat) (hm : m ≤ cap) :
    (Builtin.append_ #[t, t] ty #[.slice b m cap, .slice bx 0 cx]).run P w = .ok (.slice b m cap) w := by
  cases b <;> cases bx <;> simp [Builtin.append_, run_underlying ht, Go.sizeOf, typeInfo, hi, Builtin.lenOf, hm, Builtin.firstCells, loadCells, loadCellsFrom, storeCells]
theorem reads_some {w : World} {a : Addr} {m c : Nat} {cs : List Value} (h : reads w (.slice (some a) m c) cs) : ∀ j v, cs[j]? = some v → w.cell? (a.add j) = some v := by
  intro j v hv
  obtain ⟨a', h1, h2⟩ := h j v hv
  rw [cellPtr_eq] at h1
  simp only [Value.pointer.injEq, Option.some.injEq] at h1
  rw [h1]; exact h2
theorem run_appendV {t ty e size bytes : Nat} {i : TypeInfo} {z : Value} {u ux : Value} {m q : Nat} {cs news : List Value} {H' : Option Addr → Nat → List Asn} {w : World} (hw : St w0 H w)
    (ht : P.underlying t = some (.slice e)) (hi : P.info? e = some i) (hz : i.zero = some z) (hsize : i.size = size) (hby : i.bytes = bytes) (hzs : z.cells.size = size) (hsz : 0 < size)
    (hu : ∀ p c, Upd H (vec e size u m cs) (vec e size (.slice p (m + q) c) (m + q) (cs ++ news)) (H' p c)) (hr : Rd w0 H ux q news) (hl : news.length = q * size) (h1 : All1 news) (hb : (m + q) * bytes ≤ 140737488355328) (hq : m + q ≤ 140737488355328) :
    ∃ p c w', (Builtin.append_ #[t, t] ty #[u, ux]).run P w = .ok (.slice p (m + q) c) w' ∧ St w0 (H' p c) w' := by
  have hmem : vec e size u m cs ∈ H := by
    obtain ⟨r, hp, _⟩ := (hu none 0).perm
    exact hp.mem_iff.2 (by simp)
  obtain ⟨fp, hfp⟩ := hw.mem hmem
  rw [vec_holds] at hfp
  obtain ⟨⟨bx, cx, rfl, hbx, _⟩, hrd⟩ := hr w hw
  subst hsize; subst hby
  have h63 : ((m + q : Nat) : Int) ≤ 9223372036854775807 := by omega
  by_cases hq0 : q = 0
  · subst hq0
    have hn0 : news = [] := List.eq_nil_of_length_eq_zero (by simpa using hl)
    subst hn0
    rcases hfp.2 with ⟨base, rfl, rfl, rfl⟩ | ⟨gb, cap, cur, rfl, _, hg, hn, hcm, hsz2, htk⟩
    · refine ⟨base, 0, w, run_append0 w ht hi _ _ _ _ _ (Nat.le_refl _), ?_⟩
      refine hw.upd (hu base 0) rfl rfl rfl (Nat.le_refl _) fun f1 h => ⟨fun _ _ _ => rfl, f1, ?_, fun c hc => .inl hc, ?_⟩
      · rw [vec_holds] at h
        rcases h.2 with ⟨_, _, _, rfl⟩ | ⟨g', _, _, _, rfl, _⟩ <;> simp
      · rw [vec_holds] at h ⊢; simpa using h
    · refine ⟨_, cap, w, run_append0 w ht hi _ _ _ _ _ hn, ?_⟩
      refine hw.upd (hu _ cap) rfl rfl rfl (Nat.le_refl _) fun f1 h => ⟨fun _ _ _ => rfl, f1, ?_, fun c hc => .inl hc, ?_⟩
      · rw [vec_holds] at h
        rcases h.2 with ⟨_, _, _, rfl⟩ | ⟨g', _, _, _, rfl, _⟩ <;> simp
      · rw [vec_holds] at h ⊢; simpa using h
  · cases bx with
    | none => exact absurd (hbx rfl) hq0
    | some a =>
      have hnews := reads_some hrd
      have hgrow : ∀ (old cap2 : Nat), cap2 = grownCap w (m + q) old e → (cs.length = m * i.size) →
          ∀ f1, (vec e i.size u m cs).holds w f1 → (∀ b, b < w.heap.size → b ∉ f1 → (w.drew.alloc (.cells (cs.toArray ++ news.toArray ++ Builtin.zeroCells z.cells (cap2 - (m + q))) e)).heap[b]? = w.heap[b]?) ∧
          ∃ f1' : List Nat, f1'.Nodup ∧ (∀ b ∈ f1', b ∈ f1 ∨ w.heap.size ≤ b) ∧ (vec e i.size (.slice (some ⟨w.heap.size, 0, none⟩) (m + q) cap2) (m + q) (cs ++ news)).holds (w.drew.alloc (.cells (cs.toArray ++ news.toArray ++ Builtin.zeroCells z.cells (cap2 - (m + q))) e)) f1' := by
        intro old cap2 hcap hcl f1 _
        have hge := grownCap_ge w (m + q) old e
        have hle := grownCap_le_maxLen w (m + q) old e (by unfold maxLen; omega)
        refine ⟨fun b hb _ => heap_alloc_old w.drew _ hb, [w.heap.size], by simp, by simp, ?_⟩
        rw [vec_holds]
        have hlen : (cs ++ news).length = (m + q) * i.size := by rw [List.length_append, hcl, hl, Nat.add_mul]
        refine ⟨hlen, .inr ⟨w.heap.size, cap2, _, rfl, rfl, heap_alloc_new w.drew _, by omega, by omega, ?_, ?_⟩⟩
        · simp only [Array.size_append, List.size_toArray, size_zeroCells, hzs, hcl, hl, ← Nat.add_mul]
          congr 1; omega
        · simp only [Array.toList_append, List.append_assoc]
          rw [← List.append_assoc, ← hlen]
          exact List.take_left
      rcases hfp.2 with ⟨base, rfl, rfl, rfl⟩ | ⟨gb, cap, cur, rfl, _, hg, hn, hcm, hsz2, htk⟩
      · have hcs : cs = [] := List.eq_nil_of_length_eq_zero (by have := hfp.1; simpa using this)
        subst hcs
        cases base with
        | none =>
          have hrr := run_append_nil (P := P) w t ty e i z ht hi hz a q cx news hl hnews (by omega) (by omega) (by simp only [Nat.zero_add] at hb; omega)
          have hg := hgrow 0 _ rfl (by simp)
          simp only [Nat.zero_add, Array.empty_append] at hg ⊢
          refine ⟨_, _, _, hrr, ?_⟩
          have hu' := hu (some ⟨w.heap.size, 0, none⟩) (grownCap w q 0 e)
          simp only [Nat.zero_add] at hu'
          exact hw.upd hu' rfl rfl rfl (by simp) hg
        | some b0 =>
          have hrr := run_append_grow (P := P) w t ty e i z ht hi hz b0 0 0 [] (by simp) (by simp) a q cx news hl hnews (by omega) (by omega) (growslice_fits (by omega) hb)
          exact ⟨_, _, _, hrr, hw.upd (hu _ _) rfl rfl rfl (by simp) (hgrow 0 _ rfl (by simp))⟩
      · by_cases hroom : m + q ≤ cap
        · have hcl := hfp.1
          have hfit : m * i.size + news.length ≤ cur.size := by rw [hl, hsz2, ← Nat.add_mul]; exact Nat.mul_le_mul_right _ hroom
          have hrr := run_append_room (P := P) w t ty e i ht hi gb m cap cur hg a q cx news hl hnews h1.mem hroom hfit
          refine ⟨_, _, _, hrr, hw.upd (hu _ _) rfl rfl rfl (by simp [World.setRow]) fun f1 h => ?_⟩
          have hf1 : f1 = [gb] ∨ (f1 = [] ∧ m = 0 ∧ cap = 0) := by
            rw [vec_holds] at h
            rcases h.2 with ⟨base, hb', h0, hf⟩ | ⟨g', cap', cur', hv', hf, _⟩
            · simp at hb'; exact .inr ⟨hf, h0, hb'.2.2⟩
            · simp at hv'; left; rw [hf, hv'.1]
          have hf1' : f1 = [gb] := by
            rcases hf1 with h | h
            · exact h
            · omega
          subst hf1'
          refine ⟨fun c hc hne => setRow_other w gb c _ (by simpa using hne), [gb], by simp, fun c hc => .inl hc, ?_⟩
          rw [vec_holds]
          have hlen : (cs ++ news).length = (m + q) * i.size := by rw [List.length_append, hcl, hl, Nat.add_mul]
          refine ⟨hlen, .inr ⟨gb, cap, _, rfl, rfl, setRow_heap w gb cur _ e _ hg, hroom, hcm, ?_, ?_⟩⟩
          · simp only [List.size_toArray, List.length_append, List.length_take, List.length_drop, Array.length_toList]
            omega
          · simp only []
            rw [htk, ← hlen]
            exact List.take_left
        · have hcl := hfp.1
          have holds : ∀ j u', cs[j]? = some u' → w.cell? ((⟨gb, 0, none⟩ : Addr).add j) = some u' := reads_some hfp.reads
          have hrr := run_append_grow (P := P) w t ty e i z ht hi hz ⟨gb, 0, none⟩ m cap cs hcl holds a q cx news hl hnews (by omega) (by omega) (growslice_fits (by omega) hb)
          exact ⟨_, _, _, hrr, hw.upd (hu _ _) rfl rfl rfl (by simp) (hgrow cap _ rfl hcl)⟩
theorem JO_append {t e sz by' m q sz1 by1 : Nat} {ty2 : Ty} {z1 : Option (List Value)} {z : List Value} {u ux : Value} {cs news : List Value} {H' : Option Addr → Nat → List Asn}
    (hx : ev ov x = some u) (hy : ev ov y = some ux) (h : tlook tb.l t = some ⟨.slice e, sz1, by1, z1⟩) (h2 : tlook tb.l e = some ⟨ty2, sz, by', some z⟩) (hzl : Nat.beq z.length sz = true) (hsz : Nat.blt 0 sz = true)
    (hu : ∀ p c, Upd H (vec e sz u m cs) (vec e sz (.slice p (m + q) c) (m + q) (cs ++ news)) (H' p c)) (hr : Rd w0 H ux q news) (hl : news.length = q * sz) (h1 : All1 news) (hb : (m + q) * by' ≤ 140737488355328 ∧ m + q ≤ 140737488355328) (hd : dOk d n = true)
    (hn : ∀ p c, JR P f n R D w0 ops l k (put d (.slice p (m + q) c) ov) (H' p c)) : JO P f n R D w0 ops ⟨d, .call ⟨.builtin .append, #[x, y], #[t, t]⟩, T, pos, af, g⟩ l k ov H :=
  JO_step fun a w ha hw => by
    obtain ⟨inf, zv, hi, hs1, hs2, hs3, hz⟩ := Tb.inf' h2
    obtain ⟨p, c, w', h3, h4⟩ := run_appendV (ty := T) (z := zv) hw (und_slice h) hi hs3 hs1 hs2 (by rw [cellsL_eq, hz]; simpa using Nat.eq_of_beq_eq_true hzl) (by rw [Nat.blt_eq] at hsz; exact hsz) hu hr hl h1 hb.1 hb.2
    exact ⟨_, w', by simp [execOp, resolve, invoke, builtin, ha.ev hx, ha.ev hy, h3], hd, _, h4, hn p c⟩
theorem St.nilvec {e sz : Nat} {base : Option Addr} {w : World} (hw : St w0 H w) : St w0 (vec e sz (.slice base 0 0) 0 [] :: H) w := by
  refine St.step (as := []) (bs := [vec e sz (.slice base 0 0) 0 []]) hw rfl rfl rfl (Nat.le_refl _) ?_
  intro f1 hf _ _
  simp [All] at hf
  subst hf
  exact ⟨fun _ _ _ => rfl, [], by simp, by simp, [], [], rfl, vec_holds.2 ⟨by simp, .inl ⟨base, rfl, rfl, rfl⟩⟩, rfl⟩
theorem St.sub {H H'} {w : World} (h : H'.Sublist H) : St w0 H w → St w0 H' w := by
  intro hw
  obtain ⟨fp, h1, h2, h3⟩ := hw.own
  have key : ∀ {H H' : List Asn}, H'.Sublist H → ∀ {fp}, All H w fp → ∃ fp', fp'.Sublist fp ∧ All H' w fp' := by
    intro H H' h
    induction h with
    | slnil => intro fp h; exact ⟨fp, List.Sublist.refl _, h⟩
    | cons a _ ih =>
      rintro fp ⟨f1, f2, e, h1, h2⟩
      obtain ⟨f', s, h'⟩ := ih h2
      exact ⟨f', by rw [e]; exact s.trans (List.sublist_append_right _ _), h'⟩
    | cons_cons a _ ih =>
      rintro fp ⟨f1, f2, e, h1, h2⟩
      obtain ⟨f', s, h'⟩ := ih h2
      exact ⟨f1 ++ f', by rw [e]; exact List.Sublist.append (List.Sublist.refl _) s, f1, f', rfl, h1, h'⟩
  obtain ⟨fp', s, h3'⟩ := key h h3
  exact ⟨hw.os, hw.tape, hw.output, hw.size, hw.old, fp', s.nodup h1, fun b hb => h2 b (s.subset hb), h3'⟩
end

theorem Rd.sl {w0 H u m cs} (h : Rd w0 H u m cs) : ∀ w, St w0 H w → isSl u m := fun w hw => (h w hw).1
theorem ArgRd.isl {w0 u m cs} (h : ArgRd w0 u m cs) : isSl u m := h.1
/-! an index's number -/
theorem tn (i : Nat) : ((i : Int)).toNat = i := Int.toNat_natCast i
theorem tna (i k : Nat) : ((i : Int) + (k : Int)).toNat = i + k := by omega
theorem tn1 (i : Nat) : ((i : Int) + 1).toNat = i + 1 := by omega
theorem tn2 (i : Nat) : ((i : Int) + 2).toNat = i + 2 := by omega
theorem tn3 (i : Nat) : ((i : Int) + 3).toNat = i + 3 := by omega
theorem tn4 (i : Nat) : ((i : Int) + 4).toNat = i + 4 := by omega
theorem tnd {i : Nat} {m : Nat} : ((i : Int) / (m : Int)).toNat = i / m := by rw [← Int.natCast_ediv]; exact tn _
theorem tnd16 {i : Nat} : ((i : Int) / 16).toNat = i / 16 := by omega
theorem tnd8 {i : Nat} : ((i : Int) / 8).toNat = i / 8 := by omega
/-! numbers in slices -/
def ints (K : IntKind) (l : List Int) : List Value := l.map (Value.int K)
theorem ints_get {K : IntKind} {l : List Int} {j : Nat} (h : j < l.length) : (ints K l)[j]? = some (.int K (l.getD j 0)) := by
  simp [ints, List.getD, h]
theorem ints_len {K : IntKind} {l : List Int} : (ints K l).length = l.length := by simp [ints]
theorem ints_set {K : IntKind} {l : List Int} {j : Nat} {a : Int} : (ints K l).set j (.int K a) = ints K (l.set j a) := by simp [ints, List.map_set]
theorem ints_one {K : IntKind} {l : List Int} : All1 (ints K l) := All1.of fun v hv => by
  simp only [ints, List.mem_map] at hv
  obtain ⟨a, _, rfl⟩ := hv
  exact rfl
theorem ints_rep {K : IntKind} {m : Nat} {a : Int} : rep m [.int K a] = ints K (List.replicate m a) := by
  rw [rep_one]; simp [ints]
theorem ints_app {K : IntKind} {l l' : List Int} : ints K l ++ ints K l' = ints K (l ++ l') := by simp [ints]
end Sx

namespace Sx
open Go

theorem J_of_wp {P : Program} {f : Nat} {c : Code} {k : List Item} {a : Act} {w : World} {R : Ending → World → Prop} {Q : Exit → Act → World → Prop} (h : c.wp P Q a w)
    (hQ : ∀ e a' w', Q e a' w' → e = .normal ∧ J P f k a' w' R) : J P f (.code c :: k) a w R := by
  intro b cs hb hk
  obtain ⟨e, a', w', hq, harr⟩ := h b k cs
  obtain ⟨rfl, hJ⟩ := hQ e a' w' hq
  obtain ⟨e, w'', fr, hR, hc, hrest⟩ := hJ b cs hb hk
  exact ⟨e, w'', fr, hR, Comes.of_steps harr hc, hrest⟩

/-- at the end of a region, and where it panics -/
def QQ (P : Program) (f : Nat) (R : Ending → World → Prop) (k : List Item) : Exit → Act → World → Prop
  | .normal, a, w => J P f k a w R
  | .panic ch, a, w => a.defers = [] ∧ (∃ fn, P.funcs[f]? = some fn) ∧ R (.panicked ch) w
  | _, _, _ => False
theorem J_of_wpE {P : Program} {f : Nat} {c : Code} {k : List Item} {a : Act} {w : World} {R : Ending → World → Prop} {Q : Exit → Act → World → Prop} (h : c.wp P Q a w)
    (hQ : ∀ e a' w', Q e a' w' → QQ P f R k e a' w') : J P f (.code c :: k) a w R := by
  intro b cs hb hk
  obtain ⟨e, a', w', hq, harr⟩ := h b k cs
  have hq' := hQ e a' w' hq
  cases e with
  | normal =>
    obtain ⟨e, w'', fr, hR, hc, hrest⟩ := hq' b cs hb hk
    exact ⟨e, w'', fr, hR, Comes.of_steps harr hc, hrest⟩
  | panic ch =>
    obtain ⟨todo, hs⟩ := harr
    obtain ⟨hd, ⟨fn, hfn⟩, hR⟩ := hq'
    exact ⟨.panicked ch, w', _, hR, hs, hb, rfl, rfl, hd, fn, by rw [← hfn]; exact congrArg (P.funcs[·]?) hb⟩
  | _ => exact hq'.elim

/-! ### a region that draws its order: quiet operations first, loud ones (calls, stores) where they alone may come up -/
/-- may this operation write, or call? -/
def loud : Op → Bool
  | .move .. | .assign .. | .pick .. | .build .. | .load .. | .nilCheck .. | .binOp .. | .unOp .. | .convert .. | .makeFunc .. | .slice .. | .fieldAddr .. | .field .. | .indexAddr .. | .index .. | .extract .. | .sliceToArrayPointer .. => false
  | .call ⟨.builtin .len, _, _⟩ | .call ⟨.builtin .cap, _, _⟩ | .call ⟨.builtin .min, _, _⟩ | .call ⟨.builtin .max, _, _⟩ => false
  | _ => true
section
variable (P : Program) (E : List PanicEntry → List Deferred → World → Prop)
def Oper.upN (o : Oper) (a : Act) (next : Act → World → Prop) : Result Next → Prop
  | .ok (.value v) w' => next (a.put o.dst v) w'
  | .ok .skip w' => next (a.put o.dst undef) w'
  | .ok (.enter f args) w' => Calls P f args w' fun e w'' => (∃ v, e = .returned v ∧ next (a.put o.dst v) w'') ∨ (∃ ch, e = .panicked ch ∧ E ch a.defers w'')
  | _ => False
def Oper.wpN (o : Oper) (a : Act) (w : World) (next : Act → World → Prop) : Prop := Oper.upN P E o a next ((execOp a.eval o).run P w)
def stepN (ops : Array Oper) (i : Nat) (K : Act → World → Prop) (a : Act) (w : World) : Prop :=
  match ops[i]? with
  | none => False
  | some o => if Region.wanted o (yielded ops a.tmps) then Oper.wpN P E o a w K else K (a.put o.dst undef) w
/-- whatever order is picked; what is in S keeps the class -/
def wpS (ops : Array Oper) (C : World → Prop) (S : List Nat) (Q : Act → World → Prop) : Nat → Array Bool → Act → World → Prop
  | 0, listed, a, w => Region.ready .any ops listed = [] ∧ Q a w
  | fuel + 1, listed, a, w => (Region.ready .any ops listed = [] → Q a w) ∧
    ∀ i ∈ Region.ready .any ops listed, stepN P E ops i (fun a' w' => (i ∈ S → C w') ∧ wpS ops C S Q fuel (listed.setIfInBounds i true) a' w') a w
end
theorem put_defers (a : Act) (d : Option Nat) (v : Value) : (a.put d v).defers = a.defers := by cases d <;> rfl
section
variable {P : Program} {E : List PanicEntry → List Deferred → World → Prop} {ops : Array Oper} {C : World → Prop} {S : List Nat} {Q : Act → World → Prop}
theorem Oper.wpN_mono {o : Oper} {a : Act} {w : World} {K K' : Act → World → Prop} (h : ∀ a w, K a w → K' a w) (hh : Oper.wpN P E o a w K) : Oper.wpN P E o a w K' := by
  unfold Oper.wpN at *
  generalize (execOp a.eval o).run P w = r at *
  cases r with
  | ok n w' =>
    cases n <;> simp only [Oper.upN] at hh ⊢ <;>
      first
        | exact h _ _ hh
        | exact Calls.mono hh (fun e w'' h' => h'.imp (fun ⟨v, he, hk⟩ => ⟨v, he, h _ _ hk⟩) id)
  | halt x w' => cases x <;> simp only [Oper.upN] at hh
theorem stepN_mono {i : Nat} {a : Act} {w : World} {K K' : Act → World → Prop} (h : ∀ a w, K a w → K' a w) (hh : stepN P E ops i K a w) : stepN P E ops i K' a w := by
  unfold stepN at *
  split
  · rename_i ho; simp only [ho] at hh
  · rename_i o ho
    simp only [ho] at hh
    split
    · rename_i hw; simp only [hw, if_true] at hh; exact Oper.wpN_mono h hh
    · rename_i hw; simp only [hw] at hh; exact h _ _ hh
theorem Oper.wp_of_N {o : Oper} {a : Act} {w : World} {K : Act → World → Prop} {Q' : Exit → Act → World → Prop} (hE : ∀ ch (a : Act) w, E ch a.defers w → Q' (.panic ch) a w) (hh : Oper.wpN P E o a w K) : o.wp P a w K Q' := by
  unfold Oper.wpN at hh
  unfold Oper.wp
  generalize (execOp a.eval o).run P w = r at *
  cases r with
  | ok n w' =>
    cases n <;> simp only [Oper.upN] at hh <;> simp only [Oper.upon] <;>
      first
        | exact hh
        | exact Calls.mono hh (fun e w'' h' => by rcases h' with ⟨v, he, hk⟩ | ⟨ch, he, hk⟩; (subst he; exact hk); (subst he; exact hE _ _ _ hk))
  | halt x w' => simp only [Oper.upN] at hh
theorem wpOp_of_stepN {i : Nat} {a : Act} {w : World} {K : Act → World → Prop} {Q' : Exit → Act → World → Prop} (hE : ∀ ch (a : Act) w, E ch a.defers w → Q' (.panic ch) a w) (hh : stepN P E ops i K a w) : wpOp P ops Q' i K a w := by
  unfold stepN at hh
  unfold wpOp
  split
  · rename_i ho; simp only [ho] at hh
  · rename_i o ho
    simp only [ho] at hh
    split
    · rename_i hw; simp only [hw, if_true] at hh; exact .inl (Oper.wp_of_N hE hh)
    · rename_i hw; simp only [hw] at hh; exact hh
theorem wpAny_of_S {Q' : Exit → Act → World → Prop} (hE : ∀ ch (a : Act) w, E ch a.defers w → Q' (.panic ch) a w) (hQ : ∀ a w, Q a w → Q' .normal a w) : ∀ (fuel : Nat) (listed : Array Bool) (a : Act) (w : World), wpS P E ops C S Q fuel listed a w → wpAny P .any ops Q' fuel listed a w
  | 0, _, _, _, h => ⟨h.1, hQ _ _ h.2⟩
  | fuel + 1, _, _, _, h => ⟨fun h0 => hQ _ _ (h.1 h0), fun i hi => wpOp_of_stepN hE (stepN_mono (fun a' w' h' => wpAny_of_S hE hQ fuel _ a' w' h'.2) (h.2 i hi))⟩
theorem wpS_weak {C' : World → Prop} {S' : List Nat} : ∀ (fuel : Nat) (listed : Array Bool) (a : Act) (w : World), (∀ j, j ∈ S → listed.getD j true = false → j ∈ S' ∧ ∀ w, C' w → C w) →
    wpS P E ops C' S' Q fuel listed a w → wpS P E ops C S Q fuel listed a w
  | 0, _, _, _, _, h => h
  | fuel + 1, listed, _, _, hS, h => ⟨h.1, fun i hi => stepN_mono (fun a' w' h' => ⟨fun hiS => by
      have h2 := hS i hiS (mem_ready.1 hi).1
      exact h2.2 _ (h'.1 h2.1), wpS_weak fuel _ a' w' (fun j hj hl => by
        refine hS j hj ?_
        by_cases hij : i = j
        · subst hij; exact (mem_ready.1 hi).1
        · rwa [getD_set_ne true hij] at hl) h'.2⟩) (h.2 i hi)⟩

/-- in state a, in every world of the class, operation o yields v and leaves the world alone -/
def Stays (P : Program) (ops : Array Oper) (C : World → Prop) (o : Oper) (v : Value) (a : Act) : Prop :=
  (Region.wanted o (yielded ops a.tmps) = true ∧ ∀ w, C w → (execOp a.eval o).run P w = .ok (.value v) w) ∨ (Region.wanted o (yielded ops a.tmps) = false ∧ v = undef)
theorem Stays.step {i : Nat} {o : Oper} {v : Value} {a : Act} {w : World} (hi : ops[i]? = some o) (hw : C w) (hy : Stays P ops C o v a) {K : Act → World → Prop} (h : K (a.put o.dst v) w) : stepN P E ops i K a w := by
  unfold stepN
  simp only [hi]
  rcases hy with ⟨h1, h2⟩ | ⟨h1, rfl⟩
  · simp only [h1, if_true, Oper.wpN, h2 w hw, Oper.upN]; exact h
  · simp only [h1, Bool.false_eq_true, if_false]; exact h
theorem Stays.same {o : Oper} {v : Value} {a a' : Act} (hy : Stays P ops C o v a) (he : execOp a'.eval o = execOp a.eval o)
    (hw : Region.wanted o (yielded ops a'.tmps) = Region.wanted o (yielded ops a.tmps)) : Stays P ops C o v a' := by
  unfold Stays at *
  rw [he, hw]
  exact hy
theorem upN_put {oi oj : Oper} {v : Value} {a : Act} {K : Act → World → Prop} (h2 : ∀ d, oi.dst = some d → oj.dst ≠ some d)
    (keep : ∀ u, Stays P ops C oi v (a.put oj.dst u)) (r : Result Next) (h : Oper.upN P E oj (a.put oi.dst v) K r) :
    Oper.upN P E oj a (fun a' w' => Stays P ops C oi v a' ∧ K (a'.put oi.dst v) w') r := by
  cases r with
  | ok n w' =>
    cases n <;> simp only [Oper.upN] at h ⊢ <;>
      first
        | exact ⟨keep _, by rw [← Act.put_comm a v _ h2]; exact h⟩
        | exact Calls.mono h (fun e w'' h' => h'.imp (fun ⟨u, he, hk⟩ => ⟨u, he, keep u, by rw [← Act.put_comm a v u h2]; exact hk⟩) (fun ⟨ch, he, hk⟩ => ⟨ch, he, by rw [put_defers] at hk; exact hk⟩))
  | halt x w' => cases x <;> simp only [Oper.upN] at h
theorem stepN_put {j : Nat} {oi oj : Oper} {v : Value} {w : World} (hj : ops[j]? = some oj) (hap : oi.apart ops oj = true)
    (hsi : ∀ cs b, oi.op ≠ .select cs b) (hsj : ∀ cs b, oj.op ≠ .select cs b) {K : Act → World → Prop} {a : Act}
    (hy : Stays P ops C oi v a) (h : stepN P E ops j K (a.put oi.dst v) w) :
    stepN P E ops j (fun a' w' => Stays P ops C oi v a' ∧ K (a'.put oi.dst v) w') a w := by
  obtain ⟨h1, h2, h3⟩ := Oper.apart_spec hap
  have keep : ∀ (a : Act), Stays P ops C oi v a → ∀ u, Stays P ops C oi v (a.put oj.dst u) := fun a hy u =>
    hy.same (execOp_put oi hsi a oj.dst u h3) (wanted_put oi a oj.dst u h3)
  unfold stepN at *
  simp only [hj] at *
  rw [wanted_put oj a oi.dst v h1] at h
  split
  · rename_i hw
    simp only [hw, if_true, Oper.wpN] at h ⊢
    rw [execOp_put oj hsj a oi.dst v h1] at h
    exact upN_put h2 (keep a hy) _ h
  · rename_i hw
    simp only [hw] at h
    exact ⟨keep a hy _, by rw [← Act.put_comm a v undef h2]; exact h⟩

/-- operations that don't look at the world -/
def calm : Op → Bool
  | .move .. | .assign .. | .extract .. => true
  | _ => false
def calmAt (ops : Array Oper) (k : Nat) : Bool :=
  match ops[k]? with
  | none => false
  | some o => calm o.op
theorem calm_run {o : Oper} (h : calm o.op = true) (ρ : Operand → Value) : (∃ v, ∀ w, (execOp ρ o).run P w = .ok (.value v) w) ∨ (∀ w, ∃ x w', (execOp ρ o).run P w = .halt x w') := by
  obtain ⟨dst, op, type, pos, after, guard⟩ := o
  cases op <;> simp only [calm, Bool.false_eq_true] at h
  case move x => exact .inl ⟨ρ x, fun w => by simp [execOp]⟩
  case assign x => exact .inl ⟨ρ x, fun w => by simp [execOp]⟩
  case extract x i =>
    cases hx : ρ x with
    | tuple vs =>
      cases hi : vs[i]? with
      | some v => exact .inl ⟨v, fun w => by simp [execOp, Instr.extract, hx, hi]⟩
      | none => exact .inr fun w => by simp [execOp, Instr.extract, hx, hi]
    | _ => exact .inr fun w => by simp [execOp, Instr.extract, hx]
theorem stepN_calm {j : Nat} {oj : Oper} (hj : ops[j]? = some oj) (hc : calm oj.op = true) {K : Act → World → Prop} {a : Act} {w : World} (h : stepN P E ops j K a w) : stepN P E ops j (fun a' w' => w' = w ∧ K a' w') a w := by
  unfold stepN at *
  simp only [hj] at *
  split
  · rename_i hw
    simp only [hw, if_true, Oper.wpN] at h ⊢
    rcases calm_run (P := P) hc a.eval with ⟨v, hv⟩ | hv
    · rw [hv w] at h ⊢; exact ⟨rfl, h⟩
    · obtain ⟨x, w', hx⟩ := hv w
      rw [hx] at h
      cases x <;> simp only [Oper.upN] at h
  · rename_i hw
    simp only [hw] at h
    exact ⟨trivial, h⟩
theorem Stays.calm {o : Oper} {v : Value} {a : Act} {w : World} (hc : calm o.op = true) (hw : C w) (h : Stays P ops C o v a) : Stays P ops (fun _ => True) o v a := by
  rcases h with ⟨h1, h2⟩ | h
  · refine .inl ⟨h1, fun w' _ => ?_⟩
    rcases calm_run (P := P) hc a.eval with ⟨u, hu⟩ | hv
    · have := h2 w hw
      rw [hu w] at this
      cases this
      exact hu w'
    · obtain ⟨x, w'', hx⟩ := hv w
      have := h2 w hw
      rw [hx] at this; cases this
  · exact .inr h

/-- what came up before: behind each operation all that it waits for; and what is not in S only behind all of S -/
structure Sofar (ops : Array Oper) (S : List Nat) (listed : Array Bool) : Prop where
  down : ∀ j oj, ops[j]? = some oj → listed.getD j false = true → ∀ e ∈ oj.after, Region.binds .any e = true → listed.getD e.on false = true
  last : ∀ k, k ∉ S → calmAt ops k = false → listed.getD k false = true → ∀ s ∈ S, listed.getD s false = true
def gateB (ops : Array Oper) (S : List Nat) (k : Nat) : Bool :=
  match ops[k]? with
  | none => true
  | some o => o.after.any (fun e => Region.binds .any e && (!S.contains e.on && !calmAt ops e.on)) ||
    S.all fun s => o.after.any (fun e => Region.binds .any e && e.on == s) || S.any fun t => Nat.blt s t && (match ops[t]? with
      | none => false
      | some ot => ot.after.any fun e => Region.binds .any e && e.on == s)
def Gate (ops : Array Oper) (S : List Nat) : Prop := ∀ k, k ∉ S → calmAt ops k = false → gateB ops S k = true
theorem Sofar.gate {listed : Array Bool} {S : List Nat} (h : Sofar ops S listed) (hg : Gate ops S) (hS : ∀ s ∈ S, s < ops.size) {k : Nat} (hk : k ∉ S) (hkc : calmAt ops k = false) (hr : k ∈ Region.ready .any ops listed) : ∀ s ∈ S, listed.getD s false = true := by
  obtain ⟨hun, o, ho, hall⟩ := mem_ready.1 hr
  have hb := hg k hk hkc
  unfold gateB at hb
  simp only [ho, Bool.or_eq_true, Array.any_eq_true', Bool.and_eq_true, Bool.not_eq_true', List.all_eq_true, beq_iff_eq, List.any_eq_true, Nat.blt_eq] at hb
  rcases hb with ⟨e, he, hb, hnot, hcal⟩ | hb
  · exact h.last e.on (by simpa using hnot) hcal (hall e he hb)
  · have key : ∀ m s, s ∈ S → ops.size - s = m → listed.getD s false = true := by
      intro m
      induction m using Nat.strongRecOn with
      | _ m ih =>
        intro s hs hm
        have hlt := hS s hs
        rcases hb s hs with ⟨e, he, hbe, rfl⟩ | ⟨t, ht, hst, hot⟩
        · exact hall e he hbe
        · have htl := ih (ops.size - t) (by have := hS t ht; omega) t ht rfl
          cases hopt : ops[t]? with
          | none => simp [hopt] at hot
          | some ot =>
            simp only [hopt, Array.any_eq_true', Bool.and_eq_true, beq_iff_eq] at hot
            obtain ⟨e, he, hbe, rfl⟩ := hot
            exact h.down t ot hopt htl e he hbe
    exact fun s hs => key _ s hs rfl
theorem Sofar.set {listed : Array Bool} {S : List Nat} (h : Sofar ops S listed) (hg : Gate ops S) (hS : ∀ s ∈ S, s < ops.size) {i : Nat} (hi : i ∈ Region.ready .any ops listed) : Sofar ops S (listed.setIfInBounds i true) := by
  obtain ⟨hun, o, ho, hall⟩ := mem_ready.1 hi
  refine ⟨fun j oj hj hl e he hb => ?_, fun k hk hkc hl s hs => ?_⟩
  · by_cases hij : i = j
    · subst hij
      rw [ho] at hj; cases hj
      exact getD_set_true (hall e he hb)
    · rw [getD_set_ne false hij] at hl
      exact getD_set_true (h.down j oj hj hl e he hb)
  · by_cases hik : i = k
    · subst hik
      exact getD_set_true (h.gate hg hS hk hkc hi s hs)
    · rw [getD_set_ne false hik] at hl
      exact getD_set_true (h.last k hk hkc hl s hs)

/-- a quiet operation that may come up now may be taken first -/
theorem wpS_first {i : Nat} {oi : Oper} {v : Value} (hi : ops[i]? = some oi) (hsel : ∀ (j : Nat) (o : Oper) cs b, ops[j]? = some o → o.op ≠ .select cs b) (hg : Gate ops S) (hS : ∀ s ∈ S, s < ops.size) (hiS : i ∈ S) :
    ∀ (fuel : Nat) (listed : Array Bool) (a : Act) (w : World), Sofar ops S listed →
      (∀ j oj, ops[j]? = some oj → j ≠ i → listed.getD j true = false → (∀ e ∈ oj.after, Region.binds .any e = true → e.on ≠ i) → oi.apart ops oj = true) →
      i ∈ Region.ready .any ops listed → Stays P ops C oi v a → C w →
      wpS P E ops C S Q fuel (listed.setIfInBounds i true) (a.put oi.dst v) w → wpS P E ops C S Q (fuel + 1) listed a w := by
  intro fuel
  induction fuel with
  | zero =>
    intro listed a w _ _ hr hy hw H
    refine ⟨fun h => (by rw [h] at hr; cases hr), fun j hj => ?_⟩
    by_cases hji : j = i
    · subst hji; exact hy.step hi hw ⟨fun _ => hw, H⟩
    · have := ready_mono hj hji
      rw [H.1] at this
      cases this
  | succ fuel ih =>
    intro listed a w hG hfree hr hy hw H
    refine ⟨fun h => (by rw [h] at hr; cases hr), fun j hj => ?_⟩
    by_cases hji : j = i
    · subst hji; exact hy.step hi hw ⟨fun _ => hw, H⟩
    · have h1 := H.2 j (ready_mono hj hji)
      obtain ⟨hjun, oj, hoj, hall⟩ := mem_ready.1 hj
      have hiun : listed.getD i false = false := by
        have h0 := (mem_ready.1 hr).1
        rcases Nat.lt_or_ge i listed.size with h' | h'
        · simp [h'] at h0 ⊢; exact h0
        · simp [Array.getElem?_eq_none h']
      have hnot : ∀ e ∈ oj.after, Region.binds .any e = true → e.on ≠ i := fun e he hb heq => by
        have h1 := hall e he hb
        rw [heq, hiun] at h1; cases h1
      have h2 := stepN_put hoj (hfree j oj hoj hji hjun hnot) (fun cs b => hsel i oi cs b hi) (fun cs b => hsel j oj cs b hoj) hy h1
      have hfree' : ∀ k ok, ops[k]? = some ok → k ≠ i → (listed.setIfInBounds j true).getD k true = false →
          (∀ e ∈ ok.after, Region.binds .any e = true → e.on ≠ i) → oi.apart ops ok = true := fun k ok hk hki hun hno => by
        refine hfree k ok hk hki ?_ hno
        by_cases hjk : j = k
        · subst hjk; exact hjun
        · rw [getD_set_ne true hjk] at hun; exact hun
      have hor : j ∈ S ∨ calm oj.op = true := by
        rcases Classical.em (j ∈ S) with h | h
        · exact .inl h
        · cases hcj : calm oj.op with
          | true => exact .inr rfl
          | false =>
            have := hG.gate hg hS h (by unfold calmAt; simp only [hoj]; exact hcj) hj i hiS
            rw [hiun] at this; cases this
      have fin : ∀ a' w', C w' → Stays P ops C oi v a' → (((j ∈ S → C w') ∧ wpS P E ops C S Q fuel ((listed.setIfInBounds i true).setIfInBounds j true) (a'.put oi.dst v) w')) →
          ((j ∈ S → C w') ∧ wpS P E ops C S Q (fuel + 1) (listed.setIfInBounds j true) a' w') := fun a' w' hcw h3 h45 => ⟨fun _ => hcw, by
        refine ih (listed.setIfInBounds j true) a' w' (hG.set hg hS hj) hfree' (ready_mono hr (Ne.symm hji)) h3 hcw ?_
        rw [Array.setIfInBounds_comm _ _ hji]
        exact h45.2⟩
      rcases hor with hjS | hjc
      · exact stepN_mono (fun a' w' ⟨h3, h4, h5⟩ => fin a' w' (h4 hjS) h3 ⟨h4, h5⟩) h2
      · exact stepN_mono (fun a' w' ⟨hww, h3, h45⟩ => fin a' w' (hww ▸ hw) h3 h45) (stepN_calm hoj hjc h2)
/-- one that does not look at the world: always -/
theorem wpS_calm {i : Nat} {oi : Oper} {v : Value} (hi : ops[i]? = some oi) (hsel : ∀ (j : Nat) (o : Oper) cs b, ops[j]? = some o → o.op ≠ .select cs b) (hiS : i ∉ S) :
    ∀ (fuel : Nat) (listed : Array Bool) (a : Act) (w : World),
      (∀ j oj, ops[j]? = some oj → j ≠ i → listed.getD j true = false → (∀ e ∈ oj.after, Region.binds .any e = true → e.on ≠ i) → oi.apart ops oj = true) →
      i ∈ Region.ready .any ops listed → Stays P ops (fun _ => True) oi v a →
      wpS P E ops C S Q fuel (listed.setIfInBounds i true) (a.put oi.dst v) w → wpS P E ops C S Q (fuel + 1) listed a w := by
  intro fuel
  induction fuel with
  | zero =>
    intro listed a w _ hr hy H
    refine ⟨fun h => (by rw [h] at hr; cases hr), fun j hj => ?_⟩
    by_cases hji : j = i
    · subst hji; exact hy.step hi trivial ⟨fun h => absurd h hiS, H⟩
    · have := ready_mono hj hji
      rw [H.1] at this
      cases this
  | succ fuel ih =>
    intro listed a w hfree hr hy H
    refine ⟨fun h => (by rw [h] at hr; cases hr), fun j hj => ?_⟩
    by_cases hji : j = i
    · subst hji; exact hy.step hi trivial ⟨fun h => absurd h hiS, H⟩
    · have h1 := H.2 j (ready_mono hj hji)
      obtain ⟨hjun, oj, hoj, hall⟩ := mem_ready.1 hj
      have hiun : listed.getD i false = false := by
        have h0 := (mem_ready.1 hr).1
        rcases Nat.lt_or_ge i listed.size with h' | h'
        · simp [h'] at h0 ⊢; exact h0
        · simp [Array.getElem?_eq_none h']
      have hnot : ∀ e ∈ oj.after, Region.binds .any e = true → e.on ≠ i := fun e he hb heq => by
        have h1 := hall e he hb
        rw [heq, hiun] at h1; cases h1
      have h2 := stepN_put hoj (hfree j oj hoj hji hjun hnot) (fun cs b => hsel i oi cs b hi) (fun cs b => hsel j oj cs b hoj) hy h1
      have hfree' : ∀ k ok, ops[k]? = some ok → k ≠ i → (listed.setIfInBounds j true).getD k true = false →
          (∀ e ∈ ok.after, Region.binds .any e = true → e.on ≠ i) → oi.apart ops ok = true := fun k ok hk hki hun hno => by
        refine hfree k ok hk hki ?_ hno
        by_cases hjk : j = k
        · subst hjk; exact hjun
        · rw [getD_set_ne true hjk] at hun; exact hun
      refine stepN_mono (fun a' w' ⟨h3, h4, h5⟩ => ⟨h4, ih (listed.setIfInBounds j true) a' w' hfree' (ready_mono hr (Ne.symm hji)) h3 ?_⟩) h2
      rw [Array.setIfInBounds_comm _ _ hji]
      exact h5

/-! the walk in a given order; 'sy': how many are left behind an operation that all others were waited for by -/
section
variable (P : Program) (E : List PanicEntry → List Deferred → World → Prop) (ops : Array Oper) (sy : List Nat) (K : (World → Prop) → Act → Prop)
def goN (next : (World → Prop) → Act → Prop) (m : Nat) (o : Oper) (C : World → Prop) (a : Act) : Prop :=
  (loud o.op = false ∧ ∃ v, (∀ w, C w → (execOp a.eval o).run P w = .ok (.value v) w) ∧ next C (a.put o.dst v)) ∨
  (loud o.op = true ∧ ∀ w, C w → Oper.wpN P E o a w fun a' w' => ∃ C' : World → Prop, C' w' ∧ ((∀ w, C' w → C w) ∨ sy.contains m = true) ∧ next C' a')
def walkN : List Oper → (World → Prop) → Act → Prop
  | [], C, a => K C a
  | o :: rest, C, a => if Region.wanted o (yielded ops a.tmps) then goN P E sy (walkN rest) rest.length o C a else walkN rest C (a.put o.dst undef)
end
/-- the operations before the next such one -/
def till (ops : Array Oper) (sy : List Nat) : List Nat → List Nat → List Nat
  | done, [] => done.filter fun k => !calmAt ops k
  | done, i :: st => if sy.contains st.length then done.filter fun k => !calmAt ops k else till ops sy (i :: done) st
def ordB (ops : Array Oper) (sy : List Nat) : List Nat → List Nat → Array Bool → Bool
  | done, [], listed => (Region.ready .any ops listed).isEmpty && (List.range ops.size).all done.contains
  | done, i :: st, listed =>
    match ops[i]? with
    | none => false
    | some o =>
      (if sy.contains st.length then loud o.op && (List.range ops.size).all (fun k => done.contains k || (calmAt ops k || gateB ops (done.filter fun k => !calmAt ops k) k)) else true) &&
      (if loud o.op then Region.ready .any ops listed == [i] else (Region.ready .any ops listed).contains i && Region.free .any ops listed i) &&
      ordB ops sy (i :: done) st (listed.setIfInBounds i true)
theorem getD_conf {b : Array Bool} {j : Nat} (h : b.getD j true = false) (h' : b.getD j false = true) : False := by
  rw [Array.getD_eq_getD_getElem?] at h h'
  cases hb : b[j]? with
  | none => rw [hb] at h'; simp at h'
  | some x => rw [hb] at h h'; simp at h h'; rw [h] at h'; cases h'
theorem mem_noncalm {ops : Array Oper} {done : List Nat} {i : Nat} : i ∈ (done.filter fun k => !calmAt ops k) ↔ i ∈ done ∧ calmAt ops i = false := by
  rw [List.mem_filter]; simp
theorem till_sub {ops : Array Oper} {sy : List Nat} : ∀ (st done : List Nat) (i : Nat), i ∈ done → calmAt ops i = false → i ∈ till ops sy done st
  | [], _, _, h, hc => mem_noncalm.2 ⟨h, hc⟩
  | j :: st, done, i, h, hc => by
    simp only [till]
    split
    · exact mem_noncalm.2 ⟨h, hc⟩
    · exact till_sub st (j :: done) i (List.mem_cons_of_mem _ h) hc
theorem till_calm {ops : Array Oper} {sy : List Nat} : ∀ (st done : List Nat) (i : Nat), i ∈ till ops sy done st → calmAt ops i = false
  | [], _, _, h => (mem_noncalm.1 h).2
  | j :: st, done, i, h => by
    simp only [till] at h
    split at h
    · exact (mem_noncalm.1 h).2
    · exact till_calm st (j :: done) i h
theorem gate_oob {ops : Array Oper} {S : List Nat} {k : Nat} (h : ops.size ≤ k) : gateB ops S k = true := by
  simp [gateB, Array.getElem?_eq_none h]
theorem ordB_gate {sy : List Nat} : ∀ (st done : List Nat) (listed : Array Bool), ordB ops sy done st listed = true → (∀ s ∈ done, s < ops.size) → Gate ops (till ops sy done st) ∧ ∀ s ∈ till ops sy done st, s < ops.size
  | [], done, listed, h, hs => by
    simp only [ordB, Bool.and_eq_true, List.all_eq_true, List.mem_range] at h
    refine ⟨fun k hk hkc => ?_, fun s h' => hs s (mem_noncalm.1 h').1⟩
    rcases Nat.lt_or_ge k ops.size with hlt | hge
    · exact absurd (mem_noncalm.2 ⟨show k ∈ done by simpa using h.2 k hlt, hkc⟩) hk
    · exact gate_oob hge
  | i :: st, done, listed, h, hs => by
    simp only [ordB] at h
    cases ho : ops[i]? with
    | none => simp [ho] at h
    | some o =>
      simp only [ho, Bool.and_eq_true] at h
      have hi : i < ops.size := (Array.getElem?_eq_some_iff.1 ho).1
      simp only [till]
      split
      · rename_i hc
        simp only [hc, if_true, Bool.and_eq_true, List.all_eq_true, List.mem_range, Bool.or_eq_true] at h
        refine ⟨fun k hk hkc => ?_, fun s h' => hs s (mem_noncalm.1 h').1⟩
        rcases Nat.lt_or_ge k ops.size with hlt | hge
        · have h1 : done.contains k = true ∨ calmAt ops k = true ∨ gateB ops (done.filter fun k => !calmAt ops k) k = true := h.1.1.2 k hlt
          rcases h1 with h1 | h1 | h1
          · exact absurd (mem_noncalm.2 ⟨by simpa using h1, hkc⟩) hk
          · rw [hkc] at h1; cases h1
          · exact h1
        · exact gate_oob hge
      · exact ordB_gate st (i :: done) _ h.2 (fun s hs' => (List.mem_cons.1 hs').elim (fun e => e ▸ hi) (hs s))
theorem wpS_walk {sy : List Nat} {K : (World → Prop) → Act → Prop} (hsel : Region.noSelect ops = true) : ∀ (st done : List Nat) (l : List Oper) (listed : Array Bool) (C : World → Prop) (a : Act),
    l.map some = st.map (fun i => ops[i]?) → ordB ops sy done st listed = true → (∀ s ∈ done, s < ops.size) → (∀ j, listed.getD j false = true ↔ j ∈ done) → (∀ S, (∀ s ∈ done, calmAt ops s = false → s ∈ S) → Sofar ops S listed) → walkN P E ops sy K l C a →
    ∀ w, C w → wpS P E ops C (till ops sy done st) (fun a w => ∃ C' : World → Prop, C' w ∧ K C' a) st.length listed a w
  | [], done, l, listed, C, a, hl, hB, hs, hd, hG, h, w, hw => by
    have : l = [] := by simpa using hl
    subst this
    simp only [ordB, Bool.and_eq_true, List.isEmpty_iff] at hB
    exact ⟨hB.1, C, hw, h⟩
  | i :: st, done, [], listed, C, a, hl, hB, hs, hd, hG, h, w, hw => by simp at hl
  | i :: st, done, o :: l, listed, C, a, hl, hB, hs, hd, hG, h, w, hw => by
    obtain ⟨hgate, hsz⟩ := ordB_gate (i :: st) done listed hB hs
    simp only [List.map_cons, List.cons.injEq] at hl
    have ho : ops[i]? = some o := hl.1.symm
    have hlen : l.length = st.length := by simpa using congrArg List.length hl.2
    have hi : i < ops.size := (Array.getElem?_eq_some_iff.1 ho).1
    have hB0 := hB
    simp only [ordB, ho, Bool.and_eq_true] at hB
    obtain ⟨⟨hB1, hB2⟩, hB3⟩ := hB
    have hrdy : i ∈ Region.ready .any ops listed := by
      split at hB2
      · rw [beq_iff_eq] at hB2; rw [hB2]; simp
      · rw [Bool.and_eq_true] at hB2; simpa using hB2.1
    have hs' : ∀ s ∈ i :: done, s < ops.size := fun s hs' => (List.mem_cons.1 hs').elim (fun e => e ▸ hi) (hs s)
    have hiun : listed.getD i true = false := (mem_ready.1 hrdy).1
    have hlt : i < listed.size := by
      rcases Nat.lt_or_ge i listed.size with h' | h'
      · exact h'
      · simp [Array.getElem?_eq_none h'] at hiun
    have hd' : ∀ j, (listed.setIfInBounds i true).getD j false = true ↔ j ∈ i :: done := fun j => by
      by_cases hij : i = j
      · subst hij
        simp [hlt]
      · rw [getD_set_ne false hij, hd j]
        simp [Ne.symm hij]
    have hG' : ∀ S, (∀ s ∈ i :: done, calmAt ops s = false → s ∈ S) → Sofar ops S (listed.setIfInBounds i true) := fun S hS => by
      refine ⟨fun j oj hj hl e he hb => ?_, fun k hk hkc hl => absurd (hS k ((hd' k).1 hl) hkc) hk⟩
      by_cases hij : i = j
      · subst hij
        rw [ho] at hj; cases hj
        obtain ⟨_, o', ho', hall⟩ := mem_ready.1 hrdy
        rw [ho] at ho'; cases ho'
        exact getD_set_true (hall e he hb)
      · rw [getD_set_ne false hij] at hl
        exact getD_set_true ((hG S fun s hs => hS s (List.mem_cons_of_mem _ hs)).down j oj hj hl e he hb)
    have IH := fun (C : World → Prop) (a : Act) (h : walkN P E ops sy K l C a) => wpS_walk hsel st (i :: done) l (listed.setIfInBounds i true) C a hl.2 hB3 hs' hd' hG' h
    have hunl : ∀ j, (listed.setIfInBounds i true).getD j true = false → j ∉ i :: done := fun j h hj => getD_conf h ((hd' j).2 hj)
    simp only [walkN] at h
    have hpure : ∀ v, loud o.op = false → Stays P ops C o v a → walkN P E ops sy K l C (a.put o.dst v) → wpS P E ops C (till ops sy done (i :: st)) (fun a w => ∃ C' : World → Prop, C' w ∧ K C' a) (st.length + 1) listed a w := by
      intro v hlo hst hn
      have hnsy : sy.contains st.length = false := by
        cases hc : sy.contains st.length with
        | false => rfl
        | true => rw [hc] at hB1; simp [hlo] at hB1
      have htl : till ops sy done (i :: st) = till ops sy (i :: done) st := by simp only [till]; rw [hnsy]; simp
      simp only [hlo, Bool.false_eq_true, if_false, Bool.and_eq_true] at hB2
      cases hcal : calm o.op with
      | false =>
        refine wpS_first ho (Region.noSelect_spec hsel) hgate hsz (by rw [htl]; exact till_sub _ _ _ (List.mem_cons_self ..) (by unfold calmAt; simp only [ho]; exact hcal)) st.length listed a w (hG _ fun s hs hc => till_sub _ _ _ hs hc) (Region.free_spec ho hB2.2) hrdy hst hw ?_
        rw [htl]
        exact IH C _ hn w hw
      | true =>
        refine wpS_calm ho (Region.noSelect_spec hsel) (fun h => by have h' := till_calm _ _ _ h; unfold calmAt at h'; simp only [ho, hcal] at h'; cases h') st.length listed a w (Region.free_spec ho hB2.2) hrdy (hst.calm hcal hw) ?_
        rw [htl]
        exact IH C _ hn w hw
    have hloud : loud o.op = true → ∀ (a' : Act) (w' : World) (C' : World → Prop), C' w' → ((∀ w, C' w → C w) ∨ sy.contains st.length = true) → walkN P E ops sy K l C' a' →
        ((i ∈ till ops sy done (i :: st) → C w') ∧ wpS P E ops C (till ops sy done (i :: st)) (fun a w => ∃ C' : World → Prop, C' w ∧ K C' a) st.length (listed.setIfInBounds i true) a' w') := by
      intro hlo a' w' C' hw' hor hn
      have h1 := IH C' a' hn w' hw'
      cases hc : sy.contains st.length with
      | true =>
        have htl : till ops sy done (i :: st) = done.filter fun k => !calmAt ops k := by simp only [till]; rw [hc]; simp
        rw [htl]
        refine ⟨fun hid => ?_, wpS_weak _ _ _ _ (fun j hj hu => absurd (List.mem_cons_of_mem _ (mem_noncalm.1 hj).1) (hunl j hu)) h1⟩
        exact (getD_conf hiun ((hd i).2 (mem_noncalm.1 hid).1)).elim
      | false =>
        have hsub := hor.resolve_right (by rw [hc]; simp)
        have htl : till ops sy done (i :: st) = till ops sy (i :: done) st := by simp only [till]; rw [hc]; simp
        rw [htl]
        exact ⟨fun _ => hsub _ hw', wpS_weak _ _ _ _ (fun j hj _ => ⟨hj, hsub⟩) h1⟩
    by_cases hwt : Region.wanted o (yielded ops a.tmps) = true
    · rw [if_pos hwt] at h
      rcases h with ⟨hlo, v, hv, hn⟩ | ⟨hlo, hn⟩
      · exact hpure v hlo (.inl ⟨hwt, hv⟩) hn
      · rw [if_pos hlo, beq_iff_eq] at hB2
        refine ⟨fun h0 => (by rw [h0] at hrdy; cases hrdy), fun j hj => ?_⟩
        have : j = i := by rw [hB2] at hj; simpa using hj
        subst this
        unfold stepN
        simp only [ho, hwt, if_true]
        exact Oper.wpN_mono (fun a' w' ⟨C', hw', hor, hn'⟩ => hloud hlo a' w' C' hw' (by rwa [hlen] at hor) hn') (hn w hw)
    · have hwt' : Region.wanted o (yielded ops a.tmps) = false := by simpa using hwt
      rw [if_neg hwt] at h
      cases hlo : loud o.op with
      | false => exact hpure undef hlo (.inr ⟨hwt', rfl⟩) h
      | true =>
        rw [if_pos hlo, beq_iff_eq] at hB2
        refine ⟨fun h0 => (by rw [h0] at hrdy; cases hrdy), fun j hj => ?_⟩
        have : j = i := by rw [hB2] at hj; simpa using hj
        subst this
        unfold stepN
        simp only [ho, hwt', Bool.false_eq_true, if_false]
        exact hloud hlo _ _ C hw (.inl fun _ h => h) h
end

/-- what is to hold behind a region: at its end, and where a call in it panics -/
structure KC where
  k : (World → Prop) → Act → Prop
  e : List PanicEntry → List Deferred → World → Prop
section
variable (P : Program) (n : Nat) (D : List Deferred) (w0 : World)
/-- what is left of a region that draws its order -/
def QR (Z : Array Oper × List Nat) (l : List Oper) (ov : Ov) (H : List Asn) (K : KC) : Prop :=
  ∀ a, Rep n D ov a → walkN P K.e Z.1 Z.2 K.k l (St w0 H) a
/-- its first operation runs -/
def QO (Z : Array Oper × List Nat) (o : Oper) (l : List Oper) (ov : Ov) (H : List Asn) (K : KC) : Prop :=
  ∀ a, Rep n D ov a → goN P K.e Z.2 (walkN P K.e Z.1 Z.2 K.k l) l.length o (St w0 H) a
end
def QK (P : Program) (f : Nat) (R : Ending → World → Prop) (k : List Item) : KC := ⟨fun C a => ∀ w, C w → J P f k a w R, fun ch ds w => ds = [] ∧ (∃ fn, P.funcs[f]? = some fn) ∧ R (.panicked ch) w⟩
section
variable {P : Program} {f n : Nat} {R : Ending → World → Prop} {D : List Deferred} {w0 : World} {k : List Item} {ov : Ov} {H H' : List Asn} {K : KC}
  {Z : Array Oper × List Nat} {l : List Oper} {d : Option Nat} {T : Nat} {pos : String} {af : Array Edge} {g : Option (Nat × Bool)} {v : Value} {op : Op}
theorem QK_e {fn : Func} {ch : List PanicEntry} {w : World} (hf : P.funcs[f]? = some fn) (h : R (.panicked ch) w) : (QK P f R k).e ch [] w := ⟨rfl, ⟨fn, hf⟩, h⟩
theorem QR_nil (h : JS P f n R D w0 k ov H) : QR P n D w0 Z [] ov H (QK P f R k) := fun a ha w hw => h a w ha hw
theorem QR_un (h : QO P n D w0 Z ⟨d, op, T, pos, af, none⟩ l ov H K) : QR P n D w0 Z (⟨d, op, T, pos, af, none⟩ :: l) ov H K := by
  intro a ha
  simp only [walkN]
  rw [if_pos (by simp [Region.wanted])]
  exact h a ha
theorem QR_yes {j t : Nat} {b : Bool} (hj : (Z.1[j]?).bind Oper.dst = some t) (hv : look ov t = some (.bool b)) (h : QO P n D w0 Z ⟨d, op, T, pos, af, some (j, b)⟩ l ov H K) : QR P n D w0 Z (⟨d, op, T, pos, af, some (j, b)⟩ :: l) ov H K := by
  intro a ha
  simp only [walkN]
  rw [if_pos (by simp [Region.wanted, yielded_of ha hj hv])]
  exact h a ha
theorem QR_no {j t : Nat} {b c : Bool} (hj : (Z.1[j]?).bind Oper.dst = some t) (hv : look ov t = some (.bool c)) (hbc : (c == b) = false) (hd : dOk d n = true) (hn : QR P n D w0 Z l (put d undef ov) H K) :
    QR P n D w0 Z (⟨d, op, T, pos, af, some (j, b)⟩ :: l) ov H K := by
  intro a ha
  simp only [walkN]
  rw [if_neg (by simp [Region.wanted, yielded_of ha hj hv]; simpa using hbc)]
  exact hn _ (ha.put hd undef)
theorem yielded_undef {ops : Array Oper} {a : Act} {j t} (ha : Rep n D ov a) (hj : (ops[j]?).bind Oper.dst = some t) (hv : look ov t = some (.tuple #[])) : yielded ops a.tmps j = none := by
  simp only [yielded, hj, Option.bind_some, ha.val t _ hv]
theorem QR_noU {j t : Nat} {b : Bool} (hj : (Z.1[j]?).bind Oper.dst = some t) (hv : look ov t = some (.tuple #[])) (hd : dOk d n = true) (hn : QR P n D w0 Z l (put d undef ov) H K) :
    QR P n D w0 Z (⟨d, op, T, pos, af, some (j, b)⟩ :: l) ov H K := by
  intro a ha
  simp only [walkN]
  rw [if_neg (by simp [Region.wanted, yielded_undef ha hj hv])]
  exact hn _ (ha.put hd undef)
theorem JR_noU {ops : Array Oper} {l d op T pos af j t b} (hj : (ops[j]?).bind Oper.dst = some t) (hv : look ov t = some (.tuple #[])) (hd : dOk d n = true) (h : JR P f n R D w0 ops l k (put d undef ov) H) :
    JR P f n R D w0 ops (⟨d, op, T, pos, af, some (j, b)⟩ :: l) k ov H := by
  intro is hm a w ha hw
  cases is with
  | nil => simp at hm
  | cons i is =>
    simp only [List.map_cons, List.cons.injEq] at hm
    have hno : Region.wanted (⟨d, op, T, pos, af, some (j, b)⟩ : Oper) (yielded ops a.tmps) = false := by
      simp [Region.wanted, yielded_undef ha hj hv]
    refine (h is hm.2 (a.put d undef) w (ha.put hd undef) hw).step fun b' cs _ _ => ?_
    have := step_op_skip (P := P) (b := b') (a := a) (k := k) (cs := cs) (w := w) (ops := ops) (i := i) (rest := is) (by simp [hm.1, hno])
    simpa [hm.1] using this
theorem QR_split {o : Oper} {t : Nat} {b : Bool} (hv : look ov t = some (.bool b)) (ht : b = true → QR P n D w0 Z (o :: l) ((t, .bool true) :: ov) H K) (hf : b = false → QR P n D w0 Z (o :: l) ((t, .bool false) :: ov) H K) :
    QR P n D w0 Z (o :: l) ov H K := by
  intro a ha
  cases b with
  | true => exact ht rfl a ⟨ha.size, ha.defers, fun s v hs => by rw [look_cons] at hs; split at hs; (rename_i he; subst he; cases hs; exact ha.val _ _ hv); exact ha.val s v hs⟩
  | false => exact hf rfl a ⟨ha.size, ha.defers, fun s v hs => by rw [look_cons] at hs; split at hs; (rename_i he; subst he; cases hs; exact ha.val _ _ hv); exact ha.val s v hs⟩
theorem QO_v (hlo : loud op = false) (h : OpV P n D w0 ov H ⟨d, op, T, pos, af, g⟩ v) (hn : QR P n D w0 Z l (put d v ov) H K) : QO P n D w0 Z ⟨d, op, T, pos, af, g⟩ l ov H K :=
  fun a ha => .inl ⟨hlo, v, fun w hw => h.2 a w ha hw, hn _ (ha.put h.1 v)⟩
theorem QO_call {q : Nat} {xs : List Operand} {vs : List Value} {ts : Array Nat} (hc : ∀ args w, (callFunc q args).run P w = .ok (.enter q args) w) (hx : evs ov xs = some vs) (hd : dOk d n = true)
    (h : ∀ w, St w0 H w → Calls P q vs.toArray w fun e w' => ∃ v, e = .returned v ∧ ∃ H', St w0 H' w' ∧ ((∀ w, St w0 H' w → St w0 H w) ∨ Z.2.contains l.length = true) ∧ QR P n D w0 Z l (put d v ov) H' K) :
    QO P n D w0 Z ⟨d, .call ⟨.value (.func q), xs.toArray, ts⟩, T, pos, af, g⟩ l ov H K := by
  intro a ha
  refine .inr ⟨rfl, fun w hw => ?_⟩
  have hrun : (execOp a.eval ⟨d, .call ⟨.value (.func q), xs.toArray, ts⟩, T, pos, af, g⟩).run P w = .ok (.enter q vs.toArray) w := by
    simp only [execOp, resolve, Deferred.ofValue, Act.eval, Sem.run_bind, Sem.run_pure, Result.andThen_ok, invoke]
    rw [List.map_toArray, ha.evs hx]
    simpa using hc vs.toArray w
  simp only [Oper.wpN, hrun, Oper.upN]
  exact (h w hw).mono fun e w' ⟨v, he, H', hw', hor, hn⟩ => .inl ⟨v, he, St w0 H', hw', hor, hn _ (ha.put hd v)⟩
theorem QO_callv {x : Operand} {q : Nat} {xs : List Operand} {vs us cs : List Value} {ts : Array Nat} (hfv : ev ov x = some (.func (.func q) us.toArray cs.toArray)) (hlo : loud (.call ⟨.value x, xs.toArray, ts⟩) = true) (hc : ∀ args w, (callFunc q args).run P w = .ok (.enter q args) w) (hx : evs ov xs = some vs) (hd : dOk d n = true)
    (h : ∀ w, St w0 H w → Calls P q (us ++ vs ++ cs).toArray w fun e w' => ∃ v, e = .returned v ∧ ∃ H', St w0 H' w' ∧ ((∀ w, St w0 H' w → St w0 H w) ∨ Z.2.contains l.length = true) ∧ QR P n D w0 Z l (put d v ov) H' K) :
    QO P n D w0 Z ⟨d, .call ⟨.value x, xs.toArray, ts⟩, T, pos, af, g⟩ l ov H K := by
  intro a ha
  refine .inr ⟨hlo, fun w hw => ?_⟩
  have hrun : (execOp a.eval ⟨d, .call ⟨.value x, xs.toArray, ts⟩, T, pos, af, g⟩).run P w = .ok (.enter q (us ++ vs ++ cs).toArray) w := by
    simp only [execOp, resolve, ha.ev hfv, Deferred.ofValue, Sem.run_bind, Sem.run_pure, Result.andThen_ok, invoke]
    rw [List.map_toArray, ha.evs hx]
    simpa using hc (us ++ vs ++ cs).toArray w
  simp only [Oper.wpN, hrun, Oper.upN]
  exact (h w hw).mono fun e w' ⟨v, he, H', hw', hor, hn⟩ => .inl ⟨v, he, St w0 H', hw', hor, hn _ (ha.put hd v)⟩
theorem QO_callE {q : Nat} {xs : List Operand} {vs : List Value} {ts : Array Nat} (hc : ∀ args w, (callFunc q args).run P w = .ok (.enter q args) w) (hx : evs ov xs = some vs) (hd : dOk d n = true)
    (h : ∀ w, St w0 H w → Calls P q vs.toArray w fun e w' => (∃ v, e = .returned v ∧ ∃ H', St w0 H' w' ∧ ((∀ w, St w0 H' w → St w0 H w) ∨ Z.2.contains l.length = true) ∧ QR P n D w0 Z l (put d v ov) H' K) ∨ (∃ ch, e = .panicked ch ∧ K.e ch D w')) :
    QO P n D w0 Z ⟨d, .call ⟨.value (.func q), xs.toArray, ts⟩, T, pos, af, g⟩ l ov H K := by
  intro a ha
  refine .inr ⟨rfl, fun w hw => ?_⟩
  have hrun : (execOp a.eval ⟨d, .call ⟨.value (.func q), xs.toArray, ts⟩, T, pos, af, g⟩).run P w = .ok (.enter q vs.toArray) w := by
    simp only [execOp, resolve, Deferred.ofValue, Act.eval, Sem.run_bind, Sem.run_pure, Result.andThen_ok, invoke]
    rw [List.map_toArray, ha.evs hx]
    simpa using hc vs.toArray w
  simp only [Oper.wpN, hrun, Oper.upN]
  exact (h w hw).mono fun e w' h' => h'.imp (fun ⟨v, he, H', hw', hor, hn⟩ => ⟨v, he, St w0 H', hw', hor, hn _ (ha.put hd v)⟩) (fun ⟨ch, he, hk⟩ => ⟨ch, he, by rw [ha.defers]; exact hk⟩)
/-- a store, and the like: all others were waited for -/
theorem QO_k (hlo : loud op = true) (h : OpK P n D w0 ov H ⟨d, op, T, pos, af, g⟩ H') (hs : Z.2.contains l.length = true) (hn : QR P n D w0 Z l (put d undef ov) H' K) : QO P n D w0 Z ⟨d, op, T, pos, af, g⟩ l ov H K := by
  intro a ha
  refine .inr ⟨hlo, fun w hw => ?_⟩
  obtain ⟨w', hrun, hw'⟩ := h.2 a w ha hw
  simp only [Oper.wpN, hrun, Oper.upN]
  exact ⟨St w0 H', hw', .inr hs, hn _ (ha.put h.1 undef)⟩
def nthO : List Oper → Nat → Option Oper
  | [], _ => none
  | o :: _, 0 => some o
  | _ :: l, i + 1 => nthO l i
theorem nthO_eq : ∀ (l : List Oper) (i : Nat), nthO l i = l.toArray[i]?
  | [], i => by simp [nthO]
  | o :: l, 0 => by simp [nthO]
  | o :: l, i + 1 => by rw [nthO, nthO_eq l i]; simp
/-- the order, written out -/
inductive Picks (l : List Oper) : List Nat → List Oper → Prop where
  | nil : Picks l [] []
  | cons {i : Nat} {st : List Nat} {o : Oper} {l' : List Oper} (h : nthO l i = some o) (t : Picks l st l') : Picks l (i :: st) (o :: l')
theorem Picks.map {l : List Oper} {st : List Nat} {l' : List Oper} (h : Picks l st l') : l'.map some = st.map (fun i => l.toArray[i]?) := by
  induction h with
  | nil => rfl
  | cons h _ ih => rw [nthO_eq] at h; simp only [List.map_cons, h, ih]
theorem JS_order {id : Nat} {l : List Oper} (st sy : List Nat) {l' : List Oper} (hp : Picks l st l') (hm : P.follows .mixedOrders = true) (hs : Region.noSelect l.toArray = true) (hlen : st.length = l.length)
    (hB : ordB l.toArray sy [] st (Array.replicate l.length false) = true) (h : QR P n D w0 (l.toArray, sy) l' ov H (QK P f R k)) :
    JS P f n R D w0 (.code (.region id l.toArray true) :: k) ov H := by
  intro a w ha hw
  refine J_of_wpE (Q := QQ P f R k) (wp_region_any hm ?_) fun e a' w' h => h
  have h0 : ∀ j, (Array.replicate l.length false).getD j false = false := fun j => by
    rcases Nat.lt_or_ge j l.length with h | h
    · simp [h]
    · simp [h]
  have hws := wpS_walk (P := P) (E := (QK P f R k).e) (K := (QK P f R k).k) (sy := sy) hs st [] l' (Array.replicate l.length false) (St w0 H) a hp.map hB (by simp) (fun j => by rw [h0 j]; simp)
    (fun S _ => ⟨fun j oj _ hj => (by rw [h0 j] at hj; cases hj), fun k _ _ hk => (by rw [h0 k] at hk; cases hk)⟩) (h a ha) w.drew hw.drew
  have := wpAny_of_S (Q' := QQ P f R k) (fun ch a w h => h) (fun a w ⟨C, hC, hk⟩ => hk w hC) _ _ _ _ hws
  rw [hlen] at this
  simpa using this
/-- in the order of the text -/
theorem map_range {l : List Oper} : l.map some = (List.range l.length).map (fun i => l.toArray[i]?) := by
  apply List.ext_getElem?
  intro i
  rcases Nat.lt_or_ge i l.length with h | h
  · simp [h]
  · simp [h]
theorem JS_draw {id : Nat} {l : List Oper} (sy : List Nat) (hm : P.follows .mixedOrders = true) (hs : Region.noSelect l.toArray = true)
    (hB : ordB l.toArray sy [] (List.range l.length) (Array.replicate l.length false) = true) (h : QR P n D w0 (l.toArray, sy) l ov H (QK P f R k)) :
    JS P f n R D w0 (.code (.region id l.toArray true) :: k) ov H := by
  intro a w ha hw
  refine J_of_wpE (Q := QQ P f R k) (wp_region_any hm ?_) fun e a' w' h => h
  have h0 : ∀ j, (Array.replicate l.length false).getD j false = false := fun j => by
    rcases Nat.lt_or_ge j l.length with h | h
    · simp [h]
    · simp [h]
  have hws := wpS_walk (P := P) (E := (QK P f R k).e) (K := (QK P f R k).k) (sy := sy) hs (List.range l.length) [] l (Array.replicate l.length false) (St w0 H) a map_range hB (by simp) (fun j => by rw [h0 j]; simp)
    (fun S _ => ⟨fun j oj _ hj => (by rw [h0 j] at hj; cases hj), fun k _ _ hk => (by rw [h0 k] at hk; cases hk)⟩) (h a ha) w.drew hw.drew
  have := wpAny_of_S (Q' := QQ P f R k) (fun ch a w h => h) (fun a w ⟨C, hC, hk⟩ => hk w hC) _ _ _ _ hws
  simpa using this
end
end Sx

namespace Sx
open Go

section
variable {P : Program} {f n : Nat} {R : Ending → World → Prop} {D : List Deferred} {w0 : World} {k : List Item} {ov : Ov} {H H' : List Asn}
  {ops : Array Oper} {l : List Oper} {d : Option Nat} {T : Nat} {pos : String} {af : Array Edge} {g : Option (Nat × Bool)} {x y : Operand} {v : Value} {tb : Tb P}

/-! results that lie in memory -/
inductive ResV (tb : Tb P) (ov : Ov) (H : List Asn) : List ResultVar → List Value → Prop
  | nil : ResV tb ov H [] []
  | tmp {t : Nat} {v : Value} {r : List ResultVar} {vs : List Value} (h : look ov t = some v) (hr : ResV tb ov H r vs) : ResV tb ov H (.tmp t :: r) (v :: vs)
  | agg {t T b off sz by' : Nat} {ty : Ty} {z : Option (List Value)} {cs us : List Value} {r : List ResultVar} {vs : List Value} (h : look ov t = some (.pointer (some ⟨b, off, none⟩))) (hb : blk b cs ∈ H) (hT : tlook tb.l T = some ⟨ty, sz, by', z⟩) (ha : aggT ty = true) (hs : seg cs off sz = some us)
      (hr : ResV tb ov H r vs) : ResV tb ov H (.cell t T :: r) (.agg us.toArray :: vs)
  | one {t T b off sz by' : Nat} {ty : Ty} {z : Option (List Value)} {cs : List Value} {u : Value} {r : List ResultVar} {vs : List Value} (h : look ov t = some (.pointer (some ⟨b, off, none⟩))) (hb : blk b cs ∈ H) (hT : tlook tb.l T = some ⟨ty, sz, by', z⟩) (ha : aggT ty = false) (hs : nth cs off = some u)
      (hr : ResV tb ov H r vs) : ResV tb ov H (.cell t T :: r) (u :: vs)
theorem ResV.run {rs : List ResultVar} {vs : List Value} (h : ResV tb ov H rs vs) {a : Act} {w : World} (ha : Rep n D ov a) (hw : St w0 H w) : Sem.run P (rs.mapM (rv a.tmps)) w = .ok vs w := by
  have ptr : ∀ {t b off : Nat}, look ov t = some (.pointer (some ⟨b, off, none⟩)) → a.tmps.getD t undef = .pointer (some ⟨b, off, none⟩) := by
    intro t b off h
    rw [Array.getD_eq_getD_getElem?, ha.val t _ h]; rfl
  induction h with
  | nil => simp
  | tmp h _ ih =>
    rw [List.mapM_cons]
    simp only [rv, Array.getD_eq_getD_getElem?, ha.val _ _ h, Option.getD_some, Sem.run_bind, Sem.run_pure, Result.andThen_ok]
    rw [ih]; rfl
  | agg h hb hT hag hs hr0 ih =>
    rw [List.mapM_cons]
    obtain ⟨E, hE⟩ := blk_heap hb hw
    obtain ⟨h1, h2⟩ := seg_eq hs
    rename_i t T b off sz by' ty z cs us r vs
    have hr := run_loadA (P := P) (tb := tb) (a := ⟨b, off, none⟩) (w := w) (vs := us) hT hag (by rw [h2]; simp; omega) (fun j u hu => by
      rw [add_blk, cell_row hE]
      rw [h2, List.getElem?_take] at hu
      split at hu
      · simpa using hu
      · cases hu)
    simp only [rv, ptr h, asAddr, Sem.run_bind, Sem.run_pure, Result.andThen_ok, hr]
    rw [ih]; rfl
  | one h hb hT hag hs hr0 ih =>
    rw [List.mapM_cons]
    obtain ⟨E, hE⟩ := blk_heap hb hw
    rename_i t T b off sz by' ty z cs u r vs
    have hc : w.cell? ⟨b, off, none⟩ = some u := by rw [cell_row hE]; rw [nth_eq] at hs; simpa using hs
    simp only [rv, ptr h, asAddr, Sem.run_bind, Sem.run_pure, Result.andThen_ok, run_load1 (P := P) (tb := tb) hT hag hc]
    rw [ih]; rfl
theorem results_cells {fn : Func} {vs : List Value} (h : ResV tb ov H fn.results.toList vs) {a : Act} {w : World} (ha : Rep n D ov a) (hw : St w0 H w) : (results fn a.tmps).run P w = .ok (tupleOf vs) w := by
  have hm := h.run ha hw
  rw [results_eq, Array.mapM_eq_mapM_toList]
  simp only [Sem.run_bind, Sem.run_map]
  rw [hm]
  simp only [Result.andThen_ok, Sem.run_pure]
  congr 1
  match vs with
  | [] => rfl
  | [x] => rfl
  | x :: y :: r => rfl
theorem JS_retC {fn : Func} {rs : List ResultVar} {vs : List Value} (hf : P.funcs[f]? = some fn) (hrs : fn.results = rs.toArray) (hr : ResV tb ov H rs vs) (h : ∀ w, St w0 H w → R (.returned (tupleOf vs)) w) :
    JS P f n R [] w0 (.code .ret :: k) ov H :=
  JS_ret' hf fun _ w ha hw => ⟨results_cells (by rw [hrs]; exact hr) ha hw, h w hw⟩
theorem JS_finC {fn : Func} {rs : List ResultVar} {vs : List Value} (hf : P.funcs[f]? = some fn) (hrs : fn.results = rs.toArray) (hr : ResV tb ov H rs vs) (h : ∀ w, St w0 H w → R (.returned (tupleOf vs)) w) :
    JS P f n R [] w0 [] ov H :=
  JS_end hf fun _ w ha hw => ⟨results_cells (by rw [hrs]; exact hr) ha hw, h w hw⟩

/-! comparisons whose outcome is known -/
section
variable {K : IntKind} {a b : Int} {T1 T2 : Nat}
theorem V_eqlT (hx : ev ov x = some (.int K a)) (hy : ev ov y = some (.int K b)) (h : a = b) (hd : dOk d n = true) : OpV P n D w0 ov H ⟨d, .binOp .eql T1 x y T2, T, pos, af, g⟩ (.bool true) := by
  have := V_eql (P := P) (w0 := w0) (D := D) (H := H) (T1 := T1) (T2 := T2) (T := T) (pos := pos) (af := af) (g := g) hx hy hd; rwa [decide_eq_true h] at this
theorem V_eqlF (hx : ev ov x = some (.int K a)) (hy : ev ov y = some (.int K b)) (h : ¬ a = b) (hd : dOk d n = true) : OpV P n D w0 ov H ⟨d, .binOp .eql T1 x y T2, T, pos, af, g⟩ (.bool false) := by
  have := V_eql (P := P) (w0 := w0) (D := D) (H := H) (T1 := T1) (T2 := T2) (T := T) (pos := pos) (af := af) (g := g) hx hy hd; rwa [decide_eq_false h] at this
theorem V_neqT (hx : ev ov x = some (.int K a)) (hy : ev ov y = some (.int K b)) (h : a ≠ b) (hd : dOk d n = true) : OpV P n D w0 ov H ⟨d, .binOp .neq T1 x y T2, T, pos, af, g⟩ (.bool true) := by
  have := V_neq (P := P) (w0 := w0) (D := D) (H := H) (T1 := T1) (T2 := T2) (T := T) (pos := pos) (af := af) (g := g) hx hy hd; rwa [decide_eq_true h] at this
theorem V_neqF (hx : ev ov x = some (.int K a)) (hy : ev ov y = some (.int K b)) (h : a = b) (hd : dOk d n = true) : OpV P n D w0 ov H ⟨d, .binOp .neq T1 x y T2, T, pos, af, g⟩ (.bool false) := by
  have := V_neq (P := P) (w0 := w0) (D := D) (H := H) (T1 := T1) (T2 := T2) (T := T) (pos := pos) (af := af) (g := g) hx hy hd; rwa [decide_eq_false (by simpa using h)] at this
theorem V_lssT (hx : ev ov x = some (.int K a)) (hy : ev ov y = some (.int K b)) (h : a < b) (hd : dOk d n = true) : OpV P n D w0 ov H ⟨d, .binOp .lss T1 x y T2, T, pos, af, g⟩ (.bool true) := by
  have := V_lss (P := P) (w0 := w0) (D := D) (H := H) (T1 := T1) (T2 := T2) (T := T) (pos := pos) (af := af) (g := g) hx hy hd; rwa [decide_eq_true h] at this
theorem V_lssF (hx : ev ov x = some (.int K a)) (hy : ev ov y = some (.int K b)) (h : ¬ a < b) (hd : dOk d n = true) : OpV P n D w0 ov H ⟨d, .binOp .lss T1 x y T2, T, pos, af, g⟩ (.bool false) := by
  have := V_lss (P := P) (w0 := w0) (D := D) (H := H) (T1 := T1) (T2 := T2) (T := T) (pos := pos) (af := af) (g := g) hx hy hd; rwa [decide_eq_false h] at this
theorem V_leqT (hx : ev ov x = some (.int K a)) (hy : ev ov y = some (.int K b)) (h : a ≤ b) (hd : dOk d n = true) : OpV P n D w0 ov H ⟨d, .binOp .leq T1 x y T2, T, pos, af, g⟩ (.bool true) := by
  have := V_leq (P := P) (w0 := w0) (D := D) (H := H) (T1 := T1) (T2 := T2) (T := T) (pos := pos) (af := af) (g := g) hx hy hd; rwa [decide_eq_true h] at this
theorem V_leqF (hx : ev ov x = some (.int K a)) (hy : ev ov y = some (.int K b)) (h : ¬ a ≤ b) (hd : dOk d n = true) : OpV P n D w0 ov H ⟨d, .binOp .leq T1 x y T2, T, pos, af, g⟩ (.bool false) := by
  have := V_leq (P := P) (w0 := w0) (D := D) (H := H) (T1 := T1) (T2 := T2) (T := T) (pos := pos) (af := af) (g := g) hx hy hd; rwa [decide_eq_false h] at this
theorem V_gtrT (hx : ev ov x = some (.int K a)) (hy : ev ov y = some (.int K b)) (h : b < a) (hd : dOk d n = true) : OpV P n D w0 ov H ⟨d, .binOp .gtr T1 x y T2, T, pos, af, g⟩ (.bool true) := by
  have := V_gtr (P := P) (w0 := w0) (D := D) (H := H) (T1 := T1) (T2 := T2) (T := T) (pos := pos) (af := af) (g := g) hx hy hd; rwa [decide_eq_true h] at this
theorem V_gtrF (hx : ev ov x = some (.int K a)) (hy : ev ov y = some (.int K b)) (h : ¬ b < a) (hd : dOk d n = true) : OpV P n D w0 ov H ⟨d, .binOp .gtr T1 x y T2, T, pos, af, g⟩ (.bool false) := by
  have := V_gtr (P := P) (w0 := w0) (D := D) (H := H) (T1 := T1) (T2 := T2) (T := T) (pos := pos) (af := af) (g := g) hx hy hd; rwa [decide_eq_false h] at this
theorem V_geqT (hx : ev ov x = some (.int K a)) (hy : ev ov y = some (.int K b)) (h : b ≤ a) (hd : dOk d n = true) : OpV P n D w0 ov H ⟨d, .binOp .geq T1 x y T2, T, pos, af, g⟩ (.bool true) := by
  have := V_geq (P := P) (w0 := w0) (D := D) (H := H) (T1 := T1) (T2 := T2) (T := T) (pos := pos) (af := af) (g := g) hx hy hd; rwa [decide_eq_true h] at this
theorem V_geqF (hx : ev ov x = some (.int K a)) (hy : ev ov y = some (.int K b)) (h : ¬ b ≤ a) (hd : dOk d n = true) : OpV P n D w0 ov H ⟨d, .binOp .geq T1 x y T2, T, pos, af, g⟩ (.bool false) := by
  have := V_geq (P := P) (w0 := w0) (D := D) (H := H) (T1 := T1) (T2 := T2) (T := T) (pos := pos) (af := af) (g := g) hx hy hd; rwa [decide_eq_false h] at this
end

/-! equality of structs of two numbers; of pointers with nil -/
theorem V_eqS {op : BinOp} {t T2 : Nat} {us vs : List Value} {r : Bool} (hop : op = .eql ∨ op = .neq) (hx : ev ov x = some (.agg us.toArray)) (hy : ev ov y = some (.agg vs.toArray)) (ht : P.underlying t = some (.struct (P.fieldsOf t))) (hs : P.stoodInHeld t = false) (hm : P.eqGuardType P.depth t = false)
    (hr : ∀ w, (Op.eqFields 9999 us.toArray vs.toArray (P.fieldsOf t).toList).run P w = .ok r w) (hd : dOk d n = true) : OpV P n D w0 ov H ⟨d, .binOp op t x y T2, T, pos, af, g⟩ (.bool (match op with | .eql => r | _ => !r)) :=
  ⟨hd, fun a w ha _ => by
    have e1 := run_eqGuard_agg (P := P) w op t x y us.toArray vs.toArray hm
    have e2 := run_equalIn_struct (P := P) w 9999 t us.toArray vs.toArray ht hs
    rcases hop with rfl | rfl
    · have e3 := run_eql_struct (P := P) w t us.toArray vs.toArray
      simp only [execOp, ha.ev hx, ha.ev hy, Sem.run_bind, e1, Result.andThen_ok, e3, e2, hr w, Sem.run_pure]
    · have e3 := run_neq_struct (P := P) w t us.toArray vs.toArray
      simp only [execOp, ha.ev hx, ha.ev hy, Sem.run_bind, e1, Result.andThen_ok, e3, e2, hr w, Sem.run_pure]⟩
theorem run_equalIn_ptr {t e : Nat} {p : Option Addr} (w : World) (d : Nat) (e1 : P.underlying t = some (.pointer e)) : (Op.equalIn (d + 1) t (.pointer p) (.pointer none)).run P w = .ok p.isNone w := by
  cases p <;> simp [Op.equalIn, run_underlying e1]
theorem V_eqP {t T2 e s1 b1 : Nat} {z1 : Option (List Value)} {p : Option Addr} (hx : ev ov x = some (.pointer p)) (hy : ev ov y = some (.pointer none)) (h : tlook tb.l t = some ⟨.ptr e, s1, b1, z1⟩) (hd : dOk d n = true) :
    OpV P n D w0 ov H ⟨d, .binOp .eql t x y T2, T, pos, af, g⟩ (.bool p.isNone) :=
  ⟨hd, fun a w ha _ => by
    have e1 := run_equalIn_ptr (P := P) (p := p) w 9999 (und_ptr h)
    have hg : (eqGuard .eql t x y (.pointer p) (.pointer none)).run P w = .ok () w := by simp [eqGuard]
    have hb : (binOp .eql t (.pointer p) (.pointer none)).run P w = .ok (.bool p.isNone) w := by
      simp only [binOp, Op.equal, Op.maxDepth, Sem.run_bind, e1, Result.andThen_ok, Sem.run_pure]
    simp [execOp, ha.ev hx, ha.ev hy, hg, hb]⟩
theorem V_neP {t T2 e s1 b1 : Nat} {z1 : Option (List Value)} {p : Option Addr} (hx : ev ov x = some (.pointer p)) (hy : ev ov y = some (.pointer none)) (h : tlook tb.l t = some ⟨.ptr e, s1, b1, z1⟩) (hd : dOk d n = true) :
    OpV P n D w0 ov H ⟨d, .binOp .neq t x y T2, T, pos, af, g⟩ (.bool p.isSome) :=
  ⟨hd, fun a w ha _ => by
    have e1 := run_equalIn_ptr (P := P) (p := p) w 9999 (und_ptr h)
    have hg : (eqGuard .neq t x y (.pointer p) (.pointer none)).run P w = .ok () w := by simp [eqGuard]
    have hb : (binOp .neq t (.pointer p) (.pointer none)).run P w = .ok (.bool p.isSome) w := by
      simp only [binOp, Op.equal, Op.maxDepth, Sem.run_bind, e1, Result.andThen_ok, Sem.run_pure]
      cases p <;> rfl
    simp [execOp, ha.ev hx, ha.ev hy, hg, hb]⟩
theorem V_eqB {t T2 s1 b1 : Nat} {z1 : Option (List Value)} {p q : Bool} (hx : ev ov x = some (.bool p)) (hy : ev ov y = some (.bool q)) (h : tlook tb.l t = some ⟨.bool, s1, b1, z1⟩) (hd : dOk d n = true) :
    OpV P n D w0 ov H ⟨d, .binOp .eql t x y T2, T, pos, af, g⟩ (.bool (p == q)) :=
  ⟨hd, fun a w ha _ => by
    have hg : (eqGuard .eql t x y (.bool p) (.bool q)).run P w = .ok () w := by simp [eqGuard]
    simp [execOp, ha.ev hx, ha.ev hy, hg, run_eql_bool w t p q (und_bool h)]⟩
theorem V_neB {t T2 s1 b1 : Nat} {z1 : Option (List Value)} {p q : Bool} (hx : ev ov x = some (.bool p)) (hy : ev ov y = some (.bool q)) (h : tlook tb.l t = some ⟨.bool, s1, b1, z1⟩) (hd : dOk d n = true) :
    OpV P n D w0 ov H ⟨d, .binOp .neq t x y T2, T, pos, af, g⟩ (.bool (!(p == q))) :=
  ⟨hd, fun a w ha _ => by
    have hg : (eqGuard .neq t x y (.bool p) (.bool q)).run P w = .ok () w := by simp [eqGuard]
    simp [execOp, ha.ev hx, ha.ev hy, hg, run_neq_bool w t p q (und_bool h)]⟩
/-- both sides known as booleans -/
theorem V_pickB {c : Operand} {b p q : Bool} (hc : ev ov c = some (.bool b)) (hx : ev ov x = some (.bool p)) (hy : ev ov y = some (.bool q)) (hd : dOk d n = true) : OpV P n D w0 ov H ⟨d, .pick c x y, T, pos, af, g⟩ (.bool (if b then p else q)) :=
  ⟨hd, fun a w ha _ => by cases b <;> simp [execOp, ha.ev hx, ha.ev hy, ha.ev hc, asBool]⟩
end

/-! masks -/
theorem and_nat (K : IntKind) {a b : Int} (ha : 0 ≤ a ∧ a < 2 ^ K.bits) (hb : 0 ≤ b ∧ b < 2 ^ K.bits) : ((BitVec.ofInt K.bits a &&& BitVec.ofInt K.bits b).toNat : Int) = ((a.toNat &&& b.toNat : Nat) : Int) := by
  rw [BitVec.toNat_and, BitVec.toNat_ofInt, BitVec.toNat_ofInt]
  have e1 : (a % ((2 ^ K.bits : Nat) : Int)) = a := Int.emod_eq_of_lt ha.1 (by have h := ha.2; rwa [Int.natCast_pow])
  have e2 : (b % ((2 ^ K.bits : Nat) : Int)) = b := Int.emod_eq_of_lt hb.1 (by have h := hb.2; rwa [Int.natCast_pow])
  rw [e1, e2]
theorem or_nat (K : IntKind) {a b : Int} (ha : 0 ≤ a ∧ a < 2 ^ K.bits) (hb : 0 ≤ b ∧ b < 2 ^ K.bits) : ((BitVec.ofInt K.bits a ||| BitVec.ofInt K.bits b).toNat : Int) = ((a.toNat ||| b.toNat : Nat) : Int) := by
  rw [BitVec.toNat_or, BitVec.toNat_ofInt, BitVec.toNat_ofInt]
  have e1 : (a % ((2 ^ K.bits : Nat) : Int)) = a := Int.emod_eq_of_lt ha.1 (by have h := ha.2; rwa [Int.natCast_pow])
  have e2 : (b % ((2 ^ K.bits : Nat) : Int)) = b := Int.emod_eq_of_lt hb.1 (by have h := hb.2; rwa [Int.natCast_pow])
  rw [e1, e2]
theorem xor_nat (K : IntKind) {a b : Int} (ha : 0 ≤ a ∧ a < 2 ^ K.bits) (hb : 0 ≤ b ∧ b < 2 ^ K.bits) : ((BitVec.ofInt K.bits a ^^^ BitVec.ofInt K.bits b).toNat : Int) = ((a.toNat ^^^ b.toNat : Nat) : Int) := by
  rw [BitVec.toNat_xor, BitVec.toNat_ofInt, BitVec.toNat_ofInt]
  have e1 : (a % ((2 ^ K.bits : Nat) : Int)) = a := Int.emod_eq_of_lt ha.1 (by have h := ha.2; rwa [Int.natCast_pow])
  have e2 : (b % ((2 ^ K.bits : Nat) : Int)) = b := Int.emod_eq_of_lt hb.1 (by have h := hb.2; rwa [Int.natCast_pow])
  rw [e1, e2]
theorem mask_u64 (m : Nat) (hm : m ≤ 63) {a b : Int} (ha : 0 ≤ a ∧ a < 18446744073709551616) (hb : b = 2 ^ m - 1) :
    IntKind.u64.wrap ((BitVec.ofInt IntKind.u64.bits a &&& BitVec.ofInt IntKind.u64.bits b).toNat) = a % 2 ^ m := by
  have h1 : (2 ^ m : Nat) ≤ 2 ^ 63 := Nat.pow_le_pow_right (by omega) hm
  have h2 : 0 < (2 ^ m : Nat) := Nat.pow_pos (by omega)
  have hc : ((2 ^ m : Nat) : Int) = (2 : Int) ^ m := by simp
  have hb' : b = ((2 ^ m - 1 : Nat) : Int) := by rw [hb, Int.ofNat_sub (by omega), hc]; rfl
  have hb0 : 0 ≤ b ∧ b < (2 : Int) ^ IntKind.u64.bits := by
    have : (2 : Int) ^ IntKind.u64.bits = 18446744073709551616 := rfl
    rw [this, hb, ← hc]; omega
  rw [and_nat .u64 (by have : (2 : Int) ^ IntKind.u64.bits = 18446744073709551616 := rfl; rw [this]; exact ha) hb0]
  rw [hb', Int.toNat_natCast, Nat.and_two_pow_sub_one_eq_mod]
  have h3 : ((a.toNat % 2 ^ m : Nat) : Int) = a % 2 ^ m := by rw [Int.natCast_emod, Int.toNat_of_nonneg ha.1, hc]
  rw [h3]
  refine wu64 ⟨Int.emod_nonneg _ (by rw [← hc]; omega), ?_⟩
  have := Int.emod_lt_of_pos a (show (0 : Int) < 2 ^ m by rw [← hc]; omega)
  rw [← hc] at this ⊢
  omega

theorem mask32_u64 {a : Int} (ha : 0 ≤ a ∧ a < 18446744073709551616) : IntKind.u64.wrap ((BitVec.ofInt IntKind.u64.bits a &&& BitVec.ofInt IntKind.u64.bits 4294967295).toNat) = a % 4294967296 := mask_u64 32 (by decide) ha rfl
end Sx

namespace Sx
open Go
section
variable {P : Program} {f n : Nat} {R : Ending → World → Prop} {D : List Deferred} {w0 : World} {k : List Item} {ov : Ov} {H : List Asn} {K : KC} {Z : Array Oper × List Nat} {l : List Oper} {ops : Array Oper} {o : Oper}
  {d : Option Nat} {T : Nat} {pos : String} {af : Array Edge} {g : Option (Nat × Bool)} {x y : Operand} {op : BinOp} {T1 T2 : Nat}
/-! guards: they tell what stands in front -/
theorem gJS (h : JS P f n R D w0 k ov H) : JS P f n R D w0 k ov H := h
theorem gJR (h : JR P f n R D w0 ops l k ov H) : JR P f n R D w0 ops l k ov H := h
theorem gQR (h : QR P n D w0 Z l ov H K) : QR P n D w0 Z l ov H K := h
theorem gQO (h : QO P n D w0 Z o l ov H K) : QO P n D w0 Z o l ov H K := h
theorem gJO (h : JO P f n R D w0 ops o l k ov H) : JO P f n R D w0 ops o l k ov H := h
theorem gB (h : JO P f n R D w0 ops ⟨d, .binOp op T1 x y T2, T, pos, af, g⟩ l k ov H) : JO P f n R D w0 ops ⟨d, .binOp op T1 x y T2, T, pos, af, g⟩ l k ov H := h
theorem gK {u : Value} (h : JO P f n R D w0 ops ⟨d, .binOp op T1 x (.const u) T2, T, pos, af, g⟩ l k ov H) : JO P f n R D w0 ops ⟨d, .binOp op T1 x (.const u) T2, T, pos, af, g⟩ l k ov H := h
theorem gC {c : Call} (h : JO P f n R D w0 ops ⟨d, .call c, T, pos, af, g⟩ l k ov H) : JO P f n R D w0 ops ⟨d, .call c, T, pos, af, g⟩ l k ov H := h
end
end Sx
namespace Sx
open Go
section
variable {P : Program} {n : Nat} {D : List Deferred} {w0 : World} {ov : Ov} {H : List Asn}
  {d : Option Nat} {T : Nat} {pos : String} {af : Array Edge} {g : Option (Nat × Bool)} {x y : Operand} {tb : Tb P} {t s1 b1 : Nat} {z1 : Option (List Value)}
/-- a letter of a constant string that is a table -/
theorem V_indexS {s : ByteArray} {K : IntKind} {i : Int} (F : Nat → Nat) (m : Nat) (hx : ev ov x = some (.string s)) (hy : ev ov y = some (.int K i)) (h : tlook tb.l t = some ⟨.str, s1, b1, z1⟩) (hall : (List.range m).all (fun j => (s[j]?).map UInt8.toNat == some (F j)) = true) (hi : 0 ≤ i ∧ i < m) (hd : dOk d n = true) :
    OpV P n D w0 ov H ⟨d, .index t x y, T, pos, af, g⟩ (.int .u8 (F i.toNat)) :=
  ⟨hd, fun a w ha _ => by
    rw [List.all_eq_true] at hall
    have := hall i.toNat (by rw [List.mem_range]; omega)
    simp only [beq_iff_eq] at this
    cases hs : s[i.toNat]? with
    | none => rw [hs] at this; simp at this
    | some b =>
      rw [hs] at this
      simp only [Option.map_some, Option.some.injEq] at this
      simp [execOp, ha.ev hx, ha.ev hy, Instr.index, asIntOf, run_underlying (und_str h), hi.1, hs, this]⟩
end

/-! a place within a function's code -/
inductive Way where
  | a
  | b
  | k
  | l
  | t
  | e
def todoAt : List Way → Code → List Item → Option (List Item)
  | [], c, r => some (.code c :: r)
  | .b :: p, .seq _ y, r => todoAt p y r
  | .a :: p, .seq x y, r => todoAt p x (.code y :: r)
  | .k :: p, .block id c, r => todoAt p c (.inBlock id :: r)
  | .l :: p, .loop c, r => todoAt p c (.inLoop c :: r)
  | .t :: p, .cond _ x _, r => todoAt p x r
  | .e :: p, .cond _ _ y, r => todoAt p y r
  | _, _, _ => none
/-- what is left to do from a place on -/
def todo (fn : Func) (p : List Way) : List Item := (todoAt p (fn.body.getD .skip) []).getD []
theorem JS_at {P : Program} {f n : Nat} {R : Ending → World → Prop} {D : List Deferred} {w0 : World} {ov : Ov} {H : List Asn} {fn : Func} {p : List Way} {k : List Item} (h : todoAt p (fn.body.getD .skip) [] = some k) (hn : JS P f n R D w0 k ov H) : JS P f n R D w0 (todo fn p) ov H := by
  unfold todo; rw [h]; exact hn
theorem JS_of_at {P : Program} {f n : Nat} {R : Ending → World → Prop} {D : List Deferred} {w0 : World} {ov : Ov} {H : List Asn} {fn : Func} {p : List Way} {k : List Item} (hn : JS P f n R D w0 (todo fn p) ov H) (h : todoAt p (fn.body.getD .skip) [] = some k) : JS P f n R D w0 k ov H := by
  unfold todo at hn; rw [h] at hn; exact hn
end Sx

namespace Sx
open Go
/-! slices of slices, strings of bytes -/
def subB (a : Option Addr) (l c sz : Nat) : Option Addr := if c = l then a else a.map (·.add (l * sz))
def evb (ov : Ov) : Option Operand → Int → Option Int
  | none, d => some d
  | some x, _ => match ev ov x with
    | some (.int _ i) => some i
    | _ => none
theorem Rd.lcap {w0 H m' m c cs} {a : Option Addr} (h : Rd w0 H (.slice a m c) m' cs) {w : World} (hw : St w0 H w) : m ≤ c ∧ m' = m := by
  obtain ⟨b, c', e, _, hle⟩ := (h w hw).1
  cases e
  exact ⟨hle, rfl⟩
section
variable {P : Program} {f n : Nat} {R : Ending → World → Prop} {D : List Deferred} {w0 : World} {k : List Item} {ov : Ov} {H H' : List Asn}
  {ops : Array Oper} {l : List Oper} {d : Option Nat} {T : Nat} {pos : String} {af : Array Edge} {g : Option (Nat × Bool)} {x y : Operand} {v : Value} {tb : Tb P}
  {t e s1 b1 sz b2 : Nat} {z1 z2 : Option (List Value)} {ty2 : Ty}
theorem run_sliceBound {K : IntKind} {i : Int} {y : Nat} {code : BoundsCode} (w : World) (h : 0 ≤ i ∧ i ≤ y) : (Instr.sliceBound (.int K i) y code).run P w = .ok i.toNat w := by
  simp [Instr.sliceBound, asIntOf, h]
theorem V_slice {a : Option Addr} {m c lo hi : Nat} {il ih : Int} {ol oh : Option Operand} (hx : ev ov x = some (.slice a m c)) (h : tlook tb.l t = some ⟨.slice e, s1, b1, z1⟩) (h2 : tlook tb.l e = some ⟨ty2, sz, b2, z2⟩)
    (hlo : evb ov ol 0 = some il) (hhi : evb ov oh m = some ih) (el : il = (lo : Int)) (eh : ih = (hi : Int)) (hb : ∀ w, St w0 H w → lo ≤ hi ∧ hi ≤ c) (hd : dOk d n = true) :
    OpV P n D w0 ov H ⟨d, .slice t x ol oh none, T, pos, af, g⟩ (.slice (subB a lo c sz) (hi - lo) (c - lo)) :=
  ⟨hd, (fun A w ha hw => by
    obtain ⟨hb1, hb2⟩ := hb w hw
    have e1 := run_underlying (und_slice h) w
    have hL : (match ol.map A.eval with | some v => Instr.sliceBound v hi .sliceB | none => pure 0 : Sem Nat).run P w = .ok lo w := by
      cases ol with
      | none => simp only [evb, Option.some.injEq] at hlo; simp; omega
      | some y =>
        simp only [evb] at hlo
        split at hlo
        · rename_i K i hy
          cases hlo
          simp only [Option.map_some, ha.ev hy]
          rw [run_sliceBound w (by omega)]; congr 1; omega
        · cases hlo
    have hH : (match oh.map A.eval with | some v => Instr.sliceBound v c .sliceAcap | none => pure m : Sem Nat).run P w = .ok hi w := by
      cases oh with
      | none => simp only [evb, Option.some.injEq] at hhi; simp; omega
      | some y =>
        simp only [evb] at hhi
        split at hhi
        · rename_i K i hy
          cases hhi
          simp only [Option.map_some, ha.ev hy]
          rw [run_sliceBound w (by omega)]; congr 1; omega
        · cases hhi
    have hS : (Instr.sliceBounds true m c (ol.map A.eval) (oh.map A.eval) none).run P w = .ok (lo, hi, c) w := by
      cases ol <;> cases oh <;> simp_all [Instr.sliceBounds]
    simp [execOp, ha.ev hx, Instr.sliceAt, Instr.slice, e1, hS, Tb.run_size w h2, subB])⟩
end
theorem cellPtr_sub {a : Addr} {lo c sz q c' j : Nat} (h : ¬ c = lo) : cellPtr (.slice (subB (some a) lo c sz) q c') j = .pointer (some (a.add (lo * sz + j))) := by
  unfold subB
  rw [if_neg h, Option.map_some, cellPtr_eq, add_add]
theorem Rd_sub {w0 : World} {H : List Asn} {a : Option Addr} {m m' c lo hi sz : Nat} {cs : List Value} (h : Rd w0 H (.slice a m c) m' cs) (h1 : lo ≤ hi) (h2 : hi ≤ m) :
    Rd w0 H (.slice (subB a lo c sz) (hi - lo) (c - lo)) (hi - lo) ((cs.drop (lo * sz)).take ((hi - lo) * sz)) := by
  intro w hw
  obtain ⟨hs, hr⟩ := h w hw
  obtain ⟨b, c', e, hn, hle⟩ := hs
  cases e
  refine ⟨⟨_, _, rfl, fun hb => ?_, by omega⟩, fun j v hv => ?_⟩
  · unfold subB at hb
    split at hb
    · omega
    · cases a with
      | none => have := hn rfl; omega
      | some a => simp at hb
  · rw [List.getElem?_take] at hv
    split at hv
    · rename_i hj
      rw [List.getElem?_drop] at hv
      have hlt : lo < hi := by
        rcases Nat.lt_or_ge lo hi with h | h
        · exact h
        · rw [show hi - lo = 0 by omega, Nat.zero_mul] at hj; omega
      obtain ⟨a', ha, hc⟩ := hr _ v hv
      cases a with
      | none => have := hn rfl; omega
      | some a =>
        rw [cellPtr_eq] at ha
        exact ⟨_, cellPtr_sub (by omega), by cases ha; exact hc⟩
    · cases hv
/-- the string of bytes -/
def bstr (B : List Int) : ByteArray := B.foldl (fun r n => r.push (UInt8.ofNat n.toNat)) ByteArray.empty
theorem bstr_data (B : List Int) : (bstr B).data.toList = B.map fun n => UInt8.ofNat n.toNat := by
  have : ∀ (B : List Int) (s : ByteArray), (B.foldl (fun r n => r.push (UInt8.ofNat n.toNat)) s).data.toList = s.data.toList ++ B.map fun n => UInt8.ofNat n.toNat := by
    intro B
    induction B with
    | nil => intro s; simp
    | cons n B ih => intro s; rw [List.foldl_cons, ih]; simp [ByteArray.push]
  rw [bstr, this]; rfl
theorem bstr_size (B : List Int) : (bstr B).size = B.length := by
  have := congrArg List.length (bstr_data B)
  simpa using this
def Byt (B : List Int) : Prop := ∀ j, 0 ≤ B.getD j 0 ∧ B.getD j 0 < 256
theorem Byt.mem {B : List Int} (h : Byt B) : ∀ x ∈ B, 0 ≤ x ∧ x < 256 := by
  intro x hx
  obtain ⟨i, hi, rfl⟩ := List.getElem_of_mem hx
  have := h i
  rw [List.getD_eq_getElem?_getD, List.getElem?_eq_getElem hi] at this
  exact this
theorem map_u8_inj : ∀ {A B : List Int}, (∀ x ∈ A, 0 ≤ x ∧ x < 256) → (∀ x ∈ B, 0 ≤ x ∧ x < 256) → A.map (fun n => UInt8.ofNat n.toNat) = B.map (fun n => UInt8.ofNat n.toNat) → A = B
  | [], [], _, _, _ => rfl
  | [], _ :: _, _, _, h => by simp at h
  | _ :: _, [], _, _, h => by simp at h
  | a :: A, b :: B, hA, hB, h => by
    simp only [List.map_cons, List.cons.injEq] at h
    have h1 := hA a (by simp)
    have h2 := hB b (by simp)
    have h3 := congrArg UInt8.toNat h.1
    simp only [UInt8.toNat_ofNat'] at h3
    rw [map_u8_inj (fun x hx => hA x (by simp [hx])) (fun x hx => hB x (by simp [hx])) h.2, show a = b by omega]
theorem bstr_eq {A B : List Int} (hA : Byt A) (hB : Byt B) : ((bstr A).toList == (bstr B).toList) = decide (A = B) := by
  rw [ByteArray.toList_eq, ByteArray.toList_eq, bstr_data, bstr_data]
  by_cases h : A = B
  · subst h; simp
  · have : ¬ (A.map (fun n => UInt8.ofNat n.toNat) = B.map (fun n => UInt8.ofNat n.toNat)) := fun e => h (map_u8_inj hA.mem hB.mem e)
    rw [decide_eq_false h]
    exact beq_eq_false_iff_ne.2 this
section
variable {P : Program} {f n : Nat} {R : Ending → World → Prop} {D : List Deferred} {w0 : World} {k : List Item} {ov : Ov} {H H' : List Asn}
  {d : Option Nat} {T : Nat} {pos : String} {af : Array Edge} {g : Option (Nat × Bool)} {x y : Operand} {v : Value} {tb : Tb P}
  {t e s1 b1 s2 b2 s3 b3 : Nat} {z1 z2 z3 : Option (List Value)}
/-- string(bytes) -/
theorem V_str {u : Value} {m t2 : Nat} {B : List Int} (hx : ev ov x = some u) (hr : Rd w0 H u m (ints .u8 B)) (hm : B.length = m) (h : tlook tb.l t = some ⟨.slice e, s1, b1, z1⟩) (h2 : tlook tb.l e = some ⟨.int .u8, s2, b2, z2⟩) (h3 : tlook tb.l t2 = some ⟨.str, s3, b3, z3⟩) (hd : dOk d n = true) :
    OpV P n D w0 ov H ⟨d, .convert t t2 x, T, pos, af, g⟩ (.string (bstr B)) :=
  ⟨hd, (fun A w ha hw => by
    obtain ⟨⟨b, c, rfl, hb, hle⟩, hrd⟩ := hr w hw
    have e0 := run_convert_bytes_string (P := P) w t t2 e b m c (und_slice h) (und_int h2) (und_str h3)
    have hrun : (Conv.bytesToString (.slice b m c)).run P w = .ok (.string (bstr B)) w := by
      cases b with
      | none =>
        have := hb rfl
        have : B = [] := List.eq_nil_of_length_eq_zero (by omega)
        subst this; simp [Conv.bytesToString, bstr]
      | some a =>
        have hl := run_loadCells_list (P := P) w a (ints .u8 B) (reads_some hrd)
        rw [ints_len, hm] at hl
        exact run_bytesToString w a m c B hl
    simp [execOp, ha.ev hx, e0, hrun])⟩
theorem V_eqStr {A B : List Int} {T1 T2 : Nat} (hx : ev ov x = some (.string (bstr A))) (hy : ev ov y = some (.string (bstr B))) (hA : Byt A) (hB : Byt B) (hd : dOk d n = true) :
    OpV P n D w0 ov H ⟨d, .binOp .eql T1 x y T2, T, pos, af, g⟩ (.bool (decide (A = B))) :=
  ⟨hd, (fun a w ha _ => by simp [execOp, ha.ev hx, ha.ev hy, eqGuard, binOp, Op.stringOp, bstr_eq hA hB])⟩
theorem V_neStr {A B : List Int} {T1 T2 : Nat} (hx : ev ov x = some (.string (bstr A))) (hy : ev ov y = some (.string (bstr B))) (hA : Byt A) (hB : Byt B) (hd : dOk d n = true) :
    OpV P n D w0 ov H ⟨d, .binOp .neq T1 x y T2, T, pos, af, g⟩ (.bool (decide (A ≠ B))) :=
  ⟨hd, (fun a w ha _ => by simp [execOp, ha.ev hx, ha.ev hy, eqGuard, binOp, Op.stringOp, bstr_eq hA hB])⟩
end
section
variable {P : Program} {n : Nat} {D : List Deferred} {w0 : World} {ov : Ov} {H : List Asn} {d : Option Nat} {T : Nat} {pos : String} {af : Array Edge} {g : Option (Nat × Bool)} {x y : Operand} {tb : Tb P}
theorem run_equalIn_slice {t e : Nat} {p : Option Addr} {m c : Nat} (w : World) (d : Nat) (e1 : P.underlying t = some (.slice e)) : (Op.equalIn (d + 1) t (.slice p m c) (.slice none 0 0)).run P w = .ok p.isNone w := by
  cases p <;> simp [Op.equalIn, run_underlying e1]
theorem V_eqNil {t T2 e s1 b1 m c : Nat} {z1 : Option (List Value)} {p : Option Addr} (hx : ev ov x = some (.slice p m c)) (hy : ev ov y = some (.slice none 0 0)) (h : tlook tb.l t = some ⟨.slice e, s1, b1, z1⟩) (hd : dOk d n = true) :
    OpV P n D w0 ov H ⟨d, .binOp .eql t x y T2, T, pos, af, g⟩ (.bool p.isNone) := by
  unfold OpV
  exact ⟨hd, fun a w ha _ => by
    have e1 := run_equalIn_slice (P := P) (p := p) (m := m) (c := c) w 9999 (und_slice h)
    have hg : (eqGuard .eql t x y (.slice p m c) (.slice none 0 0)).run P w = .ok () w := by simp [eqGuard]
    have hb : (binOp .eql t (.slice p m c) (.slice none 0 0)).run P w = .ok (.bool p.isNone) w := by
      simp only [binOp, Op.equal, Op.maxDepth, Sem.run_bind, e1, Result.andThen_ok, Sem.run_pure]
    simp [execOp, ha.ev hx, ha.ev hy, hg, hb]⟩
end
section
variable {P : Program} {n : Nat} {D : List Deferred} {w0 : World} {ov : Ov} {H : List Asn} {d : Option Nat} {T : Nat} {pos : String} {af : Array Edge} {g : Option (Nat × Bool)} {x y : Operand} {tb : Tb P}
theorem V_eqBB {t T2 s1 b1 : Nat} {z1 : Option (List Value)} {p : Bool} (hx : ev ov x = some (.bool p)) (hy : ev ov y = some (.bool p)) (h : tlook tb.l t = some ⟨.bool, s1, b1, z1⟩) (hd : dOk d n = true) :
    OpV P n D w0 ov H ⟨d, .binOp .eql t x y T2, T, pos, af, g⟩ (.bool true) := by
  have := V_eqB (w0 := w0) (D := D) (H := H) (T := T) (T2 := T2) (pos := pos) (af := af) (g := g) hx hy h hd
  simpa using this
theorem V_neBB {t T2 s1 b1 : Nat} {z1 : Option (List Value)} {p : Bool} (hx : ev ov x = some (.bool p)) (hy : ev ov y = some (.bool p)) (h : tlook tb.l t = some ⟨.bool, s1, b1, z1⟩) (hd : dOk d n = true) :
    OpV P n D w0 ov H ⟨d, .binOp .neq t x y T2, T, pos, af, g⟩ (.bool false) := by
  have := V_neB (w0 := w0) (D := D) (H := H) (T := T) (T2 := T2) (pos := pos) (af := af) (g := g) hx hy h hd
  simpa using this
end
/-- one assertion of a list, and what the list is with another one there -/
inductive Sel : List Asn → Asn → (Asn → List Asn) → Prop
  | here (a : Asn) (r : List Asn) : Sel (a :: r) a (fun x => x :: r)
  | there (y a : Asn) (r : List Asn) (F : Asn → List Asn) (h : Sel r a F) : Sel (y :: r) a (fun x => y :: F x)
theorem Sel.upd {H a F} (h : Sel H a F) (a' : Asn) : Upd H a a' (F a') := by
  induction h with
  | here a r => exact Upd.here _ _ _
  | there y a r F _ ih => exact Upd.there _ _ _ _ _ ih
section
variable {P : Program} {f n : Nat} {R : Ending → World → Prop} {D : List Deferred} {w0 : World} {k : List Item} {ov : Ov} {H : List Asn}
  {ops : Array Oper} {l : List Oper} {d : Option Nat} {T : Nat} {pos : String} {af : Array Edge} {g : Option (Nat × Bool)} {x y : Operand} {tb : Tb P}
theorem JO_app {t e sz by' m q sz1 by1 : Nat} {ty2 : Ty} {z1 : Option (List Value)} {z : List Value} {u ux : Value} {cs news : List Value} {F : Asn → List Asn}
    (hx : ev ov x = some u) (hy : ev ov y = some ux) (h : tlook tb.l t = some ⟨.slice e, sz1, by1, z1⟩) (h2 : tlook tb.l e = some ⟨ty2, sz, by', some z⟩) (hzl : Nat.beq z.length sz = true) (hsz : Nat.blt 0 sz = true)
    (hu : Sel H (vec e sz u m cs) F) (hr : Rd w0 H ux q news) (hl : news.length = q * sz) (h1 : All1 news) (hb : (m + q) * by' ≤ 140737488355328 ∧ m + q ≤ 140737488355328) (hd : dOk d n = true)
    (hn : ∀ p c, JR P f n R D w0 ops l k (put d (.slice p (m + q) c) ov) (F (vec e sz (.slice p (m + q) c) (m + q) (cs ++ news)))) : JO P f n R D w0 ops ⟨d, .call ⟨.builtin .append, #[x, y], #[t, t]⟩, T, pos, af, g⟩ l k ov H :=
  JO_append hx hy h h2 hzl hsz (fun _ _ => hu.upd _) hr hl h1 hb hd hn
end
end Sx

namespace Sx
open Go

/-! ### panics, deferred calls -/
section
variable {P : Program} {f n : Nat} {R : Ending → World → Prop} {D : List Deferred} {w0 : World} {k : List Item} {ov : Ov} {H : List Asn}

/-- the leaving of a frame of any kind -/
theorem leaves_stepsK {fn : Func} {tmps : Array Value} {R : Ending → World → Prop} : ∀ (ds : List Deferred) (u : FrameMode) (w : World) (fr : Frame)
    (cs : List Frame), fr.mode = u → fr.defers = ds → fr.tmps = tmps → P.funcs[fr.fn]? = some fn → Leaves P fn tmps R ds u w →
    ∃ e w' fr', R e w' ∧ Comes P (lone fr cs w) (lone fr' cs w') e ∧ fr'.fn = fr.fn ∧ fr'.kind = fr.kind ∧ fr'.going P w' e := by
  intro ds
  induction ds with
  | nil =>
    intro u w fr cs hu hd ht hf h
    cases u with
    | run => exact h.elim
    | returning =>
      obtain ⟨v, hr, hR⟩ := h
      exact ⟨.returned v, w, fr, hR, Steps.refl P _, rfl, rfl, hu, hd, fn, hf, ht ▸ hr⟩
    | panicking chain => exact ⟨.panicked chain, w, fr, h, Steps.refl P _, rfl, rfl, hu, hd, fn, hf⟩
  | cons d ds ih =>
    intro u w fr cs hu hd ht hf h
    obtain ⟨hrun, fv, cap, f, args, htar, hinv, hcall⟩ := h
    have h1 := step_defer (cs := cs) (hu ▸ hrun) hd htar hinv
    obtain ⟨e, u', w', frX, hR, hsteps, hkX, hgo⟩ := hcall { fr with defers := ds } cs hu
    cases e with
    | returned v =>
      have h2 := step_going_returned (c := { { fr with defers := ds } with mode := u' }) (cs := cs) hkX hgo
      obtain ⟨e', w'', fr', hR', hs', hfn', hk', hl'⟩ := ih (settle u') w' { { { fr with defers := ds } with mode := u' } with mode := settle u' } cs rfl rfl ht hf hR
      exact ⟨e', w'', fr', hR', Comes.of_steps (.head h1 (Steps.trans hsteps (.one h2))) hs', hfn', hk', hl'⟩
    | panicked chain =>
      have h2 := step_going_panicked (c := { { fr with defers := ds } with mode := u' }) (cs := cs) hgo
      obtain ⟨e', w'', fr', hR', hs', hfn', hk', hl'⟩ := ih (raised u' chain) w' { { { fr with defers := ds } with mode := u' } with mode := raised u' chain } cs rfl rfl ht hf hR
      exact ⟨e', w'', fr', hR', Comes.of_steps (.head h1 (Steps.trans hsteps (.one h2))) hs', hfn', hk', hl'⟩
    | outgrown => exact ⟨.outgrown, w', fr, hR, Outgrown.of_steps (.one h1) hsteps, rfl, rfl, trivial⟩

/-- a function entered as a deferred call; it neither recovers nor panics -/
theorem enterD {fn : Func} {c : Code} {vs : List Value} {w : World} {H : List Asn} {u : FrameMode} (hf : P.funcs[f]? = some fn) (hb : fn.body = some c) (hn : fn.ntmps = n) (hl : Nat.ble vs.length n = true)
    (hw : St w0 H w) (h : JS P f n R [] w0 [.code c] (argsOv 0 vs) H) : CallsD P f vs.toArray u w fun e u' w' => u' = u ∧ R e w' := by
  intro c₀ cs hu
  let b : Frame := { (default : Frame) with fn := f, kind := .deferred }
  have hl' : vs.length ≤ n := Nat.le_of_ble_eq_true hl
  have henter : Frame.enter P f vs.toArray .deferred = b.at { tmps := vs.toArray ++ Array.replicate (fn.ntmps - vs.toArray.size) undef, defers := [] } [.code c] := by
    simp [Frame.enter, Frame.at, hf, hb, b]
  have hc : ({ c₀ with mode := u } : Frame) = c₀ := by subst hu; rfl
  rw [henter]
  obtain ⟨e, w', fr, hR, hcm, hfn, hk, hg⟩ := h ⟨vs.toArray ++ Array.replicate (fn.ntmps - vs.toArray.size) undef, []⟩ w (by
    refine ⟨by simp [hn]; omega, rfl, ?_⟩
    intro t v ht
    obtain ⟨_, h2⟩ := look_args vs 0 t v ht
    simp only [Nat.sub_zero] at h2
    have hlt : t < vs.length := (List.getElem?_eq_some_iff.1 h2).1
    simp only []
    rw [Array.getElem?_append_left (by simpa using hlt)]
    simpa using h2) hw b (c₀ :: cs) rfl (.inr rfl)
  exact ⟨e, u, w', fr, ⟨rfl, hR⟩, by rw [hc]; exact hcm, hk, hg⟩

/-- a call that may panic -/
theorem JO_callE' {ops o l g args fn} (hf : P.funcs[f]? = some fn) (hd : dOk o.dst n = true) (hrun : ∀ a w, Rep n D ov a → St w0 H w → (execOp a.eval o).run P w = .ok (.enter g args) w)
    (h : ∀ a, Rep n D ov a → ∀ w, St w0 H w → Calls P g args w fun e w' => (∃ v, e = .returned v ∧ ∃ H', St w0 H' w' ∧ JR P f n R D w0 ops l k (put o.dst v ov) H') ∨
      (∃ chain, e = .panicked chain ∧ Leaves P fn a.tmps R D (.panicking chain) w')) :
    JO P f n R D w0 ops o l k ov H := by
  intro i is hi hm a w ha hw hy b cs hb hk
  have hg := stepG_op (P := P) (b := b) (k := k) (cs := cs) (w := w) (rest := is) hi hy
  obtain ⟨e, w', fr, hcase, hsteps, _, hleave⟩ := h a ha w hw (b.at a (.inRegion ops (i :: is) :: k) :: cs)
  have henter : step P (lone (b.at a (.inRegion ops (i :: is) :: k)) cs w) =
      .next (lone (Frame.enter P g args .normal) (b.at a (.inRegion ops (i :: is) :: k) :: cs) w) :=
    step_lone_go (by rw [hg]; simp [stepG.apply, hrun a w ha hw, Frame.at])
  rcases hcase with ⟨v, he, H', hw', hn⟩ | ⟨chain, he, hL⟩
  · subst he
    have hfin : (b.at a (.inRegion ops (i :: is) :: k)).finish v = b.at (a.put o.dst v) (.inRegion ops is :: k) := by
      rw [Frame.finish_at, hi]; rfl
    obtain ⟨e, w'', fr', hR, hc, hrest⟩ := hn is hm (a.put o.dst v) w' (ha.put hd v) hw' b cs hb hk
    refine ⟨e, w'', fr', hR, ?_, hrest⟩
    refine Comes.of_steps (.head henter (Steps.trans hsteps (.one ?_))) hc
    rw [← hfin]; exact step_leave_returned hleave
  · subst he
    have hs := step_leave_panicked (c := b.at a (.inRegion ops (i :: is) :: k)) (cs := cs) hleave
    rw [Frame.raise_at] at hs
    obtain ⟨e', w'', fr', hR', hs', hfn', hk', hl'⟩ := leaves_stepsK D (.panicking chain) w' { b.at a (.inRegion ops (i :: is) :: k) with mode := .panicking chain } cs rfl ha.defers rfl
      (by rw [← hf]; exact congrArg (P.funcs[·]?) hb) hL
    exact ⟨e', w'', fr', hR', Comes.of_steps (.head henter (Steps.trans hsteps (.one hs))) hs', hfn'.trans hb, hk', hl'⟩

/-- an operation that panics -/
theorem JO_halt {ops o l v fn} (hf : P.funcs[f]? = some fn) (hrun : ∀ a w, Rep n D ov a → St w0 H w → (execOp a.eval o).run P w = .halt (.panic v) w)
    (h : ∀ a w, Rep n D ov a → St w0 H w → Leaves P fn a.tmps R D (.panicking [{ v, recovered := false }]) w) : JO P f n R D w0 ops o l k ov H := by
  intro i is hi hm a w ha hw hy b cs hb hk
  have hg := stepG_op (P := P) (b := b) (k := k) (cs := cs) (w := w) (rest := is) hi hy
  have hs : step P (lone (b.at a (.inRegion ops (i :: is) :: k)) cs w) = .next (lone { b.at a (.inRegion ops (i :: is) :: k) with mode := .panicking [{ v, recovered := false }] } cs w) :=
    step_lone_go (by rw [hg, ← Frame.raise_at]; simp [stepG.apply, hrun a w ha hw])
  obtain ⟨e', w'', fr', hR', hs', hfn', hk', hl'⟩ := leaves_stepsK D (.panicking [{ v, recovered := false }]) w { b.at a (.inRegion ops (i :: is) :: k) with mode := .panicking [{ v, recovered := false }] } cs rfl ha.defers rfl
    (by rw [← hf]; exact congrArg (P.funcs[·]?) hb) (h a w ha hw)
  exact ⟨e', w'', fr', hR', Comes.of_steps (.one hs) hs', hfn'.trans hb, hk', hl'⟩

/-- a deferred call is noted -/
theorem JO_defer' {ops o l} {dd : Deferred} (hd : dOk o.dst n = true) (hrun : ∀ a w, Rep n D ov a → St w0 H w → (execOp a.eval o).run P w = .ok (.defer dd) w)
    (hn : JR P f n R (dd :: D) w0 ops l k (put o.dst undef ov) H) : JO P f n R D w0 ops o l k ov H := by
  intro i is hi hm a w ha hw hy
  have ha' : Rep n (dd :: D) ov { a with defers := dd :: a.defers } := ⟨ha.size, by simp [ha.defers], ha.val⟩
  refine (hn is hm ({ a with defers := dd :: a.defers }.put o.dst undef) w (ha'.put hd undef) hw).step fun b cs _ _ => ?_
  refine step_lone_go ?_
  have hg := stepG_op (P := P) (b := b) (k := k) (cs := cs) (w := w) (rest := is) hi hy
  have hfin : ({ b.at a (.inRegion ops (i :: is) :: k) with defers := dd :: a.defers } : Frame).finish undef =
      b.at ({ a with defers := dd :: a.defers }.put o.dst undef) (.inRegion ops is :: k) := by
    have := Frame.finish_at b { a with defers := dd :: a.defers } ops i is k undef
    rw [hi] at this; exact this
  rw [hg]; simp only [stepG.apply, Sem.runT_eq, hrun a w ha hw, GStep.bare_after]
  exact congrArg (fun fr => GStep.go { frame := fr, callers := cs, status := .running, dying := none } w) hfin

/-- the return of a function with deferred calls -/
theorem JS_retD {fn} (hf : P.funcs[f]? = some fn) (h : ∀ a w, Rep n D ov a → St w0 H w → Leaves P fn a.tmps R D .returning w) : JS P f n R D w0 (.code .ret :: k) ov H := by
  intro a w ha hw b cs hb hk
  obtain ⟨e', w'', fr', hR', hs', hfn', hk', hl'⟩ := leaves_stepsK D .returning w { b.at a (.code .ret :: k) with mode := .returning } cs rfl ha.defers rfl
    (by rw [← hf]; exact congrArg (P.funcs[·]?) hb) (h a w ha hw)
  refine ⟨e', w'', fr', hR', Comes.of_steps (.one ?_) hs', hfn'.trans hb, hk', hl'⟩
  exact step_ret
theorem JS_finD {fn} (hf : P.funcs[f]? = some fn) (h : ∀ a w, Rep n D ov a → St w0 H w → Leaves P fn a.tmps R D .returning w) : JS P f n R D w0 [] ov H := by
  intro a w ha hw b cs hb hk
  obtain ⟨e', w'', fr', hR', hs', hfn', hk', hl'⟩ := leaves_stepsK D .returning w { b.at a [] with mode := .returning } cs rfl ha.defers rfl
    (by rw [← hf]; exact congrArg (P.funcs[·]?) hb) (h a w ha hw)
  refine ⟨e', w'', fr', hR', Comes.of_steps (.one ?_) hs', hfn'.trans hb, hk', hl'⟩
  exact step_end

section
variable {ops : Array Oper} {l : List Oper} {d : Option Nat} {T : Nat} {pos : String} {af : Array Edge} {g : Option (Nat × Bool)} {x y : Operand} {v : Value} {tb : Tb P}
theorem JO_callE {fn : Func} {q : Nat} {xs : List Operand} {vs : List Value} {ts : Array Nat} (hf : P.funcs[f]? = some fn) (hc : ∀ args w, (callFunc q args).run P w = .ok (.enter q args) w) (hx : evs ov xs = some vs) (hd : dOk d n = true)
    (h : ∀ a, Rep n D ov a → ∀ w, St w0 H w → Calls P q vs.toArray w fun e w' => (∃ v, e = .returned v ∧ ∃ H', St w0 H' w' ∧ JR P f n R D w0 ops l k (put d v ov) H') ∨ (∃ chain, e = .panicked chain ∧ Leaves P fn a.tmps R D (.panicking chain) w')) :
    JO P f n R D w0 ops ⟨d, .call ⟨.value (.func q), xs.toArray, ts⟩, T, pos, af, g⟩ l k ov H :=
  JO_callE' hf hd (fun A w ha _ => by
    simp only [execOp, resolve, Deferred.ofValue, Act.eval, Sem.run_bind, Sem.run_pure, Result.andThen_ok, invoke]
    rw [List.map_toArray, ha.evs hx]
    simpa using hc vs.toArray w) h
theorem JO_callvE {fn : Func} {q : Nat} {xs : List Operand} {vs : List Value} {us cs : List Value} {ts : Array Nat} (hf : P.funcs[f]? = some fn) (hv : ev ov x = some (.func (.func q) us.toArray cs.toArray)) (hc : ∀ args w, (callFunc q args).run P w = .ok (.enter q args) w) (hx : evs ov xs = some vs) (hd : dOk d n = true)
    (h : ∀ a, Rep n D ov a → ∀ w, St w0 H w → Calls P q (us ++ vs ++ cs).toArray w fun e w' => (∃ v, e = .returned v ∧ ∃ H', St w0 H' w' ∧ JR P f n R D w0 ops l k (put d v ov) H') ∨ (∃ chain, e = .panicked chain ∧ Leaves P fn a.tmps R D (.panicking chain) w')) :
    JO P f n R D w0 ops ⟨d, .call ⟨.value x, xs.toArray, ts⟩, T, pos, af, g⟩ l k ov H :=
  JO_callE' hf hd (fun A w ha _ => by
    simp only [execOp, resolve, ha.ev hv, Deferred.ofValue, Sem.run_bind, Sem.run_pure, Result.andThen_ok, invoke]
    rw [List.map_toArray, ha.evs hx]
    simpa using hc (us ++ vs ++ cs).toArray w) h
theorem JO_panic {fn : Func} {t : Nat} {u : Value} (hf : P.funcs[f]? = some fn) (hx : ev ov x = some (.iface t u))
    (h : ∀ a w, Rep n D ov a → St w0 H w → Leaves P fn a.tmps R D (.panicking [{ v := .iface t u, recovered := false }]) w) :
    JO P f n R D w0 ops ⟨d, .panic x, T, pos, af, g⟩ l k ov H :=
  JO_halt hf (fun A w ha _ => by simp [execOp, ha.ev hx, Instr.panic]) h
theorem V_mkI {t sz by' : Nat} {ty : Ty} {z : Option (List Value)} (hx : ev ov x = some v) (hT : tlook tb.l t = some ⟨ty, sz, by', z⟩) (hi : ty ≠ .iface) (hd : dOk d n = true) : OpV P n D w0 ov H ⟨d, .makeInterface t x, T, pos, af, g⟩ (.iface t v) :=
  ⟨hd, fun A w ha _ => by
    obtain ⟨dd, e1, e2⟩ := Tb.und hT
    cases dd <;> simp [execOp, ha.ev hx, Instr.makeInterface, run_underlying e1]
    simp [tyOf] at e2; exact absurd e2.symm hi⟩
theorem JO_defer {q : Nat} {xs : List Operand} {vs : List Value} {ts : Array Nat} (hx : evs ov xs = some vs) (hd : dOk d n = true)
    (hn : JR P f n R (⟨.fn (.func q) #[], vs.toArray⟩ :: D) w0 ops l k (put d undef ov) H) :
    JO P f n R D w0 ops ⟨d, .defer ⟨.value (.func q), xs.toArray, ts⟩, T, pos, af, g⟩ l k ov H :=
  JO_defer' hd (fun A w ha _ => by
    simp only [execOp, resolve, Deferred.ofValue, Act.eval, Sem.run_bind, Sem.run_pure, Result.andThen_ok]
    rw [List.map_toArray, ha.evs hx]
    simp) hn
theorem JO_deferv {q : Nat} {xs : List Operand} {vs : List Value} {us cs : List Value} {ts : Array Nat} (hv : ev ov x = some (.func (.func q) us.toArray cs.toArray)) (hx : evs ov xs = some vs) (hd : dOk d n = true)
    (hn : JR P f n R (⟨.fn (.func q) cs.toArray, (us ++ vs).toArray⟩ :: D) w0 ops l k (put d undef ov) H) :
    JO P f n R D w0 ops ⟨d, .defer ⟨.value x, xs.toArray, ts⟩, T, pos, af, g⟩ l k ov H :=
  JO_defer' hd (fun A w ha _ => by
    simp only [execOp, resolve, ha.ev hv, Deferred.ofValue, Sem.run_bind, Sem.run_pure, Result.andThen_ok]
    rw [List.map_toArray, ha.evs hx]
    simp) hn
end
end
end Sx

namespace Sx
open Go
attribute [irreducible] J JS JR JO Rd ArgRd QR QO QK OpV OpK
end Sx
