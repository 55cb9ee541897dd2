import Derived.WalkKit
import Derived.ProofKit
import Derived.OpenShut
import Derived.ChangeSlices
import Derived.Test.YtakgoflfcgofdaaP5
namespace Go.Proofs.Ytakgoflfcgofdaa
open Sx Go
set_option linter.unusedVariables false
set_option linter.unusedSimpArgs false
attribute [local irreducible] syA fc tk cds
/-! ## another limit -/
/-- steps under limits: one that goes on, goes on under each limit that has room, and fails under a lesser one -/
def PLg (f : Nat → Nat → List Int → Stp) : Prop := ∀ lim lim' a o a' o', f lim a o = .go a' o' → o.length ≤ o'.length ∧ (o'.length ≤ lim' → f lim' a o = .go a' o') ∧ (o.length ≤ lim' → lim' < o'.length → f lim' a o = .err 64)
def PLs (f : Nat → Nat → List Int → Stp) : Prop := ∀ lim lim' a o a' o', f lim a o = .stop a' o' → o.length ≤ o'.length ∧ (o'.length ≤ lim' → f lim' a o = .stop a' o') ∧ (o.length ≤ lim' → lim' < o'.length → f lim' a o = .err 64)
def PLr (g : Nat → Nat → List Int → Res) : Prop := ∀ lim lim' a o a' o', g lim a o = .ok a' o' → o.length ≤ o'.length ∧ (o'.length ≤ lim' → g lim' a o = .ok a' o') ∧ (o.length ≤ lim' → lim' < o'.length → g lim' a o = .err 64)
theorem It_lim {f : Nat → Nat → List Int → Stp} (hg : PLg f) (hs : PLs f) {lim lim' a : Nat} {o : List Int} {r : Res} (h : It (f lim) a o r) : ∀ a' o', r = .ok a' o' →
    o.length ≤ o'.length ∧ (o'.length ≤ lim' → It (f lim') a o (.ok a' o')) ∧ (o.length ≤ lim' → lim' < o'.length → It (f lim') a o (.err 64)) := by
  induction h with
  | err _ => intro a' o' h; cases h
  | stop h =>
    intro a' o' h'
    cases h'
    obtain ⟨h1, h2, h3⟩ := hs lim lim' _ _ _ _ h
    exact ⟨h1, fun h => .stop (h2 h), fun h h' => .err (h3 h h')⟩
  | go h _ ih =>
    intro a' o' h'
    obtain ⟨h1, h2, h3⟩ := hg lim lim' _ _ _ _ h
    obtain ⟨i1, i2, i3⟩ := ih a' o' h'
    refine ⟨Nat.le_trans h1 i1, fun h => .go (h2 (Nat.le_trans i1 h)) (i2 h), fun hl hl' => ?_⟩
    rename_i o1 _ _
    rcases Nat.lt_or_ge lim' o1.length with hlt | hge
    · exact .err (h3 hl hlt)
    · exact .go (h2 hge) (i3 hge hl')
theorem blk2_lim {bt : Nat → Int} {N : Nat} {D : List Int} {lim lim' a a' : Nat} {o o' : List Int} {len : Int} (hlen : 0 ≤ len) (h : blk2 bt N lim D o len a = .go a' o') :
    o.length ≤ o'.length ∧ (o'.length ≤ lim' → blk2 bt N lim' D o len a = .go a' o') ∧ (o.length ≤ lim' → lim' < o'.length → blk2 bt N lim' D o len a = .err 64) := by
  unfold blk2 at h ⊢
  cases hs : symS bt N D a with
  | err e => rw [hs] at h; cases h
  | ok d a2 =>
    rw [hs] at h
    simp only at h ⊢
    split at h
    · cases h
    · rename_i h1
      rw [if_neg h1]
      split at h
      · cases h
      · rename_i h2
        rw [if_neg h2]
        split at h
        · cases h
        · rename_i h3
          rw [if_neg h3]
          split at h
          · cases h
          · rename_i h4
            simp only [Stp.go.injEq] at h
            obtain ⟨rfl, rfl⟩ := h
            rw [cpy_len]
            refine ⟨by omega, fun h => ?_, fun h h' => ?_⟩
            · rw [if_neg (by omega)]
            · rw [if_pos (by omega)]
theorem lb_nn {bt : Nat → Int} (hb : ∀ j, bt j = 0 ∨ bt j = 1) {i : Int} {a c : Nat} (h : ¬ (lbase i).1 = 0) : 0 ≤ (lbase i).1 + nbt bt a c := by
  have h1 := lbase_ok h
  have h2 := nbt_bd bt hb a c
  omega
theorem blkF_limg {bt : Nat → Int} (hb : ∀ j, bt j = 0 ∨ bt j = 1) (N : Nat) (L D : List Int) : PLg fun lim => blkF bt N lim L D := by
  intro lim lim' a o a' o' h
  simp only at h ⊢
  unfold blkF at h ⊢
  cases hs : symS bt N L a with
  | err e => rw [hs] at h; cases h
  | ok i a1 =>
    rw [hs] at h
    simp only at h ⊢
    split at h
    · cases h
    · rename_i h1
      rw [if_neg h1]
      split at h
      · rename_i h2
        rw [if_pos h2]
        split at h
        · cases h
        · rename_i h3
          simp only [Stp.go.injEq] at h
          obtain ⟨rfl, rfl⟩ := h
          rw [List.length_append, List.length_singleton]
          refine ⟨by omega, fun h => ?_, fun h h' => ?_⟩
          · rw [if_neg (by omega)]
          · rw [if_pos (by omega)]
      · rename_i h2
        rw [if_neg h2]
        split at h
        · cases h
        · rename_i h3
          rw [if_neg h3]
          split at h
          · cases h
          · rename_i h4
            rw [if_neg h4]
            exact blk2_lim (lb_nn hb h3) h
theorem blkF_lims {bt : Nat → Int} (N : Nat) (L D : List Int) : PLs fun lim => blkF bt N lim L D := by
  intro lim lim' a o a' o' h
  simp only at h ⊢
  unfold blkF at h ⊢
  cases hs : symS bt N L a with
  | err e => rw [hs] at h; cases h
  | ok i a1 =>
    rw [hs] at h
    simp only at h ⊢
    split at h
    · rename_i h1
      simp only [Stp.stop.injEq] at h
      obtain ⟨rfl, rfl⟩ := h
      rw [if_pos h1]
      exact ⟨Nat.le_refl _, fun _ => rfl, fun h h' => by omega⟩
    · split at h
      · split at h <;> cases h
      · split at h
        · cases h
        · split at h
          · cases h
          · exact (blk2_stop h).elim
theorem itblk_lim {bt : Nat → Int} (hb : ∀ j, bt j = 0 ∨ bt j = 1) (N : Nat) (L D : List Int) : PLr fun lim a o => itF (blkF bt N lim L D) a o := by
  intro lim lim' a o a' o' h
  obtain ⟨h1, h2, h3⟩ := It_lim (lim' := lim') (blkF_limg hb N L D) (blkF_lims N L D) (itF_ok h) a' o' rfl
  exact ⟨h1, fun h => itF_of (h2 h), fun h h' => itF_of (h3 h h')⟩
theorem stoF_lim {bt : Nat → Int} (hb : ∀ j, bt j = 0 ∨ bt j = 1) (N : Nat) : PLr fun lim => stoF bt N lim := by
  intro lim lim' a o a' o' h
  have hn := (nbt_bd bt hb (upto8 a) 16).1
  simp only at h ⊢
  unfold stoF at h ⊢
  split at h
  · cases h
  · rename_i h1
    rw [if_neg h1]
    split at h
    · cases h
    · rename_i h2
      rw [if_neg h2]
      split at h
      · cases h
      · rename_i h3
        rw [if_neg h3]
        split at h
        · cases h
        · rename_i h4
          split at h
          · cases h
          · rename_i h5
            simp only [Res.ok.injEq] at h
            obtain ⟨rfl, rfl⟩ := h
            rw [List.length_append, byts_len]
            refine ⟨by omega, fun h => ?_, fun h h' => ?_⟩
            · rw [if_neg (by omega), if_neg h5]
            · rw [if_pos (by omega)]
theorem desF_lim {bt : Nat → Int} (hb : ∀ j, bt j = 0 ∨ bt j = 1) (N : Nat) : PLr fun lim => desF bt N lim := by
  intro lim lim' a o a' o' h
  simp only at h ⊢
  unfold desF at h ⊢
  split at h
  · cases h
  · rename_i h1
    rw [if_neg h1]
    split at h
    · cases h
    · rename_i h2
      rw [if_neg h2]
      split at h
      · cases h
      · rename_i h3
        rw [if_neg h3]
        unfold des1 at h ⊢
        split at h
        · cases h
        · rename_i h4
          rw [if_neg h4]
          split at h
          · cases h
          · rename_i h5
            rw [if_neg h5]
            split at h
            · cases h
            · rename_i h6
              rw [if_neg h6]
              split at h
              · cases h
              · rename_i a1 l1 hl1
                unfold des2 at h ⊢
                split at h
                · cases h
                · rename_i h7
                  rw [if_neg h7]
                  split at h
                  · cases h
                  · rename_i h8
                    rw [if_neg h8]
                    split at h
                    · cases h
                    · rename_i h9
                      rw [if_neg h9]
                      exact itblk_lim hb N _ _ lim lim' _ _ _ _ h
theorem kndF_lim {bt : Nat → Int} (hb : ∀ j, bt j = 0 ∨ bt j = 1) (N : Nat) (k : Int) : PLr fun lim => kndF bt N lim k := by
  intro lim lim' a o a' o' h
  simp only at h ⊢
  unfold kndF at h ⊢
  split at h
  · rename_i h1
    rw [if_pos h1]
    exact stoF_lim hb N lim lim' _ _ _ _ h
  · rename_i h1
    rw [if_neg h1]
    split at h
    · rename_i h2
      rw [if_pos h2]
      exact itblk_lim hb N _ _ lim lim' _ _ _ _ h
    · rename_i h2
      rw [if_neg h2]
      split at h
      · rename_i h3
        rw [if_pos h3]
        exact desF_lim hb N lim lim' _ _ _ _ h
      · cases h
theorem rdF_limg {bt : Nat → Int} (hb : ∀ j, bt j = 0 ∨ bt j = 1) (N : Nat) : PLg fun lim => rdF bt N lim := by
  intro lim lim' a o a' o' h
  simp only at h ⊢
  unfold rdF at h ⊢
  split at h
  · cases h
  · rename_i h1
    rw [if_neg h1]
    split at h
    · cases h
    · rename_i h2
      rw [if_neg h2]
      split at h
      · cases h
      · rename_i a1 o1 hk
        split at h
        · rename_i h3
          simp only [Stp.go.injEq] at h
          obtain ⟨rfl, rfl⟩ := h
          obtain ⟨g1, g2, g3⟩ := kndF_lim hb N _ lim lim' _ _ _ _ hk
          refine ⟨g1, fun h => ?_, fun h h' => ?_⟩
          · have e := g2 h; simp only at e; rw [e]; simp only; rw [if_pos h3]
          · have e := g3 h h'; simp only at e; rw [e]
        · cases h
theorem rdF_lims {bt : Nat → Int} (hb : ∀ j, bt j = 0 ∨ bt j = 1) (N : Nat) : PLs fun lim => rdF bt N lim := by
  intro lim lim' a o a' o' h
  simp only at h ⊢
  unfold rdF at h ⊢
  split at h
  · cases h
  · rename_i h1
    rw [if_neg h1]
    split at h
    · cases h
    · rename_i h2
      rw [if_neg h2]
      split at h
      · cases h
      · rename_i a1 o1 hk
        split at h
        · cases h
        · rename_i h3
          simp only [Stp.stop.injEq] at h
          obtain ⟨rfl, rfl⟩ := h
          obtain ⟨g1, g2, g3⟩ := kndF_lim hb N _ lim lim' _ _ _ _ hk
          refine ⟨g1, fun h => ?_, fun h h' => ?_⟩
          · have e := g2 h; simp only at e; rw [e]; simp only; rw [if_neg h3]
          · have e := g3 h h'; simp only at e; rw [e]
theorem ALLR_more {B : List Int} {lim lim' a : Nat} {o : List Int} (h : ALLR B lim (.ok a o)) (hl : o.length ≤ lim') : ALLR B lim' (.ok a o) :=
  (It_lim (lim' := lim') (rdF_limg (bitB_01 B 0) (8 * B.length)) (rdF_lims (bitB_01 B 0) (8 * B.length)) h a o rfl).2.1 hl
theorem ALLR_less {B : List Int} {lim lim' a : Nat} {o : List Int} (h : ALLR B lim (.ok a o)) (hl : lim' < o.length) : ALLR B lim' (.err 64) :=
  (It_lim (lim' := lim') (rdF_limg (bitB_01 B 0) (8 * B.length)) (rdF_lims (bitB_01 B 0) (8 * B.length)) h a o rfl).2.2 (Nat.zero_le _) hl
end Go.Proofs.Ytakgoflfcgofdaa

namespace Go.Proofs.Ytakgoflfcgofdaa
open Sx Go
set_option linter.unusedVariables false
set_option linter.unusedSimpArgs false
attribute [local irreducible] syA fc tk cds
/-! ## an error is told by a number that is not 0 -/
theorem RD_total (L : List Int) (b : Nat → Int) (left : Nat) : ∃ i u r, RD L b left i u r := by
  by_cases h : ∃ j, DEC L b left j
  · obtain ⟨j, hj⟩ := h
    obtain ⟨n, h1, h2, h3, h4⟩ := hj
    exact ⟨j, n, 0, .inl ⟨j, rfl, rfl, ⟨n, h1, h2, h3, h4⟩, h3⟩⟩
  · have hno : ∀ j, ¬ DEC L b left j := fun j hj => h ⟨j, hj⟩
    by_cases h1 : sm L = 0
    · exact ⟨0, 0, 62, .inr ⟨hno, rfl, .inl ⟨h1, rfl, rfl⟩⟩⟩
    · by_cases h2 : tk L = 32768
      · exact ⟨0, left, 20, .inr ⟨hno, rfl, .inr (.inl ⟨h1, h2, rfl, rfl⟩)⟩⟩
      · rcases Nat.eq_zero_or_pos left with h3 | h3
        · exact ⟨0, 0, 20, .inr ⟨hno, rfl, .inr (.inr ⟨h1, h2, .inl ⟨h3, rfl, rfl⟩⟩)⟩⟩
        · exact ⟨0, 1, 62, .inr ⟨hno, rfl, .inr (.inr ⟨h1, h2, .inr ⟨h3, rfl, rfl⟩⟩)⟩⟩
/-- what a symbol's reading tells -/
theorem symS_RD (bt : Nat → Int) (N : Nat) (L : List Int) (a : Nat) : ∃ i u r, RD L (fun j => bt (a + j)) (N - a) i u r ∧ symS bt N L a = if r = 0 then .ok i (a + u) else .err r := by
  have hex : ∃ x : Int × Nat × Int, RD L (fun j => bt (a + j)) (N - a) x.1 x.2.1 x.2.2 := by
    obtain ⟨i, u, r, h⟩ := RD_total L (fun j => bt (a + j)) (N - a)
    exact ⟨(i, u, r), h⟩
  refine ⟨hex.choose.1, hex.choose.2.1, hex.choose.2.2, hex.choose_spec, ?_⟩
  unfold symS
  rw [dif_pos hex]
theorem symS_ne {bt : Nat → Int} {N a : Nat} {L : List Int} {e : Int} (h : symS bt N L a = .err e) : e ≠ 0 := by
  obtain ⟨i, u, r, _, h2⟩ := symS_RD bt N L a
  rw [h2] at h
  split at h
  · cases h
  · rename_i hr
    simp only [Sy.err.injEq] at h
    rw [← h]; exact hr
theorem symS_gt {bt : Nat → Int} {N a a1 : Nat} {L : List Int} {i : Int} (h : symS bt N L a = .ok i a1) (ha : a ≤ N) : a < a1 ∧ a1 ≤ N ∧ 0 ≤ i ∧ i < L.length := by
  obtain ⟨i', u, r, h1, h2⟩ := symS_RD bt N L a
  rw [h2] at h
  split at h
  · rename_i hr
    subst hr
    simp only [Sy.ok.injEq] at h
    obtain ⟨rfl, rfl⟩ := h
    rcases h1 with ⟨j, rfl, _, ⟨n, hj, h0, hn, hle, _⟩, hu⟩ | ⟨_, _, h | h | ⟨_, _, h | h⟩⟩
    · rw [hu] at hn; omega
    all_goals omega
  · cases h
/-- an iteration that goes on and on, up to a bound, ends -/
theorem It_total {f : Nat → List Int → Stp} {N : Nat} (hf : ∀ a o a' o', a ≤ N → f a o = .go a' o' → a < a' ∧ a' ≤ N) : ∀ (a : Nat) (o : List Int), a ≤ N → ∃ r, It f a o r := by
  have key : ∀ m a o, N - a = m → a ≤ N → ∃ r, It f a o r := by
    intro m
    induction m using Nat.strongRecOn with
    | _ m ih =>
      intro a o hm ha
      cases h : f a o with
      | err e => exact ⟨_, .err h⟩
      | stop a' o' => exact ⟨_, .stop h⟩
      | go a' o' =>
        obtain ⟨h1, h2⟩ := hf a o a' o' ha h
        obtain ⟨r, hr⟩ := ih (N - a') (by omega) a' o' rfl h2
        exact ⟨r, .go h hr⟩
  exact fun a o ha => key _ a o rfl ha
theorem It_ne {f : Nat → List Int → Stp} (hf : ∀ a o e, f a o = .err e → e ≠ 0) {a : Nat} {o : List Int} {r : Res} (h : It f a o r) : ∀ e, r = .err e → e ≠ 0 := by
  induction h with
  | err h => intro e he; cases he; exact hf _ _ _ h
  | stop _ => intro e he; cases he
  | go _ _ ih => exact ih
theorem itF_ne {f : Nat → List Int → Stp} {N : Nat} (hf : ∀ a o a' o', a ≤ N → f a o = .go a' o' → a < a' ∧ a' ≤ N) (he : ∀ a o e, f a o = .err e → e ≠ 0) {a : Nat} {o : List Int} {e : Int} (ha : a ≤ N) (h : itF f a o = .err e) : e ≠ 0 := by
  obtain ⟨r, hr⟩ := It_total hf a o ha
  have := itF_of hr
  rw [h] at this
  exact It_ne he hr e this.symm
theorem blk2_gt {bt : Nat → Int} {N lim a a' : Nat} {D o o' : List Int} {len : Int} (h : blk2 bt N lim D o len a = .go a' o') (ha : a ≤ N) : a < a' ∧ a' ≤ N := by
  unfold blk2 at h
  split at h
  · cases h
  · rename_i d a2 hs
    have := symS_gt hs ha
    split at h
    · cases h
    · split at h
      · cases h
      · split at h
        · cases h
        · split at h
          · cases h
          · simp only [Stp.go.injEq] at h; omega
theorem blk2_ne {bt : Nat → Int} {N lim a : Nat} {D o : List Int} {len e : Int} (h : blk2 bt N lim D o len a = .err e) : e ≠ 0 := by
  unfold blk2 at h
  split at h
  · rename_i hs
    simp only [Stp.err.injEq] at h
    exact h ▸ symS_ne hs
  · split at h
    · simp only [Stp.err.injEq] at h; omega
    · split at h
      · simp only [Stp.err.injEq] at h; omega
      · split at h
        · simp only [Stp.err.injEq] at h; omega
        · split at h
          · simp only [Stp.err.injEq] at h; omega
          · cases h
theorem blkF_gt {bt : Nat → Int} {N lim a a' : Nat} {L D o o' : List Int} (ha : a ≤ N) (h : blkF bt N lim L D a o = .go a' o') : a < a' ∧ a' ≤ N := by
  unfold blkF at h
  split at h
  · cases h
  · rename_i i a1 hs
    have := symS_gt hs ha
    split at h
    · cases h
    · split at h
      · split at h
        · cases h
        · simp only [Stp.go.injEq] at h; omega
      · split at h
        · cases h
        · split at h
          · cases h
          · have := blk2_gt h (by omega); omega
theorem blkF_ne {bt : Nat → Int} {N lim a : Nat} {L D o : List Int} {e : Int} (h : blkF bt N lim L D a o = .err e) : e ≠ 0 := by
  unfold blkF at h
  split at h
  · rename_i hs
    simp only [Stp.err.injEq] at h
    exact h ▸ symS_ne hs
  · split at h
    · cases h
    · split at h
      · split at h
        · simp only [Stp.err.injEq] at h; omega
        · cases h
      · split at h
        · simp only [Stp.err.injEq] at h; omega
        · split at h
          · simp only [Stp.err.injEq] at h; omega
          · exact blk2_ne h
theorem lenP_ne {many : Nat} {l : List Int} {x t : Int} {a : Nat} {e : Int} (h : lenP many l x t a = .err e) : e ≠ 0 := by
  unfold lenP at h
  split at h
  · simp only [Stp.err.injEq] at h; omega
  · cases h
theorem lenP_go {many : Nat} {l l' : List Int} {x t : Int} {a a' : Nat} (h : lenP many l x t a = .go a' l') : a = a' := lenP_ge (.inl h)
theorem lenF_gt {bt : Nat → Int} {N a a' many : Nat} {C l l' : List Int} (ha : a ≤ N) (h : lenF bt N C many a l = .go a' l') : a < a' ∧ a' ≤ N := by
  unfold lenF at h
  split at h
  · cases h
  · split at h
    · cases h
    · rename_i i a1 hs
      have := symS_gt hs ha
      split at h
      · split at h
        · cases h
        · split at h
          · cases h
          · have := lenP_go h; omega
      · split at h
        · split at h
          · cases h
          · have := lenP_go h; omega
        · split at h
          · split at h
            · cases h
            · have := lenP_go h; omega
          · have := lenP_go h; omega
theorem lenF_ne {bt : Nat → Int} {N a many : Nat} {C l : List Int} {e : Int} (h : lenF bt N C many a l = .err e) : e ≠ 0 := by
  unfold lenF at h
  split at h
  · cases h
  · split at h
    · rename_i hs
      simp only [Stp.err.injEq] at h
      exact h ▸ symS_ne hs
    · split at h
      · split at h
        · simp only [Stp.err.injEq] at h; omega
        · split at h
          · simp only [Stp.err.injEq] at h; omega
          · exact lenP_ne h
      · split at h
        · split at h
          · simp only [Stp.err.injEq] at h; omega
          · exact lenP_ne h
        · split at h
          · split at h
            · simp only [Stp.err.injEq] at h; omega
            · exact lenP_ne h
          · exact lenP_ne h
theorem stoF_ne {bt : Nat → Int} {N lim a : Nat} {o : List Int} {e : Int} (h : stoF bt N lim a o = .err e) : e ≠ 0 := by
  unfold stoF at h
  repeat (split at h; (simp only [Res.err.injEq] at h; omega))
  cases h
theorem It_le {f : Nat → List Int → Stp} {N : Nat} (hg : ∀ a o a' o', a ≤ N → f a o = .go a' o' → a' ≤ N) (hs : ∀ a o a' o', a ≤ N → f a o = .stop a' o' → a' ≤ N) {a : Nat} {o : List Int} {r : Res} (h : It f a o r) : a ≤ N → ∀ a' o', r = .ok a' o' → a' ≤ N := by
  induction h with
  | err _ => intro _ a' o' h; cases h
  | stop h => intro ha a' o' h'; cases h'; exact hs _ _ _ _ ha h
  | go h _ ih => intro ha; exact ih (hg _ _ _ _ ha h)
theorem It_neN {f : Nat → List Int → Stp} {N : Nat} (hg : ∀ a o a' o', a ≤ N → f a o = .go a' o' → a' ≤ N) (hf : ∀ a o e, a ≤ N → f a o = .err e → e ≠ 0) {a : Nat} {o : List Int} {r : Res} (h : It f a o r) : a ≤ N → ∀ e, r = .err e → e ≠ 0 := by
  induction h with
  | err h => intro ha e he; cases he; exact hf _ _ _ ha h
  | stop _ => intro _ e he; cases he
  | go h _ ih => intro ha; exact ih (hg _ _ _ _ ha h)
theorem blkF_le {bt : Nat → Int} {N lim a a' : Nat} {L D o o' : List Int} (ha : a ≤ N) (h : blkF bt N lim L D a o = .stop a' o') : a' ≤ N := by
  unfold blkF at h
  split at h
  · cases h
  · rename_i i a1 hs
    have := symS_gt hs ha
    split at h
    · simp only [Stp.stop.injEq] at h; omega
    · split at h
      · split at h <;> cases h
      · split at h
        · cases h
        · split at h
          · cases h
          · exact (blk2_stop h).elim
theorem lenF_le {bt : Nat → Int} {N a a' many : Nat} {C l l' : List Int} (ha : a ≤ N) (h : lenF bt N C many a l = .stop a' l') : a' ≤ N := by
  have := lenF_ge (.inr h)
  unfold lenF at h
  split at h
  · simp only [Stp.stop.injEq] at h; omega
  · exfalso
    split at h
    · cases h
    · split at h
      · split at h
        · cases h
        · split at h
          · cases h
          · unfold lenP at h; split at h <;> cases h
      · split at h
        · split at h
          · cases h
          · unfold lenP at h; split at h <;> cases h
        · split at h
          · split at h
            · cases h
            · unfold lenP at h; split at h <;> cases h
          · unfold lenP at h; split at h <;> cases h
theorem itblk_le {bt : Nat → Int} {N lim a a' : Nat} {L D o o' : List Int} (ha : a ≤ N) (h : itF (blkF bt N lim L D) a o = .ok a' o') : a' ≤ N :=
  It_le (N := N) (fun _ _ _ _ ha h => (blkF_gt ha h).2) (fun _ _ _ _ => blkF_le) (itF_ok h) ha _ _ rfl
theorem itlen_le {bt : Nat → Int} {N many a a' : Nat} {C l l' : List Int} (ha : a ≤ N) (h : itF (lenF bt N C many) a l = .ok a' l') : a' ≤ N :=
  It_le (N := N) (fun _ _ _ _ ha h => (lenF_gt ha h).2) (fun _ _ _ _ => lenF_le) (itF_ok h) ha _ _ rfl
theorem itblk_ne {bt : Nat → Int} {N lim a : Nat} {L D o : List Int} {e : Int} (ha : a ≤ N) (h : itF (blkF bt N lim L D) a o = .err e) : e ≠ 0 :=
  itF_ne (N := N) (fun _ _ _ _ => blkF_gt) (fun _ _ _ => blkF_ne) ha h
theorem desF_ne {bt : Nat → Int} {N lim a : Nat} {o : List Int} {e : Int} (h : desF bt N lim a o = .err e) : e ≠ 0 := by
  unfold desF at h
  split at h
  · simp only [Res.err.injEq] at h; omega
  · split at h
    · simp only [Res.err.injEq] at h; omega
    · split at h
      · simp only [Res.err.injEq] at h; omega
      · unfold des1 at h
        split at h
        · simp only [Res.err.injEq] at h; omega
        · split at h
          · simp only [Res.err.injEq] at h; omega
          · split at h
            · simp only [Res.err.injEq] at h; omega
            · split at h
              · rename_i hl
                simp only [Res.err.injEq] at h
                exact h ▸ itF_ne (N := N) (fun _ _ _ _ => lenF_gt) (fun _ _ _ => lenF_ne) (by omega) hl
              · rename_i a1 l1 hl
                have ha1 := itlen_le (by omega) hl
                unfold des2 at h
                split at h
                · simp only [Res.err.injEq] at h; omega
                · split at h
                  · simp only [Res.err.injEq] at h; omega
                  · split at h
                    · simp only [Res.err.injEq] at h; omega
                    · exact itblk_ne ha1 h
theorem desF_le {bt : Nat → Int} {N lim a a' : Nat} {o o' : List Int} (h : desF bt N lim a o = .ok a' o') : a' ≤ N := by
  unfold desF at h
  split at h
  · cases h
  · split at h
    · cases h
    · split at h
      · cases h
      · unfold des1 at h
        split at h
        · cases h
        · split at h
          · cases h
          · split at h
            · cases h
            · split at h
              · cases h
              · rename_i a1 l1 hl
                have ha1 := itlen_le (by omega) hl
                unfold des2 at h
                split at h
                · cases h
                · split at h
                  · cases h
                  · split at h
                    · cases h
                    · exact itblk_le ha1 h
theorem stoF_le {bt : Nat → Int} (hb : ∀ j, bt j = 0 ∨ bt j = 1) {N lim a a' : Nat} {o o' : List Int} (h : stoF bt N lim a o = .ok a' o') : a' ≤ N := by
  have hn := (nbt_bd bt hb (upto8 a) 16).1
  unfold stoF at h
  split at h
  · cases h
  · split at h
    · cases h
    · split at h
      · cases h
      · split at h
        · cases h
        · split at h
          · cases h
          · simp only [Res.ok.injEq] at h; omega
theorem kndF_ne {bt : Nat → Int} {N lim a : Nat} {k : Int} {o : List Int} {e : Int} (ha : a ≤ N) (h : kndF bt N lim k a o = .err e) : e ≠ 0 := by
  unfold kndF at h
  split at h
  · exact stoF_ne h
  · split at h
    · exact itblk_ne ha h
    · split at h
      · exact desF_ne h
      · simp only [Res.err.injEq] at h; omega
theorem kndF_le {bt : Nat → Int} (hb : ∀ j, bt j = 0 ∨ bt j = 1) {N lim a a' : Nat} {k : Int} {o o' : List Int} (ha : a ≤ N) (h : kndF bt N lim k a o = .ok a' o') : a' ≤ N := by
  unfold kndF at h
  split at h
  · exact stoF_le hb h
  · split at h
    · exact itblk_le ha h
    · split at h
      · exact desF_le h
      · cases h
theorem rdF_ne {bt : Nat → Int} {N lim a : Nat} {o : List Int} {e : Int} (h : rdF bt N lim a o = .err e) : e ≠ 0 := by
  unfold rdF at h
  split at h
  · simp only [Stp.err.injEq] at h; omega
  · split at h
    · simp only [Stp.err.injEq] at h; omega
    · split at h
      · rename_i hk
        simp only [Stp.err.injEq] at h
        exact h ▸ kndF_ne (by omega) hk
      · split at h <;> cases h
theorem ALLR_ne {B : List Int} {lim : Nat} {e : Int} (h : ALLR B lim (.err e)) : e ≠ 0 := It_ne (fun _ _ _ => rdF_ne) h e rfl
end Go.Proofs.Ytakgoflfcgofdaa

namespace Go.Proofs.Ytakgoflfcgofdaa
open Sx Go Go.ChangeShapes Go.WideShapes
set_option linter.unusedVariables false
set_option linter.unusedSimpArgs false
theorem cell_lt {w : World} {a : Addr} {v : Value} (h : w.cell? a = some v) : a.block < w.heap.size := by
  rcases Nat.lt_or_ge a.block w.heap.size with h1 | h1
  · exact h1
  · simp [World.cell?, Array.getElem?_eq_none h1] at h
theorem wf64 {a : Int} (h : (Lit.int .i64 a).wf = true) : -9223372036854775808 ≤ a ∧ a < 9223372036854775808 := by
  simp only [Lit.wf, Bool.and_eq_true, decide_eq_true_eq] at h
  have h1 : IntKind.i64.min = -9223372036854775808 := by decide
  have h2 : IntKind.i64.max = 9223372036854775808 - 1 := by decide
  omega
theorem wfu64 {a : Int} (h : (Lit.int .u64 a).wf = true) : 0 ≤ a ∧ a < 18446744073709551616 := by
  simp only [Lit.wf, Bool.and_eq_true, decide_eq_true_eq] at h
  have h1 : IntKind.u64.min = 0 := by decide
  have h2 : IntKind.u64.max = 18446744073709551616 - 1 := by decide
  omega
theorem argRd_mk {w0 : World} {u : Value} {m : Nat} {cs : List Value} (h1 : isSl u m) (h2 : ∀ j v, cs[j]? = some v → ∃ a, cellPtr u j = .pointer (some a) ∧ a.block < w0.heap.size ∧ w0.cell? a = some v) : ArgRd w0 u m cs := by
  unfold ArgRd; exact ⟨h1, h2⟩
def iv : Value → Int
  | .int _ n => n
  | _ => 0
theorem wfu8 {a : Int} (h : (Lit.int .u8 a).wf = true) : 0 ≤ a ∧ a < 256 := by
  simp only [Lit.wf, Bool.and_eq_true, decide_eq_true_eq] at h
  have h1 : IntKind.u8.min = 0 := by decide
  have h2 : IntKind.u8.max = 256 - 1 := by decide
  omega
end Go.Proofs.Ytakgoflfcgofdaa

namespace Go.Proofs.Ytakgoflfcgofdaa
open Sx Go Go.ChangeShapes Go.WideShapes
set_option linter.unusedVariables false
set_option linter.unusedSimpArgs false
theorem cells5 : Try.prog.cellsOf 5 = 1 := by kernel_rfl
set_option maxRecDepth 100000 in
/-- a slice of bytes that came in -/
theorem open_bytes {H : Type} {enc : TypeId × Value → H} {W : World} {base : Nat} {v : Value} {d : DataW H} {p : List MemPlace} (hval : Value.okWide Try.prog W .any base 22 v) (h : DataW.Trod enc Try.prog W 0 (fun _ => true) true 22 v d p) :
    ∃ (b : Option Addr) (c m : Nat) (B : List Int), v = .slice b m c ∧ ArgRd W (.slice b m c) m (ints .u8 B) ∧ B.length = m ∧ (OKB B ∧ (b = none → m = 0)) ∧ (m = 0 ∨ ∃ E S, d = .slice E S ∧ E.length = m) := by
  obtain ⟨b, m, c, rfl⟩ := okWide_slice Try.underlying22 hval
  obtain ⟨fuel, hf⟩ := h
  rcases open_ints Try.underlying22 Try.underlying5 cells5 hf with ⟨hcs, _⟩ | ⟨a, len', cap', zs, hcs, _, hl, hm, hz, hx, hcell, hwz⟩
  · simp [Value.cells] at hcs
    obtain ⟨rfl, rfl, rfl⟩ := hcs
    exact ⟨none, 0, 0, [], rfl, argRd_mk ⟨none, 0, rfl, fun _ => rfl, Nat.le_refl _⟩ (fun j v h => by simp [ints] at h), rfl, ⟨fun j => by simp, fun _ => rfl⟩, .inl rfl⟩
  · simp [Value.cells] at hcs
    obtain ⟨rfl, rfl, rfl⟩ := hcs
    simp only [if_true] at hz
    refine ⟨some a, c, m, zs.take m, rfl, argRd_mk ⟨some a, c, rfl, (fun h => by cases h), hl⟩ (fun j v hv => ?_), by simp; omega, ⟨fun j => ?_, fun h => (by cases h)⟩, .inr ⟨_, _, congrArg Prod.fst hx, by simp [lits]; omega⟩⟩
    · have hj : j < m := by
        have := (List.getElem?_eq_some_iff.1 hv).1
        simp [ints] at this; omega
      have e : (ints .u8 (zs.take m))[j]? = some (.int .u8 (zs.getD j 0)) := by
        have := ints_get (K := .u8) (l := zs.take m) (j := j) (by simp; omega)
        rw [this]
        congr 2
        simp [List.getD_eq_getElem?_getD, List.getElem?_take, hj]
      rw [e] at hv
      obtain rfl := Option.some.inj hv
      exact ⟨a.add j, cellPtr_eq a m c j, by simpa using cell_lt (hcell j (by omega)), hcell j (by omega)⟩
    · rcases Nat.lt_or_ge j m with hj | hj
      · have : (zs.take m).getD j 0 = zs[j]'(by omega) := by simp [List.getD_eq_getElem?_getD, List.getElem?_take, hj, show j < zs.length by omega]
        rw [this]
        exact wfu8 (hwz _ (List.getElem_mem _))
      · have : (zs.take m).getD j 0 = 0 := by
          rw [List.getD_eq_getElem?_getD, List.getElem?_eq_none (by simp; omega)]; rfl
        rw [this]; decide
end Go.Proofs.Ytakgoflfcgofdaa

namespace Go.Proofs.Ytakgoflfcgofdaa
open Sx Go
set_option linter.unusedVariables false
set_option linter.unusedSimpArgs false
attribute [local irreducible] syA fc tk cds
set_option maxRecDepth 10000 in
set_option maxHeartbeats 2000000 in
theorem InflateLimit_c (p : Option Addr) (c m : Nat) (B : List Int) (l0 l1 : Int) (w0 : World) (ha : ArgRd w0 (.slice p m c) m (ints .u8 B)) (hm : B.length = m) (hO : OKB B ∧ (p = none → m = 0) ∧ m ≤ 140737488351232) (h0 : 0 ≤ l0 ∧ l0 < 65536) (h1 : 0 ≤ l1 ∧ l1 < 65536) :
    Calls Try.prog 7 #[.slice p m c, .int .u16 l0, .int .u16 l1] w0 fun e w' => e = .returned (.bool true) ∧ RowKit.Below w0.heap.size w0 w' := by
  obtain ⟨hB, hpm, hmx⟩ := hO
  obtain ⟨lim, rfl⟩ : ∃ n : Nat, l0 = n := ⟨l0.toNat, by omega⟩
  obtain ⟨more, rfl⟩ : ∃ n : Nat, l1 = n := ⟨l1.toNat, by omega⟩
  have hn : Rd w0 [] (.slice none 0 0) 0 (ints .u8 []) := nil_rd
  refine enter (vs := [.slice p m c, .int .u16 lim, .int .u16 more]) Try.func7 rfl rfl rfl (St.start w0) ?_
  repeat (first | (apply gJO; first | (apply kS; refine aK ?_) | (apply kX; refine JO_box rfl rfl rfl ?_; intro _) | (apply kA; refine JO_alloc (tb := tb) rfl rfl ?_; intro _) | (apply kBs; refine JO_buildSlice (tb := tb) rfl rfl rfl rfl rfl rfl rfl rfl rfl ?_; intro _) | (apply kM; refine JO_make (tb := tb) rfl rfl rfl rfl rfl rfl (by omega) rfl ?_; intro _) | refine aO ?_) | (apply gJR; first | apply JR_un | apply JR_nil | refine JR_yes rfl rfl ?_ | refine JR_no rfl rfl rfl rfl ?_ | refine JR_noU rfl rfl rfl ?_) | (apply gJS; first | apply JS_seq | apply JS_region | apply JS_skip | apply JS_block | apply JS_inBlock | apply JS_label | refine JS_exit rfl ?_ | refine JS_condT rfl ?_ | refine JS_condF rfl ?_ | refine JS_draw [0] (by kernel_rfl) (by kernel_rfl) (by decide +kernel) ?_ | refine JS_draw [] (by kernel_rfl) (by kernel_rfl) (by decide +kernel) ?_ | refine JS_cond_T rfl (by omega) ?_ | refine JS_cond_F rfl (by omega) ?_) | (apply gQR; first | apply QR_un | apply QR_nil | refine QR_yes rfl rfl ?_ | refine QR_no rfl rfl rfl rfl ?_ | refine QR_noU rfl rfl rfl ?_) | (apply gQO; first | refine aQ ?_ | refine aQK rfl ?_))
  refine JO_call Try.call27 rfl rfl fun w hw => (alive6_c w hw).mono ?_
  rintro e w' ⟨rfl, hw'⟩
  refine ⟨_, rfl, _, hw', ?_⟩
  clear hw' hw w w'
  by_cases hbig : 2000 < m
  · repeat (first | (apply gJO; first | (apply kS; refine aK ?_) | (apply kX; refine JO_box rfl rfl rfl ?_; intro _) | (apply kA; refine JO_alloc (tb := tb) rfl rfl ?_; intro _) | (apply kBs; refine JO_buildSlice (tb := tb) rfl rfl rfl rfl rfl rfl rfl rfl rfl ?_; intro _) | (apply kM; refine JO_make (tb := tb) rfl rfl rfl rfl rfl rfl (by omega) rfl ?_; intro _) | refine aO ?_) | (apply gJR; first | apply JR_un | apply JR_nil | refine JR_yes rfl rfl ?_ | refine JR_no rfl rfl rfl rfl ?_ | refine JR_noU rfl rfl rfl ?_) | (apply gJS; first | apply JS_seq | apply JS_region | apply JS_skip | apply JS_block | apply JS_inBlock | apply JS_label | refine JS_exit rfl ?_ | refine JS_condT rfl ?_ | refine JS_condF rfl ?_ | refine JS_draw [0] (by kernel_rfl) (by kernel_rfl) (by decide +kernel) ?_ | refine JS_draw [] (by kernel_rfl) (by kernel_rfl) (by decide +kernel) ?_ | refine JS_cond_T rfl (by omega) ?_ | refine JS_cond_F rfl (by omega) ?_) | (apply gQR; first | apply QR_un | apply QR_nil | refine QR_yes rfl rfl ?_ | refine QR_no rfl rfl rfl rfl ?_ | refine QR_noU rfl rfl rfl ?_) | (apply gQO; first | refine aQ ?_ | refine aQK rfl ?_))
    exact JS_ret Try.func7 rfl rfl fun w hw => ⟨rfl, hw.grown⟩
  repeat (first | (apply gJO; first | (apply kS; refine aK ?_) | (apply kX; refine JO_box rfl rfl rfl ?_; intro _) | (apply kA; refine JO_alloc (tb := tb) rfl rfl ?_; intro _) | (apply kBs; refine JO_buildSlice (tb := tb) rfl rfl rfl rfl rfl rfl rfl rfl rfl ?_; intro _) | (apply kM; refine JO_make (tb := tb) rfl rfl rfl rfl rfl rfl (by omega) rfl ?_; intro _) | refine aO ?_) | (apply gJR; first | apply JR_un | apply JR_nil | refine JR_yes rfl rfl ?_ | refine JR_no rfl rfl rfl rfl ?_ | refine JR_noU rfl rfl rfl ?_) | (apply gJS; first | apply JS_seq | apply JS_region | apply JS_skip | apply JS_block | apply JS_inBlock | apply JS_label | refine JS_exit rfl ?_ | refine JS_condT rfl ?_ | refine JS_condF rfl ?_ | refine JS_draw [0] (by kernel_rfl) (by kernel_rfl) (by decide +kernel) ?_ | refine JS_draw [] (by kernel_rfl) (by kernel_rfl) (by decide +kernel) ?_ | refine JS_cond_T rfl (by omega) ?_ | refine JS_cond_F rfl (by omega) ?_) | (apply gQR; first | apply QR_un | apply QR_nil | refine QR_yes rfl rfl ?_ | refine QR_no rfl rfl rfl rfl ?_ | refine QR_noU rfl rfl rfl ?_) | (apply gQO; first | refine aQ ?_ | refine aQK rfl ?_))
  refine JO_call Try.call28 rfl rfl fun w hw => (IRead_c p c m B (ha.rd _) hm hB (by omega) lim (by omega) w hw).mono ?_
  rintro e w' (⟨hbad, _⟩ | ⟨_, _, r, hr, h⟩)
  · omega
  rw [Int.toNat_natCast] at hr h
  cases r with
  | err x =>
    obtain ⟨rfl, hw'⟩ := h
    have hx := ALLR_ne hr
    refine ⟨_, rfl, _, hw', ?_⟩
    clear hw' hw w w'
    repeat (first | (apply gJO; first | (apply kS; refine aK ?_) | (apply kX; refine JO_box rfl rfl rfl ?_; intro _) | (apply kA; refine JO_alloc (tb := tb) rfl rfl ?_; intro _) | (apply kBs; refine JO_buildSlice (tb := tb) rfl rfl rfl rfl rfl rfl rfl rfl rfl ?_; intro _) | (apply kM; refine JO_make (tb := tb) rfl rfl rfl rfl rfl rfl (by omega) rfl ?_; intro _) | refine aO ?_) | (apply gJR; first | apply JR_un | apply JR_nil | refine JR_yes rfl rfl ?_ | refine JR_no rfl rfl rfl rfl ?_ | refine JR_noU rfl rfl rfl ?_) | (apply gJS; first | apply JS_seq | apply JS_region | apply JS_skip | apply JS_block | apply JS_inBlock | apply JS_label | refine JS_exit rfl ?_ | refine JS_condT rfl ?_ | refine JS_condF rfl ?_ | refine JS_draw [0] (by kernel_rfl) (by kernel_rfl) (by decide +kernel) ?_ | refine JS_draw [] (by kernel_rfl) (by kernel_rfl) (by decide +kernel) ?_ | refine JS_cond_T rfl (by omega) ?_ | refine JS_cond_F rfl (by omega) ?_) | (apply gQR; first | apply QR_un | apply QR_nil | refine QR_yes rfl rfl ?_ | refine QR_no rfl rfl rfl rfl ?_ | refine QR_noU rfl rfl rfl ?_) | (apply gQO; first | refine aQ ?_ | refine aQK rfl ?_))
    exact JS_ret Try.func7 rfl rfl fun w hw => ⟨rfl, hw.grown⟩
  | ok a o =>
    obtain ⟨ha1, ho1, p2, c2, rfl, hw'⟩ := h
    refine ⟨_, rfl, _, hw', ?_⟩
    clear hw' hw w w'
    obtain ⟨n, hnn⟩ : ∃ n, (a + 7) / 8 = n := ⟨_, rfl⟩
    have hnm : n ≤ m := by omega
    have hmore : (lim : Int) + more = ((lim + more : Nat) : Int) := by omega
    rw [hnn]
    repeat (first | (apply gJO; first | (apply kS; refine aK ?_) | (apply kX; refine JO_box rfl rfl rfl ?_; intro _) | (apply kA; refine JO_alloc (tb := tb) rfl rfl ?_; intro _) | (apply kBs; refine JO_buildSlice (tb := tb) rfl rfl rfl rfl rfl rfl rfl rfl rfl ?_; intro _) | (apply kM; refine JO_make (tb := tb) rfl rfl rfl rfl rfl rfl (by omega) rfl ?_; intro _) | refine aO ?_) | (apply gJR; first | apply JR_un | apply JR_nil | refine JR_yes rfl rfl ?_ | refine JR_no rfl rfl rfl rfl ?_ | refine JR_noU rfl rfl rfl ?_) | (apply gJS; first | apply JS_seq | apply JS_region | apply JS_skip | apply JS_block | apply JS_inBlock | apply JS_label | refine JS_exit rfl ?_ | refine JS_condT rfl ?_ | refine JS_condF rfl ?_ | refine JS_draw [0] (by kernel_rfl) (by kernel_rfl) (by decide +kernel) ?_ | refine JS_draw [] (by kernel_rfl) (by kernel_rfl) (by decide +kernel) ?_ | refine JS_cond_T rfl (by omega) ?_ | refine JS_cond_F rfl (by omega) ?_) | (apply gQR; first | apply QR_un | apply QR_nil | refine QR_yes rfl rfl ?_ | refine QR_no rfl rfl rfl rfl ?_ | refine QR_noU rfl rfl rfl ?_) | (apply gQO; first | refine aQ ?_ | refine aQK rfl ?_))
    simp only [hmore]
    refine JO_call Try.call28 rfl rfl fun w hw => (IRead_ok p c m B (ha.rd _) hm hB (by omega) (lim + more) (by omega) (ALLR_more hr (by omega)) w hw).mono ?_
    rw [hnn]
    rintro e w' ⟨p3, c3, rfl, hw'⟩
    refine ⟨_, rfl, _, hw', ?_⟩
    clear hw' hw w w'
    repeat (first | (apply gJO; first | (apply kS; refine aK ?_) | (apply kX; refine JO_box rfl rfl rfl ?_; intro _) | (apply kA; refine JO_alloc (tb := tb) rfl rfl ?_; intro _) | (apply kBs; refine JO_buildSlice (tb := tb) rfl rfl rfl rfl rfl rfl rfl rfl rfl ?_; intro _) | (apply kM; refine JO_make (tb := tb) rfl rfl rfl rfl rfl rfl (by omega) rfl ?_; intro _) | refine aO ?_) | (apply gJR; first | apply JR_un | apply JR_nil | refine JR_yes rfl rfl ?_ | refine JR_no rfl rfl rfl rfl ?_ | refine JR_noU rfl rfl rfl ?_) | (apply gJS; first | apply JS_seq | apply JS_region | apply JS_skip | apply JS_block | apply JS_inBlock | apply JS_label | refine JS_exit rfl ?_ | refine JS_condT rfl ?_ | refine JS_condF rfl ?_ | refine JS_draw [0] (by kernel_rfl) (by kernel_rfl) (by decide +kernel) ?_ | refine JS_draw [] (by kernel_rfl) (by kernel_rfl) (by decide +kernel) ?_ | refine JS_cond_T rfl (by omega) ?_ | refine JS_cond_F rfl (by omega) ?_) | (apply gQR; first | apply QR_un | apply QR_nil | refine QR_yes rfl rfl ?_ | refine QR_no rfl rfl rfl rfl ?_ | refine QR_noU rfl rfl rfl ?_) | (apply gQO; first | refine aQ ?_ | refine aQK rfl ?_))
    refine JO_call Try.call28 rfl rfl fun w hw => (IRead_ok p c m B (ha.rd _) hm hB (by omega) o.length (by omega) (ALLR_more hr (by omega)) w hw).mono ?_
    rw [hnn]
    rintro e w' ⟨p4, c4, rfl, hw'⟩
    refine ⟨_, rfl, _, hw', ?_⟩
    clear hw' hw w w'
    by_cases ho0 : o.length = 0
    · repeat (first | (apply gJO; refine JO_v (V_eqStr1 (s := bstr o) rfl rfl rfl) ?_) | first | (apply gJO; first | (apply kS; refine aK ?_) | (apply kX; refine JO_box rfl rfl rfl ?_; intro _) | (apply kA; refine JO_alloc (tb := tb) rfl rfl ?_; intro _) | (apply kBs; refine JO_buildSlice (tb := tb) rfl rfl rfl rfl rfl rfl rfl rfl rfl ?_; intro _) | (apply kM; refine JO_make (tb := tb) rfl rfl rfl rfl rfl rfl (by omega) rfl ?_; intro _) | refine aO ?_) | (apply gJR; first | apply JR_un | apply JR_nil | refine JR_yes rfl rfl ?_ | refine JR_no rfl rfl rfl rfl ?_ | refine JR_noU rfl rfl rfl ?_) | (apply gJS; first | apply JS_seq | apply JS_region | apply JS_skip | apply JS_block | apply JS_inBlock | apply JS_label | refine JS_exit rfl ?_ | refine JS_condT rfl ?_ | refine JS_condF rfl ?_ | refine JS_draw [0] (by kernel_rfl) (by kernel_rfl) (by decide +kernel) ?_ | refine JS_draw [] (by kernel_rfl) (by kernel_rfl) (by decide +kernel) ?_ | refine JS_cond_T rfl (by omega) ?_ | refine JS_cond_F rfl (by omega) ?_) | (apply gQR; first | apply QR_un | apply QR_nil | refine QR_yes rfl rfl ?_ | refine QR_no rfl rfl rfl rfl ?_ | refine QR_noU rfl rfl rfl ?_) | (apply gQO; first | refine aQ ?_ | refine aQK rfl ?_))
      exact JS_ret Try.func7 rfl rfl fun w hw => ⟨rfl, hw.grown⟩
    · have hless : (o.length : Int) - 1 = ((o.length - 1 : Nat) : Int) := by omega
      repeat (first | (apply gJO; first | (apply kS; refine aK ?_) | (apply kX; refine JO_box rfl rfl rfl ?_; intro _) | (apply kA; refine JO_alloc (tb := tb) rfl rfl ?_; intro _) | (apply kBs; refine JO_buildSlice (tb := tb) rfl rfl rfl rfl rfl rfl rfl rfl rfl ?_; intro _) | (apply kM; refine JO_make (tb := tb) rfl rfl rfl rfl rfl rfl (by omega) rfl ?_; intro _) | refine aO ?_) | (apply gJR; first | apply JR_un | apply JR_nil | refine JR_yes rfl rfl ?_ | refine JR_no rfl rfl rfl rfl ?_ | refine JR_noU rfl rfl rfl ?_) | (apply gJS; first | apply JS_seq | apply JS_region | apply JS_skip | apply JS_block | apply JS_inBlock | apply JS_label | refine JS_exit rfl ?_ | refine JS_condT rfl ?_ | refine JS_condF rfl ?_ | refine JS_draw [0] (by kernel_rfl) (by kernel_rfl) (by decide +kernel) ?_ | refine JS_draw [] (by kernel_rfl) (by kernel_rfl) (by decide +kernel) ?_ | refine JS_cond_T rfl (by omega) ?_ | refine JS_cond_F rfl (by omega) ?_) | (apply gQR; first | apply QR_un | apply QR_nil | refine QR_yes rfl rfl ?_ | refine QR_no rfl rfl rfl rfl ?_ | refine QR_noU rfl rfl rfl ?_) | (apply gQO; first | refine aQ ?_ | refine aQK rfl ?_))
      simp only [hless]
      refine JO_call Try.call28 rfl rfl fun w hw => (IRead_err p c m B (ha.rd _) hm hB (by omega) (o.length - 1) (by omega) (ALLR_less hr (by omega)) w hw).mono ?_
      rintro e w' ⟨rfl, hw'⟩
      refine ⟨_, rfl, _, hw', ?_⟩
      clear hw' hw w w'
      repeat (first | (apply gJO; refine JO_v (V_eqStr1 (s := bstr o) rfl rfl rfl) ?_) | first | (apply gJO; first | (apply kS; refine aK ?_) | (apply kX; refine JO_box rfl rfl rfl ?_; intro _) | (apply kA; refine JO_alloc (tb := tb) rfl rfl ?_; intro _) | (apply kBs; refine JO_buildSlice (tb := tb) rfl rfl rfl rfl rfl rfl rfl rfl rfl ?_; intro _) | (apply kM; refine JO_make (tb := tb) rfl rfl rfl rfl rfl rfl (by omega) rfl ?_; intro _) | refine aO ?_) | (apply gJR; first | apply JR_un | apply JR_nil | refine JR_yes rfl rfl ?_ | refine JR_no rfl rfl rfl rfl ?_ | refine JR_noU rfl rfl rfl ?_) | (apply gJS; first | apply JS_seq | apply JS_region | apply JS_skip | apply JS_block | apply JS_inBlock | apply JS_label | refine JS_exit rfl ?_ | refine JS_condT rfl ?_ | refine JS_condF rfl ?_ | refine JS_draw [0] (by kernel_rfl) (by kernel_rfl) (by decide +kernel) ?_ | refine JS_draw [] (by kernel_rfl) (by kernel_rfl) (by decide +kernel) ?_ | refine JS_cond_T rfl (by omega) ?_ | refine JS_cond_F rfl (by omega) ?_) | (apply gQR; first | apply QR_un | apply QR_nil | refine QR_yes rfl rfl ?_ | refine QR_no rfl rfl rfl rfl ?_ | refine QR_noU rfl rfl rfl ?_) | (apply gQO; first | refine aQ ?_ | refine aQK rfl ?_))
      exact JS_ret Try.func7 rfl rfl fun w hw => ⟨rfl, hw.grown⟩
end Go.Proofs.Ytakgoflfcgofdaa

namespace Go.Proofs.Ytakgoflfcgofdaa
open Sx Go
set_option linter.unusedVariables false
set_option linter.unusedSimpArgs false
attribute [local irreducible] syA fc tk cds
/-! ## another stream with the same bits up to a place -/
theorem bval_cg {b b' : Nat → Int} : ∀ {n : Nat}, (∀ j, j < n → b j = b' j) → bval b n = bval b' n
  | 0, _ => rfl
  | n + 1, h => by simp only [bval]; rw [bval_cg (n := n) (fun j hj => h j (by omega)), h n (by omega)]
structure AG (bt bt' : Nat → Int) (N N' M : Nat) : Prop where
  eq : ∀ j, j < M → bt j = bt' j
  le : M ≤ N
  le' : M ≤ N'
  b : ∀ j, bt j = 0 ∨ bt j = 1
  b' : ∀ j, bt' j = 0 ∨ bt' j = 1
section
variable {bt bt' : Nat → Int} {N N' M : Nat}
theorem AG.nbt (h : AG bt bt' N N' M) {a c : Nat} (hc : a + c ≤ M) : nbt bt a c = nbt bt' a c := nbt_congr fun j hj => h.eq _ (by omega)
theorem cn_pos {L : List Int} {j u : Nat} (hj : j < L.length) (h0 : 0 < u) (hu : L.getD j 0 = (u : Int)) : 1 ≤ cn L u := by
  have h1 := cn_yes L j u hj hu h0
  have h2 := cn_nonneg (L.take j) u
  have h3 := cn_mono L u (j + 1) L.length (by omega) (Nat.le_refl _)
  rw [List.take_length] at h3
  omega
theorem symS_ag (h : AG bt bt' N N' M) {L : List Int} (hB : OKB L) (hk : OKL L) {a a1 : Nat} {i : Int} (ha : a ≤ M) (hs : symS bt N L a = .ok i a1) :
    (a1 ≤ M → symS bt' N' L a = .ok i a1) ∧ (N' = M → M < a1 → symS bt' N' L a = .err 20) := by
  obtain ⟨i', u, r, h1, h2⟩ := symS_RD bt N L a
  rw [h2] at hs
  split at hs
  rotate_left
  · cases hs
  rename_i hr
  subst hr
  simp only [Sy.ok.injEq] at hs
  obtain ⟨rfl, rfl⟩ := hs
  rcases h1 with ⟨j, rfl, _, ⟨n, hj, h0, hn, hle, hbv⟩, hu⟩ | ⟨_, _, h | h | ⟨_, _, h | h⟩⟩
  rotate_left
  · omega
  · omega
  · omega
  · omega
  obtain rfl : u = n := by rw [hu] at hn; omega
  constructor
  · intro hM
    have hrd : RD L (fun j => bt' (a + j)) (N' - a) j u 0 := .inl ⟨j, rfl, rfl, ⟨u, hj, h0, hn, by have := h.le'; omega, by rw [← hbv]; exact bval_cg fun t ht => (h.eq _ (by omega)).symm⟩, hu⟩
    rw [symS_of hB hk h.b' hrd, if_pos rfl]
  · intro hN hM
    subst hN
    have hno : ∀ t, ¬ DEC L (fun j => bt' (a + j)) (N' - a) t := by
      rintro t ⟨n', ht, h0', hn', hle', hbv'⟩
      have hd : DEC L (fun j => bt (a + j)) (N - a) t := ⟨n', ht, h0', hn', by have := h.le; omega, by rw [← hbv']; exact bval_cg fun s hs => h.eq _ (by omega)⟩
      have hd0 : DEC L (fun j => bt (a + j)) (N - a) j := ⟨u, hj, h0, hn, hle, hbv⟩
      have := DEC_one L hB hk.2.1 hk.2.2 _ (fun s => h.b _) _ _ _ hd hd0
      subst this
      rw [hn] at hn'; omega
    have hsm := sm_pos L j hj (by omega)
    have hrd : ∃ v, RD L (fun j => bt' (a + j)) (N' - a) 0 v 20 := by
      by_cases hf : tk L = 32768
      · exact ⟨_, .inr ⟨hno, rfl, .inr (.inl ⟨hsm, hf, rfl, rfl⟩)⟩⟩
      · have hu1 : u = 1 := by
          rcases Nat.lt_or_ge 1 u with hlt | hge
          · have h15 := hk.2.1 j
            have := FINE_lone L hB hk.2.1 hk.2.2 hf hsm u (by omega) (by omega)
            have := cn_pos hj h0 hn
            omega
          · omega
        exact ⟨_, .inr ⟨hno, rfl, .inr (.inr ⟨hsm, hf, .inl ⟨by omega, rfl, rfl⟩⟩)⟩⟩
    obtain ⟨v, hrd⟩ := hrd
    rw [symS_of hB hk h.b' hrd, if_neg (by decide)]
def AGg (M : Nat) (c : Prop) (f f' : Nat → List Int → Stp) : Prop := ∀ a o a' o', a ≤ M → f a o = .go a' o' → (a' ≤ M → f' a o = .go a' o') ∧ (c → M < a' → f' a o = .err 20)
def AGs (M : Nat) (c : Prop) (f f' : Nat → List Int → Stp) : Prop := ∀ a o a' o', a ≤ M → f a o = .stop a' o' → (a' ≤ M → f' a o = .stop a' o') ∧ (c → M < a' → f' a o = .err 20)
def AGr (M : Nat) (c : Prop) (f f' : Nat → List Int → Res) : Prop := ∀ a o a' o', a ≤ M → f a o = .ok a' o' → (a' ≤ M → f' a o = .ok a' o') ∧ (c → M < a' → f' a o = .err 20)
theorem It_ag {c : Prop} {f f' : Nat → List Int → Stp} (hm : ∀ a o a' o', f a o = .go a' o' ∨ f a o = .stop a' o' → a ≤ a') (hg : AGg M c f f') (hs : AGs M c f f') {a : Nat} {o : List Int} {r : Res} (h : It f a o r) : a ≤ M → ∀ a' o', r = .ok a' o' →
    (a' ≤ M → It f' a o (.ok a' o')) ∧ (c → M < a' → It f' a o (.err 20)) := by
  induction h with
  | err _ => intro _ a' o' h; cases h
  | stop h =>
    intro ha a' o' h'
    cases h'
    obtain ⟨h2, h3⟩ := hs _ _ _ _ ha h
    exact ⟨fun h => .stop (h2 h), fun h h' => .err (h3 h h')⟩
  | go h t ih =>
    rename_i o1 _ a1 _ _
    intro ha a' o' h'
    obtain ⟨h2, h3⟩ := hg _ _ _ _ ha h
    have hge := It_ge hm t a' o' h'
    refine ⟨fun hle => ?_, fun hc hlt => ?_⟩
    · have h1 : a1 ≤ M := by omega
      exact .go (h2 h1) ((ih h1 a' o' h').1 hle)
    · rcases Nat.lt_or_ge M a1 with hl | hge2
      · exact .err (h3 hc hl)
      · exact .go (h2 hge2) ((ih hge2 a' o' h').2 hc hlt)
theorem itF_ag {c : Prop} {f f' : Nat → List Int → Stp} (hm : ∀ a o a' o', f a o = .go a' o' ∨ f a o = .stop a' o' → a ≤ a') (hg : AGg M c f f') (hs : AGs M c f f') : AGr M c (itF f) (itF f') := by
  intro a o a' o' ha h
  obtain ⟨h1, h2⟩ := It_ag hm hg hs (itF_ok h) ha a' o' rfl
  exact ⟨fun h => itF_of (h1 h), fun h h' => itF_of (h2 h h')⟩
theorem blk2_ag (h : AG bt bt' N N' M) {D : List Int} (hB : OKB D) (hk : OKL D) {lim a a' : Nat} {o o' : List Int} {len : Int} (ha : a ≤ M) (hs : blk2 bt N lim D o len a = .go a' o') :
    (a' ≤ M → blk2 bt' N' lim D o len a = .go a' o') ∧ (N' = M → M < a' → blk2 bt' N' lim D o len a = .err 20) := by
  unfold blk2 at hs ⊢
  cases hy : symS bt N D a with
  | err e => rw [hy] at hs; cases hs
  | ok d a2 =>
    rw [hy] at hs
    simp only at hs
    obtain ⟨s1, s2⟩ := symS_ag h hB hk ha hy
    split at hs
    · cases hs
    · rename_i h1
      split at hs
      · cases hs
      · rename_i h2
        split at hs
        · cases hs
        · rename_i h3
          split at hs
          · cases hs
          · rename_i h4
            simp only [Stp.go.injEq] at hs
            obtain ⟨rfl, rfl⟩ := hs
            refine ⟨fun hle => ?_, fun hN hlt => ?_⟩
            · have e := h.nbt (a := a2) (c := (lfar d).2.toNat) hle
              rw [s1 (by omega)]
              simp only
              rw [if_neg h1, if_neg (by have := h.le'; omega), ← e, if_neg h3, if_neg h4]
            · rcases Nat.lt_or_ge M a2 with hl | hge
              · rw [s2 hN hl]
              · rw [s1 hge]
                simp only
                rw [if_neg h1, if_pos (by omega)]
theorem blkF_agg (h : AG bt bt' N N' M) {L D : List Int} (hB : OKB L) (hk : OKL L) (hB2 : OKB D) (hk2 : OKL D) (lim : Nat) : AGg M (N' = M) (blkF bt N lim L D) (blkF bt' N' lim L D) := by
  intro a o a' o' ha hs
  unfold blkF at hs ⊢
  cases hy : symS bt N L a with
  | err e => rw [hy] at hs; cases hs
  | ok i a1 =>
    rw [hy] at hs
    simp only at hs
    obtain ⟨s1, s2⟩ := symS_ag h hB hk ha hy
    have hge1 := symS_ge hy
    split at hs
    · cases hs
    · rename_i h1
      split at hs
      · rename_i h2
        split at hs
        · cases hs
        · rename_i h3
          simp only [Stp.go.injEq] at hs
          obtain ⟨rfl, rfl⟩ := hs
          refine ⟨fun hle => ?_, fun hN hlt => ?_⟩
          · rw [s1 hle]
            simp only
            rw [if_neg h1, if_pos h2, if_neg h3]
          · rw [s2 hN hlt]
      · rename_i h2
        split at hs
        · cases hs
        · rename_i h3
          split at hs
          · cases hs
          · rename_i h4
            have hge2 := blk2_ge hs
            refine ⟨fun hle => ?_, fun hN hlt => ?_⟩
            · have e := h.nbt (a := a1) (c := (lbase i).2.toNat) (by omega)
              rw [s1 (by omega)]
              simp only
              rw [if_neg h1, if_neg h2, if_neg h3, if_neg (by have := h.le'; omega), ← e]
              exact (blk2_ag h hB2 hk2 (by omega) hs).1 hle
            · rcases Nat.lt_or_ge M a1 with hl | hge
              · rw [s2 hN hl]
              · rw [s1 hge]
                simp only
                rw [if_neg h1, if_neg h2, if_neg h3]
                rcases Nat.lt_or_ge M (a1 + (lbase i).2.toNat) with hl2 | hge3
                · rw [if_pos (by omega)]
                · have e := h.nbt (a := a1) (c := (lbase i).2.toNat) hge3
                  rw [if_neg (by omega), ← e]
                  exact (blk2_ag h hB2 hk2 hge3 hs).2 hN hlt
theorem blkF_ags (h : AG bt bt' N N' M) {L D : List Int} (hB : OKB L) (hk : OKL L) (lim : Nat) : AGs M (N' = M) (blkF bt N lim L D) (blkF bt' N' lim L D) := by
  intro a o a' o' ha hs
  unfold blkF at hs ⊢
  cases hy : symS bt N L a with
  | err e => rw [hy] at hs; cases hs
  | ok i a1 =>
    rw [hy] at hs
    simp only at hs
    obtain ⟨s1, s2⟩ := symS_ag h hB hk ha hy
    split at hs
    · rename_i h1
      simp only [Stp.stop.injEq] at hs
      obtain ⟨rfl, rfl⟩ := hs
      refine ⟨fun hle => ?_, fun hN hlt => ?_⟩
      · rw [s1 hle]; simp only; rw [if_pos h1]
      · rw [s2 hN hlt]
    · split at hs
      · split at hs <;> cases hs
      · split at hs
        · cases hs
        · split at hs
          · cases hs
          · exact (blk2_stop hs).elim
theorem itblk_ag (h : AG bt bt' N N' M) {L D : List Int} (hB : OKB L) (hk : OKL L) (hB2 : OKB D) (hk2 : OKL D) (lim : Nat) : AGr M (N' = M) (itF (blkF bt N lim L D)) (itF (blkF bt' N' lim L D)) :=
  itF_ag (fun _ _ _ _ => blkF_ge) (blkF_agg h hB hk hB2 hk2 lim) (blkF_ags h hB hk lim)
end
end Go.Proofs.Ytakgoflfcgofdaa

namespace Go.Proofs.Ytakgoflfcgofdaa
open Sx Go
set_option linter.unusedVariables false
set_option linter.unusedSimpArgs false
attribute [local irreducible] syA fc tk cds
theorem okb_last {l : List Int} (h : OKB l) : 0 ≤ l.getD (l.length - 1) 0 ∧ l.getD (l.length - 1) 0 < 256 := h _
theorem lenP_okb {many : Nat} {l l' : List Int} {x t : Int} {a a' : Nat} (hl : OKB l) (hx : 0 ≤ x ∧ x < 256) (h : lenP many l x t a = .go a' l') : OKB l' := by
  unfold lenP at h
  split at h
  · cases h
  · simp only [Stp.go.injEq] at h
    obtain ⟨rfl, rfl⟩ := h
    exact OKB_app hl (OKB_rep hx _)
theorem lenF_okb {bt : Nat → Int} {N a a' many : Nat} {C l l' : List Int} (hC : C.length ≤ 256) (ha : a ≤ N) (hl : OKB l) (h : lenF bt N C many a l = .go a' l') : OKB l' := by
  unfold lenF at h
  split at h
  · cases h
  · split at h
    · cases h
    · rename_i i a1 hs
      have hi := symS_gt hs ha
      split at h
      · split at h
        · cases h
        · split at h
          · cases h
          · exact lenP_okb hl (hl _) h
      · split at h
        · split at h
          · cases h
          · exact lenP_okb hl ⟨by decide, by decide⟩ h
        · split at h
          · split at h
            · cases h
            · exact lenP_okb hl ⟨by decide, by decide⟩ h
          · exact lenP_okb hl ⟨hi.2.2.1, by omega⟩ h
theorem lens_okb {bt : Nat → Int} {N many : Nat} {C : List Int} (hC : C.length ≤ 256) {a : Nat} {l : List Int} {r : Res} (h : It (lenF bt N C many) a l r) : a ≤ N → OKB l → ∀ a' l', r = .ok a' l' → OKB l' := by
  induction h with
  | err _ => intro _ _ a' l' h; cases h
  | stop h =>
    intro ha hl a' l' h'
    cases h'
    unfold lenF at h
    split at h
    · simp only [Stp.stop.injEq] at h; rw [← h.2]; exact hl
    · exfalso
      split at h
      · cases h
      · split at h
        · split at h
          · cases h
          · split at h
            · cases h
            · unfold lenP at h; split at h <;> cases h
        · split at h
          · split at h
            · cases h
            · unfold lenP at h; split at h <;> cases h
          · split at h
            · split at h
              · cases h
              · unfold lenP at h; split at h <;> cases h
            · unfold lenP at h; split at h <;> cases h
  | go h _ ih =>
    intro ha hl
    exact ih (lenF_gt ha h).2 (lenF_okb hC ha hl h)
section
variable {bt bt' : Nat → Int} {N N' M : Nat}
/-- some bits behind a symbol of the lengths -/
theorem lenQ (h : AG bt bt' N N' M) {many c a1 a' : Nat} {l l' : List Int} {x b : Int} (hs : (if N < a1 + c then .err 20 else lenP many l x (b + nbt bt a1 c) (a1 + c)) = Stp.go a' l') :
    (a' ≤ M → (if N' < a1 + c then .err 20 else lenP many l x (b + nbt bt' a1 c) (a1 + c)) = Stp.go a' l') ∧ (N' = M → M < a' → (if N' < a1 + c then .err 20 else lenP many l x (b + nbt bt' a1 c) (a1 + c)) = Stp.err 20) ∧ a1 ≤ a' := by
  split at hs
  · cases hs
  · have hp := lenP_go hs
    refine ⟨fun hle => ?_, fun hN hlt => ?_, by omega⟩
    · have e := h.nbt (a := a1) (c := c) (by omega)
      rw [if_neg (by have := h.le'; omega), ← e]; exact hs
    · rw [if_pos (by omega)]
theorem lenF_agg (h : AG bt bt' N N' M) {C : List Int} (hB : OKB C) (hk : OKL C) (many : Nat) : AGg M (N' = M) (lenF bt N C many) (lenF bt' N' C many) := by
  intro a l a' l' ha hs
  unfold lenF at hs ⊢
  split at hs
  · cases hs
  · rename_i h0
    rw [if_neg h0]
    cases hy : symS bt N C a with
    | err e => rw [hy] at hs; cases hs
    | ok i a1 =>
      rw [hy] at hs
      simp only at hs
      obtain ⟨s1, s2⟩ := symS_ag h hB hk ha hy
      rcases Nat.lt_or_ge M a1 with hl | hge
      · refine ⟨fun hle => ?_, fun hN hlt => ?_⟩
        · exfalso
          split at hs
          · split at hs
            · cases hs
            · have := (lenQ h (b := 3) hs).2.2; omega
          · split at hs
            · have := (lenQ h (b := 3) hs).2.2; omega
            · split at hs
              · have := (lenQ h (b := 11) hs).2.2; omega
              · have := lenP_go hs; omega
        · rw [s2 hN hl]
      · rw [s1 hge]
        simp only
        split at hs
        · rename_i h1
          rw [if_pos h1]
          split at hs
          · cases hs
          · rename_i h2
            rw [if_neg h2]
            exact ⟨(lenQ h (b := 3) hs).1, (lenQ h (b := 3) hs).2.1⟩
        · rename_i h1
          rw [if_neg h1]
          split at hs
          · rename_i h2
            rw [if_pos h2]
            exact ⟨(lenQ h (b := 3) hs).1, (lenQ h (b := 3) hs).2.1⟩
          · rename_i h2
            rw [if_neg h2]
            split at hs
            · rename_i h3
              rw [if_pos h3]
              exact ⟨(lenQ h (b := 11) hs).1, (lenQ h (b := 11) hs).2.1⟩
            · rename_i h3
              rw [if_neg h3]
              have hp := lenP_go hs
              exact ⟨fun _ => hs, fun hN hlt => by omega⟩
theorem lenF_ags (h : AG bt bt' N N' M) {C : List Int} (many : Nat) : AGs M (N' = M) (lenF bt N C many) (lenF bt' N' C many) := by
  intro a l a' l' ha hs
  have hst : many ≤ l.length := by
    rcases Nat.lt_or_ge l.length many with hlt | hge
    · exfalso
      unfold lenF at hs
      rw [if_neg (by omega)] at hs
      split at hs
      · cases hs
      · split at hs
        · split at hs
          · cases hs
          · split at hs
            · cases hs
            · unfold lenP at hs; split at hs <;> cases hs
        · split at hs
          · split at hs
            · cases hs
            · unfold lenP at hs; split at hs <;> cases hs
          · split at hs
            · split at hs
              · cases hs
              · unfold lenP at hs; split at hs <;> cases hs
            · unfold lenP at hs; split at hs <;> cases hs
    · exact hge
  unfold lenF at hs ⊢
  rw [if_pos hst] at hs ⊢
  simp only [Stp.stop.injEq] at hs
  obtain ⟨rfl, rfl⟩ := hs
  exact ⟨fun _ => rfl, fun _ hlt => by omega⟩
theorem ccl_ag (h : AG bt bt' N N' M) (a : Nat) : ∀ n, a + 3 * n ≤ M → ccl bt a n = ccl bt' a n
  | 0, _ => rfl
  | n + 1, hn => by
    simp only [ccl]
    rw [ccl_ag h a n (by omega), h.nbt (a := a + 3 * n) (c := 3) (by omega)]
theorem stoF_ag (h : AG bt bt' N N' M) (hM : M % 8 = 0 ∨ ¬ N' = M) (lim : Nat) : AGr M (N' = M) (stoF bt N lim) (stoF bt' N' lim) := by
  intro a o a' o' ha hs
  have hn := (nbt_bd bt h.b (upto8 a) 16).1
  unfold stoF at hs ⊢
  split at hs
  · cases hs
  · rename_i h1
    split at hs
    · cases hs
    · rename_i h2
      split at hs
      · cases hs
      · rename_i h3
        split at hs
        · cases hs
        · rename_i h4
          split at hs
          · cases hs
          · rename_i h5
            simp only [Res.ok.injEq] at hs
            obtain ⟨rfl, rfl⟩ := hs
            refine ⟨fun hle => ?_, fun hN hlt => ?_⟩
            · have e1 := h.nbt (a := upto8 a) (c := 16) (by omega)
              have e2 := h.nbt (a := upto8 a + 16) (c := 16) (by omega)
              have := h.le'
              rw [if_neg (by omega), if_neg (by omega), ← e1, ← e2, if_neg h3, if_neg h4, if_neg (by omega)]
              congr 2
              unfold byts
              apply List.map_congr_left
              intro j hj
              rw [List.mem_range] at hj
              exact (h.nbt (by omega)).symm
            · rcases Nat.lt_or_ge M (upto8 a + 16) with g1 | g1
              · rw [if_pos (by omega)]
              · rw [if_neg (by omega)]
                rcases Nat.lt_or_ge M (upto8 a + 32) with g2 | g2
                · rw [if_pos (by omega)]
                · rw [if_neg (by omega)]
                  have e1 := h.nbt (a := upto8 a) (c := 16) (by omega)
                  have e2 := h.nbt (a := upto8 a + 16) (c := 16) (by omega)
                  rw [← e1, ← e2, if_neg h3, if_neg h4, if_pos (by omega)]
theorem desF_ag (h : AG bt bt' N N' M) (lim : Nat) : AGr M (N' = M) (desF bt N lim) (desF bt' N' lim) := by
  intro a o a' o' ha hs
  have hleN := h.le
  unfold desF at hs ⊢
  split at hs
  · cases hs
  · rename_i h1
    split at hs
    · cases hs
    · rename_i h2
      split at hs
      · cases hs
      · rename_i h3
        rcases Nat.lt_or_ge M (a + 14) with g | g
        · have hge : a + 14 ≤ a' := by
            unfold des1 at hs
            split at hs
            · cases hs
            · split at hs
              · cases hs
              · split at hs
                · cases hs
                · split at hs
                  · cases hs
                  · rename_i a1 l1 hl1
                    have q1 := It_ge (fun a o a' o' => lenF_ge) (itF_ok hl1) _ _ rfl
                    unfold des2 at hs
                    split at hs
                    · cases hs
                    · split at hs
                      · cases hs
                      · split at hs
                        · cases hs
                        · have := It_ge (fun a o a' o' => blkF_ge) (itF_ok hs) _ _ rfl
                          omega
          refine ⟨fun hle => by omega, fun hN hlt => ?_⟩
          rcases Nat.lt_or_ge M (a + 5) with q1 | q1
          · rw [if_pos (by omega)]
          · rw [if_neg (by omega)]
            rcases Nat.lt_or_ge M (a + 10) with q2 | q2
            · rw [if_pos (by omega)]
            · rw [if_neg (by omega), if_pos (by omega)]
        · have hle' := h.le'
          rw [if_neg (by omega), if_neg (by omega), if_neg (by omega)]
          rw [← h.nbt (a := a) (c := 5) (by omega), ← h.nbt (a := a + 5) (c := 5) (by omega), ← h.nbt (a := a + 10) (c := 4) (by omega)]
          generalize (nbt bt a 5 + 257).toNat = lit at *
          generalize (nbt bt (a + 5) 5 + 1).toNat = sp at *
          generalize (nbt bt (a + 10) 4 + 4).toNat = ln at *
          unfold des1 at hs ⊢
          split at hs
          · cases hs
          · rename_i h4
            rw [if_neg h4]
            split at hs
            · cases hs
            · rename_i h5
              split at hs
              · cases hs
              · rename_i h6
                have hkC : OKL (ccl bt (a + 14) ln) := Classical.byContradiction fun hh => h6 (.inl hh)
                have hBC := ccl_okb bt h.b (a + 14) ln
                split at hs
                · cases hs
                · rename_i a1 l1 hl1
                  have q1 := It_ge (fun a o a' o' => lenF_ge) (itF_ok hl1) _ _ rfl
                  have hol : OKB l1 := lens_okb (by rw [ccl_len]; omega) (itF_ok hl1) (by omega) OKB_nil _ _ rfl
                  have q2 : a1 ≤ a' := by
                    unfold des2 at hs
                    split at hs
                    · cases hs
                    · split at hs
                      · cases hs
                      · split at hs
                        · cases hs
                        · exact It_ge (fun a o a' o' => blkF_ge) (itF_ok hs) _ _ rfl
                  have D2 : a1 ≤ M → (a' ≤ M → des2 bt' N' lim lit l1 a1 o = .ok a' o') ∧ (N' = M → M < a' → des2 bt' N' lim lit l1 a1 o = .err 20) := by
                    intro h1M
                    unfold des2 at hs ⊢
                    split at hs
                    · cases hs
                    · rename_i h7
                      rw [if_neg h7]
                      split at hs
                      · cases hs
                      · rename_i h8
                        rw [if_neg h8]
                        split at hs
                        · cases hs
                        · rename_i h9
                          rw [if_neg h9]
                          exact itblk_ag h (Byt_take hol _) (Classical.byContradiction h8) (Byt_drop hol _) (Classical.byContradiction h9) lim _ _ _ _ h1M hs
                  rcases Nat.lt_or_ge M (a + 14 + 3 * ln) with g2 | g2
                  · refine ⟨fun hle => by omega, fun hN hlt => ?_⟩
                    rw [if_pos (by omega)]
                  · rw [if_neg (by omega), ← ccl_ag h (a + 14) ln g2, if_neg h6]
                    obtain ⟨t1, t2⟩ := itF_ag (fun _ _ _ _ => lenF_ge) (lenF_agg h hBC hkC (lit + sp)) (lenF_ags h (C := ccl bt (a + 14) ln) (lit + sp)) _ _ _ _ g2 hl1
                    rcases Nat.lt_or_ge M a1 with g3 | g3
                    · refine ⟨fun hle => by omega, fun hN hlt => ?_⟩
                      rw [t2 hN g3]
                    · rw [t1 g3]
                      exact D2 g3
theorem kndF_ag (h : AG bt bt' N N' M) (hM : M % 8 = 0 ∨ ¬ N' = M) (lim : Nat) (k : Int) : AGr M (N' = M) (kndF bt N lim k) (kndF bt' N' lim k) := by
  intro a o a' o' ha hs
  unfold kndF at hs ⊢
  split at hs
  · rename_i h1
    rw [if_pos h1]
    exact stoF_ag h hM lim _ _ _ _ ha hs
  · rename_i h1
    rw [if_neg h1]
    split at hs
    · rename_i h2
      rw [if_pos h2]
      exact itblk_ag h fix_okb fix_okl spans_okb spans_okl lim _ _ _ _ ha hs
    · rename_i h2
      rw [if_neg h2]
      split at hs
      · rename_i h3
        rw [if_pos h3]
        exact desF_ag h lim _ _ _ _ ha hs
      · cases hs
theorem rdF_both (h : AG bt bt' N N' M) (hM : M % 8 = 0 ∨ ¬ N' = M) (lim : Nat) : AGg M (N' = M) (rdF bt N lim) (rdF bt' N' lim) ∧ AGs M (N' = M) (rdF bt N lim) (rdF bt' N' lim) := by
  have hle' := h.le'
  have key : ∀ a o a1 o1, a ≤ M → ¬ N < a + 1 → ¬ N < a + 3 → kndF bt N lim (nbt bt (a + 1) 2) (a + 3) o = .ok a1 o1 →
      (a1 ≤ M → rdF bt' N' lim a o = if nbt bt a 1 = 0 then .go a1 o1 else .stop a1 o1) ∧ (N' = M → M < a1 → rdF bt' N' lim a o = .err 20) := by
    intro a o a1 o1 ha h1 h2 hk
    have hge := kndF_ge hk
    unfold rdF
    rcases Nat.lt_or_ge M (a + 3) with g | g
    · refine ⟨fun hle => by omega, fun hN hlt => ?_⟩
      rcases Nat.lt_or_ge M (a + 1) with g1 | g1
      · rw [if_pos (by omega)]
      · rw [if_neg (by omega), if_pos (by omega)]
    · obtain ⟨k1, k2⟩ := kndF_ag h hM lim _ _ _ _ _ g hk
      rw [if_neg (by omega), if_neg (by omega), ← h.nbt (a := a) (c := 1) (by omega), ← h.nbt (a := a + 1) (c := 2) (by omega)]
      exact ⟨fun hle => by rw [k1 hle], fun hN hlt => by rw [k2 hN hlt]⟩
  constructor
  all_goals
    intro a o a' o' ha hs
    have hs0 := hs
    unfold rdF at hs
    split at hs
    · cases hs
    · rename_i h1
      split at hs
      · cases hs
      · rename_i h2
        split at hs
        · cases hs
        · rename_i a1 o1 hk
          obtain ⟨q1, q2⟩ := key a o a1 o1 ha h1 h2 hk
          split at hs
          all_goals first
            | cases hs; done
            | (rename_i h3
               first
                | (simp only [Stp.go.injEq] at hs
                   obtain ⟨rfl, rfl⟩ := hs
                   exact ⟨fun hle => by rw [q1 hle, if_pos h3], q2⟩)
                | (simp only [Stp.stop.injEq] at hs
                   obtain ⟨rfl, rfl⟩ := hs
                   exact ⟨fun hle => by rw [q1 hle, if_neg h3], q2⟩))
end
theorem rdF_ge {bt : Nat → Int} {N lim a a' : Nat} {o o' : List Int} (h : rdF bt N lim a o = .go a' o' ∨ rdF bt N lim a o = .stop a' o') : a ≤ a' := by
  unfold rdF at h
  split at h
  · rcases h with h | h <;> cases h
  · split at h
    · rcases h with h | h <;> cases h
    · split at h
      · rcases h with h | h <;> cases h
      · rename_i a1 o1 hk
        have := kndF_ge hk
        split at h
        · rcases h with h | h
          · simp only [Stp.go.injEq] at h; omega
          · cases h
        · rcases h with h | h
          · cases h
          · simp only [Stp.stop.injEq] at h; omega
/-- what stands behind makes no difference -/
theorem ALLR_behind {B B' : List Int} {lim a : Nat} {o : List Int} (h : ALLR B lim (.ok a o)) (ha : a ≤ 8 * B.length) (ha' : a ≤ 8 * B'.length) (he : ∀ j, j < a → bitB B 0 j = bitB B' 0 j) : ALLR B' lim (.ok a o) := by
  by_cases hN : 8 * B'.length = a
  · have ag : AG (bitB B 0) (bitB B' 0) (8 * B.length) (8 * B'.length) a := ⟨he, ha, ha', bitB_01 _ _, bitB_01 _ _⟩
    exact (It_ag (fun _ _ _ _ => rdF_ge) (rdF_both ag (.inl (by omega)) lim).1 (rdF_both ag (.inl (by omega)) lim).2 h (Nat.zero_le _) _ _ rfl).1 (Nat.le_refl _)
  · have ag : AG (bitB B 0) (bitB B' 0) (8 * B.length) (8 * B'.length) a := ⟨he, ha, ha', bitB_01 _ _, bitB_01 _ _⟩
    exact (It_ag (fun _ _ _ _ => rdF_ge) (rdF_both ag (.inr hN) lim).1 (rdF_both ag (.inr hN) lim).2 h (Nat.zero_le _) _ _ rfl).1 (Nat.le_refl _)
/-- a stream that is cut off ends -/
theorem ALLR_cut {B B' : List Int} {lim a : Nat} {o : List Int} (h : ALLR B lim (.ok a o)) (hl : 8 * B'.length < a) (hle : B'.length ≤ B.length) (he : ∀ j, j < 8 * B'.length → bitB B 0 j = bitB B' 0 j) : ALLR B' lim (.err 20) := by
  have ag : AG (bitB B 0) (bitB B' 0) (8 * B.length) (8 * B'.length) (8 * B'.length) := ⟨he, by omega, Nat.le_refl _, bitB_01 _ _, bitB_01 _ _⟩
  exact (It_ag (fun _ _ _ _ => rdF_ge) (rdF_both ag (.inl (by omega)) lim).1 (rdF_both ag (.inl (by omega)) lim).2 h (Nat.zero_le _) _ _ rfl).2 rfl hl
end Go.Proofs.Ytakgoflfcgofdaa

namespace Go.Proofs.Ytakgoflfcgofdaa
open Sx Go
set_option linter.unusedVariables false
set_option linter.unusedSimpArgs false
attribute [local irreducible] syA fc tk cds
theorem V_neStr1 {n : Nat} {D : List Deferred} {w0 : World} {ov : Ov} {H : List Asn} {d : Option Nat} {T T1 T2 : Nat} {pos : String} {af : Array Edge} {g : Option (Nat × Bool)} {x y : Operand} {s : ByteArray}
    (hx : ev ov x = some (.string s)) (hy : ev ov y = some (.string s)) (hd : dOk d n = true) : OpV Try.prog n D w0 ov H ⟨d, .binOp .neq T1 x y T2, T, pos, af, g⟩ (.bool false) := by
  unfold OpV
  exact ⟨hd, fun a w ha _ => by simp [execOp, ha.ev hx, ha.ev hy, eqGuard, binOp, Op.stringOp]⟩
theorem bitB_take {B : List Int} {n j : Nat} (h : j < 8 * n) : bitB B 0 j = bitB (B.take n) 0 j := by
  unfold bitB
  rw [Nat.zero_add, List.getD_eq_getElem?_getD, List.getD_eq_getElem?_getD, List.getElem?_take, if_pos (by omega)]
theorem bitB_app {B C : List Int} {j : Nat} (h : j < 8 * B.length) : bitB B 0 j = bitB (B ++ C) 0 j := by
  unfold bitB
  rw [Nat.zero_add, List.getD_eq_getElem?_getD, List.getD_eq_getElem?_getD, List.getElem?_append_left (by omega)]
set_option maxRecDepth 10000 in
set_option maxHeartbeats 2000000 in
theorem InflateBehind_c (p : Option Addr) (c m : Nat) (B : List Int) (p2 : Option Addr) (c2 m2 : Nat) (B2 : List Int) (cut : Int) (w0 : World) (ha : ArgRd w0 (.slice p m c) m (ints .u8 B)) (hm : B.length = m) (hO : OKB B ∧ (p = none → m = 0) ∧ m ≤ 140737488351232)
    (ha2 : ArgRd w0 (.slice p2 m2 c2) m2 (ints .u8 B2)) (hm2 : B2.length = m2) (hO2 : OKB B2 ∧ (p2 = none → m2 = 0) ∧ m2 ≤ 140737488351232) (hcut : -9223372036854775808 ≤ cut ∧ cut < 9223372036854775808) :
    Calls Try.prog 8 #[.slice p m c, .slice p2 m2 c2, .int .i64 cut] w0 fun e w' => e = .returned (.bool true) ∧ RowKit.Below w0.heap.size w0 w' := by
  obtain ⟨hB, hpm, hmx⟩ := hO
  obtain ⟨hB2, hpm2, hmx2⟩ := hO2
  have hn : Rd w0 [] (.slice none 0 0) 0 (ints .u8 []) := nil_rd
  have hcap : m ≤ c := by
    obtain ⟨_, _, h, _, h2⟩ := ha.isl
    cases h; exact h2
  refine enter (vs := [.slice p m c, .slice p2 m2 c2, .int .i64 cut]) Try.func8 rfl rfl rfl (St.start w0) ?_
  repeat (first | (apply gJO; first | (apply kS; refine aK ?_) | (apply kX; refine JO_box rfl rfl rfl ?_; intro _) | (apply kA; refine JO_alloc (tb := tb) rfl rfl ?_; intro _) | (apply kBs; refine JO_buildSlice (tb := tb) rfl rfl rfl rfl rfl rfl rfl rfl rfl ?_; intro _) | (apply kM; refine JO_make (tb := tb) rfl rfl rfl rfl rfl rfl (by omega) rfl ?_; intro _) | refine aO ?_) | (apply gJR; first | apply JR_un | apply JR_nil | refine JR_yes rfl rfl ?_ | refine JR_no rfl rfl rfl rfl ?_ | refine JR_noU rfl rfl rfl ?_) | (apply gJS; first | apply JS_seq | apply JS_region | apply JS_skip | apply JS_block | apply JS_inBlock | apply JS_label | refine JS_exit rfl ?_ | refine JS_condT rfl ?_ | refine JS_condF rfl ?_ | refine JS_draw [0] (by kernel_rfl) (by kernel_rfl) (by decide +kernel) ?_ | refine JS_draw [] (by kernel_rfl) (by kernel_rfl) (by decide +kernel) ?_ | refine JS_cond_T rfl (by omega) ?_ | refine JS_cond_F rfl (by omega) ?_) | (apply gQR; first | apply QR_un | apply QR_nil | refine QR_yes rfl rfl ?_ | refine QR_no rfl rfl rfl rfl ?_ | refine QR_noU rfl rfl rfl ?_) | (apply gQO; first | refine aQ ?_ | refine aQK rfl ?_))
  refine JO_call Try.call27 rfl rfl fun w hw => (alive6_c w hw).mono ?_
  rintro e w' ⟨rfl, hw'⟩
  refine ⟨_, rfl, _, hw', ?_⟩
  clear hw' hw w w'
  by_cases hbig : 2000 < m
  · repeat (first | (apply gJO; first | (apply kS; refine aK ?_) | (apply kX; refine JO_box rfl rfl rfl ?_; intro _) | (apply kA; refine JO_alloc (tb := tb) rfl rfl ?_; intro _) | (apply kBs; refine JO_buildSlice (tb := tb) rfl rfl rfl rfl rfl rfl rfl rfl rfl ?_; intro _) | (apply kM; refine JO_make (tb := tb) rfl rfl rfl rfl rfl rfl (by omega) rfl ?_; intro _) | refine aO ?_) | (apply gJR; first | apply JR_un | apply JR_nil | refine JR_yes rfl rfl ?_ | refine JR_no rfl rfl rfl rfl ?_ | refine JR_noU rfl rfl rfl ?_) | (apply gJS; first | apply JS_seq | apply JS_region | apply JS_skip | apply JS_block | apply JS_inBlock | apply JS_label | refine JS_exit rfl ?_ | refine JS_condT rfl ?_ | refine JS_condF rfl ?_ | refine JS_draw [0] (by kernel_rfl) (by kernel_rfl) (by decide +kernel) ?_ | refine JS_draw [] (by kernel_rfl) (by kernel_rfl) (by decide +kernel) ?_ | refine JS_cond_T rfl (by omega) ?_ | refine JS_cond_F rfl (by omega) ?_) | (apply gQR; first | apply QR_un | apply QR_nil | refine QR_yes rfl rfl ?_ | refine QR_no rfl rfl rfl rfl ?_ | refine QR_noU rfl rfl rfl ?_) | (apply gQO; first | refine aQ ?_ | refine aQK rfl ?_))
    exact JS_ret Try.func8 rfl rfl fun w hw => ⟨rfl, hw.grown⟩
  by_cases hbig2 : 2000 < m2
  · repeat (first | (apply gJO; first | (apply kS; refine aK ?_) | (apply kX; refine JO_box rfl rfl rfl ?_; intro _) | (apply kA; refine JO_alloc (tb := tb) rfl rfl ?_; intro _) | (apply kBs; refine JO_buildSlice (tb := tb) rfl rfl rfl rfl rfl rfl rfl rfl rfl ?_; intro _) | (apply kM; refine JO_make (tb := tb) rfl rfl rfl rfl rfl rfl (by omega) rfl ?_; intro _) | refine aO ?_) | (apply gJR; first | apply JR_un | apply JR_nil | refine JR_yes rfl rfl ?_ | refine JR_no rfl rfl rfl rfl ?_ | refine JR_noU rfl rfl rfl ?_) | (apply gJS; first | apply JS_seq | apply JS_region | apply JS_skip | apply JS_block | apply JS_inBlock | apply JS_label | refine JS_exit rfl ?_ | refine JS_condT rfl ?_ | refine JS_condF rfl ?_ | refine JS_draw [0] (by kernel_rfl) (by kernel_rfl) (by decide +kernel) ?_ | refine JS_draw [] (by kernel_rfl) (by kernel_rfl) (by decide +kernel) ?_ | refine JS_cond_T rfl (by omega) ?_ | refine JS_cond_F rfl (by omega) ?_) | (apply gQR; first | apply QR_un | apply QR_nil | refine QR_yes rfl rfl ?_ | refine QR_no rfl rfl rfl rfl ?_ | refine QR_noU rfl rfl rfl ?_) | (apply gQO; first | refine aQ ?_ | refine aQK rfl ?_))
    exact JS_ret Try.func8 rfl rfl fun w hw => ⟨rfl, hw.grown⟩
  repeat (first | (apply gJO; first | (apply kS; refine aK ?_) | (apply kX; refine JO_box rfl rfl rfl ?_; intro _) | (apply kA; refine JO_alloc (tb := tb) rfl rfl ?_; intro _) | (apply kBs; refine JO_buildSlice (tb := tb) rfl rfl rfl rfl rfl rfl rfl rfl rfl ?_; intro _) | (apply kM; refine JO_make (tb := tb) rfl rfl rfl rfl rfl rfl (by omega) rfl ?_; intro _) | refine aO ?_) | (apply gJR; first | apply JR_un | apply JR_nil | refine JR_yes rfl rfl ?_ | refine JR_no rfl rfl rfl rfl ?_ | refine JR_noU rfl rfl rfl ?_) | (apply gJS; first | apply JS_seq | apply JS_region | apply JS_skip | apply JS_block | apply JS_inBlock | apply JS_label | refine JS_exit rfl ?_ | refine JS_condT rfl ?_ | refine JS_condF rfl ?_ | refine JS_draw [0] (by kernel_rfl) (by kernel_rfl) (by decide +kernel) ?_ | refine JS_draw [] (by kernel_rfl) (by kernel_rfl) (by decide +kernel) ?_ | refine JS_cond_T rfl (by omega) ?_ | refine JS_cond_F rfl (by omega) ?_) | (apply gQR; first | apply QR_un | apply QR_nil | refine QR_yes rfl rfl ?_ | refine QR_no rfl rfl rfl rfl ?_ | refine QR_noU rfl rfl rfl ?_) | (apply gQO; first | refine aQ ?_ | refine aQK rfl ?_))
  refine JO_call Try.call28 rfl rfl fun w hw => (IRead_c p c m B (ha.rd _) hm hB (by omega) 65536 (by omega) w hw).mono ?_
  rintro e w' (⟨hbad, _⟩ | ⟨_, _, r, hr, h⟩)
  · omega
  rw [show (65536 : Int).toNat = 65536 from rfl] at hr h
  cases r with
  | err x =>
    obtain ⟨rfl, hw'⟩ := h
    have hx := ALLR_ne hr
    refine ⟨_, rfl, _, hw', ?_⟩
    clear hw' hw w w'
    repeat (first | (apply gJO; first | (apply kS; refine aK ?_) | (apply kX; refine JO_box rfl rfl rfl ?_; intro _) | (apply kA; refine JO_alloc (tb := tb) rfl rfl ?_; intro _) | (apply kBs; refine JO_buildSlice (tb := tb) rfl rfl rfl rfl rfl rfl rfl rfl rfl ?_; intro _) | (apply kM; refine JO_make (tb := tb) rfl rfl rfl rfl rfl rfl (by omega) rfl ?_; intro _) | refine aO ?_) | (apply gJR; first | apply JR_un | apply JR_nil | refine JR_yes rfl rfl ?_ | refine JR_no rfl rfl rfl rfl ?_ | refine JR_noU rfl rfl rfl ?_) | (apply gJS; first | apply JS_seq | apply JS_region | apply JS_skip | apply JS_block | apply JS_inBlock | apply JS_label | refine JS_exit rfl ?_ | refine JS_condT rfl ?_ | refine JS_condF rfl ?_ | refine JS_draw [0] (by kernel_rfl) (by kernel_rfl) (by decide +kernel) ?_ | refine JS_draw [] (by kernel_rfl) (by kernel_rfl) (by decide +kernel) ?_ | refine JS_cond_T rfl (by omega) ?_ | refine JS_cond_F rfl (by omega) ?_) | (apply gQR; first | apply QR_un | apply QR_nil | refine QR_yes rfl rfl ?_ | refine QR_no rfl rfl rfl rfl ?_ | refine QR_noU rfl rfl rfl ?_) | (apply gQO; first | refine aQ ?_ | refine aQK rfl ?_))
    exact JS_ret Try.func8 rfl rfl fun w hw => ⟨rfl, hw.grown⟩
  | ok a o =>
  obtain ⟨ha1, ho1, p3, c3, rfl, hw'⟩ := h
  refine ⟨_, rfl, _, hw', ?_⟩
  clear hw' hw w w'
  obtain ⟨n, hnn⟩ : ∃ n, (a + 7) / 8 = n := ⟨_, rfl⟩
  have hnm : n ≤ m := by omega
  rw [hnn]
  have htl : (B.take n).length = n := by rw [List.length_take]; omega
  have hR1 : Rd w0 [] (.slice p n c) n (ints .u8 (B.take n)) := by
    have := Rd_sub (lo := 0) (hi := n) (sz := 1) (ha.rd []) (by omega) (by omega)
    simp only [subB_0, Nat.sub_zero, Nat.zero_mul, Nat.mul_one, List.drop_zero, ints_take] at this
    exact this
  have hR2 : Rd w0 [] (.slice p2 m2 c2) m2 (ints .u8 B2) := ha2.rd []
  have hokb : OKB (B.take n ++ B2) := OKB_app (Byt_take hB n) hB2
  have hl12 : (B.take n ++ B2).length = n + m2 := by rw [List.length_append, htl, hm2]
  have hbeh : ALLR (B.take n ++ B2) 65536 (.ok a o) := ALLR_behind hr (by omega) (by omega) fun j hj => by
    rw [bitB_take (B := B) (n := n) (by omega)]
    exact bitB_app (by omega)
  repeat (first | (apply gJO; refine JO_v (V_slice (tb := tb) (lo := 0) (hi := n) rfl rfl rfl rfl rfl (by rfl) (by rfl) (fun w hw => ⟨by omega, by omega⟩) rfl) ?_) | first | (apply gJO; first | (apply kS; refine aK ?_) | (apply kX; refine JO_box rfl rfl rfl ?_; intro _) | (apply kA; refine JO_alloc (tb := tb) rfl rfl ?_; intro _) | (apply kBs; refine JO_buildSlice (tb := tb) rfl rfl rfl rfl rfl rfl rfl rfl rfl ?_; intro _) | (apply kM; refine JO_make (tb := tb) rfl rfl rfl rfl rfl rfl (by omega) rfl ?_; intro _) | refine aO ?_) | (apply gJR; first | apply JR_un | apply JR_nil | refine JR_yes rfl rfl ?_ | refine JR_no rfl rfl rfl rfl ?_ | refine JR_noU rfl rfl rfl ?_) | (apply gJS; first | apply JS_seq | apply JS_region | apply JS_skip | apply JS_block | apply JS_inBlock | apply JS_label | refine JS_exit rfl ?_ | refine JS_condT rfl ?_ | refine JS_condF rfl ?_ | refine JS_draw [0] (by kernel_rfl) (by kernel_rfl) (by decide +kernel) ?_ | refine JS_draw [] (by kernel_rfl) (by kernel_rfl) (by decide +kernel) ?_ | refine JS_cond_T rfl (by omega) ?_ | refine JS_cond_F rfl (by omega) ?_) | (apply gQR; first | apply QR_un | apply QR_nil | refine QR_yes rfl rfl ?_ | refine QR_no rfl rfl rfl rfl ?_ | refine QR_noU rfl rfl rfl ?_) | (apply gQO; first | refine aQ ?_ | refine aQK rfl ?_))
  simp only [subB_0, Nat.sub_zero]
  rename_i p4
  refine JO_app (tb := tb) rfl rfl rfl rfl rfl rfl (by repeat (first | exact Sel.here _ _ | apply Sel.there)) (Rd_weak hR1 fun w hw => St.sub (List.nil_sublist _) hw) (by rw [ints_len, htl]; omega) (by first | exact ints_one | (repeat (first | exact trivial | refine ⟨rfl, ?_⟩))) (by omega) rfl ?_
  intro p5 c5
  repeat (first | (apply gJO; first | (apply kS; refine aK ?_) | (apply kX; refine JO_box rfl rfl rfl ?_; intro _) | (apply kA; refine JO_alloc (tb := tb) rfl rfl ?_; intro _) | (apply kBs; refine JO_buildSlice (tb := tb) rfl rfl rfl rfl rfl rfl rfl rfl rfl ?_; intro _) | (apply kM; refine JO_make (tb := tb) rfl rfl rfl rfl rfl rfl (by omega) rfl ?_; intro _) | refine aO ?_) | (apply gJR; first | apply JR_un | apply JR_nil | refine JR_yes rfl rfl ?_ | refine JR_no rfl rfl rfl rfl ?_ | refine JR_noU rfl rfl rfl ?_) | (apply gJS; first | apply JS_seq | apply JS_region | apply JS_skip | apply JS_block | apply JS_inBlock | apply JS_label | refine JS_exit rfl ?_ | refine JS_condT rfl ?_ | refine JS_condF rfl ?_ | refine JS_draw [0] (by kernel_rfl) (by kernel_rfl) (by decide +kernel) ?_ | refine JS_draw [] (by kernel_rfl) (by kernel_rfl) (by decide +kernel) ?_ | refine JS_cond_T rfl (by omega) ?_ | refine JS_cond_F rfl (by omega) ?_) | (apply gQR; first | apply QR_un | apply QR_nil | refine QR_yes rfl rfl ?_ | refine QR_no rfl rfl rfl rfl ?_ | refine QR_noU rfl rfl rfl ?_) | (apply gQO; first | refine aQ ?_ | refine aQK rfl ?_))
  refine JO_app (tb := tb) rfl rfl rfl rfl rfl rfl (by repeat (first | exact Sel.here _ _ | apply Sel.there)) (Rd_weak hR2 fun w hw => St.sub (List.nil_sublist _) hw) (by rw [ints_len, hm2]; omega) (by first | exact ints_one | (repeat (first | exact trivial | refine ⟨rfl, ?_⟩))) (by omega) rfl ?_
  intro p6 c6
  repeat (first | (apply gJO; first | (apply kS; refine aK ?_) | (apply kX; refine JO_box rfl rfl rfl ?_; intro _) | (apply kA; refine JO_alloc (tb := tb) rfl rfl ?_; intro _) | (apply kBs; refine JO_buildSlice (tb := tb) rfl rfl rfl rfl rfl rfl rfl rfl rfl ?_; intro _) | (apply kM; refine JO_make (tb := tb) rfl rfl rfl rfl rfl rfl (by omega) rfl ?_; intro _) | refine aO ?_) | (apply gJR; first | apply JR_un | apply JR_nil | refine JR_yes rfl rfl ?_ | refine JR_no rfl rfl rfl rfl ?_ | refine JR_noU rfl rfl rfl ?_) | (apply gJS; first | apply JS_seq | apply JS_region | apply JS_skip | apply JS_block | apply JS_inBlock | apply JS_label | refine JS_exit rfl ?_ | refine JS_condT rfl ?_ | refine JS_condF rfl ?_ | refine JS_draw [0] (by kernel_rfl) (by kernel_rfl) (by decide +kernel) ?_ | refine JS_draw [] (by kernel_rfl) (by kernel_rfl) (by decide +kernel) ?_ | refine JS_cond_T rfl (by omega) ?_ | refine JS_cond_F rfl (by omega) ?_) | (apply gQR; first | apply QR_un | apply QR_nil | refine QR_yes rfl rfl ?_ | refine QR_no rfl rfl rfl rfl ?_ | refine QR_noU rfl rfl rfl ?_) | (apply gQO; first | refine aQ ?_ | refine aQK rfl ?_))
  simp only [show rep 0 [Value.int IntKind.u8 0] = [] from rfl, List.nil_append, ints_app, Nat.zero_add]
  refine JO_call Try.call28 rfl rfl fun w hw => (IRead_ok p6 c6 (n + m2) (B.take n ++ B2) (vec_rd (List.Mem.head _)) hl12 hokb (by omega) 65536 (by omega) hbeh w hw).mono ?_
  rw [hnn]
  rintro e w' ⟨p7, c7, rfl, hw'⟩
  refine ⟨_, rfl, _, hw', ?_⟩
  clear hw' hw w w'
  have hsw : cut < 0 ∨ (¬ cut < 0 ∧ (n : Int) ≤ cut) ∨ (0 ≤ cut ∧ cut < n) := by omega
  rcases hsw with h | ⟨h, h'⟩ | ⟨h, h'⟩
  · repeat (first | (apply gJO; refine JO_v (V_neStr1 (s := bstr o) rfl rfl rfl) ?_) | first | (apply gJO; first | (apply kS; refine aK ?_) | (apply kX; refine JO_box rfl rfl rfl ?_; intro _) | (apply kA; refine JO_alloc (tb := tb) rfl rfl ?_; intro _) | (apply kBs; refine JO_buildSlice (tb := tb) rfl rfl rfl rfl rfl rfl rfl rfl rfl ?_; intro _) | (apply kM; refine JO_make (tb := tb) rfl rfl rfl rfl rfl rfl (by omega) rfl ?_; intro _) | refine aO ?_) | (apply gJR; first | apply JR_un | apply JR_nil | refine JR_yes rfl rfl ?_ | refine JR_no rfl rfl rfl rfl ?_ | refine JR_noU rfl rfl rfl ?_) | (apply gJS; first | apply JS_seq | apply JS_region | apply JS_skip | apply JS_block | apply JS_inBlock | apply JS_label | refine JS_exit rfl ?_ | refine JS_condT rfl ?_ | refine JS_condF rfl ?_ | refine JS_draw [0] (by kernel_rfl) (by kernel_rfl) (by decide +kernel) ?_ | refine JS_draw [] (by kernel_rfl) (by kernel_rfl) (by decide +kernel) ?_ | refine JS_cond_T rfl (by omega) ?_ | refine JS_cond_F rfl (by omega) ?_) | (apply gQR; first | apply QR_un | apply QR_nil | refine QR_yes rfl rfl ?_ | refine QR_no rfl rfl rfl rfl ?_ | refine QR_noU rfl rfl rfl ?_) | (apply gQO; first | refine aQ ?_ | refine aQK rfl ?_))
    exact JS_ret Try.func8 rfl rfl fun w hw => ⟨rfl, hw.grown⟩
  · repeat (first | (apply gJO; refine JO_v (V_neStr1 (s := bstr o) rfl rfl rfl) ?_) | first | (apply gJO; first | (apply kS; refine aK ?_) | (apply kX; refine JO_box rfl rfl rfl ?_; intro _) | (apply kA; refine JO_alloc (tb := tb) rfl rfl ?_; intro _) | (apply kBs; refine JO_buildSlice (tb := tb) rfl rfl rfl rfl rfl rfl rfl rfl rfl ?_; intro _) | (apply kM; refine JO_make (tb := tb) rfl rfl rfl rfl rfl rfl (by omega) rfl ?_; intro _) | refine aO ?_) | (apply gJR; first | apply JR_un | apply JR_nil | refine JR_yes rfl rfl ?_ | refine JR_no rfl rfl rfl rfl ?_ | refine JR_noU rfl rfl rfl ?_) | (apply gJS; first | apply JS_seq | apply JS_region | apply JS_skip | apply JS_block | apply JS_inBlock | apply JS_label | refine JS_exit rfl ?_ | refine JS_condT rfl ?_ | refine JS_condF rfl ?_ | refine JS_draw [0] (by kernel_rfl) (by kernel_rfl) (by decide +kernel) ?_ | refine JS_draw [] (by kernel_rfl) (by kernel_rfl) (by decide +kernel) ?_ | refine JS_cond_T rfl (by omega) ?_ | refine JS_cond_F rfl (by omega) ?_) | (apply gQR; first | apply QR_un | apply QR_nil | refine QR_yes rfl rfl ?_ | refine QR_no rfl rfl rfl rfl ?_ | refine QR_noU rfl rfl rfl ?_) | (apply gQO; first | refine aQ ?_ | refine aQK rfl ?_))
    exact JS_ret Try.func8 rfl rfl fun w hw => ⟨rfl, hw.grown⟩
  · obtain ⟨k, rfl⟩ : ∃ k : Nat, cut = k := ⟨cut.toNat, by omega⟩
    have hkl : (B.take k).length = k := by rw [List.length_take]; omega
    have hR3 : Rd w0 [] (.slice p k c) k (ints .u8 (B.take k)) := by
      have := Rd_sub (lo := 0) (hi := k) (sz := 1) (ha.rd []) (by omega) (by omega)
      simp only [subB_0, Nat.sub_zero, Nat.zero_mul, Nat.mul_one, List.drop_zero, ints_take] at this
      exact this
    have hend : ALLR (B.take k) 65536 (.err 20) := ALLR_cut hr (by rw [hkl]; omega) (by rw [hkl]; omega) fun j hj => by
      rw [hkl] at hj
      exact bitB_take hj
    repeat (first | (apply gJO; first | refine JO_v (V_neStr1 (s := bstr o) rfl rfl rfl) ?_ | refine JO_v (V_slice (tb := tb) (lo := 0) (hi := k) rfl rfl rfl rfl rfl (by rfl) (by rfl) (fun w hw => ⟨by omega, by omega⟩) rfl) ?_) | first | (apply gJO; first | (apply kS; refine aK ?_) | (apply kX; refine JO_box rfl rfl rfl ?_; intro _) | (apply kA; refine JO_alloc (tb := tb) rfl rfl ?_; intro _) | (apply kBs; refine JO_buildSlice (tb := tb) rfl rfl rfl rfl rfl rfl rfl rfl rfl ?_; intro _) | (apply kM; refine JO_make (tb := tb) rfl rfl rfl rfl rfl rfl (by omega) rfl ?_; intro _) | refine aO ?_) | (apply gJR; first | apply JR_un | apply JR_nil | refine JR_yes rfl rfl ?_ | refine JR_no rfl rfl rfl rfl ?_ | refine JR_noU rfl rfl rfl ?_) | (apply gJS; first | apply JS_seq | apply JS_region | apply JS_skip | apply JS_block | apply JS_inBlock | apply JS_label | refine JS_exit rfl ?_ | refine JS_condT rfl ?_ | refine JS_condF rfl ?_ | refine JS_draw [0] (by kernel_rfl) (by kernel_rfl) (by decide +kernel) ?_ | refine JS_draw [] (by kernel_rfl) (by kernel_rfl) (by decide +kernel) ?_ | refine JS_cond_T rfl (by omega) ?_ | refine JS_cond_F rfl (by omega) ?_) | (apply gQR; first | apply QR_un | apply QR_nil | refine QR_yes rfl rfl ?_ | refine QR_no rfl rfl rfl rfl ?_ | refine QR_noU rfl rfl rfl ?_) | (apply gQO; first | refine aQ ?_ | refine aQK rfl ?_))
    simp only [subB_0, Nat.sub_zero]
    refine JO_call Try.call28 rfl rfl fun w hw => (IRead_err p c k (B.take k) (Rd_weak hR3 fun w hw => St.sub (List.nil_sublist _) hw) hkl (Byt_take hB k) (by omega) 65536 (by omega) hend w hw).mono ?_
    rintro e w' ⟨rfl, hw'⟩
    refine ⟨_, rfl, _, hw', ?_⟩
    clear hw' hw w w'
    repeat (first | (apply gJO; first | (apply kS; refine aK ?_) | (apply kX; refine JO_box rfl rfl rfl ?_; intro _) | (apply kA; refine JO_alloc (tb := tb) rfl rfl ?_; intro _) | (apply kBs; refine JO_buildSlice (tb := tb) rfl rfl rfl rfl rfl rfl rfl rfl rfl ?_; intro _) | (apply kM; refine JO_make (tb := tb) rfl rfl rfl rfl rfl rfl (by omega) rfl ?_; intro _) | refine aO ?_) | (apply gJR; first | apply JR_un | apply JR_nil | refine JR_yes rfl rfl ?_ | refine JR_no rfl rfl rfl rfl ?_ | refine JR_noU rfl rfl rfl ?_) | (apply gJS; first | apply JS_seq | apply JS_region | apply JS_skip | apply JS_block | apply JS_inBlock | apply JS_label | refine JS_exit rfl ?_ | refine JS_condT rfl ?_ | refine JS_condF rfl ?_ | refine JS_draw [0] (by kernel_rfl) (by kernel_rfl) (by decide +kernel) ?_ | refine JS_draw [] (by kernel_rfl) (by kernel_rfl) (by decide +kernel) ?_ | refine JS_cond_T rfl (by omega) ?_ | refine JS_cond_F rfl (by omega) ?_) | (apply gQR; first | apply QR_un | apply QR_nil | refine QR_yes rfl rfl ?_ | refine QR_no rfl rfl rfl rfl ?_ | refine QR_noU rfl rfl rfl ?_) | (apply gQO; first | refine aQ ?_ | refine aQK rfl ?_))
    exact JS_ret Try.func8 rfl rfl fun w hw => ⟨rfl, hw.grown⟩
end Go.Proofs.Ytakgoflfcgofdaa

namespace Go.Proofs.Ytakgoflfcgofdaa
open Sx Go
set_option linter.unusedVariables false
set_option linter.unusedSimpArgs false
set_option maxRecDepth 10000 in
set_option maxHeartbeats 2000000 in
theorem InflateTables_c (s d : Int) (hs : -9223372036854775808 ≤ s ∧ s < 9223372036854775808) (hd : -9223372036854775808 ≤ d ∧ d < 9223372036854775808) (w0 : World) :
    Calls Try.prog 10 #[.int .i64 s, .int .i64 d] w0 fun e w' => e = .returned (.bool true) ∧ RowKit.Below w0.heap.size w0 w' := by
  refine enter (vs := [.int .i64 s, .int .i64 d]) Try.func10 rfl rfl rfl (St.start w0) ?_
  repeat (first | (apply gJO; first | (apply kS; refine aK ?_) | (apply kX; refine JO_box rfl rfl rfl ?_; intro _) | (apply kA; refine JO_alloc (tb := tb) rfl rfl ?_; intro _) | (apply kBs; refine JO_buildSlice (tb := tb) rfl rfl rfl rfl rfl rfl rfl rfl rfl ?_; intro _) | (apply kM; refine JO_make (tb := tb) rfl rfl rfl rfl rfl rfl (by omega) rfl ?_; intro _) | refine aO ?_) | (apply gJR; first | apply JR_un | apply JR_nil | refine JR_yes rfl rfl ?_ | refine JR_no rfl rfl rfl rfl ?_ | refine JR_noU rfl rfl rfl ?_) | (apply gJS; first | apply JS_seq | apply JS_region | apply JS_skip | apply JS_block | apply JS_inBlock | apply JS_label | refine JS_exit rfl ?_ | refine JS_condT rfl ?_ | refine JS_condF rfl ?_ | refine JS_draw [0] (by kernel_rfl) (by kernel_rfl) (by decide +kernel) ?_ | refine JS_draw [] (by kernel_rfl) (by kernel_rfl) (by decide +kernel) ?_ | refine JS_cond_T rfl (by omega) ?_ | refine JS_cond_F rfl (by omega) ?_) | (apply gQR; first | apply QR_un | apply QR_nil | refine QR_yes rfl rfl ?_ | refine QR_no rfl rfl rfl rfl ?_ | refine QR_noU rfl rfl rfl ?_) | (apply gQO; first | refine aQ ?_ | refine aQK rfl ?_))
  refine JO_call Try.call27 rfl rfl fun w hw => (alive6_c w hw).mono ?_
  rintro e w' ⟨rfl, hw'⟩
  refine ⟨_, rfl, _, hw', ?_⟩
  clear hw' hw w w'
  repeat (first | (apply gJO; first | (apply kS; refine aK ?_) | (apply kX; refine JO_box rfl rfl rfl ?_; intro _) | (apply kA; refine JO_alloc (tb := tb) rfl rfl ?_; intro _) | (apply kBs; refine JO_buildSlice (tb := tb) rfl rfl rfl rfl rfl rfl rfl rfl rfl ?_; intro _) | (apply kM; refine JO_make (tb := tb) rfl rfl rfl rfl rfl rfl (by omega) rfl ?_; intro _) | refine aO ?_) | (apply gJR; first | apply JR_un | apply JR_nil | refine JR_yes rfl rfl ?_ | refine JR_no rfl rfl rfl rfl ?_ | refine JR_noU rfl rfl rfl ?_) | (apply gJS; first | apply JS_seq | apply JS_region | apply JS_skip | apply JS_block | apply JS_inBlock | apply JS_label | refine JS_exit rfl ?_ | refine JS_condT rfl ?_ | refine JS_condF rfl ?_ | refine JS_draw [0] (by kernel_rfl) (by kernel_rfl) (by decide +kernel) ?_ | refine JS_draw [] (by kernel_rfl) (by kernel_rfl) (by decide +kernel) ?_ | refine JS_cond_T rfl (by omega) ?_ | refine JS_cond_F rfl (by omega) ?_) | (apply gQR; first | apply QR_un | apply QR_nil | refine QR_yes rfl rfl ?_ | refine QR_no rfl rfl rfl rfl ?_ | refine QR_noU rfl rfl rfl ?_) | (apply gQO; first | refine aQ ?_ | refine aQK rfl ?_))
  refine JO_call Try.call25 rfl rfl fun w hw => (Base_c s hs w hw).mono ?_
  rintro e w' ⟨rfl, hw'⟩
  refine ⟨_, rfl, _, hw', ?_⟩
  clear hw' hw w w'
  have hbase : 257 ≤ s → s < 284 → ∃ k : Nat, (lbase s).2 = k ∧ k ≤ 5 ∧ 0 ≤ (lbase s).1 ∧ (lbase s).1 ≤ 258 ∧ (lbase (s + 1)).1 = (lbase s).1 + 2 ^ k := by
    intro h1 h2
    obtain ⟨i, rfl⟩ : ∃ i : Nat, s = 257 + i := ⟨(s - 257).toNat, by omega⟩
    obtain ⟨c1, c2, c3, c4, _⟩ := lbase_bd i (by omega)
    have hst := lbase_step i (by omega)
    refine ⟨(lbase (257 + i)).2.toNat, by omega, by omega, by omega, c2, ?_⟩
    rw [hst]; congr 2
  have hfar : 0 ≤ d → d < 29 → ∃ k : Nat, (lfar d).2 = k ∧ k ≤ 13 ∧ 0 ≤ (lfar d).1 ∧ (lfar d).1 ≤ 24577 ∧ (lfar (d + 1)).1 = (lfar d).1 + 2 ^ k := by
    intro h1 h2
    obtain ⟨i, rfl⟩ : ∃ i : Nat, d = i := ⟨d.toNat, by omega⟩
    obtain ⟨c1, c2, c3, c4, _⟩ := lfar_bd i (by omega)
    have hst := lfar_step i (by omega)
    refine ⟨(lfar i).2.toNat, by omega, by omega, by omega, c2, ?_⟩
    rw [hst]; rfl
  have hpw : ∀ k : Nat, k ≤ 13 → (2 : Int) ^ k ≤ 8192 ∧ (1 : Int) ≤ 2 ^ k := by
    intro k hk
    have : ∀ k : Fin 14, (2 : Int) ^ k.val ≤ 8192 ∧ (1 : Int) ≤ 2 ^ k.val := by decide
    exact this ⟨k, by omega⟩
  obtain ⟨⟨B1, B2⟩, hB⟩ : ∃ x, lbase s = x := ⟨_, rfl⟩
  obtain ⟨⟨F1, F2⟩, hF⟩ : ∃ x, lfar d = x := ⟨_, rfl⟩
  rw [hB] at hbase ⊢
  simp only at hbase ⊢
  repeat (first | (apply gJO; first | (apply kS; refine aK ?_) | (apply kX; refine JO_box rfl rfl rfl ?_; intro _) | (apply kA; refine JO_alloc (tb := tb) rfl rfl ?_; intro _) | (apply kBs; refine JO_buildSlice (tb := tb) rfl rfl rfl rfl rfl rfl rfl rfl rfl ?_; intro _) | (apply kM; refine JO_make (tb := tb) rfl rfl rfl rfl rfl rfl (by omega) rfl ?_; intro _) | refine aO ?_) | (apply gJR; first | apply JR_un | apply JR_nil | refine JR_yes rfl rfl ?_ | refine JR_no rfl rfl rfl rfl ?_ | refine JR_noU rfl rfl rfl ?_) | (apply gJS; first | apply JS_seq | apply JS_region | apply JS_skip | apply JS_block | apply JS_inBlock | apply JS_label | refine JS_exit rfl ?_ | refine JS_condT rfl ?_ | refine JS_condF rfl ?_ | refine JS_draw [0] (by kernel_rfl) (by kernel_rfl) (by decide +kernel) ?_ | refine JS_draw [] (by kernel_rfl) (by kernel_rfl) (by decide +kernel) ?_ | refine JS_cond_T rfl (by omega) ?_ | refine JS_cond_F rfl (by omega) ?_) | (apply gQR; first | apply QR_un | apply QR_nil | refine QR_yes rfl rfl ?_ | refine QR_no rfl rfl rfl rfl ?_ | refine QR_noU rfl rfl rfl ?_) | (apply gQO; first | refine aQ ?_ | refine aQK rfl ?_))
  refine JO_call Try.call30 rfl rfl fun w hw => (RBase_c s hs w hw).mono ?_
  rw [hB]
  rintro e w' ⟨rfl, hw'⟩
  refine ⟨_, rfl, _, hw', ?_⟩
  clear hw' hw w w'
  simp only
  repeat (first | (apply gJO; first | (apply kS; refine aK ?_) | (apply kX; refine JO_box rfl rfl rfl ?_; intro _) | (apply kA; refine JO_alloc (tb := tb) rfl rfl ?_; intro _) | (apply kBs; refine JO_buildSlice (tb := tb) rfl rfl rfl rfl rfl rfl rfl rfl rfl ?_; intro _) | (apply kM; refine JO_make (tb := tb) rfl rfl rfl rfl rfl rfl (by omega) rfl ?_; intro _) | refine aO ?_) | (apply gJR; first | apply JR_un | apply JR_nil | refine JR_yes rfl rfl ?_ | refine JR_no rfl rfl rfl rfl ?_ | refine JR_noU rfl rfl rfl ?_) | (apply gJS; first | apply JS_seq | apply JS_region | apply JS_skip | apply JS_block | apply JS_inBlock | apply JS_label | refine JS_exit rfl ?_ | refine JS_condT rfl ?_ | refine JS_condF rfl ?_ | refine JS_draw [0] (by kernel_rfl) (by kernel_rfl) (by decide +kernel) ?_ | refine JS_draw [] (by kernel_rfl) (by kernel_rfl) (by decide +kernel) ?_ | refine JS_cond_T rfl (by omega) ?_ | refine JS_cond_F rfl (by omega) ?_) | (apply gQR; first | apply QR_un | apply QR_nil | refine QR_yes rfl rfl ?_ | refine QR_no rfl rfl rfl rfl ?_ | refine QR_noU rfl rfl rfl ?_) | (apply gQO; first | refine aQ ?_ | refine aQK rfl ?_))
  refine JO_call Try.call26 rfl rfl fun w hw => (Far_c d hd w hw).mono ?_
  rw [hF] at hfar ⊢
  simp only at hfar ⊢
  rintro e w' ⟨rfl, hw'⟩
  refine ⟨_, rfl, _, hw', ?_⟩
  clear hw' hw w w'
  repeat (first | (apply gJO; first | (apply kS; refine aK ?_) | (apply kX; refine JO_box rfl rfl rfl ?_; intro _) | (apply kA; refine JO_alloc (tb := tb) rfl rfl ?_; intro _) | (apply kBs; refine JO_buildSlice (tb := tb) rfl rfl rfl rfl rfl rfl rfl rfl rfl ?_; intro _) | (apply kM; refine JO_make (tb := tb) rfl rfl rfl rfl rfl rfl (by omega) rfl ?_; intro _) | refine aO ?_) | (apply gJR; first | apply JR_un | apply JR_nil | refine JR_yes rfl rfl ?_ | refine JR_no rfl rfl rfl rfl ?_ | refine JR_noU rfl rfl rfl ?_) | (apply gJS; first | apply JS_seq | apply JS_region | apply JS_skip | apply JS_block | apply JS_inBlock | apply JS_label | refine JS_exit rfl ?_ | refine JS_condT rfl ?_ | refine JS_condF rfl ?_ | refine JS_draw [0] (by kernel_rfl) (by kernel_rfl) (by decide +kernel) ?_ | refine JS_draw [] (by kernel_rfl) (by kernel_rfl) (by decide +kernel) ?_ | refine JS_cond_T rfl (by omega) ?_ | refine JS_cond_F rfl (by omega) ?_) | (apply gQR; first | apply QR_un | apply QR_nil | refine QR_yes rfl rfl ?_ | refine QR_no rfl rfl rfl rfl ?_ | refine QR_noU rfl rfl rfl ?_) | (apply gQO; first | refine aQ ?_ | refine aQK rfl ?_))
  refine JO_call Try.call31 rfl rfl fun w hw => (RFar_c d hd w hw).mono ?_
  rw [hF]
  simp only
  rintro e w' ⟨rfl, hw'⟩
  refine ⟨_, rfl, _, hw', ?_⟩
  clear hw' hw w w'
  have hsr : (257 ≤ s ∧ s < 284) ∨ s < 257 ∨ (257 ≤ s ∧ 284 ≤ s) := by omega
  have hdr : (0 ≤ d ∧ d < 29) ∨ d < 0 ∨ (0 ≤ d ∧ 29 ≤ d) := by omega
  rcases hsr with ⟨h1, h2⟩ | hsr
  · obtain ⟨k1, rfl, hk1, hB0, hB1, hst⟩ := hbase h1 h2
    obtain ⟨hp1, hp2⟩ := hpw k1 (by omega)
    have hm1 : min ((k1 : Int)).toNat IntKind.i64.bits = k1 := by show min k1 64 = k1; omega
    have hw1 : IntKind.i64.wrap (1 * (2 : Int) ^ k1) = (2 : Int) ^ k1 := by rw [Int.one_mul]; exact wi64 (by omega)
    repeat (first | (apply gJO; first | (apply kS; refine aK ?_) | (apply kX; refine JO_box rfl rfl rfl ?_; intro _) | (apply kA; refine JO_alloc (tb := tb) rfl rfl ?_; intro _) | (apply kBs; refine JO_buildSlice (tb := tb) rfl rfl rfl rfl rfl rfl rfl rfl rfl ?_; intro _) | (apply kM; refine JO_make (tb := tb) rfl rfl rfl rfl rfl rfl (by omega) rfl ?_; intro _) | refine aO ?_) | (apply gJR; first | apply JR_un | apply JR_nil | refine JR_yes rfl rfl ?_ | refine JR_no rfl rfl rfl rfl ?_ | refine JR_noU rfl rfl rfl ?_) | (apply gJS; first | apply JS_seq | apply JS_region | apply JS_skip | apply JS_block | apply JS_inBlock | apply JS_label | refine JS_exit rfl ?_ | refine JS_condT rfl ?_ | refine JS_condF rfl ?_ | refine JS_draw [0] (by kernel_rfl) (by kernel_rfl) (by decide +kernel) ?_ | refine JS_draw [] (by kernel_rfl) (by kernel_rfl) (by decide +kernel) ?_ | refine JS_cond_T rfl (by omega) ?_ | refine JS_cond_F rfl (by omega) ?_) | (apply gQR; first | apply QR_un | apply QR_nil | refine QR_yes rfl rfl ?_ | refine QR_no rfl rfl rfl rfl ?_ | refine QR_noU rfl rfl rfl ?_) | (apply gQO; first | refine aQ ?_ | refine aQK rfl ?_))
    refine JO_call Try.call25 rfl rfl fun w hw => (Base_c (s + 1) (by omega) w hw).mono ?_
    rw [hst]
    rintro e w' ⟨rfl, hw'⟩
    refine ⟨_, rfl, _, hw', ?_⟩
    clear hw' hw w w'
    rcases hdr with ⟨h3, h4⟩ | hdr
    · obtain ⟨k2, rfl, hk2, hF0, hF1, hst2⟩ := hfar h3 h4
      obtain ⟨hq1, hq2⟩ := hpw k2 hk2
      have hm2 : min ((k2 : Int)).toNat IntKind.i64.bits = k2 := by show min k2 64 = k2; omega
      have hw2 : IntKind.i64.wrap (1 * (2 : Int) ^ k2) = (2 : Int) ^ k2 := by rw [Int.one_mul]; exact wi64 (by omega)
      repeat (first | (apply gJO; refine JO_v (V_shl (m := k1) rfl rfl (by omega) hm1 hw1 rfl) ?_) | (first | (apply gJO; first | (apply kS; refine aK ?_) | (apply kX; refine JO_box rfl rfl rfl ?_; intro _) | (apply kA; refine JO_alloc (tb := tb) rfl rfl ?_; intro _) | (apply kBs; refine JO_buildSlice (tb := tb) rfl rfl rfl rfl rfl rfl rfl rfl rfl ?_; intro _) | (apply kM; refine JO_make (tb := tb) rfl rfl rfl rfl rfl rfl (by omega) rfl ?_; intro _) | refine aO ?_) | (apply gJR; first | apply JR_un | apply JR_nil | refine JR_yes rfl rfl ?_ | refine JR_no rfl rfl rfl rfl ?_ | refine JR_noU rfl rfl rfl ?_) | (apply gJS; first | apply JS_seq | apply JS_region | apply JS_skip | apply JS_block | apply JS_inBlock | apply JS_label | refine JS_exit rfl ?_ | refine JS_condT rfl ?_ | refine JS_condF rfl ?_ | refine JS_draw [0] (by kernel_rfl) (by kernel_rfl) (by decide +kernel) ?_ | refine JS_draw [] (by kernel_rfl) (by kernel_rfl) (by decide +kernel) ?_ | refine JS_cond_T rfl (by omega) ?_ | refine JS_cond_F rfl (by omega) ?_) | (apply gQR; first | apply QR_un | apply QR_nil | refine QR_yes rfl rfl ?_ | refine QR_no rfl rfl rfl rfl ?_ | refine QR_noU rfl rfl rfl ?_) | (apply gQO; first | refine aQ ?_ | refine aQK rfl ?_)))
      refine JO_call Try.call26 rfl rfl fun w hw => (Far_c (d + 1) (by omega) w hw).mono ?_
      rw [hst2]
      rintro e w' ⟨rfl, hw'⟩
      refine ⟨_, rfl, _, hw', ?_⟩
      clear hw' hw w w'
      repeat (first | (apply gJO; refine JO_v (V_shl (m := k2) rfl rfl (by omega) hm2 hw2 rfl) ?_) | (first | (apply gJO; first | (apply kS; refine aK ?_) | (apply kX; refine JO_box rfl rfl rfl ?_; intro _) | (apply kA; refine JO_alloc (tb := tb) rfl rfl ?_; intro _) | (apply kBs; refine JO_buildSlice (tb := tb) rfl rfl rfl rfl rfl rfl rfl rfl rfl ?_; intro _) | (apply kM; refine JO_make (tb := tb) rfl rfl rfl rfl rfl rfl (by omega) rfl ?_; intro _) | refine aO ?_) | (apply gJR; first | apply JR_un | apply JR_nil | refine JR_yes rfl rfl ?_ | refine JR_no rfl rfl rfl rfl ?_ | refine JR_noU rfl rfl rfl ?_) | (apply gJS; first | apply JS_seq | apply JS_region | apply JS_skip | apply JS_block | apply JS_inBlock | apply JS_label | refine JS_exit rfl ?_ | refine JS_condT rfl ?_ | refine JS_condF rfl ?_ | refine JS_draw [0] (by kernel_rfl) (by kernel_rfl) (by decide +kernel) ?_ | refine JS_draw [] (by kernel_rfl) (by kernel_rfl) (by decide +kernel) ?_ | refine JS_cond_T rfl (by omega) ?_ | refine JS_cond_F rfl (by omega) ?_) | (apply gQR; first | apply QR_un | apply QR_nil | refine QR_yes rfl rfl ?_ | refine QR_no rfl rfl rfl rfl ?_ | refine QR_noU rfl rfl rfl ?_) | (apply gQO; first | refine aQ ?_ | refine aQK rfl ?_)))
      exact JS_ret Try.func10 rfl rfl fun w hw => ⟨rfl, hw.grown⟩
    · rcases hdr with h3 | ⟨h3, h4⟩
      all_goals (repeat (first | (apply gJO; refine JO_v (V_shl (m := k1) rfl rfl (by omega) hm1 hw1 rfl) ?_) | (first | (apply gJO; first | (apply kS; refine aK ?_) | (apply kX; refine JO_box rfl rfl rfl ?_; intro _) | (apply kA; refine JO_alloc (tb := tb) rfl rfl ?_; intro _) | (apply kBs; refine JO_buildSlice (tb := tb) rfl rfl rfl rfl rfl rfl rfl rfl rfl ?_; intro _) | (apply kM; refine JO_make (tb := tb) rfl rfl rfl rfl rfl rfl (by omega) rfl ?_; intro _) | refine aO ?_) | (apply gJR; first | apply JR_un | apply JR_nil | refine JR_yes rfl rfl ?_ | refine JR_no rfl rfl rfl rfl ?_ | refine JR_noU rfl rfl rfl ?_) | (apply gJS; first | apply JS_seq | apply JS_region | apply JS_skip | apply JS_block | apply JS_inBlock | apply JS_label | refine JS_exit rfl ?_ | refine JS_condT rfl ?_ | refine JS_condF rfl ?_ | refine JS_draw [0] (by kernel_rfl) (by kernel_rfl) (by decide +kernel) ?_ | refine JS_draw [] (by kernel_rfl) (by kernel_rfl) (by decide +kernel) ?_ | refine JS_cond_T rfl (by omega) ?_ | refine JS_cond_F rfl (by omega) ?_) | (apply gQR; first | apply QR_un | apply QR_nil | refine QR_yes rfl rfl ?_ | refine QR_no rfl rfl rfl rfl ?_ | refine QR_noU rfl rfl rfl ?_) | (apply gQO; first | refine aQ ?_ | refine aQK rfl ?_))))
      all_goals (exact JS_ret Try.func10 rfl rfl fun w hw => ⟨rfl, hw.grown⟩)
  · rcases hdr with ⟨h3, h4⟩ | hdr
    · obtain ⟨k2, rfl, hk2, hF0, hF1, hst2⟩ := hfar h3 h4
      obtain ⟨hq1, hq2⟩ := hpw k2 hk2
      have hm2 : min ((k2 : Int)).toNat IntKind.i64.bits = k2 := by show min k2 64 = k2; omega
      have hw2 : IntKind.i64.wrap (1 * (2 : Int) ^ k2) = (2 : Int) ^ k2 := by rw [Int.one_mul]; exact wi64 (by omega)
      rcases hsr with h1 | ⟨h1, h2⟩
      all_goals (repeat (first | (apply gJO; first | (apply kS; refine aK ?_) | (apply kX; refine JO_box rfl rfl rfl ?_; intro _) | (apply kA; refine JO_alloc (tb := tb) rfl rfl ?_; intro _) | (apply kBs; refine JO_buildSlice (tb := tb) rfl rfl rfl rfl rfl rfl rfl rfl rfl ?_; intro _) | (apply kM; refine JO_make (tb := tb) rfl rfl rfl rfl rfl rfl (by omega) rfl ?_; intro _) | refine aO ?_) | (apply gJR; first | apply JR_un | apply JR_nil | refine JR_yes rfl rfl ?_ | refine JR_no rfl rfl rfl rfl ?_ | refine JR_noU rfl rfl rfl ?_) | (apply gJS; first | apply JS_seq | apply JS_region | apply JS_skip | apply JS_block | apply JS_inBlock | apply JS_label | refine JS_exit rfl ?_ | refine JS_condT rfl ?_ | refine JS_condF rfl ?_ | refine JS_draw [0] (by kernel_rfl) (by kernel_rfl) (by decide +kernel) ?_ | refine JS_draw [] (by kernel_rfl) (by kernel_rfl) (by decide +kernel) ?_ | refine JS_cond_T rfl (by omega) ?_ | refine JS_cond_F rfl (by omega) ?_) | (apply gQR; first | apply QR_un | apply QR_nil | refine QR_yes rfl rfl ?_ | refine QR_no rfl rfl rfl rfl ?_ | refine QR_noU rfl rfl rfl ?_) | (apply gQO; first | refine aQ ?_ | refine aQK rfl ?_)))
      all_goals (refine JO_call Try.call26 rfl rfl fun w hw => (Far_c (d + 1) (by omega) w hw).mono ?_)
      all_goals (rw [hst2]; rintro e w' ⟨rfl, hw'⟩; refine ⟨_, rfl, _, hw', ?_⟩; clear hw' hw w w')
      all_goals (repeat (first | (apply gJO; refine JO_v (V_shl (m := k2) rfl rfl (by omega) hm2 hw2 rfl) ?_) | (first | (apply gJO; first | (apply kS; refine aK ?_) | (apply kX; refine JO_box rfl rfl rfl ?_; intro _) | (apply kA; refine JO_alloc (tb := tb) rfl rfl ?_; intro _) | (apply kBs; refine JO_buildSlice (tb := tb) rfl rfl rfl rfl rfl rfl rfl rfl rfl ?_; intro _) | (apply kM; refine JO_make (tb := tb) rfl rfl rfl rfl rfl rfl (by omega) rfl ?_; intro _) | refine aO ?_) | (apply gJR; first | apply JR_un | apply JR_nil | refine JR_yes rfl rfl ?_ | refine JR_no rfl rfl rfl rfl ?_ | refine JR_noU rfl rfl rfl ?_) | (apply gJS; first | apply JS_seq | apply JS_region | apply JS_skip | apply JS_block | apply JS_inBlock | apply JS_label | refine JS_exit rfl ?_ | refine JS_condT rfl ?_ | refine JS_condF rfl ?_ | refine JS_draw [0] (by kernel_rfl) (by kernel_rfl) (by decide +kernel) ?_ | refine JS_draw [] (by kernel_rfl) (by kernel_rfl) (by decide +kernel) ?_ | refine JS_cond_T rfl (by omega) ?_ | refine JS_cond_F rfl (by omega) ?_) | (apply gQR; first | apply QR_un | apply QR_nil | refine QR_yes rfl rfl ?_ | refine QR_no rfl rfl rfl rfl ?_ | refine QR_noU rfl rfl rfl ?_) | (apply gQO; first | refine aQ ?_ | refine aQK rfl ?_))))
      all_goals (exact JS_ret Try.func10 rfl rfl fun w hw => ⟨rfl, hw.grown⟩)
    · rcases hsr with h1 | ⟨h1, h2⟩
      all_goals (rcases hdr with h3 | ⟨h3, h4⟩)
      all_goals (repeat (first | (apply gJO; first | (apply kS; refine aK ?_) | (apply kX; refine JO_box rfl rfl rfl ?_; intro _) | (apply kA; refine JO_alloc (tb := tb) rfl rfl ?_; intro _) | (apply kBs; refine JO_buildSlice (tb := tb) rfl rfl rfl rfl rfl rfl rfl rfl rfl ?_; intro _) | (apply kM; refine JO_make (tb := tb) rfl rfl rfl rfl rfl rfl (by omega) rfl ?_; intro _) | refine aO ?_) | (apply gJR; first | apply JR_un | apply JR_nil | refine JR_yes rfl rfl ?_ | refine JR_no rfl rfl rfl rfl ?_ | refine JR_noU rfl rfl rfl ?_) | (apply gJS; first | apply JS_seq | apply JS_region | apply JS_skip | apply JS_block | apply JS_inBlock | apply JS_label | refine JS_exit rfl ?_ | refine JS_condT rfl ?_ | refine JS_condF rfl ?_ | refine JS_draw [0] (by kernel_rfl) (by kernel_rfl) (by decide +kernel) ?_ | refine JS_draw [] (by kernel_rfl) (by kernel_rfl) (by decide +kernel) ?_ | refine JS_cond_T rfl (by omega) ?_ | refine JS_cond_F rfl (by omega) ?_) | (apply gQR; first | apply QR_un | apply QR_nil | refine QR_yes rfl rfl ?_ | refine QR_no rfl rfl rfl rfl ?_ | refine QR_noU rfl rfl rfl ?_) | (apply gQO; first | refine aQ ?_ | refine aQK rfl ?_)))
      all_goals (exact JS_ret Try.func10 rfl rfl fun w hw => ⟨rfl, hw.grown⟩)
end Go.Proofs.Ytakgoflfcgofdaa
