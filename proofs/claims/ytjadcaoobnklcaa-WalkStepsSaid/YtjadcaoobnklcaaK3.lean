import Derived.Test.YtjadcaoobnklcaaA
set_option linter.unusedVariables false
namespace Sx
open Go
/-! a region that draws its order, where two loud operations may come up at once: a tree of orders -/
inductive FT where
  | leaf (st : List Nat)
  | node (st : List Nat) (i : Nat) (t : FT) (j : Nat) (u : FT)
inductive FTL where
  | leaf (l : List Oper)
  | node (l : List Oper) (o : Oper) (t : FTL) (o' : Oper) (u : FTL)
def FT.len : FT → Nat
  | .leaf st => st.length
  | .node st _ t _ _ => st.length + (t.len + 1)
def KN (P : Program) (ops : Array Oper) (kt ku : (World → Prop) → Act → Prop) (o o' : Oper) : (World → Prop) → Act → Prop :=
  fun C a => walkN P ops [] kt [o] C a ∧ walkN P ops [] ku [o'] C a
def KT (P : Program) (ops : Array Oper) (sy : List Nat) (K : (World → Prop) → Act → Prop) : FTL → (World → Prop) → Act → Prop
  | .leaf l => walkN P ops sy K l
  | .node l o t o' u => walkN P ops [] (KN P ops (KT P ops sy K t) (KT P ops sy K u) o o') l
def preB (ops : Array Oper) (k : List Nat → Array Bool → Bool) : List Nat → List Nat → Array Bool → Bool
  | [], done, listed => k done listed
  | x :: st, done, listed =>
    match ops[x]? with
    | none => false
    | some o => !loud o.op && (Region.ready .any ops listed).contains x && Region.free .any ops listed x && preB ops k st (x :: done) (listed.setIfInBounds x true)
def isLoud (ops : Array Oper) (i : Nat) : Bool :=
  match ops[i]? with
  | none => false
  | some o => loud o.op
def tillT (ops : Array Oper) (sy : List Nat) : FT → List Nat → List Nat
  | .leaf st, done => till ops sy done st
  | .node st i t _ _, done => tillT ops sy t (i :: List.reverseAux st done)
def ordT (ops : Array Oper) (sy : List Nat) : FT → List Nat → Array Bool → Bool
  | .leaf st, done, listed => ordB ops sy done st listed
  | .node st i t j u, done, listed => preB ops (fun done listed =>
      isLoud ops i && isLoud ops j && Region.ready .any ops listed == [i, j] && t.len == u.len &&
      ordT ops sy t (i :: done) (listed.setIfInBounds i true) && ordT ops sy u (j :: done) (listed.setIfInBounds j true) &&
      (tillT ops sy t (i :: done)).all (tillT ops sy u (j :: done)).contains) st done listed
section
variable {P : Program} {ops : Array Oper}
theorem tillT_sub {sy : List Nat} : ∀ (t : FT) (done : List Nat) (k : Nat), k ∈ done → calmAt ops k = false → k ∈ tillT ops sy t done
  | .leaf st, done, k, h, hc => till_sub _ _ _ h hc
  | .node st i t j u, done, k, h, hc => tillT_sub t _ k (List.mem_cons_of_mem _ (by rw [List.reverseAux_eq]; simp [h])) hc
theorem tillT_calm {sy : List Nat} : ∀ (t : FT) (done : List Nat) (k : Nat), k ∈ tillT ops sy t done → calmAt ops k = false
  | .leaf st, done, k, h => till_calm _ _ _ h
  | .node st i t j u, done, k, h => tillT_calm t _ k h
/-- what a step does to the book -/
theorem book {done : List Nat} {listed : Array Bool} {i : Nat} {o : Oper} (ho : ops[i]? = some o) (hrdy : i ∈ Region.ready .any ops listed) (hs : ∀ s ∈ done, s < ops.size) (hd : ∀ j, listed.getD j false = true ↔ j ∈ done) (hG : ∀ S, (∀ s ∈ done, calmAt ops s = false → s ∈ S) → Sofar ops S listed) :
    (∀ s ∈ i :: done, s < ops.size) ∧ (∀ j, (listed.setIfInBounds i true).getD j false = true ↔ j ∈ i :: done) ∧ (∀ S, (∀ s ∈ i :: done, calmAt ops s = false → s ∈ S) → Sofar ops S (listed.setIfInBounds i true)) := by
  have hi : i < ops.size := (Array.getElem?_eq_some_iff.1 ho).1
  have hiun : listed.getD i true = false := (mem_ready.1 hrdy).1
  have hlt : i < listed.size := by
    rcases Nat.lt_or_ge i listed.size with h' | h'
    · exact h'
    · simp [Array.getElem?_eq_none h'] at hiun
  have hd' : ∀ j, (listed.setIfInBounds i true).getD j false = true ↔ j ∈ i :: done := fun j => by
    by_cases hij : i = j
    · subst hij
      simp [hlt]
    · rw [getD_set_ne false hij, hd j]
      simp [Ne.symm hij]
  refine ⟨fun s hs' => (List.mem_cons.1 hs').elim (fun e => e ▸ hi) (hs s), hd', fun S hS => ⟨fun j oj hj hl e he hb => ?_, fun k hk hkc hl => absurd (hS k ((hd' k).1 hl) hkc) hk⟩⟩
  by_cases hij : i = j
  · subst hij
    rw [ho] at hj; cases hj
    obtain ⟨_, o', ho', hall⟩ := mem_ready.1 hrdy
    rw [ho] at ho'; cases ho'
    exact getD_set_true (hall e he hb)
  · rw [getD_set_ne false hij] at hl
    exact getD_set_true ((hG S fun s hs => hS s (List.mem_cons_of_mem _ hs)).down j oj hj hl e he hb)
inductive PickT (l : List Oper) : FT → FTL → Prop where
  | leaf {st : List Nat} {l' : List Oper} (h : Picks l st l') : PickT l (.leaf st) (.leaf l')
  | node {st : List Nat} {l' : List Oper} {i j : Nat} {o o' : Oper} {t u : FT} {t' u' : FTL} (h : Picks l st l') (hi : nthO l i = some o) (ht : PickT l t t') (hj : nthO l j = some o') (hu : PickT l u u') : PickT l (.node st i t j u) (.node l' o t' o' u')
/-- one of the two -/
theorem wpS_side {K : (World → Prop) → Act → Prop} {kt : (World → Prop) → Act → Prop} {i : Nat} {listed : Array Bool} {C : World → Prop} {a : Act} {S S' : List Nat} {o : Oper} {m : Nat}
    (ho : ops[i]? = some o) (hlo : loud o.op = true) (hS : ∀ s ∈ S, s ∈ S')
    (hrest : ∀ C a, kt C a → ∀ w, C w → wpS P ops C S' (fun a w => ∃ C' : World → Prop, C' w ∧ K C' a) m (listed.setIfInBounds i true) a w)
    (h : walkN P ops [] kt [o] C a) (w : World) (hw : C w) :
    stepN P ops i (fun a' w' => (i ∈ S → C w') ∧ wpS P ops C S (fun a w => ∃ C' : World → Prop, C' w ∧ K C' a) m (listed.setIfInBounds i true) a' w') a w := by
  have fin : ∀ (a' : Act) (w' : World) (C' : World → Prop), C' w' → (∀ w, C' w → C w) → kt C' a' →
      ((i ∈ S → C w') ∧ wpS P ops C S (fun a w => ∃ C' : World → Prop, C' w ∧ K C' a) m (listed.setIfInBounds i true) a' w') := by
    intro a' w' C' hw' hsub hn
    exact ⟨fun _ => hsub _ hw', wpS_weak _ _ _ _ (fun j hj _ => ⟨hS j hj, hsub⟩) (hrest C' a' hn w' hw')⟩
  simp only [walkN] at h
  unfold stepN
  simp only [ho]
  by_cases hwt : Region.wanted o (yielded ops a.tmps) = true
  · rw [if_pos hwt] at h ⊢
    rcases h with ⟨hq, _⟩ | ⟨_, hn⟩
    · rw [hlo] at hq; cases hq
    · exact Oper.wpN_mono (fun a' w' ⟨C', hw', hor, hn'⟩ => fin a' w' C' hw' (hor.resolve_right (by simp)) hn') (hn w hw)
  · rw [if_neg hwt] at h ⊢
    exact fin _ _ C hw (fun _ h => h) h
/-- the book: what has come up, what it was waiting for -/
structure Book (ops : Array Oper) (done : List Nat) (listed : Array Bool) : Prop where
  hs : ∀ s ∈ done, s < ops.size
  hd : ∀ j, listed.getD j false = true ↔ j ∈ done
  hG : ∀ S, (∀ s ∈ done, calmAt ops s = false → s ∈ S) → Sofar ops S listed
theorem Book.step {done : List Nat} {listed : Array Bool} {i : Nat} {o : Oper} (b : Book ops done listed) (ho : ops[i]? = some o) (hrdy : i ∈ Region.ready .any ops listed) : Book ops (i :: done) (listed.setIfInBounds i true) :=
  let ⟨h1, h2, h3⟩ := book ho hrdy b.hs b.hd b.hG
  ⟨h1, h2, h3⟩
theorem mem_reverseAux {k : Nat} : ∀ (st done : List Nat), k ∈ done → k ∈ List.reverseAux st done
  | [], _, h => h
  | _ :: st, _, h => mem_reverseAux st _ (List.mem_cons_of_mem _ h)
theorem preB_end {kb : List Nat → Array Bool → Bool} : ∀ (st done : List Nat) (listed : Array Bool), preB ops kb st done listed = true → Book ops done listed → ∃ listed', kb (List.reverseAux st done) listed' = true ∧ Book ops (List.reverseAux st done) listed'
  | [], _, listed, hB, hb => ⟨listed, hB, hb⟩
  | x :: st, done, listed, hB, hb => by
    cases ho : ops[x]? with
    | none => simp [preB, ho] at hB
    | some o =>
      simp only [preB, ho, Bool.and_eq_true, Bool.not_eq_true'] at hB
      obtain ⟨⟨⟨_, hrd⟩, _⟩, hB3⟩ := hB
      exact preB_end st (x :: done) _ hB3 (hb.step ho (by simpa using hrd))
theorem ordT_gate {sy : List Nat} : ∀ (t : FT) (done : List Nat) (listed : Array Bool), ordT ops sy t done listed = true → Book ops done listed → Gate ops (tillT ops sy t done) ∧ ∀ s ∈ tillT ops sy t done, s < ops.size
  | .leaf st, done, listed, hB, hb => ordB_gate st done listed hB hb.hs
  | .node st i t j u, done, listed, hB, hb => by
    simp only [ordT] at hB
    obtain ⟨listed', hB', hb'⟩ := preB_end st done listed hB hb
    simp only [Bool.and_eq_true, beq_iff_eq] at hB'
    obtain ⟨⟨⟨⟨⟨⟨hli, _⟩, hr⟩, _⟩, hB1⟩, _⟩, _⟩ := hB'
    cases hoi : ops[i]? with
    | none => simp [isLoud, hoi] at hli
    | some oi => exact ordT_gate t _ _ hB1 (hb'.step hoi (by rw [hr]; simp))
/-- quiet operations ahead -/
theorem wpS_pre {kt : (World → Prop) → Act → Prop} {Q : Act → World → Prop} {S : List Nat} {m : Nat} (hsel : Region.noSelect ops = true) {kb : List Nat → Array Bool → Bool} (hSc : ∀ s ∈ S, calmAt ops s = false) (hg : Gate ops S) (hz : ∀ s ∈ S, s < ops.size) :
    ∀ (st done : List Nat) (l : List Oper) (listed : Array Bool) (C : World → Prop) (a : Act),
    l.map some = st.map (fun i => ops[i]?) → preB ops kb st done listed = true → Book ops done listed → (∀ s ∈ List.reverseAux st done, calmAt ops s = false → s ∈ S) →
    (∀ listed, kb (List.reverseAux st done) listed = true → Book ops (List.reverseAux st done) listed → ∀ C a, kt C a → ∀ w, C w → wpS P ops C S Q m listed a w) →
    walkN P ops [] kt l C a → ∀ w, C w → wpS P ops C S Q (st.length + m) listed a w
  | [], done, l, listed, C, a, hl, hB, hb, hS, hk, h => by
    have : l = [] := by simpa using hl
    subst this
    have h2 := hk listed hB hb
    intro w hw
    rw [List.length_nil, Nat.zero_add]
    exact h2 C a h w hw
  | x :: st, done, [], listed, C, a, hl, hB, hb, hS, hk, h => by simp at hl
  | x :: st, done, o :: l, listed, C, a, hl, hB, hb, hS, hk, h => by
    simp only [List.map_cons, List.cons.injEq] at hl
    have ho : ops[x]? = some o := hl.1.symm
    simp only [preB, ho, Bool.and_eq_true, Bool.not_eq_true'] at hB
    obtain ⟨⟨⟨hlo, hrd⟩, hfr⟩, hB3⟩ := hB
    have hrdy : x ∈ Region.ready .any ops listed := by simpa using hrd
    simp only [walkN] at h
    have key : ∀ v, Stays P ops C o v a → walkN P ops [] kt l C (a.put o.dst v) → ∀ w, C w → wpS P ops C S Q ((x :: st).length + m) listed a w := by
      intro v hst hn
      have h1 := wpS_pre hsel hSc hg hz st (x :: done) l (listed.setIfInBounds x true) C (a.put o.dst v) hl.2 hB3 (hb.step ho hrdy) hS hk hn
      intro w hw
      have e : (x :: st).length + m = (st.length + m) + 1 := by simp; omega
      rw [e]
      cases hcal : calm o.op with
      | false =>
        exact wpS_first ho (Region.noSelect_spec hsel) hg hz (hS x (mem_reverseAux st _ (List.mem_cons_self ..)) (by unfold calmAt; simp only [ho]; exact hcal)) _ listed a w (hb.hG _ fun s hs hc => hS s (mem_reverseAux st _ (List.mem_cons_of_mem _ hs)) hc) (Region.free_spec ho hfr) hrdy hst hw (h1 w hw)
      | true =>
        exact wpS_calm ho (Region.noSelect_spec hsel) (fun h => by have h' := hSc _ h; unfold calmAt at h'; simp only [ho, hcal] at h'; cases h') _ listed a w (Region.free_spec ho hfr) hrdy (hst.calm hcal hw) (h1 w hw)
    by_cases hwt : Region.wanted o (yielded ops a.tmps) = true
    · rw [if_pos hwt] at h
      rcases h with ⟨_, v, hv, hn⟩ | ⟨hlo', _⟩
      · exact key v (.inl ⟨hwt, hv⟩) hn
      · rw [hlo] at hlo'; cases hlo'
    · rw [if_neg hwt] at h
      exact key undef (.inr ⟨by simpa using hwt, rfl⟩) h
theorem isLoud_spec {i : Nat} {o : Oper} (ho : ops[i]? = some o) (h : isLoud ops i = true) : loud o.op = true := by
  unfold isLoud at h
  rw [ho] at h; exact h
theorem wpS_tree {sy : List Nat} {K : (World → Prop) → Act → Prop} {l : List Oper} (hops : ops = l.toArray) (hsel : Region.noSelect ops = true) :
    ∀ (t : FT) (t' : FTL), PickT l t t' → ∀ (done : List Nat) (listed : Array Bool), ordT ops sy t done listed = true → Book ops done listed →
    ∀ C a, KT P ops sy K t' C a → ∀ w, C w → wpS P ops C (tillT ops sy t done) (fun a w => ∃ C' : World → Prop, C' w ∧ K C' a) t.len listed a w := by
  subst hops
  intro t
  induction t with
  | leaf st =>
    intro t' hp done listed hB hb
    cases hp with
    | leaf h => exact fun C a hk w hw => wpS_walk hsel st done _ listed C a h.map hB hb.hs hb.hd hb.hG hk w hw
  | node st i t j u iht ihu =>
    intro t' hp done listed hB hb C a hk w hw
    cases hp with
    | node h hi ht hj hu =>
      rename_i l' o o' tt uu
      have hoi : l.toArray[i]? = some o := by rw [← nthO_eq]; exact hi
      have hoj : l.toArray[j]? = some o' := by rw [← nthO_eq]; exact hj
      obtain ⟨hg, hz⟩ := ordT_gate _ _ _ hB hb
      simp only [ordT] at hB
      refine wpS_pre hsel (tillT_calm (.node st i t j u) done) hg hz st done l' listed C a h.map hB hb (fun s hs hc => tillT_sub t _ s (List.mem_cons_of_mem _ hs) hc) ?_ hk w hw
      intro listed' hB' hb' C a ⟨hk1, hk2⟩ w hw
      simp only [Bool.and_eq_true, beq_iff_eq, List.all_eq_true] at hB'
      obtain ⟨⟨⟨⟨⟨⟨hli, hlj⟩, hr⟩, hlen⟩, hB1⟩, hB2⟩, hall⟩ := hB'
      have hri : i ∈ Region.ready .any l.toArray listed' := by rw [hr]; simp
      have hrj : j ∈ Region.ready .any l.toArray listed' := by rw [hr]; simp
      have hA := iht tt ht _ _ hB1 (hb'.step hoi hri)
      have hBr := ihu uu hu _ _ hB2 (hb'.step hoj hrj)
      refine ⟨fun h0 => (by rw [h0] at hri; cases hri), fun k hk => ?_⟩
      rw [hr] at hk
      simp only [List.mem_cons, List.not_mem_nil, or_false] at hk
      rcases hk with rfl | rfl
      · exact wpS_side (K := K) hoi (isLoud_spec hoi hli) (fun s h => h) hA hk1 w hw
      · have := wpS_side (K := K) (S := tillT l.toArray sy t (i :: List.reverseAux st done)) hoj (isLoud_spec hoj hlj) (fun s h => by simpa using hall s h) hBr hk2 w hw
        rw [← hlen] at this
        exact this
end
section
variable {P : Program} {f n : Nat} {R : Ending → World → Prop} {D : List Deferred} {w0 : World} {k : List Item} {ov : Ov} {H : List Asn} {K : (World → Prop) → Act → Prop}
theorem QR_leaf {ops : Array Oper} {sy : List Nat} {l : List Oper} (h : QR P n D w0 (ops, sy) l ov H K) : QR P n D w0 (ops, []) [] ov H (KT P ops sy K (.leaf l)) := by
  unfold QR at *
  intro a ha
  simp only [walkN, KT]
  exact h a ha
theorem QR_node {ops : Array Oper} {sy : List Nat} {l : List Oper} {o o' : Oper} {t u : FTL} (h : QR P n D w0 (ops, []) l ov H (KN P ops (KT P ops sy K t) (KT P ops sy K u) o o')) : QR P n D w0 (ops, []) [] ov H (KT P ops sy K (.node l o t o' u)) := by
  unfold QR at *
  intro a ha
  simp only [walkN, KT]
  exact h a ha
theorem QR_both {ops : Array Oper} {o o' : Oper} {kt ku : (World → Prop) → Act → Prop} (h1 : QR P n D w0 (ops, []) [o] ov H kt) (h2 : QR P n D w0 (ops, []) [o'] ov H ku) : QR P n D w0 (ops, []) [] ov H (KN P ops kt ku o o') := by
  unfold QR at *
  intro a ha
  exact ⟨h1 a ha, h2 a ha⟩
theorem JS_tree {id : Nat} {l : List Oper} (t : FT) (sy : List Nat) {t' : FTL} (hp : PickT l t t') (hm : P.follows .mixedOrders = true) (hs : Region.noSelect l.toArray = true)
    (hlen : t.len = l.length) (hB : ordT l.toArray sy t [] (Array.replicate l.length false) = true) (h : QR P n D w0 (l.toArray, []) [] ov H (KT P l.toArray sy (QK P f R k) t')) :
    JS P f n R D w0 (.code (.region id l.toArray true) :: k) ov H := by
  unfold JS
  intro a w ha hw
  refine J_of_wp (Q := fun e a' w' => e = .normal ∧ J P f k a' w' R) (wp_region_any hm ?_) fun e a' w' h => h
  have h0 : ∀ j, (Array.replicate l.length false).getD j false = false := fun j => by
    rcases Nat.lt_or_ge j l.length with h | h
    · simp [h]
    · simp [h]
  unfold QR at h
  have hk := h a ha
  simp only [walkN] at hk
  have hws := wpS_tree (P := P) (K := QK P f R k) (sy := sy) rfl hs t t' hp [] (Array.replicate l.length false) hB ⟨by simp, fun j => by rw [h0 j]; simp, fun S _ => ⟨fun j oj _ hj => (by rw [h0 j] at hj; cases hj), fun k _ _ hk => (by rw [h0 k] at hk; cases hk)⟩⟩ (St w0 H) a hk w.drew hw.drew
  have := wpAny_of_S (Q' := fun e a' w' => e = .normal ∧ J P f k a' w' R) (fun a w ⟨C, hC, hk⟩ => ⟨rfl, by unfold QK at hk; exact hk w hC⟩) _ _ _ _ hws
  rw [hlen] at this
  simpa using this
end
end Sx
