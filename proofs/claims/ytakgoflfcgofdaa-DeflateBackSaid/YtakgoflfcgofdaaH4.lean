import Derived.Test.YtakgoflfcgofdaaH3
namespace Sx
open Go
theorem JS_joinQ53 {P : Program} {f n : Nat} {R : Ending → World → Prop} {D : List Deferred} {w0 : World} {k : List Item} {ov : Ov} {H : List Asn} {α β γ δ ε : Type} {c1 c2 c3 rest : Code} (o : α → β → γ → δ → ε → Ov) (H' : α → β → γ → δ → ε → List Asn) (I : α → β → γ → δ → ε → Prop)
    (cont : ∀ (x1 : α) (x2 : β) (x3 : γ) (x4 : δ) (x5 : ε), I x1 x2 x3 x4 x5 → JS P f n R D w0 (.code rest :: k) (o x1 x2 x3 x4 x5) (H' x1 x2 x3 x4 x5))
    (h : (∀ (x1 : α) (x2 : β) (x3 : γ) (x4 : δ) (x5 : ε), I x1 x2 x3 x4 x5 → JS P f n R D w0 (.code rest :: k) (o x1 x2 x3 x4 x5) (H' x1 x2 x3 x4 x5)) → JS P f n R D w0 (.code (.seq c1 (.seq c2 (.seq c3 rest))) :: k) ov H) :
    JS P f n R D w0 (.code (.seq c1 (.seq c2 (.seq c3 rest))) :: k) ov H := h cont
theorem JS_joinQ54 {P : Program} {f n : Nat} {R : Ending → World → Prop} {D : List Deferred} {w0 : World} {k : List Item} {ov : Ov} {H : List Asn} {α β γ δ ε : Type} {c1 c2 c3 c4 rest : Code} (o : α → β → γ → δ → ε → Ov) (H' : α → β → γ → δ → ε → List Asn) (I : α → β → γ → δ → ε → Prop)
    (cont : ∀ (x1 : α) (x2 : β) (x3 : γ) (x4 : δ) (x5 : ε), I x1 x2 x3 x4 x5 → JS P f n R D w0 (.code rest :: k) (o x1 x2 x3 x4 x5) (H' x1 x2 x3 x4 x5))
    (h : (∀ (x1 : α) (x2 : β) (x3 : γ) (x4 : δ) (x5 : ε), I x1 x2 x3 x4 x5 → JS P f n R D w0 (.code rest :: k) (o x1 x2 x3 x4 x5) (H' x1 x2 x3 x4 x5)) → JS P f n R D w0 (.code (.seq c1 (.seq c2 (.seq c3 (.seq c4 rest)))) :: k) ov H) :
    JS P f n R D w0 (.code (.seq c1 (.seq c2 (.seq c3 (.seq c4 rest)))) :: k) ov H := h cont
end Sx
namespace Go.Proofs.Ytakgoflfcgofdaa
open Sx Go
set_option linter.unusedVariables false
set_option linter.unusedSimpArgs false
attribute [local irreducible] syA fc tk cds
theorem OKB_set {C : List Int} (h : OKB C) {x : Int} (hx : 0 ≤ x ∧ x < 256) (k : Nat) : OKB (C.set k x) := by
  intro j
  rw [List.getD_eq_getElem?_getD, List.getElem?_set]
  split
  · split
    · exact hx
    · exact ⟨by decide, by decide⟩
  · have := h j; rwa [List.getD_eq_getElem?_getD] at this
open Classical in
noncomputable def des1b (bt : Nat → Int) (N lim lit sp : Nat) (C : List Int) (a : Nat) (o : List Int) : Res :=
  if ¬ OKL C ∨ ¬ tk C = 32768 then .err 62
  else match itF (lenF bt N C (lit + sp)) a [] with
    | .err e => .err e
    | .ok a' l => des2 bt N lim lit l a' o
theorem des1_b (bt : Nat → Int) (N lim lit sp ln : Nat) (a : Nat) (o : List Int) : des1 bt N lim lit sp ln a o = if 286 < lit ∨ 30 < sp then .err 62 else if N < a + 3 * ln then .err 20 else des1b bt N lim lit sp (ccl bt a ln) (a + 3 * ln) o := rfl
theorem des1b_bad {bt : Nat → Int} {N lim lit sp : Nat} {C : List Int} {a : Nat} {o : List Int} (h : ¬ OKL C ∨ ¬ tk C = 32768) : des1b bt N lim lit sp C a o = .err 62 := by
  unfold des1b; rw [if_pos h]
theorem des1b_ok {bt : Nat → Int} {N lim lit sp : Nat} {C : List Int} {a : Nat} {o : List Int} (h : ¬ (¬ OKL C ∨ ¬ tk C = 32768)) : des1b bt N lim lit sp C a o = match itF (lenF bt N C (lit + sp)) a [] with
    | .err e => .err e
    | .ok a' l => des2 bt N lim lit l a' o := by
  unfold des1b; rw [if_neg h]
section
variable {w0 : World} {H : List Asn} {bs : Nat} {q : Option Addr} {d m : Nat} {B : List Int} {lim : Nat} {po : Option Addr} {co : Nat} {o : List Int}
theorem RP_drop {x : Asn} {r : Res} {w : World} (h : RP w0 bs q d m B lim (x :: H) r w) : RP w0 bs q d m B lim H r w := by
  unfold RP at *
  cases r with
  | err r => exact ⟨h.1, h.2.elim fun a h => h.elim fun po h => h.elim fun co h => h.elim fun o h => ⟨a, po, co, o, St.sub (by repeat (first | exact List.Sublist.refl _ | apply List.Sublist.cons_cons | apply List.Sublist.cons)) h⟩⟩
  | ok a o => exact ⟨h.1, h.2.1, h.2.2.elim fun po h => h.elim fun co h => ⟨po, co, St.sub (by repeat (first | exact List.Sublist.refl _ | apply List.Sublist.cons_cons | apply List.Sublist.cons)) h⟩⟩
theorem strL_ins {w : World} {a : Nat} {E : Int} (X : List Asn) (h : St w0 (X ++ strL bs q d m B lim a po co o E H) w) : St w0 (strL bs q d m B lim a po co o E (X ++ H)) w :=
  h.perm (List.perm_append_comm_assoc X [_, _, _] H)
set_option maxRecDepth 10000 in
set_option maxHeartbeats 4000000 in
theorem RDes_c (hK : InfK m B lim) (a : Nat) (ha : a ≤ 8 * m) (hm2 : m ≤ 17592186044410) (ho : o.length ≤ lim) (w : World) (hw : St w0 (strL bs q d m B lim a po co o 0 H) w) :
    Calls Try.prog 62 #[.pointer (some ⟨bs, 0, none⟩)] w fun e w' => e = .returned (.tuple #[]) ∧ RP w0 bs q d m B lim H (desF (bitB B 0) (8 * m) lim a o) w' := by
  have hl := hK.hl
  have hm1 := hK.hm1
  refine enter (vs := [.pointer (some ⟨bs, 0, none⟩)]) Try.func62 rfl rfl rfl hw ?_
  obtain ⟨F, hFd⟩ : ∃ F, desF (bitB B 0) (8 * m) lim a o = F := ⟨_, rfl⟩
  rw [hFd]
  refine JS_joinQ53 (fun (E : Int) (a3 lit sp ln : Nat) => [(0, .pointer (some ⟨bs, 0, none⟩)), (2, .int .i64 lit), (3, .int .i64 sp), (4, .int .i64 ln)]) (fun E a3 _ _ _ => strL bs q d m B lim a3 po co o E H)
    (fun E a3 lit sp ln => lit ≤ 300 ∧ 257 ≤ lit ∧ 1 ≤ sp ∧ sp ≤ 40 ∧ 4 ≤ ln ∧ ln ≤ 19 ∧ ((E = 0 ∧ a3 ≤ 8 * m ∧ F = des1 (bitB B 0) (8 * m) lim lit sp ln a3 o) ∨ (E ≠ 0 ∧ F = .err E))) ?_ ?_
  · clear hFd
    intro E a3 lit sp ln ⟨hlit, hlit2, hsp1, hsp, hln1, hln2, hmode⟩
    refine JS_joinQ54 (fun (E : Int) (a4 : Nat) (C : List Int) (pC : Option Addr) (cC : Nat) => [(0, .pointer (some ⟨bs, 0, none⟩)), (2, .int .i64 lit), (3, .int .i64 sp), (6, .slice pC 19 cC)]) (fun E a4 C pC cC => strL bs q d m B lim a4 po co o E (vec 5 1 (.slice pC 19 cC) 19 (ints .u8 C) :: H))
      (fun E a4 C pC cC => C.length = 19 ∧ OKB C ∧ ((E = 0 ∧ a4 ≤ 8 * m ∧ F = des1b (bitB B 0) (8 * m) lim lit sp C a4 o) ∨ (E ≠ 0 ∧ F = .err E))) ?_ ?_
    · clear hmode E
      intro E a4 C pC cC ⟨hC, hBC, hmode⟩
      repeat (first | (refine sx ?_; try intro _))
      refine JO_call Try.call86 rfl rfl fun w hw => (RCheck5_c pC cC 19 C (vec_rd (by repeat (first | apply List.Mem.head | apply List.Mem.tail))) hC hBC (by omega) w hw).mono ?_
      rintro e w' ⟨r, ob, rfl, hw', hcase⟩
      refine ⟨_, rfl, _, hw', ?_⟩
      clear hw' hw w w'
      have hbad : (r ≠ 0 ∨ ob = false) ↔ (¬ OKL C ∨ ¬ tk C = 32768) := by
        rcases hcase with ⟨h, rfl, rfl⟩ | ⟨h1, h2, h3, rfl, rfl⟩ | ⟨h1, h2, h3, rfl, rfl⟩
        · refine ⟨fun _ => .inl fun h' => ?_, fun _ => .inr rfl⟩
          rcases h with h | ⟨j, h⟩
          · omega
          · have := h'.2.1 j; omega
        · exact ⟨fun _ => .inl fun h' => h3 h'.2.2, fun _ => .inr rfl⟩
        · have hok : OKL C := ⟨by omega, h2, h3⟩
          constructor
          · rintro (h | h)
            · exact absurd rfl h
            · exact .inr (by simpa using h)
          · rintro (h | h)
            · exact absurd hok h
            · exact .inr (by simpa using h)
      by_cases hb : r ≠ 0 ∨ ob = false
      · obtain ⟨E2, hE2, hF2, heq⟩ : ∃ E2 : Int, E2 ≠ 0 ∧ F = .err E2 ∧ (if E = 0 then 62 else E) = E2 := by
          rcases hmode with ⟨rfl, ha4, hF⟩ | ⟨hE, hF⟩
          · exact ⟨62, by decide, by rw [hF, des1b_bad (hbad.1 hb)], rfl⟩
          · exact ⟨E, hE, hF, if_neg hE⟩
        have hb' : r ≠ 0 ∨ (r = 0 ∧ ob = false) := by
          by_cases h : r = 0
          · exact .inr ⟨h, hb.resolve_left fun h' => h' h⟩
          · exact .inl h
        rcases hb' with h | ⟨rfl, rfl⟩
        all_goals (repeat (first | (refine sx ?_; try intro _)))
        all_goals (refine JO_call Try.call85 rfl rfl fun w hw => (RFail_c 62 a4 E w hw).mono ?_)
        all_goals (rw [heq]; rintro e w' ⟨rfl, hw'⟩; refine ⟨_, rfl, _, hw', ?_⟩; clear hw' hw w w'; repeat (first | (refine sx ?_; try intro _)))
        all_goals (refine JS_ret Try.func62 rfl rfl fun w hw => ⟨rfl, ?_⟩; rw [hF2]; exact ⟨hE2, a4, _, _, _, St.sub (by repeat (first | exact List.Sublist.refl _ | apply List.Sublist.cons_cons | apply List.Sublist.cons)) hw⟩)
      · obtain rfl : r = 0 := by
          by_cases h : r = 0
          · exact h
          · exact absurd (.inl h) hb
        obtain rfl : ob = true := by
          cases ob with
          | true => rfl
          | false => exact absurd (.inr rfl) hb
        rcases hmode with ⟨rfl, ha4, hF⟩ | ⟨hE, hF⟩
        rotate_left
        · repeat (first | (refine sx ?_; try intro _))
          refine JS_ret Try.func62 rfl rfl fun w hw => ⟨rfl, ?_⟩
          rw [hF]
          exact ⟨hE, a4, _, _, _, St.sub (by repeat (first | exact List.Sublist.refl _ | apply List.Sublist.cons_cons | apply List.Sublist.cons)) hw⟩
        rw [des1b_ok (fun h => hb (hbad.2 h))] at hF
        have hkC : OKL C := by
          rcases hcase with ⟨_, h, _⟩ | ⟨_, _, _, h, _⟩ | ⟨h1, h2, h3, _, _⟩
          · exact absurd h (by decide)
          · exact absurd h (by decide)
          · exact ⟨by omega, h2, h3⟩
        have hls : (lit : Int) + sp = ((lit + sp : Nat) : Int) := by omega
        repeat (first | (refine sx ?_; try intro _))
        simp only [hls]
        refine JO_call Try.call87 rfl rfl fun w hw => (RLens_c hK a4 ha4 hm2 (lit + sp) (by omega) pC cC C (vec_rd (List.Mem.head _)) hC hBC hkC w hw).mono ?_
        rintro e w' ⟨r, hr, h⟩
        rw [itF_of hr] at hF
        clear hr
        cases r with
        | err r =>
          obtain ⟨hr0, ⟨v, rfl⟩, a', hw'⟩ := h
          refine ⟨_, rfl, _, hw', ?_⟩
          clear hw' hw w w'
          simp only at hF
          repeat (first | (refine sx ?_; try intro _))
          refine JS_ret Try.func62 rfl rfl fun w hw => ⟨rfl, ?_⟩
          rw [hF]
          exact ⟨hr0, a', _, _, _, St.sub (by repeat (first | exact List.Sublist.refl _ | apply List.Sublist.cons_cons | apply List.Sublist.cons)) hw⟩
        | ok a' l =>
        obtain ⟨ha', hll, hol, p, c, rfl, hw'⟩ := h
        have hcap : lit + sp ≤ c := (Rd.lcap (vec_rd (e := 5) (size := 1) (v := .slice p (lit + sp) c) (n := lit + sp) (cs := ints .u8 l) (by repeat (first | apply List.Mem.head | apply List.Mem.tail))) hw').1
        refine ⟨_, rfl, _, hw', ?_⟩
        clear hw' hw w w'
        simp only at hF
        unfold des2 at hF
        have g256 : (ints .u8 l)[256]? = some (.int .u8 (l.getD 256 0)) := ints_get (by omega)
        have h256 := hol 256
        by_cases hz : l.getD 256 0 = 0
        · rw [if_pos hz] at hF
          repeat (first | (apply gJO; first | refine JO_v (V_loadC (tb := tb) rfl (vec_rd (e := 5) (size := 1) (v := .slice p (lit + sp) c) (n := lit + sp) (cs := ints .u8 l) (by repeat (first | apply List.Mem.head | apply List.Mem.tail))) rfl rfl g256 rfl) ?_ | refine JO_v (V_slice (tb := tb) (lo := 0) (hi := lit) rfl rfl rfl rfl rfl (by rfl) (by rfl) (fun w hw => ⟨by omega, by omega⟩) rfl) ?_ | refine JO_v (V_slice (tb := tb) (lo := lit) (hi := lit + sp) rfl rfl rfl rfl rfl (by rfl) (by rfl) (fun w hw => ⟨by omega, by omega⟩) rfl) ?_) | first | (refine sx ?_; try intro _))
          refine JS_ret Try.func62 rfl rfl fun w hw => ⟨rfl, ?_⟩
          rw [hF]
          exact ⟨by decide, a', _, _, _, St.sub (by repeat (first | exact List.Sublist.refl _ | apply List.Sublist.cons_cons | apply List.Sublist.cons)) hw⟩
        rw [if_neg hz] at hF
        have hl1 : (l.take lit).length = lit := by rw [List.length_take]; omega
        have hl2 : (l.drop lit).length = sp := by rw [List.length_drop]; omega
        have ho1 : OKB (l.take lit) := Byt_take hol _
        have ho2 : OKB (l.drop lit) := Byt_drop hol _
        have e2 : lit + sp - lit = sp := by omega
        have R1 : Rd w0 (vec 5 1 (.slice p (lit + sp) c) (lit + sp) (ints .u8 l) :: vec 5 1 (.slice pC 19 cC) 19 (ints .u8 C) :: H) (.slice p lit c) lit (ints .u8 (l.take lit)) := by
          have := Rd_sub (lo := 0) (hi := lit) (sz := 1) (vec_rd (w0 := w0) (H := vec 5 1 (.slice p (lit + sp) c) (lit + sp) (ints .u8 l) :: vec 5 1 (.slice pC 19 cC) 19 (ints .u8 C) :: H) (e := 5) (size := 1) (v := .slice p (lit + sp) c) (n := lit + sp) (cs := ints .u8 l) (by repeat (first | apply List.Mem.head | apply List.Mem.tail))) (by omega) (by omega)
          simp only [subB_0, Nat.sub_zero, Nat.zero_mul, Nat.mul_one, List.drop_zero, ints_take] at this
          exact this
        have R2 : Rd w0 (vec 5 1 (.slice p (lit + sp) c) (lit + sp) (ints .u8 l) :: vec 5 1 (.slice pC 19 cC) 19 (ints .u8 C) :: H) (.slice (subB p lit c 1) sp (c - lit)) sp (ints .u8 (l.drop lit)) := by
          have := Rd_sub (lo := lit) (hi := lit + sp) (sz := 1) (vec_rd (w0 := w0) (H := vec 5 1 (.slice p (lit + sp) c) (lit + sp) (ints .u8 l) :: vec 5 1 (.slice pC 19 cC) 19 (ints .u8 C) :: H) (e := 5) (size := 1) (v := .slice p (lit + sp) c) (n := lit + sp) (cs := ints .u8 l) (by repeat (first | apply List.Mem.head | apply List.Mem.tail))) (by omega) (by omega)
          simp only [e2, Nat.mul_one, ints_drop, ints_take] at this
          rw [List.take_of_length_le (by omega)] at this
          exact this
        repeat (first | (apply gJO; first | refine JO_v (V_loadC (tb := tb) rfl (vec_rd (e := 5) (size := 1) (v := .slice p (lit + sp) c) (n := lit + sp) (cs := ints .u8 l) (by repeat (first | apply List.Mem.head | apply List.Mem.tail))) rfl rfl g256 rfl) ?_ | refine JO_v (V_slice (tb := tb) (lo := 0) (hi := lit) rfl rfl rfl rfl rfl (by rfl) (by rfl) (fun w hw => ⟨by omega, by omega⟩) rfl) ?_ | refine JO_v (V_slice (tb := tb) (lo := lit) (hi := lit + sp) rfl rfl rfl rfl rfl (by rfl) (by rfl) (fun w hw => ⟨by omega, by omega⟩) rfl) ?_) | first | (refine sx ?_; try intro _))
        simp only [subB_0, Nat.sub_zero]
        refine JO_call Try.call88 rfl rfl fun w hw => (RBad_c p c lit (l.take lit) (Rd_weak R1 fun w hw => St.sub (by repeat (first | exact List.Sublist.refl _ | apply List.Sublist.cons_cons | apply List.Sublist.cons)) hw) hl1 ho1 (by omega) w hw).mono ?_
        rintro e w' ⟨b1, rfl, hb1, hw'⟩
        refine ⟨_, rfl, _, hw', ?_⟩
        clear hw' hw w w'
        cases b1 with
        | true =>
          rw [if_pos (hb1.1 rfl)] at hF
          repeat (first | (apply gJO; first | refine JO_v (V_loadC (tb := tb) rfl (vec_rd (e := 5) (size := 1) (v := .slice p (lit + sp) c) (n := lit + sp) (cs := ints .u8 l) (by repeat (first | apply List.Mem.head | apply List.Mem.tail))) rfl rfl g256 rfl) ?_ | refine JO_v (V_slice (tb := tb) (lo := 0) (hi := lit) rfl rfl rfl rfl rfl (by rfl) (by rfl) (fun w hw => ⟨by omega, by omega⟩) rfl) ?_ | refine JO_v (V_slice (tb := tb) (lo := lit) (hi := lit + sp) rfl rfl rfl rfl rfl (by rfl) (by rfl) (fun w hw => ⟨by omega, by omega⟩) rfl) ?_) | first | (refine sx ?_; try intro _))
          refine JS_ret Try.func62 rfl rfl fun w hw => ⟨rfl, ?_⟩
          rw [hF]
          exact ⟨by decide, a', _, _, _, St.sub (by repeat (first | exact List.Sublist.refl _ | apply List.Sublist.cons_cons | apply List.Sublist.cons)) hw⟩
        | false =>
        have hk1 : OKL (l.take lit) := Classical.byContradiction fun h => by have := hb1.2 h; cases this
        rw [if_neg (fun h => h hk1)] at hF
        repeat (first | (apply gJO; first | refine JO_v (V_loadC (tb := tb) rfl (vec_rd (e := 5) (size := 1) (v := .slice p (lit + sp) c) (n := lit + sp) (cs := ints .u8 l) (by repeat (first | apply List.Mem.head | apply List.Mem.tail))) rfl rfl g256 rfl) ?_ | refine JO_v (V_slice (tb := tb) (lo := 0) (hi := lit) rfl rfl rfl rfl rfl (by rfl) (by rfl) (fun w hw => ⟨by omega, by omega⟩) rfl) ?_ | refine JO_v (V_slice (tb := tb) (lo := lit) (hi := lit + sp) rfl rfl rfl rfl rfl (by rfl) (by rfl) (fun w hw => ⟨by omega, by omega⟩) rfl) ?_) | first | (refine sx ?_; try intro _))
        simp only [e2]
        refine JO_call Try.call88 rfl rfl fun w hw => (RBad_c _ _ sp (l.drop lit) (Rd_weak R2 fun w hw => St.sub (by repeat (first | exact List.Sublist.refl _ | apply List.Sublist.cons_cons | apply List.Sublist.cons)) hw) hl2 ho2 (by omega) w hw).mono ?_
        rintro e w' ⟨b2, rfl, hb2, hw'⟩
        refine ⟨_, rfl, _, hw', ?_⟩
        clear hw' hw w w'
        cases b2 with
        | true =>
          rw [if_pos (hb2.1 rfl)] at hF
          repeat (first | (apply gJO; first | refine JO_v (V_loadC (tb := tb) rfl (vec_rd (e := 5) (size := 1) (v := .slice p (lit + sp) c) (n := lit + sp) (cs := ints .u8 l) (by repeat (first | apply List.Mem.head | apply List.Mem.tail))) rfl rfl g256 rfl) ?_ | refine JO_v (V_slice (tb := tb) (lo := 0) (hi := lit) rfl rfl rfl rfl rfl (by rfl) (by rfl) (fun w hw => ⟨by omega, by omega⟩) rfl) ?_ | refine JO_v (V_slice (tb := tb) (lo := lit) (hi := lit + sp) rfl rfl rfl rfl rfl (by rfl) (by rfl) (fun w hw => ⟨by omega, by omega⟩) rfl) ?_) | first | (refine sx ?_; try intro _))
          refine JS_ret Try.func62 rfl rfl fun w hw => ⟨rfl, ?_⟩
          rw [hF]
          exact ⟨by decide, a', _, _, _, St.sub (by repeat (first | exact List.Sublist.refl _ | apply List.Sublist.cons_cons | apply List.Sublist.cons)) hw⟩
        | false =>
        have hk2 : OKL (l.drop lit) := Classical.byContradiction fun h => by have := hb2.2 h; cases this
        rw [if_neg (fun h => h hk2)] at hF
        repeat (first | (apply gQO; first | refine QO_v rfl (V_slice (tb := tb) (lo := 0) (hi := lit) rfl rfl rfl rfl rfl (by rfl) (by rfl) (fun w hw => ⟨by omega, by omega⟩) rfl) ?_ | refine QO_v rfl (V_slice (tb := tb) (lo := lit) (hi := lit + sp) rfl rfl rfl rfl rfl (by rfl) (by rfl) (fun w hw => ⟨by omega, by omega⟩) rfl) ?_) | (apply gJO; first | refine JO_v (V_loadC (tb := tb) rfl (vec_rd (e := 5) (size := 1) (v := .slice p (lit + sp) c) (n := lit + sp) (cs := ints .u8 l) (by repeat (first | apply List.Mem.head | apply List.Mem.tail))) rfl rfl g256 rfl) ?_ | refine JO_v (V_slice (tb := tb) (lo := 0) (hi := lit) rfl rfl rfl rfl rfl (by rfl) (by rfl) (fun w hw => ⟨by omega, by omega⟩) rfl) ?_ | refine JO_v (V_slice (tb := tb) (lo := lit) (hi := lit + sp) rfl rfl rfl rfl rfl (by rfl) (by rfl) (fun w hw => ⟨by omega, by omega⟩) rfl) ?_) | first | (refine sx ?_; try intro _))
        simp only [subB_0, Nat.sub_zero, e2]
        refine QO_call Try.call61 rfl rfl fun w hw => (RBlk_c hK a' ha' hm2 ho p (subB p lit c 1) c (c - lit) lit sp (l.take lit) (l.drop lit) R1 hl1 ho1 hk1 R2 hl2 ho2 hk2 w hw).mono ?_
        rintro e w' ⟨rfl, r, hr, hrp⟩
        rw [itF_of hr] at hF
        clear hr
        have hrp2 := RP_drop (RP_drop hrp)
        clear hrp
        subst hF
        unfold RP at hrp2
        cases F with
        | err E =>
          obtain ⟨hE, a2, po2, co2, o2, hw'⟩ := hrp2
          refine ⟨_, rfl, _, hw', .inr rfl, ?_⟩
          clear hw' hw w w'
          repeat (first | (refine sx ?_; try intro _))
          exact JS_fin Try.func62 rfl rfl fun w hw => ⟨rfl, hE, a2, po2, co2, o2, hw⟩
        | ok a2 o2 =>
          obtain ⟨h1, h2, po2, co2, hw'⟩ := hrp2
          refine ⟨_, rfl, _, hw', .inr rfl, ?_⟩
          clear hw' hw w w'
          repeat (first | (refine sx ?_; try intro _))
          exact JS_fin Try.func62 rfl rfl fun w hw => ⟨rfl, h1, h2, po2, co2, hw⟩
    · intro K
      by_cases hbig : 286 < lit ∨ 30 < sp
      · obtain ⟨E2, hE2, hF2, heq⟩ : ∃ E2 : Int, E2 ≠ 0 ∧ F = .err E2 ∧ (if E = 0 then 62 else E) = E2 := by
          rcases hmode with ⟨rfl, ha4, hF⟩ | ⟨hE, hF⟩
          · exact ⟨62, by decide, by rw [hF, des1_b, if_pos hbig], rfl⟩
          · exact ⟨E, hE, hF, if_neg hE⟩
        have : (286 < lit) ∨ (¬ 286 < lit ∧ 30 < sp) := by omega
        rcases this with h | ⟨h, h'⟩
        all_goals (repeat (first | (refine sx ?_; try intro _)))
        all_goals (refine JO_call Try.call85 rfl rfl fun w hw => (RFail_c 62 a3 E w hw).mono ?_)
        all_goals (rw [heq]; rintro e w' ⟨rfl, hw'⟩; refine ⟨_, rfl, _, hw', ?_⟩; clear hw' hw w w'; (repeat (first | (apply gJR; first | (refine sx ?_; try intro _)) | (apply gJO; first | (refine sx ?_; try intro _)))))
        all_goals ((apply JS_seq; apply JS_region; repeat (first | (apply gJR; first | (refine sx ?_; try intro _)) | (apply gJO; first | (refine sx ?_; try intro _)))))
        all_goals ((apply JS_seq; apply JS_region; repeat (first | (apply gJR; first | (refine sx ?_; try intro _)) | (apply gJO; first | (refine sx ?_; try intro _)))))
        all_goals (rename_i p5 p6; apply JS_seq; apply JS_seq; apply JS_region; (repeat (first | (apply gJR; first | (refine sx ?_; try intro _)) | (apply gJO; first | (refine sx ?_; try intro _)))); apply JS_block; apply JS_loop'; apply JS_seq; apply JS_seq; apply JS_region; (repeat (first | (apply gJR; first | (refine sx ?_; try intro _)) | (apply gJO; first | (refine sx ?_; try intro _)))); refine JS_condF rfl ?_; refine JS_exit rfl ?_)
        all_goals (exact JS_to5 K E2 a3 (List.replicate 19 0) (some p6) 19 ⟨rfl, OKB_rep ⟨by decide, by decide⟩ 19, .inr ⟨hE2, hF2⟩⟩ (by repeat (first | exact trivial | refine ⟨rfl, ?_⟩ | refine ⟨lookI rfl (by omega), ?_⟩)) (fun w hw => strL_ins [vec 5 1 (.slice (some p6) 19 19) 19 (ints .u8 (List.replicate 19 0))] (St.sub (by repeat (first | exact List.Sublist.refl _ | apply List.Sublist.cons_cons | apply List.Sublist.cons)) hw)))
      rcases hmode with ⟨rfl, ha4, hF⟩ | ⟨hE, hF⟩
      rotate_left
      · (apply JS_seq; apply JS_seq; apply JS_region; (repeat (first | (apply gJR; first | (refine sx ?_; try intro _)) | (apply gJO; first | (refine sx ?_; try intro _)))); refine JS_condF rfl ?_; apply JS_skip)
        (apply JS_seq; apply JS_region; repeat (first | (apply gJR; first | (refine sx ?_; try intro _)) | (apply gJO; first | (refine sx ?_; try intro _))))
        (apply JS_seq; apply JS_region; repeat (first | (apply gJR; first | (refine sx ?_; try intro _)) | (apply gJO; first | (refine sx ?_; try intro _))))
        rename_i p5 p6
        apply JS_seq; apply JS_seq; apply JS_region; (repeat (first | (apply gJR; first | (refine sx ?_; try intro _)) | (apply gJO; first | (refine sx ?_; try intro _)))); apply JS_block; apply JS_loop'; apply JS_seq; apply JS_seq; apply JS_region; (repeat (first | (apply gJR; first | (refine sx ?_; try intro _)) | (apply gJO; first | (refine sx ?_; try intro _)))); refine JS_condF rfl ?_; refine JS_exit rfl ?_
        exact JS_to5 K E a3 (List.replicate 19 0) (some p6) 19 ⟨rfl, OKB_rep ⟨by decide, by decide⟩ 19, .inr ⟨hE, hF⟩⟩ (by repeat (first | exact trivial | refine ⟨rfl, ?_⟩ | refine ⟨lookI rfl (by omega), ?_⟩)) (fun w hw => strL_ins [vec 5 1 (.slice (some p6) 19 19) 19 (ints .u8 (List.replicate 19 0))] (St.sub (by repeat (first | exact List.Sublist.refl _ | apply List.Sublist.cons_cons | apply List.Sublist.cons)) hw))
      rw [des1_b, if_neg hbig] at hF
      (apply JS_seq; apply JS_seq; apply JS_region; (repeat (first | (apply gJR; first | (refine sx ?_; try intro _)) | (apply gJO; first | (refine sx ?_; try intro _)))); refine JS_condF rfl ?_; apply JS_skip)
      (apply JS_seq; apply JS_region; repeat (first | (apply gJR; first | (refine sx ?_; try intro _)) | (apply gJO; first | (refine sx ?_; try intro _))))
      (apply JS_seq; apply JS_region; repeat (first | (apply gJR; first | (refine sx ?_; try intro _)) | (apply gJO; first | (refine sx ?_; try intro _))))
      rename_i p5 p6
      apply JS_seq; apply JS_seq; apply JS_region; (repeat (first | (apply gJR; first | (refine sx ?_; try intro _)) | (apply gJO; first | (refine sx ?_; try intro _))))
      refine JS_block ?_
      refine JS_loop1 (fun (i : Nat) => [(0, .pointer (some ⟨bs, 0, none⟩)), (2, .int .i64 lit), (3, .int .i64 sp), (4, .int .i64 ln), (5, .slice (some p5) 19 19), (6, .slice (some p6) 19 19), (7, .int .i64 i)])
        (fun i => strL bs q d m B lim (a3 + 3 * i) po co o 0 (vec 5 1 (.slice (some p6) 19 19) 19 (ints .u8 (ccl (bitB B 0) a3 i)) :: vec 3 1 (.slice (some p5) 19 19) 19 (ints .i64 ordI) :: H)) (fun i => i ≤ ln ∧ a3 + 3 * i ≤ 8 * m) (fun i => ln - i) 0 ⟨Nat.zero_le _, by omega⟩ (by repeat (first | exact trivial | refine ⟨rfl, ?_⟩ | refine ⟨lookI rfl (by omega), ?_⟩))
        (fun w h => strL_ins [vec 5 1 (.slice (some p6) 19 19) 19 (ints .u8 (ccl (bitB B 0) a3 0)), vec 3 1 (.slice (some p5) 19 19) 19 (ints .i64 ordI)] h) ?_
      intro i ⟨hi, hai⟩ again
      have hcc := ccl_len (bitB B 0) a3 i
      have hco := ccl_okb (bitB B 0) (bitB_01 B 0) a3 i
      by_cases hil : i < ln
      · have gi : (ints .i64 ordI)[i]? = some (.int .i64 (ordI.getD i 0)) := ints_get (by show i < 19; omega)
        have ho19 := ordL_get i (by omega)
        have hcs : ccl (bitB B 0) a3 (i + 1) = (ccl (bitB B 0) a3 i).set (ordL.getD i 0) (nbt (bitB B 0) (a3 + 3 * i) 3) := rfl
        have hco1 := ccl_okb (bitB B 0) (bitB_01 B 0) a3 (i + 1)
        rw [ordI_get i (by omega)] at gi
        generalize ordL.getD i 0 = k at *
        generalize ccl (bitB B 0) a3 i = C at *
        apply JS_seq; apply JS_seq; apply JS_region; (repeat (first | (apply gJR; first | (refine sx ?_; try intro _)) | (apply gJO; first | (refine sx ?_; try intro _))))
        refine JS_condT rfl ?_
        apply JS_skip
        apply JS_seq
        apply JS_block
        refine JS_order2 [vec 5 1 (.slice (some p6) 19 19) 19 (ints .u8 C), vec 3 1 (.slice (some p5) 19 19) 19 (ints .i64 ordI)] [0, 1, 2, 3, 4, 5, 6, 7, 8, 9] [0] (fun w hw => St.sub (by repeat (first | exact List.nil_sublist _ | apply List.Sublist.cons_cons | apply List.Sublist.cons)) hw) (Picks.cons rfl (Picks.cons rfl (Picks.cons rfl (Picks.cons rfl (Picks.cons rfl (Picks.cons rfl (Picks.cons rfl (Picks.cons rfl (Picks.cons rfl (Picks.cons rfl (Picks.nil))))))))))) (by kernel_rfl) (by kernel_rfl) rfl (by decide +kernel) ?_
        repeat (first | (apply gQR2; apply QR2_un) | (apply gQO2; first | refine QO2_v rfl (V_index (tb := tb) (j := i) rfl rfl rfl rfl (Rd.sl (vec_rd (cs := ints .i64 ordI) (by repeat (first | apply List.Mem.head | apply List.Mem.tail)))) (by omega) (by (try simp only [tn, tna, tn1, tn2, tn3, tn4, tnd16, tnd8, Int.reduceToNat]); first | exact Nat.mul_one _ | exact rfl) rfl) ?_ | refine QO2_v rfl (V_loadC (tb := tb) rfl (vec_rd (cs := ints .i64 ordI) (by repeat (first | apply List.Mem.head | apply List.Mem.tail))) rfl rfl gi rfl) ?_ | refine aQ2 ?_))
        refine QO2_callE Try.call59 rfl rfl fun w hw => (RGrp4_c hK (a3 + 3 * i) 3 (by omega) (by omega) hm2 w hw).mono ?_
        rintro e w' (⟨h, rfl, hw'⟩ | ⟨h1, he, hw'⟩)
        · refine .inl ⟨_, rfl, [vec 5 1 (.slice (some p6) 19 19) 19 (ints .u8 C), vec 3 1 (.slice (some p5) 19 19) 19 (ints .i64 ordI)], _, hw', fun w hw => St.sub (by repeat (first | exact List.nil_sublist _ | apply List.Sublist.cons_cons | apply List.Sublist.cons)) hw, .inl fun w hw => hw, ?_⟩
          clear hw' hw w w' again
          rw [if_pos (by omega)] at hF
          repeat (first | (apply gQR2; first | apply QR2_un | apply QR2_nil) | (apply gQO2; first | refine QO2_v rfl (V_index (tb := tb) (j := k) rfl rfl rfl rfl (Rd.sl (vec_rd (cs := ints .u8 C) (by repeat (first | apply List.Mem.head | apply List.Mem.tail)))) (by omega) (by (try simp only [tn, tna, tn1, tn2, tn3, tn4, tnd16, tnd8, Int.reduceToNat]); first | exact Nat.mul_one _ | exact rfl) rfl) ?_ | refine aQ2 ?_ | refine aK2S rfl ?_))
          apply JS_inBlock; apply JS_region; (repeat (first | (apply gJR; first | (refine sx ?_; try intro _)) | (apply gJO; first | (refine sx ?_; try intro _))))
          apply JS_inLoop; apply JS_seq; apply JS_seq; apply JS_region
          by_cases hnx : (i : Int) + 1 < ln
          all_goals ((repeat (first | (apply gJR; first | (refine sx ?_; try intro _)) | (apply gJO; first | (refine sx ?_; try intro _)))); refine JS_condF rfl ?_; refine JS_exit rfl ?_)
          all_goals (exact JS_to5 K 20 (a3 + 3 * i) (C.set k 0) (some p6) 19 ⟨by rw [List.length_set]; exact hcc, OKB_set hco ⟨by decide, by decide⟩ k, .inr ⟨by decide, hF⟩⟩ (by repeat (first | exact trivial | refine ⟨rfl, ?_⟩ | refine ⟨lookI rfl (by omega), ?_⟩)) (fun w hw => St.sub (by repeat (first | exact List.Sublist.refl _ | apply List.Sublist.cons_cons | apply List.Sublist.cons)) hw))
        obtain ⟨x, hx⟩ := Int.eq_ofNat_of_zero_le (nbt_bd (bitB B 0) (bitB_01 B 0) (a3 + 3 * i) 3).1
        have hx1 := (nbt_bd (bitB B 0) (bitB_01 B 0) (a3 + 3 * i) 3).2
        rw [hx] at he hx1 hcs
        subst he
        have hx2 : (x : Int) < 8 := hx1
        refine .inl ⟨_, rfl, [vec 5 1 (.slice (some p6) 19 19) 19 (ints .u8 C), vec 3 1 (.slice (some p5) 19 19) 19 (ints .i64 ordI)], _, hw', fun w hw => St.sub (by repeat (first | exact List.nil_sublist _ | apply List.Sublist.cons_cons | apply List.Sublist.cons)) hw, .inl fun w hw => hw, ?_⟩
        clear hw' hw w w'
        repeat (first | (apply gQR2; first | apply QR2_un | apply QR2_nil) | (apply gQO2; first | refine QO2_v rfl (V_index (tb := tb) (j := k) rfl rfl rfl rfl (Rd.sl (vec_rd (cs := ints .u8 C) (by repeat (first | apply List.Mem.head | apply List.Mem.tail)))) (by omega) (by (try simp only [tn, tna, tn1, tn2, tn3, tn4, tnd16, tnd8, Int.reduceToNat]); first | exact Nat.mul_one _ | exact rfl) rfl) ?_ | refine aQ2 ?_ | refine aK2S rfl ?_))
        repeat (first | (refine sx ?_; try intro _))
        exact JS_again1 again (i + 1) ⟨by omega, by omega⟩ (by omega) (by repeat (first | exact trivial | refine ⟨rfl, ?_⟩ | refine ⟨lookI rfl (by omega), ?_⟩)) (fun w hw => by rw [hcs]; exact hw)
      · obtain rfl : i = ln := by omega
        clear again
        rw [if_neg (by omega)] at hF
        apply JS_seq; apply JS_seq; apply JS_region; (repeat (first | (apply gJR; first | (refine sx ?_; try intro _)) | (apply gJO; first | (refine sx ?_; try intro _))))
        refine JS_condF rfl ?_
        refine JS_exit rfl ?_
        exact JS_to5 K 0 (a3 + 3 * i) (ccl (bitB B 0) a3 i) (some p6) 19 ⟨hcc, hco, .inl ⟨rfl, hai, hF⟩⟩ (by repeat (first | exact trivial | refine ⟨rfl, ?_⟩ | refine ⟨lookI rfl (by omega), ?_⟩)) (fun w hw => St.sub (by repeat (first | exact List.Sublist.refl _ | apply List.Sublist.cons_cons | apply List.Sublist.cons)) hw)
  · intro K
    unfold desF at hFd
    obtain ⟨n1, hn1⟩ := Int.eq_ofNat_of_zero_le (nbt_bd (bitB B 0) (bitB_01 B 0) a 5).1
    have hb1 := (nbt_bd (bitB B 0) (bitB_01 B 0) a 5).2
    obtain ⟨n2, hn2⟩ := Int.eq_ofNat_of_zero_le (nbt_bd (bitB B 0) (bitB_01 B 0) (a + 5) 5).1
    have hb2 := (nbt_bd (bitB B 0) (bitB_01 B 0) (a + 5) 5).2
    obtain ⟨n3, hn3⟩ := Int.eq_ofNat_of_zero_le (nbt_bd (bitB B 0) (bitB_01 B 0) (a + 10) 4).1
    have hb3 := (nbt_bd (bitB B 0) (bitB_01 B 0) (a + 10) 4).2
    rw [hn1] at hb1
    rw [hn2] at hb2
    rw [hn3] at hb3
    have hb1' : (n1 : Int) < 32 := hb1
    have hb2' : (n2 : Int) < 32 := hb2
    have hb3' : (n3 : Int) < 16 := hb3
    rw [hn1, hn2, hn3, show ((n1 : Int) + 257).toNat = n1 + 257 by omega, show ((n2 : Int) + 1).toNat = n2 + 1 by omega, show ((n3 : Int) + 4).toNat = n3 + 4 by omega] at hFd
    repeat (first | (refine sx ?_; try intro _))
    refine JO_call Try.call59 rfl rfl fun w hw => (RGrp4_c hK a 5 (by omega) ha hm2 w hw).mono ?_
    rintro e w' (⟨h, rfl, hw'⟩ | ⟨h1, he, hw'⟩)
    · refine ⟨_, rfl, _, hw', ?_⟩
      clear hw' hw w w'
      rw [if_pos h] at hFd
      repeat (first | (refine sx ?_; try intro _))
      refine JO_call Try.call59 rfl rfl fun w hw => (RGrpE_c 5 a 20 (by decide) w hw).mono ?_
      rintro e w' ⟨rfl, hw'⟩
      refine ⟨_, rfl, _, hw', ?_⟩
      clear hw' hw w w'
      repeat (first | (refine sx ?_; try intro _))
      refine JO_call Try.call59 rfl rfl fun w hw => (RGrpE_c 4 a 20 (by decide) w hw).mono ?_
      rintro e w' ⟨rfl, hw'⟩
      refine ⟨_, rfl, _, hw', ?_⟩
      clear hw' hw w w'
      (repeat (first | (apply gJR; first | (refine sx ?_; try intro _)) | (apply gJO; first | (refine sx ?_; try intro _))))
      exact JS_to5 K 20 a 257 1 4 ⟨by omega, by omega, by omega, by omega, by omega, by omega, .inr ⟨by decide, hFd.symm⟩⟩ (by repeat (first | exact trivial | refine ⟨rfl, ?_⟩ | refine ⟨lookI rfl (by omega), ?_⟩)) (fun w hw => hw)
    rw [hn1] at he; subst he
    refine ⟨_, rfl, _, hw', ?_⟩
    clear hw' hw w w'
    rw [if_neg (by omega)] at hFd
    repeat (first | (refine sx ?_; try intro _))
    refine JO_call Try.call59 rfl rfl fun w hw => (RGrp4_c hK (a + 5) 5 (by omega) h1 hm2 w hw).mono ?_
    rintro e w' (⟨h, rfl, hw'⟩ | ⟨h2, he, hw'⟩)
    · refine ⟨_, rfl, _, hw', ?_⟩
      clear hw' hw w w'
      rw [if_pos (by omega)] at hFd
      repeat (first | (refine sx ?_; try intro _))
      refine JO_call Try.call59 rfl rfl fun w hw => (RGrpE_c 4 (a + 5) 20 (by decide) w hw).mono ?_
      rintro e w' ⟨rfl, hw'⟩
      refine ⟨_, rfl, _, hw', ?_⟩
      clear hw' hw w w'
      (repeat (first | (apply gJR; first | (refine sx ?_; try intro _)) | (apply gJO; first | (refine sx ?_; try intro _))))
      exact JS_to5 K 20 (a + 5) (n1 + 257) 1 4 ⟨by omega, by omega, by omega, by omega, by omega, by omega, .inr ⟨by decide, hFd.symm⟩⟩ (by repeat (first | exact trivial | refine ⟨rfl, ?_⟩ | refine ⟨lookI rfl (by omega), ?_⟩)) (fun w hw => hw)
    rw [hn2] at he; subst he
    refine ⟨_, rfl, _, hw', ?_⟩
    clear hw' hw w w'
    rw [if_neg (by omega)] at hFd
    repeat (first | (refine sx ?_; try intro _))
    refine JO_call Try.call59 rfl rfl fun w hw => (RGrp4_c hK (a + 10) 4 (by omega) h2 hm2 w hw).mono ?_
    rintro e w' (⟨h, rfl, hw'⟩ | ⟨h3, he, hw'⟩)
    · refine ⟨_, rfl, _, hw', ?_⟩
      clear hw' hw w w'
      rw [if_pos (by omega)] at hFd
      (repeat (first | (apply gJR; first | (refine sx ?_; try intro _)) | (apply gJO; first | (refine sx ?_; try intro _))))
      exact JS_to5 K 20 (a + 10) (n1 + 257) (n2 + 1) 4 ⟨by omega, by omega, by omega, by omega, by omega, by omega, .inr ⟨by decide, hFd.symm⟩⟩ (by repeat (first | exact trivial | refine ⟨rfl, ?_⟩ | refine ⟨lookI rfl (by omega), ?_⟩)) (fun w hw => hw)
    rw [hn3] at he; subst he
    refine ⟨_, rfl, _, hw', ?_⟩
    clear hw' hw w w'
    rw [if_neg (by omega)] at hFd
    (repeat (first | (apply gJR; first | (refine sx ?_; try intro _)) | (apply gJO; first | (refine sx ?_; try intro _))))
    exact JS_to5 K 0 (a + 14) (n1 + 257) (n2 + 1) (n3 + 4) ⟨by omega, by omega, by omega, by omega, by omega, by omega, .inl ⟨rfl, h3, hFd.symm⟩⟩ (by repeat (first | exact trivial | refine ⟨rfl, ?_⟩ | refine ⟨lookI rfl (by omega), ?_⟩)) (fun w hw => hw)
end
end Go.Proofs.Ytakgoflfcgofdaa

namespace Sx
open Go
theorem JS_joinQ51 {P : Program} {f n : Nat} {R : Ending → World → Prop} {D : List Deferred} {w0 : World} {k : List Item} {ov : Ov} {H : List Asn} {α β γ δ ε : Type} {c1 rest : Code} (o : α → β → γ → δ → ε → Ov) (H' : α → β → γ → δ → ε → List Asn) (I : α → β → γ → δ → ε → Prop)
    (cont : ∀ (x1 : α) (x2 : β) (x3 : γ) (x4 : δ) (x5 : ε), I x1 x2 x3 x4 x5 → JS P f n R D w0 (.code rest :: k) (o x1 x2 x3 x4 x5) (H' x1 x2 x3 x4 x5))
    (h : (∀ (x1 : α) (x2 : β) (x3 : γ) (x4 : δ) (x5 : ε), I x1 x2 x3 x4 x5 → JS P f n R D w0 (.code rest :: k) (o x1 x2 x3 x4 x5) (H' x1 x2 x3 x4 x5)) → JS P f n R D w0 (.code (.seq c1 rest) :: k) ov H) :
    JS P f n R D w0 (.code (.seq c1 rest) :: k) ov H := h cont
end Sx
namespace Go.Proofs.Ytakgoflfcgofdaa
open Sx Go
set_option linter.unusedVariables false
set_option linter.unusedSimpArgs false
attribute [local irreducible] syA fc tk cds
theorem reps_set (x : Int) (k n : Nat) (h : k < n) : (reps x k n).set k x = reps x (k + 1) n := by
  unfold reps
  rw [List.set_append_right _ _ (by simp)]
  simp only [List.length_replicate, Nat.sub_self]
  obtain ⟨d, hd⟩ : ∃ d, n - k = d + 1 := ⟨n - k - 1, by omega⟩
  rw [hd, show n - (k + 1) = d by omega, List.replicate_succ, List.set_cons_zero, List.replicate_succ', List.append_assoc]
  rfl
section
variable {w0 : World} {H : List Asn}
set_option maxRecDepth 10000 in
set_option maxHeartbeats 4000000 in
theorem RIRead_c (p : Option Addr) (c m : Nat) (B : List Int) (hr : Rd w0 H (.slice p m c) m (ints .u8 B)) (hm : B.length = m) (hB : OKB B) (hm2 : m ≤ 17592186044410) (L : Int) (hL : -9223372036854775808 ≤ L ∧ L < 9223372036854775808) (w : World) (hw : St w0 H w) :
    Calls Try.prog 29 #[.slice p m c, .int .i64 L] w fun e w' => ((L < 0 ∨ 1048576 < L) ∧ e = .returned (.tuple #[.slice none 0 0, .int .i64 0, .int .i64 1]) ∧ St w0 H w') ∨
      (0 ≤ L ∧ L ≤ 1048576 ∧ ∃ r, ALLR B L.toNat r ∧ resP r (fun x => x ≠ 0 ∧ e = .returned (.tuple #[.slice none 0 0, .int .i64 0, .int .i64 x]) ∧ St w0 H w')
        (fun a o => a ≤ 8 * m ∧ o.length ≤ L.toNat ∧ ∃ p c, e = .returned (.tuple #[.slice p o.length c, .int .i64 ((a + 7) / 8 : Nat), .int .i64 0]) ∧ St w0 (vec 5 1 (.slice p o.length c) o.length (ints .u8 o) :: H) w')) := by
  refine enter (vs := [.slice p m c, .int .i64 L]) Try.func29 rfl rfl rfl hw ?_
  subst hm
  obtain ⟨m, hm⟩ : ∃ m, B.length = m := ⟨_, rfl⟩
  unfold ALLR
  rw [hm] at hr hm2 ⊢
  by_cases hbad : L < 0 ∨ 1048576 < L
  · have : (L < 0) ∨ (¬ L < 0 ∧ 1048576 < L) := by omega
    rcases this with h | ⟨h, h'⟩
    · repeat (first | (refine sx ?_; try intro _))
      exact JS_ret Try.func29 rfl rfl fun w hw => .inl ⟨hbad, rfl, hw⟩
    · repeat (first | (refine sx ?_; try intro _))
      exact JS_ret Try.func29 rfl rfl fun w hw => .inl ⟨hbad, rfl, hw⟩
  obtain ⟨lim, rfl⟩ : ∃ lim : Nat, L = lim := ⟨L.toNat, by omega⟩
  have hK : InfK m B lim := ⟨hm, hB, by omega, by omega⟩
  have hl := hK.hl
  rw [Int.toNat_natCast]
  repeat (first | (refine sx ?_; try intro _))
  refine JO_call Try.call58 rfl rfl fun w hw => (Bits4_c p c m B hr hm hB hm2 w hw).mono ?_
  rintro e w' ⟨q, d, rfl, hw'⟩
  refine ⟨_, rfl, _, hw', ?_⟩
  clear hw' hw w w'
  (repeat (first | (apply gJR; first | (refine sx ?_; try intro _)) | (apply gJO; first | (refine sx ?_; try intro _))))
  rename_i bs
  apply JS_seq; apply JS_region; (repeat (first | (apply gJR; first | (refine sx ?_; try intro _)) | (apply gJO; first | (refine sx ?_; try intro _))))
  refine JS_joinQ51 (fun (E : Int) (a : Nat) (o : List Int) (po : Option Addr) (co : Nat) => [(7, .pointer (some ⟨bs, 0, none⟩))]) (fun E a o po co => strL bs q d m B lim a po co o E H)
    (fun E a o po co => (E = 0 ∧ a ≤ 8 * m ∧ o.length ≤ lim ∧ It (rdF (bitB B 0) (8 * m) lim) 0 [] (.ok a o)) ∨ (E ≠ 0 ∧ It (rdF (bitB B 0) (8 * m) lim) 0 [] (.err E))) ?_ ?_
  · intro E a o po co hmode
    rcases hmode with ⟨rfl, ha, ho, hIt⟩ | ⟨hE, hIt⟩
    · repeat (first | (refine sx ?_; try intro _))
      refine JS_ret Try.func29 rfl rfl fun w hw => .inr ⟨by omega, by omega, .ok a o, hIt, ha, ho, po, co, ?_, St.sub (by repeat (first | exact List.Sublist.refl _ | apply List.Sublist.cons_cons | apply List.Sublist.cons)) hw⟩
      have hx : ((a : Int) + 7) / 8 = (((a + 7) / 8 : Nat) : Int) := by omega
      rw [← hx]; rfl
    · repeat (first | (refine sx ?_; try intro _))
      exact JS_ret Try.func29 rfl rfl fun w hw => .inr ⟨by omega, by omega, .err E, hIt, hE, rfl, St.sub (by repeat (first | exact List.Sublist.refl _ | apply List.Sublist.cons_cons | apply List.Sublist.cons)) hw⟩
  intro K
  apply JS_seq
  refine JS_block ?_
  refine JS_loop5 (fun (a : Nat) (o : List Int) (po : Option Addr) (co : Nat) (last : Int) => [(7, .pointer (some ⟨bs, 0, none⟩)), (8, .int .i64 last)])
    (fun a o po co _ => strL bs q d m B lim a po co o 0 H)
    (fun a o _ _ last => a ≤ 8 * m ∧ o.length ≤ lim ∧ ((last = 0 ∧ ∀ r, It (rdF (bitB B 0) (8 * m) lim) a o r → It (rdF (bitB B 0) (8 * m) lim) 0 [] r) ∨ (last ≠ 0 ∧ It (rdF (bitB B 0) (8 * m) lim) 0 [] (.ok a o))))
    (fun a _ _ _ _ => 8 * m - a) 0 [] none 0 0 ⟨Nat.zero_le _, Nat.zero_le _, .inl ⟨rfl, fun _ h => h⟩⟩ (by repeat (first | exact trivial | refine ⟨rfl, ?_⟩ | refine ⟨lookI rfl (by omega), ?_⟩)) (fun w h => (St.nilvec (e := 5) (sz := 1) (base := none) h).perm (List.Perm.swap _ _ _)) ?_
  intro a o po co last ⟨ha, ho, hinv⟩ again
  rcases hinv with ⟨rfl, hinv⟩ | ⟨hl0, hfin⟩
  · have hF : rdF (bitB B 0) (8 * m) lim a o = if 8 * m < a + 1 then .err 20
      else if 8 * m < a + 3 then .err 20
      else match kndF (bitB B 0) (8 * m) lim (nbt (bitB B 0) (a + 1) 2) (a + 3) o with
        | .err e => .err e
        | .ok a' o' => if nbt (bitB B 0) a 1 = 0 then .go a' o' else .stop a' o' := rfl
    obtain ⟨x1, hx1⟩ := Int.eq_ofNat_of_zero_le (nbt_bd (bitB B 0) (bitB_01 B 0) a 1).1
    have hb1 := (nbt_bd (bitB B 0) (bitB_01 B 0) a 1).2
    obtain ⟨k, hk⟩ := Int.eq_ofNat_of_zero_le (nbt_bd (bitB B 0) (bitB_01 B 0) (a + 1) 2).1
    have hb2 := (nbt_bd (bitB B 0) (bitB_01 B 0) (a + 1) 2).2
    rw [hx1] at hb1 hF
    rw [hk] at hb2 hF
    have hb1 : (x1 : Int) < 2 := hb1
    have hb2 : (k : Int) < 4 := hb2
    repeat (first | (refine sx ?_; try intro _))
    refine JO_call Try.call59 rfl rfl fun w hw => (RGrp4_c hK a 1 (by omega) ha hm2 w hw).mono ?_
    rintro e w' (⟨h, rfl, hw'⟩ | ⟨h1, he, hw'⟩)
    · refine ⟨_, rfl, _, hw', ?_⟩
      clear hw' hw w w' again
      repeat (first | (refine sx ?_; try intro _))
      refine JO_call Try.call59 rfl rfl fun w hw => (RGrpE_c 2 a 20 (by decide) w hw).mono ?_
      rintro e w' ⟨rfl, hw'⟩
      refine ⟨_, rfl, _, hw', ?_⟩
      clear hw' hw w w'
      (repeat (first | (apply gJR; first | (refine sx ?_; try intro _)) | (apply gJO; first | (refine sx ?_; try intro _))))
      apply JS_seq; apply JS_seq; apply JS_region; (repeat (first | (apply gJR; first | (refine sx ?_; try intro _)) | (apply gJO; first | (refine sx ?_; try intro _))))
      refine JS_condT rfl ?_
      refine JS_exit rfl ?_
      exact JS_to5 K 20 a o po co (.inr ⟨by decide, hinv _ (.err (by rw [hF, if_pos h]))⟩) (by repeat (first | exact trivial | refine ⟨rfl, ?_⟩ | refine ⟨lookI rfl (by omega), ?_⟩)) (fun w hw => hw)
    rw [hx1] at he; subst he
    refine ⟨_, rfl, _, hw', ?_⟩
    clear hw' hw w w'
    rw [if_neg (by omega)] at hF
    repeat (first | (refine sx ?_; try intro _))
    refine JO_call Try.call59 rfl rfl fun w hw => (RGrp4_c hK (a + 1) 2 (by omega) h1 hm2 w hw).mono ?_
    rintro e w' (⟨h, rfl, hw'⟩ | ⟨h2, he, hw'⟩)
    · refine ⟨_, rfl, _, hw', ?_⟩
      clear hw' hw w w' again
      (repeat (first | (apply gJR; first | (refine sx ?_; try intro _)) | (apply gJO; first | (refine sx ?_; try intro _))))
      apply JS_seq; apply JS_seq; apply JS_region; (repeat (first | (apply gJR; first | (refine sx ?_; try intro _)) | (apply gJO; first | (refine sx ?_; try intro _))))
      refine JS_condT rfl ?_
      refine JS_exit rfl ?_
      exact JS_to5 K 20 (a + 1) o po co (.inr ⟨by decide, hinv _ (.err (by rw [hF, if_pos (by omega)]))⟩) (by repeat (first | exact trivial | refine ⟨rfl, ?_⟩ | refine ⟨lookI rfl (by omega), ?_⟩)) (fun w hw => hw)
    rw [hk] at he; subst he
    refine ⟨_, rfl, _, hw', ?_⟩
    clear hw' hw w w'
    rw [if_neg (by omega)] at hF
    have hgo : ∀ a' o', kndF (bitB B 0) (8 * m) lim k (a + 3) o = .ok a' o' → a' ≤ 8 * m → o'.length ≤ lim → (a' ≤ 8 * m ∧ o'.length ≤ lim ∧ (((x1 : Int) = 0 ∧ ∀ r, It (rdF (bitB B 0) (8 * m) lim) a' o' r → It (rdF (bitB B 0) (8 * m) lim) 0 [] r) ∨ ((x1 : Int) ≠ 0 ∧ It (rdF (bitB B 0) (8 * m) lim) 0 [] (.ok a' o')))) ∧ 8 * m - a' < 8 * m - a := by
      intro a' o' hkn h3 h4
      have hge := kndF_ge hkn
      rw [hkn] at hF
      simp only at hF
      refine ⟨⟨h3, h4, ?_⟩, by omega⟩
      by_cases h0 : (x1 : Int) = 0
      · rw [if_pos h0] at hF
        exact .inl ⟨h0, fun r hr => hinv r (.go hF hr)⟩
      · rw [if_neg h0] at hF
        exact .inr ⟨h0, hinv _ (.stop hF)⟩
    have herr : ∀ r, kndF (bitB B 0) (8 * m) lim k (a + 3) o = .err r → It (rdF (bitB B 0) (8 * m) lim) 0 [] (.err r) := by
      intro r hkn
      rw [hkn] at hF
      exact hinv _ (.err hF)
    clear hF hinv
    rcases (show k = 0 ∨ k = 1 ∨ k = 2 ∨ k = 3 by omega) with rfl | rfl | rfl | rfl
    · repeat (first | (refine sx ?_; try intro _))
      refine JO_call Try.call60 rfl rfl fun w hw => (RSto_c hK (a + 3) (by omega) hm2 ho w hw).mono ?_
      rintro e w' ⟨rfl, h⟩
      obtain ⟨r, hr⟩ : ∃ r, stoF (bitB B 0) (8 * m) lim (a + 3) o = r := ⟨_, rfl⟩
      rw [hr] at h
      unfold RP at h
      cases r with
      | err r =>
        obtain ⟨hr0, a', po', co', o', hw'⟩ := h
        refine ⟨_, rfl, _, hw', ?_⟩
        clear hw' hw w w' again
        repeat (first | (refine sx ?_; try intro _))
        apply JS_inLoop; apply JS_seq; apply JS_seq; apply JS_region
        by_cases hx0 : (x1 : Int) = 0
        all_goals ((repeat (first | (apply gJR; first | (refine sx ?_; try intro _)) | (apply gJO; first | (refine sx ?_; try intro _)))); refine JS_condF rfl ?_; refine JS_exit rfl ?_)
        all_goals (exact JS_to5 K r a' o' po' co' (.inr ⟨hr0, herr r hr⟩) (by repeat (first | exact trivial | refine ⟨rfl, ?_⟩ | refine ⟨lookI rfl (by omega), ?_⟩)) (fun w hw => St.sub (by repeat (first | exact List.Sublist.refl _ | apply List.Sublist.cons_cons | apply List.Sublist.cons)) hw))
      | ok a' o' =>
        obtain ⟨h3, h4, po', co', hw'⟩ := h
        obtain ⟨g1, g2⟩ := hgo a' o' hr h3 h4
        refine ⟨_, rfl, _, hw', ?_⟩
        clear hw' hw w w'
        repeat (first | (refine sx ?_; try intro _))
        exact JS_again5 again a' o' po' co' x1 g1 g2 (by repeat (first | exact trivial | refine ⟨rfl, ?_⟩ | refine ⟨lookI rfl (by omega), ?_⟩)) (fun w hw => St.sub (by repeat (first | exact List.Sublist.refl _ | apply List.Sublist.cons_cons | apply List.Sublist.cons)) hw)
    · repeat (first | (refine sx ?_; try intro _))
      rename_i p5
      refine JS_loop1 (fun (i : Nat) => [(7, .pointer (some ⟨bs, 0, none⟩)), (8, .int .i64 x1), (10, .slice (some p5) 32 32), (11, .int .i64 i)]) (fun i => vec 5 1 (.slice (some p5) 32 32) 32 (ints .u8 (reps 5 i 32)) :: strL bs q d m B lim (a + 3) po co o 0 H) (fun i => i ≤ 32) (fun i => 32 - i) 0 (by omega) (by repeat (first | exact trivial | refine ⟨rfl, ?_⟩ | refine ⟨lookI rfl (by omega), ?_⟩)) (fun _ h => h) ?_
      intro i hi again2
      by_cases hil : i < 32
      · clear again
        have hrs := reps_set 5 i 32 hil
        have hrl := reps_len 5 i 32 hi
        repeat (first | (refine sx ?_; try intro _))
        exact JS_again1 again2 (i + 1) (by omega) (by omega) (by repeat (first | exact trivial | refine ⟨rfl, ?_⟩ | refine ⟨lookI rfl (by omega), ?_⟩)) (fun w hw => by rw [← hrs]; exact hw)
      · obtain rfl : i = 32 := by omega
        clear again2
        rw [reps_full]
        repeat (first | (refine sx ?_; try intro _))
        refine JO_call Try.call40 rfl rfl fun w hw => (RFixed_c w hw).mono ?_
        rintro e w' ⟨p6, c6, rfl, hw'⟩
        refine ⟨_, rfl, _, hw', ?_⟩
        clear hw' hw w w'
        repeat (first | (refine sx ?_; try intro _))
        refine JO_call Try.call61 rfl rfl fun w hw => (RBlk_c hK (a + 3) (by omega) hm2 ho p6 (some p5) c6 32 288 32 (tab 288 fixF) (List.replicate 32 5) (vec_rd (H := [vec 5 1 (.slice p6 288 c6) 288 (ints .u8 (tab 288 fixF)), vec 5 1 (.slice (some p5) 32 32) 32 (ints .u8 (List.replicate 32 5))] ++ H) (by repeat (first | apply List.Mem.head | apply List.Mem.tail))) (tab_len _ _) fix_okb fix_okl (vec_rd (H := [vec 5 1 (.slice p6 288 c6) 288 (ints .u8 (tab 288 fixF)), vec 5 1 (.slice (some p5) 32 32) 32 (ints .u8 (List.replicate 32 5))] ++ H) (by repeat (first | apply List.Mem.head | apply List.Mem.tail))) (List.length_replicate ..) spans_okb spans_okl w (strL_ins [vec 5 1 (.slice p6 288 c6) 288 (ints .u8 (tab 288 fixF)), vec 5 1 (.slice (some p5) 32 32) 32 (ints .u8 (List.replicate 32 5))] hw)).mono ?_
        rintro e w' ⟨rfl, r, hr, h⟩
        unfold RP at h
        cases r with
        | err r =>
          obtain ⟨hr0, a', po', co', o', hw'⟩ := h
          refine ⟨_, rfl, _, hw', ?_⟩
          clear hw' hw w w' again
          repeat (first | (refine sx ?_; try intro _))
          apply JS_inLoop; apply JS_seq; apply JS_seq; apply JS_region
          by_cases hx0 : (x1 : Int) = 0
          all_goals ((repeat (first | (apply gJR; first | (refine sx ?_; try intro _)) | (apply gJO; first | (refine sx ?_; try intro _)))); refine JS_condF rfl ?_; refine JS_exit rfl ?_)
          all_goals (exact JS_to5 K r a' o' po' co' (.inr ⟨hr0, herr r (itF_of hr)⟩) (by repeat (first | exact trivial | refine ⟨rfl, ?_⟩ | refine ⟨lookI rfl (by omega), ?_⟩)) (fun w hw => St.sub (by repeat (first | exact List.Sublist.refl _ | apply List.Sublist.cons_cons | apply List.Sublist.cons)) hw))
        | ok a' o' =>
          obtain ⟨h3, h4, po', co', hw'⟩ := h
          obtain ⟨g1, g2⟩ := hgo a' o' (itF_of hr) h3 h4
          refine ⟨_, rfl, _, hw', ?_⟩
          clear hw' hw w w'
          repeat (first | (refine sx ?_; try intro _))
          exact JS_again5 again a' o' po' co' x1 g1 g2 (by repeat (first | exact trivial | refine ⟨rfl, ?_⟩ | refine ⟨lookI rfl (by omega), ?_⟩)) (fun w hw => St.sub (by repeat (first | exact List.Sublist.refl _ | apply List.Sublist.cons_cons | apply List.Sublist.cons)) hw)
    · repeat (first | (refine sx ?_; try intro _))
      refine JO_call Try.call62 rfl rfl fun w hw => (RDes_c hK (a + 3) (by omega) hm2 ho w hw).mono ?_
      rintro e w' ⟨rfl, h⟩
      obtain ⟨r, hr⟩ : ∃ r, desF (bitB B 0) (8 * m) lim (a + 3) o = r := ⟨_, rfl⟩
      rw [hr] at h
      unfold RP at h
      cases r with
      | err r =>
        obtain ⟨hr0, a', po', co', o', hw'⟩ := h
        refine ⟨_, rfl, _, hw', ?_⟩
        clear hw' hw w w' again
        repeat (first | (refine sx ?_; try intro _))
        apply JS_inLoop; apply JS_seq; apply JS_seq; apply JS_region
        by_cases hx0 : (x1 : Int) = 0
        all_goals ((repeat (first | (apply gJR; first | (refine sx ?_; try intro _)) | (apply gJO; first | (refine sx ?_; try intro _)))); refine JS_condF rfl ?_; refine JS_exit rfl ?_)
        all_goals (exact JS_to5 K r a' o' po' co' (.inr ⟨hr0, herr r hr⟩) (by repeat (first | exact trivial | refine ⟨rfl, ?_⟩ | refine ⟨lookI rfl (by omega), ?_⟩)) (fun w hw => St.sub (by repeat (first | exact List.Sublist.refl _ | apply List.Sublist.cons_cons | apply List.Sublist.cons)) hw))
      | ok a' o' =>
        obtain ⟨h3, h4, po', co', hw'⟩ := h
        obtain ⟨g1, g2⟩ := hgo a' o' hr h3 h4
        refine ⟨_, rfl, _, hw', ?_⟩
        clear hw' hw w w'
        repeat (first | (refine sx ?_; try intro _))
        exact JS_again5 again a' o' po' co' x1 g1 g2 (by repeat (first | exact trivial | refine ⟨rfl, ?_⟩ | refine ⟨lookI rfl (by omega), ?_⟩)) (fun w hw => St.sub (by repeat (first | exact List.Sublist.refl _ | apply List.Sublist.cons_cons | apply List.Sublist.cons)) hw)
    · clear again
      repeat (first | (refine sx ?_; try intro _))
      apply JS_inLoop; apply JS_seq; apply JS_seq; apply JS_region
      by_cases hx0 : (x1 : Int) = 0
      all_goals ((repeat (first | (apply gJR; first | (refine sx ?_; try intro _)) | (apply gJO; first | (refine sx ?_; try intro _)))); refine JS_condF rfl ?_; refine JS_exit rfl ?_)
      all_goals (exact JS_to5 K 60 (a + 1 + 2) o po co (.inr ⟨by decide, herr 60 rfl⟩) (by repeat (first | exact trivial | refine ⟨rfl, ?_⟩ | refine ⟨lookI rfl (by omega), ?_⟩)) (fun w hw => hw))
  · clear again
    apply JS_seq; apply JS_seq; apply JS_region; (repeat (first | (apply gJR; first | (refine sx ?_; try intro _)) | (apply gJO; first | (refine sx ?_; try intro _))))
    refine JS_condF rfl ?_
    refine JS_exit rfl ?_
    exact JS_to5 K 0 a o po co (.inl ⟨rfl, ha, ho, hfin⟩) (by repeat (first | exact trivial | refine ⟨rfl, ?_⟩ | refine ⟨lookI rfl (by omega), ?_⟩)) (fun w hw => hw)
end
end Go.Proofs.Ytakgoflfcgofdaa

set_option linter.unusedVariables false
set_option linter.unusedSimpArgs false
namespace Go.Proofs.Ytakgoflfcgofdaa
open Sx Go
attribute [local irreducible] syA fc tk cds
theorem okb_app' {A C : List Int} (hA : OKB A) (hC : OKB C) : OKB (A ++ C) := fun j => by
  rw [List.getD_eq_getElem?_getD]
  rcases Nat.lt_or_ge j A.length with h | h
  · rw [List.getElem?_append_left h, ← List.getD_eq_getElem?_getD]; exact hA j
  · rw [List.getElem?_append_right h, ← List.getD_eq_getElem?_getD]; exact hC _
section
variable {w0 : World} {H : List Asn}
theorem RIRead_ok (p : Option Addr) (c m : Nat) (B : List Int) (hr : Rd w0 H (.slice p m c) m (ints .u8 B)) (hm : B.length = m) (hB : OKB B) (hm1 : m ≤ 17592186044410) (lim : Nat) (hlim : lim ≤ 1048576) {a : Nat} {o : List Int} (hA : ALLR B lim (.ok a o)) (w : World) (hw : St w0 H w) :
    Calls Try.prog 29 #[.slice p m c, .int .i64 lim] w fun e w' => ∃ p c, e = .returned (.tuple #[.slice p o.length c, .int .i64 ((a + 7) / 8 : Nat), .int .i64 0]) ∧ St w0 (vec 5 1 (.slice p o.length c) o.length (ints .u8 o) :: H) w' := by
  refine (RIRead_c p c m B hr hm hB hm1 lim (by omega) w hw).mono ?_
  rintro e w' (⟨h, _⟩ | ⟨_, _, r, h, hp⟩)
  · omega
  · rw [Int.toNat_natCast] at h
    obtain rfl := ALLR.one h hA
    obtain ⟨_, _, h'⟩ := hp
    exact h'
attribute [local irreducible] sbs pack fixL bestB txt ALLR
set_option maxRecDepth 10000 in
set_option maxHeartbeats 4000000 in
theorem DeflateBack_c (p : Option Addr) (c m : Nat) (B0 : List Int) (wide : Bool) (p2 : Option Addr) (c2 m2 : Nat) (S : List Int) (hr : Rd w0 H (.slice p m c) m (ints .u8 B0)) (hm : B0.length = m) (hB0 : OKB B0) (hmx : m ≤ 140737488351232)
    (hr2 : Rd w0 H (.slice p2 m2 c2) m2 (ints .u8 S)) (hm2 : S.length = m2) (hS : OKB S) (w : World) (hw : St w0 H w) :
    Calls Try.prog 11 #[.slice p m c, .bool wide, .slice p2 m2 c2] w fun e w' => e = .returned (.bool true) ∧ St w0 H w' := by
  refine enter (vs := [.slice p m c, .bool wide, .slice p2 m2 c2]) Try.func11 rfl rfl rfl hw ?_
  clear hw w
  repeat (first | (refine sx ?_; try intro _))
  refine JO_call Try.call13 rfl rfl fun w hw => (alive8_c w hw).mono ?_
  rintro e w' ⟨rfl, hw'⟩
  refine ⟨_, rfl, _, hw', ?_⟩
  clear hw' hw w w'
  by_cases hbig : 100 < m2
  · repeat (first | (refine sx ?_; try intro _))
    exact JS_ret Try.func11 rfl rfl fun w hw => ⟨rfl, hw⟩
  repeat (first | (refine sx ?_; try intro _))
  refine JO_call Try.call14 rfl rfl fun w hw => (Text8_c p c m B0 wide hr hm hB0 hmx w hw).mono ?_
  have hB := txt_okb hB0 wide
  have hBl := txt_len B0 wide
  obtain ⟨B, hBe⟩ : ∃ B, txt B0 wide = B := ⟨_, rfl⟩
  rw [hBe] at hB hBl ⊢
  clear hBe
  rintro e w' ⟨qx, dx, rfl, hw'⟩
  refine ⟨_, rfl, _, hw', ?_⟩
  clear hw' hw w w'
  have o1 := pack_okb' (fixL B) (fixL_01 B)
  have o2 := sbs_okb hB
  have o3 : OKB (bestB B) := by unfold bestB; split <;> assumption
  have A1 := ALLR_fix (S := S) hB (Nat.le_refl _)
  have A2 := ALLR_sbs (X := B) (S := S) (okb_app' o2 hS) (Nat.le_refl _)
  obtain ⟨a3, e3, A3⟩ := ALLR_best (S := S) hB (okb_app' o2 hS) (Nat.le_refl _)
  have e1 := pack_len (fixL B)
  have l1 := fixL_len hB
  have l2' : (sbs B).length = B.length + 5 := by
    have := sb_len (B.length + 1) B (by omega)
    rw [if_pos (by omega)] at this
    unfold sbs; omega
  have l2 : (bestB B).length ≤ (sbs B).length := by unfold bestB; split <;> omega
  obtain ⟨b, hb⟩ : ∃ b, B.length = b := ⟨_, rfl⟩
  rw [hb] at A1 A2 A3 hBl l1 l2' ⊢
  obtain ⟨F, hF⟩ : ∃ F, pack (fixL B) = F := ⟨_, rfl⟩
  rw [hF] at o1 A1 e1
  repeat (first | (refine sx ?_; try intro _))
  refine JO_call Try.call15 rfl rfl fun w hw => (DFixed_c qx dx b B (vec_rd (by repeat (first | apply List.Mem.head | apply List.Mem.tail))) hb hB (by omega) w hw).mono ?_
  rw [hF]
  rintro e w' ⟨q1, d1, rfl, hw'⟩
  refine ⟨_, rfl, _, hw', ?_⟩
  clear hw' hw w w'
  repeat (first | (refine sx ?_; try intro _))
  refine JO_call Try.call17 rfl rfl fun w hw => (DStored_c qx dx b B (vec_rd (by repeat (first | apply List.Mem.head | apply List.Mem.tail))) hb hB (by omega) w hw).mono ?_
  rintro e w' ⟨q2, d2, rfl, hw'⟩
  refine ⟨_, rfl, _, hw', ?_⟩
  clear hw' hw w w'
  repeat (first | (refine sx ?_; try intro _))
  refine JO_call Try.call19 rfl rfl fun w hw => (DBest_c qx dx b B (vec_rd (by repeat (first | apply List.Mem.head | apply List.Mem.tail))) hb hB (by omega) w hw).mono ?_
  rintro e w' ⟨q3, d3, rfl, hw'⟩
  refine ⟨_, rfl, _, hw', ?_⟩
  clear hw' hw w w'
  repeat (first | (refine sx ?_; try intro _))
  rename_i p9
  obtain ⟨G, hG⟩ : ∃ G, bestB B = G := ⟨_, rfl⟩
  obtain ⟨E, hE⟩ : ∃ E, sbs B = E := ⟨_, rfl⟩
  rw [hE] at o2 A2 l2' l2
  rw [hG] at o3 A3 e3 l2
  rw [hE, hG]
  refine JS_H (H' := vec 22 1 (.slice (some p9) 3 3) 3 [.slice q1 F.length d1, .slice q2 E.length d2, .slice q3 G.length d3] :: vec 5 1 (.slice q3 G.length d3) G.length (ints .u8 G) :: vec 5 1 (.slice q2 E.length d2) E.length (ints .u8 E) :: vec 5 1 (.slice q1 F.length d1) F.length (ints .u8 F) :: vec 5 1 (.slice qx b dx) b (ints .u8 B) :: H) (fun w hw => hw) ?_
  obtain ⟨Hb, hHb⟩ : ∃ Hb, Hb = vec 22 1 (.slice (some p9) 3 3) 3 [.slice q1 F.length d1, .slice q2 E.length d2, .slice q3 G.length d3] :: vec 5 1 (.slice q3 G.length d3) G.length (ints .u8 G) :: vec 5 1 (.slice q2 E.length d2) E.length (ints .u8 E) :: vec 5 1 (.slice q1 F.length d1) F.length (ints .u8 F) :: vec 5 1 (.slice qx b dx) b (ints .u8 B) :: H := ⟨_, rfl⟩
  have hrt : Rd w0 Hb (.slice (some p9) 3 3) 3 [.slice q1 F.length d1, .slice q2 E.length d2, .slice q3 G.length d3] := by rw [hHb]; exact vec_rd (List.Mem.head _)
  have hrB : Rd w0 Hb (.slice qx b dx) b (ints .u8 B) := by rw [hHb]; exact vec_rd (by repeat (first | apply List.Mem.head | apply List.Mem.tail))
  have hrS : Rd w0 Hb (.slice p2 m2 c2) m2 (ints .u8 S) := by rw [hHb]; exact Rd_weak hr2 fun w hw => St.sub (by repeat (first | exact List.Sublist.refl _ | apply List.Sublist.cons_cons | apply List.Sublist.cons)) hw
  have hback : ∀ w, St w0 Hb w → St w0 H w := by rw [hHb]; exact fun w hw => St.sub (by repeat (first | exact List.Sublist.refl _ | apply List.Sublist.cons_cons | apply List.Sublist.cons)) hw
  have key : ∀ i, i < 3 → ∃ (q : Option Addr) (d : Nat) (X : List Int) (a : Nat), ([.slice q1 F.length d1, .slice q2 E.length d2, .slice q3 G.length d3] : List Value)[i]? = some (.slice q X.length d) ∧ Rd w0 Hb (.slice q X.length d) X.length (ints .u8 X) ∧ OKB X ∧ X.length ≤ 10000 ∧ ALLR (X ++ S) b (.ok a B) ∧ (a + 7) / 8 = X.length := by
    intro i hi
    rcases (show i = 0 ∨ i = 1 ∨ i = 2 by omega) with rfl | rfl | rfl
    · exact ⟨q1, d1, F, _, rfl, by rw [hHb]; exact vec_rd (by repeat (first | apply List.Mem.head | apply List.Mem.tail)), o1, by omega, A1, e1.symm⟩
    · exact ⟨q2, d2, E, _, rfl, by rw [hHb]; exact vec_rd (by repeat (first | apply List.Mem.head | apply List.Mem.tail)), o2, by omega, A2, by omega⟩
    · exact ⟨q3, d3, G, _, rfl, by rw [hHb]; exact vec_rd (by repeat (first | apply List.Mem.head | apply List.Mem.tail)), o3, by omega, A3, e3⟩
  rw [← hHb]
  clear hHb
  refine JS_loop1 (fun (i : Nat) => [(2, .slice p2 m2 c2), (7, .slice qx b dx), (31, .slice (some p9) 3 3), (32, .int .i64 3), (33, .int .i64 i)]) (fun _ => Hb) (fun i => i ≤ 3) (fun i => 3 - i) 0 (by omega) (by repeat (first | exact trivial | refine ⟨rfl, ?_⟩ | refine ⟨lookI rfl (by omega), ?_⟩)) (fun w h => h) ?_
  intro i hi again
  by_cases hi3 : i < 3
  · obtain ⟨q, d, X, a, hget, hrX, hX, hXl, hA, ha⟩ := key i hi3
    clear key
    have hXS : OKB (X ++ S) := okb_app' hX hS
    have hlS : (X ++ S).length = X.length + m2 := by rw [List.length_append, hm2]
    have hget' : ([.slice q1 F.length d1, .slice q2 E.length d2, .slice q3 G.length d3] : List Value)[i * 1]? = some (.slice q X.length d) := by rw [Nat.mul_one]; exact hget
    obtain ⟨x, hx⟩ : ∃ x, X.length = x := ⟨_, rfl⟩
    rw [hx] at hrX hXl ha hlS hget hget'
    repeat (first | (apply gJO; refine JO_v (oL (V_loadC (tb := tb) rfl hrt rfl rfl hget rfl)) ?_) | (apply gJO; refine JO_v (oL (V_loadC (tb := tb) rfl hrt rfl rfl hget' rfl)) ?_) | (apply gJO; (refine JO_app (tb := tb) rfl rfl rfl rfl rfl rfl (by repeat (first | exact Sel.here _ _ | apply Sel.there)) (by first | exact vec_rd (by repeat (first | apply List.Mem.head | apply List.Mem.tail)) | assumption | exact ArgRd.rd (by assumption) _ | (apply Rd_weak; assumption; intro _ hx; exact St.sub (by repeat (first | exact List.Sublist.refl _ | apply List.Sublist.cons_cons | apply List.Sublist.cons)) hx)) (by simp only [ints_len, List.length_cons, List.length_nil]; first | omega | rfl) (by first | exact ints_one | (repeat (first | exact trivial | refine ⟨rfl, ?_⟩))) (by omega) rfl ?_; intro _ _)) | (first | (refine sx ?_; try intro _)))
    rename_i pa qa da
    rw [Nat.zero_add, show rep 0 [Value.int .u8 0] = [] from rfl, List.nil_append, ints_app]
    refine JO_call Try.call28 rfl rfl fun w hw => (IRead_ok qa da (x + m2) (X ++ S) (vec_rd (List.Mem.head _)) hlS hXS (by omega) b (by omega) hA w hw).mono ?_
    rw [ha, hb]
    rintro e w' ⟨q4, d4, rfl, hw'⟩
    refine ⟨_, rfl, _, hw', ?_⟩
    clear hw' hw w w'
    repeat (first | (refine sx ?_; try intro _))
    refine JO_call Try.call29 rfl rfl fun w hw => (RIRead_ok qa da (x + m2) (X ++ S) (vec_rd (List.Mem.tail _ (List.Mem.head _))) hlS hXS (by omega) b (by omega) hA w hw).mono ?_
    rw [ha, hb]
    rintro e w' ⟨q5, d5, rfl, hw'⟩
    refine ⟨_, rfl, _, hw', ?_⟩
    clear hw' hw w w'
    have hbyt : Byt B := hB
    repeat (first | (apply gJO; refine JO_v (V_neStrF (A := B) rfl rfl hbyt rfl) ?_) | first | (refine sx ?_; try intro _))
    exact JS_again1 again (i + 1) (by omega) (by omega) (by repeat (first | exact trivial | refine ⟨rfl, ?_⟩ | refine ⟨lookI rfl (by omega), ?_⟩)) (fun w hw => St.sub (by repeat (first | exact List.Sublist.refl _ | apply List.Sublist.cons_cons | apply List.Sublist.cons)) hw)
  · obtain rfl : i = 3 := by omega
    clear again
    repeat (first | (refine sx ?_; try intro _))
    exact JS_ret Try.func11 rfl rfl fun w hw => ⟨rfl, hback w hw⟩
end
theorem DeflateBack_l (p : Option Addr) (c m : Nat) (B : List Int) (wide : Bool) (p2 : Option Addr) (c2 m2 : Nat) (S : List Int) (w0 : World) (ha : ArgRd w0 (.slice p m c) m (ints .u8 B)) (hm : B.length = m) (hO : OKB B ∧ (p = none → m = 0) ∧ m ≤ 140737488351232)
    (ha2 : ArgRd w0 (.slice p2 m2 c2) m2 (ints .u8 S)) (hm2 : S.length = m2) (hO2 : OKB S ∧ (p2 = none → m2 = 0) ∧ m2 ≤ 140737488351232) :
    Calls Try.prog 11 #[.slice p m c, .bool wide, .slice p2 m2 c2] w0 fun e w' => e = .returned (.bool true) ∧ RowKit.Below w0.heap.size w0 w' :=
  (DeflateBack_c (w0 := w0) (H := []) p c m B wide p2 c2 m2 S (ha.rd _) hm hO.1 hO.2.2 (ha2.rd _) hm2 hO2.1 w0 (St.start w0)).mono fun e w' h => ⟨h.1, h.2.grown⟩
end Go.Proofs.Ytakgoflfcgofdaa
