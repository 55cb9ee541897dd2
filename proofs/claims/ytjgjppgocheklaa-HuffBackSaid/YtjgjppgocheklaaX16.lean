import Derived.Test.YtjgjppgocheklaaX13
import Derived.Test.YtjgjppgocheklaaX15
namespace Go.Proofs.Ytjgjppgocheklaa
open Sx Go
set_option linter.unusedVariables false
set_option linter.unusedSimpArgs false
attribute [local irreducible] syA fc tk
/-- lengths that are a set's -/
def OKL (B : List Int) : Prop := B.length ≤ 320 ∧ (∀ j, B.getD j 0 ≤ 15) ∧ FINE B
/-- a set that stands in memory -/
structure IsSet (w0 : World) (H : List Asn) (b : Nat) (B : List Int) : Prop where
  ok : ∃ q d s e, blk b (setCells (.slice q B.length d) (cn B) (.slice s (syA B 15).length e) (decide (tk B = 32768))) ∈ H ∧ Rd w0 H (.slice q B.length d) B.length (ints .u8 B) ∧ Rd w0 H (.slice s (syA B 15).length e) (syA B 15).length (ints .i64 (syA B 15))
  hB : OKB B
  hl : OKL B
theorem IsSet.sub {w0 H H' b B} (h : IsSet w0 H b B) (hs : H.Sublist H') : IsSet w0 H' b B := by
  obtain ⟨⟨q, d, s, e, h1, h2, h3⟩, hB, hl⟩ := h
  exact ⟨⟨q, d, s, e, hs.subset h1, Rd_weak h2 fun w hw => St.sub hs hw, Rd_weak h3 fun w hw => St.sub hs hw⟩, hB, hl⟩
theorem OKB_of {B : List Int} (h : B.all (fun x => decide (0 ≤ x ∧ x < 256)) = true) : OKB B := by
  intro j
  rw [List.getD_eq_getElem?_getD]
  rcases Nat.lt_or_ge j B.length with hj | hj
  · rw [List.getElem?_eq_getElem hj]
    exact of_decide_eq_true (List.all_eq_true.1 h _ (List.getElem_mem hj))
  · rw [List.getElem?_eq_none hj]; decide
theorem le15_of {B : List Int} (h : B.all (fun x => decide (x ≤ 15)) = true) : ∀ j, B.getD j 0 ≤ 15 := by
  intro j
  rw [List.getD_eq_getElem?_getD]
  rcases Nat.lt_or_ge j B.length with hj | hj
  · rw [List.getElem?_eq_getElem hj]
    exact of_decide_eq_true (List.all_eq_true.1 h _ (List.getElem_mem hj))
  · rw [List.getElem?_eq_none hj]; decide
/-- the error of lengths -/
def BADL (B : List Int) (r : Int) : Prop := ((320 < B.length ∨ ∃ j, 15 < B.getD j 0) ∧ r = 1) ∨ (B.length ≤ 320 ∧ (∀ j, B.getD j 0 ≤ 15) ∧ ¬ FINE B ∧ r = 62)
theorem BADL.not {B r} (h : BADL B r) : ¬ OKL B := by
  rintro ⟨h1, h2, h3⟩
  rcases h with ⟨h4 | ⟨j, h4⟩, _⟩ | ⟨_, _, h4, _⟩
  · omega
  · have := h2 j; omega
  · exact h4 h3
theorem BADL.one {B r r'} (h : BADL B r) (h' : BADL B r') : r = r' := by
  rcases h with ⟨h1, h2⟩ | ⟨h1, h3, h4, h2⟩ <;> rcases h' with ⟨h5, h6⟩ | ⟨h5, h7, h8, h6⟩
  · omega
  · exfalso
    rcases h1 with h1 | ⟨j, h1⟩
    · omega
    · have := h7 j; omega
  · exfalso
    rcases h5 with h5 | ⟨j, h5⟩
    · omega
    · have := h3 j; omega
  · omega
theorem BADL.pos {B r} (h : BADL B r) : r = 1 ∨ r = 62 := by
  rcases h with ⟨_, h⟩ | ⟨_, _, _, h⟩ <;> omega
theorem Make2_c {w0 : World} {H : List Asn} (p : Option Addr) (c m : Nat) (B : List Int) (hr : Rd w0 H (.slice p m c) m (ints .u8 B)) (hm : B.length = m) (hB : OKB B) (hm1 : m ≤ 140737488355328) (hpm : p = none → m = 0) (w : World) (hw : St w0 H w) :
    Calls Try.prog 15 #[.slice p m c] w fun e w' => ∃ u r, e = .returned (.tuple #[u, .int .i64 r]) ∧
      ((BADL B r ∧ u = .pointer none ∧ St w0 H w') ∨ (OKL B ∧ r = 0 ∧ ∃ b a1 a2 a3, u = .pointer (some ⟨b, 0, none⟩) ∧ IsSet w0 (a1 :: a2 :: a3 :: H) b B ∧ St w0 (a1 :: a2 :: a3 :: H) w')) := by
  refine (Make_c p c m B hr hm hB hm1 hpm w hw).mono ?_
  rintro e w' ⟨u, r, rfl, h⟩
  refine ⟨u, r, rfl, ?_⟩
  subst hm
  rcases h with ⟨h1, rfl, rfl, h2⟩ | ⟨h1, h15, h2, rfl, rfl, h3⟩ | ⟨h1, h15, h2, rfl, b, q, d, s, k, rfl, h3⟩
  · exact .inl ⟨.inl ⟨h1, rfl⟩, rfl, h2⟩
  · exact .inl ⟨.inr ⟨h1, h15, fun h => h2 ((fine_iff B hB h15).2 h), rfl⟩, rfl, h3⟩
  · refine .inr ⟨⟨h1, h15, (fine_iff B hB h15).1 h2⟩, rfl, b, _, _, _, rfl, ⟨⟨q, d, s, k, (by repeat (first | apply List.Mem.head | apply List.Mem.tail)), vec_rd (by repeat (first | apply List.Mem.head | apply List.Mem.tail)), vec_rd (by repeat (first | apply List.Mem.head | apply List.Mem.tail))⟩, hB, ⟨h1, h15, (fine_iff B hB h15).1 h2⟩⟩, h3⟩
theorem Codes2_c {w0 : World} {H : List Asn} (b m : Nat) (B : List Int) (hm : B.length = m) (hs : IsSet w0 H b B) (w : World) (hw : St w0 H w) :
    Calls Try.prog 22 #[.pointer (some ⟨b, 0, none⟩)] w fun e w' => ∃ p c, e = .returned (.slice p m c) ∧ St w0 (vec 42 1 (.slice p m c) m (ints .u32 (cds B 16 0)) :: H) w' := by
  subst hm
  obtain ⟨⟨q, d, s, e, h1, h2, h3⟩, hB, hl⟩ := hs
  exact Codes_c b q s d e _ B _ _ h1 h2 h3 rfl hB hl.2.1 (by have := hl.1; omega) w hw
theorem Full2_c {w0 : World} {H : List Asn} (b : Nat) (B : List Int) (hs : IsSet w0 H b B) (w : World) (hw : St w0 H w) :
    Calls Try.prog 24 #[.pointer (some ⟨b, 0, none⟩)] w fun e w' => e = .returned (.bool (decide (tk B = 32768))) ∧ St w0 H w' := by
  obtain ⟨⟨q, d, s, e, h1, h2, h3⟩, hB, hl⟩ := hs
  exact Full_c b _ _ _ _ h1 w hw
theorem Length2_c {w0 : World} {H : List Asn} (b : Nat) (B : List Int) (hs : IsSet w0 H b B) (k : Int) (hk : -9223372036854775808 ≤ k ∧ k < 9223372036854775808) (w : World) (hw : St w0 H w) :
    Calls Try.prog 25 #[.pointer (some ⟨b, 0, none⟩), .int .i64 k] w fun e w' => ∃ r, e = .returned (.int .i64 r) ∧ St w0 H w' ∧ (((k < 0 ∨ B.length ≤ k) ∧ r = 0) ∨ (0 ≤ k ∧ k < B.length ∧ r = B.getD k.toNat 0)) := by
  obtain ⟨⟨q, d, s, e, h1, h2, h3⟩, hB, hl⟩ := hs
  exact Length_c b q d _ B _ _ _ h1 h2 rfl hB k hk w hw
theorem Read2_c {w0 : World} {H : List Asn} (b b2 : Nat) (B B2 : List Int) (hs : IsSet w0 H b B) (q : Option Addr) (d m2 : Nat) (hr : Rd w0 H (.slice q m2 d) m2 (ints .u8 B2)) (hm2 : B2.length = m2) (hB2 : OKB B2) (hmx : m2 ≤ 140737488355328) (n : Nat) (hn : n ≤ 8 * m2)
    (w : World) (hw : St w0 (blk b2 [.slice q m2 d, .int .i64 n] :: H) w) :
    Calls Try.prog 18 #[.pointer (some ⟨b, 0, none⟩), .pointer (some ⟨b2, 0, none⟩)] w fun en w' => ∃ (i : Int) (used : Nat) (r : Int), en = .returned (.tuple #[.int .i64 i, .int .i64 r]) ∧ St w0 (blk b2 [.slice q m2 d, .int .i64 (n + used : Nat)] :: H) w' ∧ n + used ≤ 8 * m2 ∧ RD B (bitB B2 n) (8 * m2 - n) i used r := by
  obtain ⟨⟨q', d', s, e, h1, h2, h3⟩, hB, hl⟩ := hs
  exact Read_c b b2 _ s q d e m2 B B2 h1 h3 hl.1 hB hl.2.1 hl.2.2 hr hm2 hB2 hmx n hn w hw
theorem ReadNil_c {w0 : World} {H : List Asn} (v : Value) (w : World) (hw : St w0 H w) :
    Calls Try.prog 18 #[v, .pointer none] w fun e w' => e = .returned (.tuple #[.int .i64 0, .int .i64 1]) ∧ St w0 H w' := by
  refine enter (vs := [v, .pointer none]) Try.func18 rfl rfl rfl hw ?_
  repeat (first | (apply gJO; first | (apply kS; refine aK ?_) | (apply kX; refine JO_box rfl rfl rfl ?_; intro _) | (apply kA; refine JO_alloc (tb := tb) rfl rfl ?_; intro _) | (apply kBs; refine JO_buildSlice (tb := tb) rfl rfl rfl rfl rfl rfl rfl rfl rfl ?_; intro _) | (apply kM; refine JO_make (tb := tb) rfl rfl rfl rfl rfl rfl (by omega) rfl ?_; intro _) | refine aO ?_) | (apply gJR; first | apply JR_un | apply JR_nil | refine JR_yes rfl rfl ?_ | refine JR_no rfl rfl rfl rfl ?_ | refine JR_noU rfl rfl rfl ?_) | (apply gJS; first | apply JS_seq | apply JS_region | apply JS_skip | apply JS_block | apply JS_inBlock | apply JS_label | refine JS_exit rfl ?_ | refine JS_condT rfl ?_ | refine JS_condF rfl ?_ | refine JS_draw [0] (by kernel_rfl) (by kernel_rfl) (by decide +kernel) ?_ | refine JS_draw [] (by kernel_rfl) (by kernel_rfl) (by decide +kernel) ?_ | refine JS_cond_T rfl (by omega) ?_ | refine JS_cond_F rfl (by omega) ?_) | (apply gQR; first | apply QR_un | apply QR_nil | refine QR_yes rfl rfl ?_ | refine QR_no rfl rfl rfl rfl ?_ | refine QR_noU rfl rfl rfl ?_) | (apply gQO; first | refine aQ ?_ | refine aQK rfl ?_))
  refine JS_ret Try.func18 rfl rfl ?_
  intro w hw
  exact ⟨rfl, hw⟩
end Go.Proofs.Ytjgjppgocheklaa
