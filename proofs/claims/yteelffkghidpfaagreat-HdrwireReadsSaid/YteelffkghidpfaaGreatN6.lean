import Derived.Test.YteelffkghidpfaaGreatN5
set_option linter.unusedVariables false
set_option linter.unusedSimpArgs false
set_option maxRecDepth 100000
namespace Go.Proofs.YteelffkghidpfaaGreat
open Sx Go
/-- what comes behind the deflated part -/
def ZT (B : List Int) (r : Res) (e : Int) (o : List Int) : Prop :=
  match r with
  | .err x => e = x ∧ o = []
  | .ok a o' => ((B.drop (2 + (a + 7) / 8)).length < 4 ∧ e = 20 ∧ o = []) ∨ (4 ≤ (B.drop (2 + (a + 7) / 8)).length ∧
      (((B.drop (2 + (a + 7) / 8)).take 4 ≠ sb4 (adl o') ∧ e = 91 ∧ o = []) ∨ ((B.drop (2 + (a + 7) / 8)).take 4 = sb4 (adl o') ∧
        ((4 < (B.drop (2 + (a + 7) / 8)).length ∧ e = 92 ∧ o = []) ∨ ((B.drop (2 + (a + 7) / 8)).length = 4 ∧ e = 0 ∧ o = o')))))
/-- what opening answers -/
def ZR (B : List Int) (L : Int) (e : Int) (o : List Int) : Prop :=
  ((L < 0 ∨ 1048576 < L) ∧ e = 1 ∧ o = []) ∨ ((0 ≤ L ∧ L ≤ 1048576) ∧ ((B.length < 2 ∧ e = 20 ∧ o = []) ∨ (2 ≤ B.length ∧
    ((¬ hdOK B ∧ e = 90 ∧ o = []) ∨ (hdOK B ∧ ∃ r, ALLR (B.drop 2) L.toNat r ∧ ZT B r e o)))))
theorem ZT_one {B : List Int} {r : Res} {e e' : Int} {o o' : List Int} (h : ZT B r e o) (h' : ZT B r e' o') : e = e' ∧ o = o' := by
  cases r with
  | err x => exact ⟨h.1.trans h'.1.symm, h.2.trans h'.2.symm⟩
  | ok a q =>
    rcases h with ⟨h1, rfl, rfl⟩ | ⟨h1, h | ⟨h2, h | h⟩⟩ <;> rcases h' with ⟨g1, rfl, rfl⟩ | ⟨g1, g | ⟨g2, g | g⟩⟩ <;> first | (exfalso; omega) | skip
    · exact ⟨rfl, rfl⟩
    · exact ⟨h.2.1.trans g.2.1.symm, h.2.2.trans g.2.2.symm⟩
    · exact absurd g2 h.1
    · exact absurd g2 h.1
    · exact absurd h2 g.1
    · exact ⟨h.2.1.trans g.2.1.symm, h.2.2.trans g.2.2.symm⟩
    · exact absurd h2 g.1
    · exact ⟨h.2.1.trans g.2.1.symm, h.2.2.trans g.2.2.symm⟩
theorem ZR_one {B : List Int} {L e e' : Int} {o o' : List Int} (h : ZR B L e o) (h' : ZR B L e' o') : e = e' ∧ o = o' := by
  rcases h with ⟨h1, rfl, rfl⟩ | ⟨h1, ⟨h2, rfl, rfl⟩ | ⟨h2, ⟨h3, rfl, rfl⟩ | ⟨h3, r, h4, h5⟩⟩⟩ <;> rcases h' with ⟨g1, rfl, rfl⟩ | ⟨g1, ⟨g2, rfl, rfl⟩ | ⟨g2, ⟨g3, rfl, rfl⟩ | ⟨g3, r', g4, g5⟩⟩⟩ <;> first | (exfalso; omega) | exact ⟨rfl, rfl⟩ | exact absurd g3 h3 | exact absurd h3 g3 | skip
  rw [It.one h4 g4] at h5
  exact ZT_one h5 g5
section
variable {w0 : World} {H : List Asn}
set_option maxRecDepth 10000 in
/-- the reference's Pack -/
theorem RPack9_c (p : Option Addr) (c m : Nat) (B : List Int) (hr : Rd w0 H (.slice p m c) m (ints .u8 B)) (hm : B.length = m) (hB : OKB B) (h4 : m ≤ 1100000) (w : World) (hw : St w0 H w) :
    Calls Tryz.prog 48 #[.slice p m c] w fun e w' => ∃ q d, e = .returned (.slice q (pkB B).length d) ∧ St w0 (vec 5 1 (.slice q (pkB B).length d) (pkB B).length (ints .u8 (pkB B)) :: H) w' := by
  refine enter (vs := [.slice p m c]) Tryz.func48 rfl rfl rfl hw ?_
  clear hw w
  have o3 : OKB (bestB B) := by have o1 := pack_okb' (fixL B) (fixL_01 B); have o2 := sbs_okb hB; unfold bestB; split <;> assumption
  have o4 := bestB_pos B
  have o5 := bestB_len hB
  obtain ⟨E, hE⟩ : ∃ E, bestB B = E := ⟨_, rfl⟩
  obtain ⟨s, hs⟩ : ∃ s, adl B = s := ⟨_, rfl⟩
  have hD := fun {H} hr w hw => RBest_c (H := H) (w0 := w0) p c m B hr hm hB h4 w hw
  have hS := fun {H} hr w hw => RSum9_c (H := H) (w0 := w0) p c m B hr hm hB (by omega) w hw
  have hP : pkB B = [120, 1] ++ E ++ sb4 s := by unfold pkB; rw [hE, hs]
  have hl : ([120, 1] ++ E ++ sb4 s).length = 2 + E.length + 4 := by simp [sb4]; omega
  rw [hE] at o3 o4 o5 hD
  rw [hs] at hS
  rw [hP, hl]
  repeat (first | (refine sx ?_; try intro _))
  refine JO_call Tryz.call82 rfl rfl fun w hw => (hD (Rd_weak hr fun w hw => dS hw) w hw).mono ?_
  rintro e w' ⟨q1, d1, rfl, hw'⟩
  refine ⟨_, rfl, _, hw', ?_⟩
  clear hw' hw w w'
  repeat (first | (apply gJO; (refine JO_app (tb := tb) rfl rfl rfl rfl rfl rfl (by repeat (first | exact Sel.here _ _ | apply Sel.there)) (by first | exact vec_rd (by repeat (first | apply List.Mem.head | apply List.Mem.tail)) | assumption | exact ArgRd.rd (by assumption) _ | (apply Rd_weak; assumption; intro _ hx; exact dS hx)) (by simp only [ints_len, List.length_cons, List.length_nil]; first | omega | rfl) (by first | exact ints_one | (repeat (first | exact trivial | refine ⟨rfl, ?_⟩))) (by omega) rfl ?_; intro _ _)) | (first | (refine sx ?_; try intro _)))
  refine JO_call Tryz.call83 rfl rfl fun w hw => (hS (Rd_weak hr fun w hw => dS hw) w hw).mono ?_
  rintro e w' ⟨q2, d2, rfl, hw'⟩
  refine ⟨_, rfl, _, hw', ?_⟩
  clear hw' hw w w'
  repeat (first | (apply gJO; (refine JO_app (tb := tb) rfl rfl rfl rfl rfl rfl (by repeat (first | exact Sel.here _ _ | apply Sel.there)) (by first | exact vec_rd (by repeat (first | apply List.Mem.head | apply List.Mem.tail)) | assumption | exact ArgRd.rd (by assumption) _ | (apply Rd_weak; assumption; intro _ hx; exact dS hx)) (by simp only [ints_len, List.length_cons, List.length_nil]; first | omega | rfl) (by first | exact ints_one | (repeat (first | exact trivial | refine ⟨rfl, ?_⟩))) (by omega) rfl ?_; intro _ _)) | (first | (refine sx ?_; try intro _)))
  exact JS_ret Tryz.func48 rfl rfl fun w hw => ⟨_, _, rfl, by rw [← ints_app, ← ints_app]; exact dS hw⟩
end
end Go.Proofs.YteelffkghidpfaaGreat

set_option linter.unusedVariables false
set_option linter.unusedSimpArgs false
set_option maxRecDepth 100000
namespace Go.Proofs.YteelffkghidpfaaGreat
open Sx Go
theorem eq66 (a b : List Int) (ha : a.length = 4) (hb : b.length = 4) (w : World) : (Op.equalIn 10000 116 (.agg (ints .u8 a).toArray) (.agg (ints .u8 b).toArray)).run Tryz.prog w = .ok (decide (a = b)) w := by
  match a, ha, b, hb with
  | [a0, a1, a2, a3], _, [b0, b1, b2, b3], _ =>
  have hu : Tryz.prog.underlying 116 = some (.array 4 5) := by kernel_rfl
  have hs : (Tryz.prog.info? 5).isSome = true := by kernel_rfl
  obtain ⟨i, hi⟩ := Option.isSome_iff_exists.1 hs
  have e0 := und_int (tb := tb) (t := 5) rfl
  have hc : Tryz.prog.cellsOf 5 = 1 := by kernel_rfl
  have hp : Tryz.prog.plainKey 5 = true := by kernel_rfl
  have E : ∀ x y : Int, (Op.equalIn 9999 5 (.int .u8 x) (.int .u8 y)).run Tryz.prog w = .ok (x == y) w := fun x y => run_equalIn_int (P := Tryz.prog) w 9998 5 .u8 .u8 x y e0
  have P : ∀ (xs : Array Value) (j : Nat) (v : Value), xs[j]? = some v → (part 5 xs j).run Tryz.prog w = .ok v w := fun xs j v h => run_part_plain (P := Tryz.prog) (w := w) (e := 5) hp h
  rw [run_equalIn_array (P := Tryz.prog) (w := w) 9999 _ _ hu hi, hc]
  have r4 : List.range 4 = [0, 1, 2, 3] := rfl
  have p0 := P (ints .u8 [a0, a1, a2, a3]).toArray 0 (.int .u8 a0) rfl
  have p1 := P (ints .u8 [a0, a1, a2, a3]).toArray 1 (.int .u8 a1) rfl
  have p2 := P (ints .u8 [a0, a1, a2, a3]).toArray 2 (.int .u8 a2) rfl
  have p3 := P (ints .u8 [a0, a1, a2, a3]).toArray 3 (.int .u8 a3) rfl
  have q0 := P (ints .u8 [b0, b1, b2, b3]).toArray 0 (.int .u8 b0) rfl
  have q1 := P (ints .u8 [b0, b1, b2, b3]).toArray 1 (.int .u8 b1) rfl
  have q2 := P (ints .u8 [b0, b1, b2, b3]).toArray 2 (.int .u8 b2) rfl
  have q3 := P (ints .u8 [b0, b1, b2, b3]).toArray 3 (.int .u8 b3) rfl
  rw [r4]
  simp only [Op.eqItems, Nat.zero_mul, Nat.mul_one, Sem.run_bind, p0, p1, p2, p3, q0, q1, q2, q3, E, Result.andThen_ok, Sem.run_ite, Sem.run_pure]
  by_cases h0 : a0 = b0 <;> by_cases h1 : a1 = b1 <;> by_cases h2 : a2 = b2 <;> by_cases h3 : a3 = b3 <;> simp [h0, h1, h2, h3]
theorem m66 : Tryz.prog.eqGuardType Tryz.prog.depth 116 = false := by kernel_rfl
section
variable {w0 : World} {H : List Asn}
set_option maxRecDepth 10000 in
theorem Opened_c (p : Option Addr) (c m : Nat) (B : List Int) (hr : Rd w0 H (.slice p m c) m (ints .u8 B)) (hm : B.length = m) (hB : OKB B) (h4 : m ≤ 1100000) (L : Int) (hL : -9223372036854775808 ≤ L ∧ L < 9223372036854775808) (w : World) (hw : St w0 H w) :
    Calls Tryz.prog 109 #[.slice p m c, .int .i64 L] w fun e w' => (∃ x, ZR B L x [] ∧ x ≠ 0 ∧ e = .panicked (FZ x) ∧ St w0 H w') ∨ (∃ o q d, ZR B L 0 o ∧ e = .returned (.slice q o.length d) ∧ St w0 (vec 5 1 (.slice q o.length d) o.length (ints .u8 o) :: H) w') := by
  have hmc : m ≤ c := (hr.lcap hw).1
  refine enter (vs := [.slice p m c, .int .i64 L]) Tryz.func109 rfl rfl rfl hw ?_
  clear hw w
  obtain ⟨b1, hb1⟩ : ∃ b, decide (0 ≤ L ∧ L ≤ 1048576) = b := ⟨_, rfl⟩
  by_cases h1 : L < 0
  · repeat (first | (refine sx ?_; try intro _))
    refine JO_callE Tryz.func109 Tryz.call151 rfl rfl fun A hA w hw => (Need_c _ 1 w hw).mono ?_
    rintro e w' (⟨h, rfl, hw'⟩ | ⟨h, rfl, hw'⟩)
    · cases h
    · exact .inr ⟨_, rfl, .inl ⟨1, .inl ⟨.inl h1, rfl, rfl⟩, by decide, rfl, hw'⟩⟩
  by_cases h2 : 1048576 < L
  · repeat (first | (refine sx ?_; try intro _))
    refine JO_callE Tryz.func109 Tryz.call151 rfl rfl fun A hA w hw => (Need_c _ 1 w hw).mono ?_
    rintro e w' (⟨h, rfl, hw'⟩ | ⟨h, rfl, hw'⟩)
    · cases h
    · exact .inr ⟨_, rfl, .inl ⟨1, .inl ⟨.inr h2, rfl, rfl⟩, by decide, rfl, hw'⟩⟩
  have hrr : ∀ {x o}, ((B.length < 2 ∧ x = 20 ∧ o = []) ∨ (2 ≤ B.length ∧ ((¬ hdOK B ∧ x = 90 ∧ o = []) ∨ (hdOK B ∧ ∃ r, ALLR (B.drop 2) L.toNat r ∧ ZT B r x o)))) → ZR B L x o := fun h => .inr ⟨⟨by omega, by omega⟩, h⟩
  repeat (first | (refine sx ?_; try intro _))
  refine JO_callE Tryz.func109 Tryz.call151 rfl rfl fun A hA w hw => (Need_c _ 1 w hw).mono ?_
  rintro e w' (⟨h, rfl, hw'⟩ | ⟨h, rfl, hw'⟩)
  rotate_left
  · exact absurd h (by first | (simp; done) | (simp; omega))
  refine .inl ⟨_, rfl, _, hw', ?_⟩
  clear hw' hw w w' hA A h
  by_cases h3 : m < 2
  · repeat (first | (refine sx ?_; try intro _))
    refine JO_callE Tryz.func109 Tryz.call151 rfl rfl fun A hA w hw => (Need_c _ 20 w hw).mono ?_
    rintro e w' (⟨h, rfl, hw'⟩ | ⟨h, rfl, hw'⟩)
    · exact absurd h (by first | (simp; done) | (simp; omega))
    · exact .inr ⟨_, rfl, .inl ⟨20, hrr (.inl ⟨by omega, rfl, rfl⟩), by decide, rfl, hw'⟩⟩
  repeat (first | (refine sx ?_; try intro _))
  refine JO_callE Tryz.func109 Tryz.call151 rfl rfl fun A hA w hw => (Need_c _ 20 w hw).mono ?_
  rintro e w' (⟨h, rfl, hw'⟩ | ⟨h, rfl, hw'⟩)
  rotate_left
  · exact absurd h (by first | (simp; done) | (simp; omega))
  refine .inl ⟨_, rfl, _, hw', ?_⟩
  clear hw' hw w w' hA A h
  repeat (first | (refine sx ?_; try intro _))
  refine JO_call Tryz.call152 rfl rfl fun w hw => (ZHead_c p c m B (Rd_weak hr fun w hw => dS hw) hm hB w hw).mono ?_
  rintro e w' ⟨rfl, hw'⟩
  refine ⟨_, rfl, _, hw', ?_⟩
  clear hw' hw w w'
  by_cases h5 : hdOK B
  rotate_left
  · rw [show decide (hdOK B) = false from decide_eq_false h5]
    repeat (first | (refine sx ?_; try intro _))
    refine JO_callE Tryz.func109 Tryz.call151 rfl rfl fun A hA w hw => (Need_c _ 90 w hw).mono ?_
    rintro e w' (⟨h, rfl, hw'⟩ | ⟨h, rfl, hw'⟩)
    · exact absurd h (by first | (simp; done) | (simp; omega))
    · exact .inr ⟨_, rfl, .inl ⟨90, hrr (.inr ⟨by omega, .inl ⟨h5, rfl, rfl⟩⟩), by decide, rfl, hw'⟩⟩
  rw [show decide (hdOK B) = true from decide_eq_true h5]
  repeat (first | (refine sx ?_; try intro _))
  refine JO_callE Tryz.func109 Tryz.call151 rfl rfl fun A hA w hw => (Need_c _ 90 w hw).mono ?_
  rintro e w' (⟨h, rfl, hw'⟩ | ⟨h, rfl, hw'⟩)
  rotate_left
  · exact absurd h (by first | (simp; done) | (simp; omega))
  refine .inl ⟨_, rfl, _, hw', ?_⟩
  clear hw' hw w w' hA A h
  repeat (first | (apply gJO; refine JO_v (V_slice (tb := tb) (lo := 2) (hi := m) rfl rfl rfl rfl rfl rfl (by omega) (fun w hw => ⟨by omega, by omega⟩) rfl) ?_) | first | (refine sx ?_; try intro _))
  refine JO_call Tryz.call153 rfl rfl fun w hw => (IRead_c (subB p 2 c 1) (c - 2) (m - 2) (B.drop 2) (Rd_weak (Rd_drop hr hm (by omega)) fun w hw => dS hw) (by rw [List.length_drop]; omega) (OKB_drop hB 2) (by omega) L hL w hw).mono ?_
  rintro e w' (⟨h, _⟩ | ⟨_, _, r, hA, hp⟩)
  · omega
  obtain ⟨hz, hz'⟩ : (∀ {x o}, ZT B r x o → ZR B L x o) ∧ True := ⟨fun h => hrr (.inr ⟨by omega, .inr ⟨h5, r, hA, h⟩⟩), trivial⟩
  clear hrr hz'
  cases r with
  | err x =>
    obtain ⟨rfl, hw'⟩ := hp
    have hx := ALLR_ne hA
    refine ⟨_, rfl, _, hw', ?_⟩
    clear hw' hw w w'
    repeat (first | (refine sx ?_; try intro _))
    refine JO_callE Tryz.func109 Tryz.call151 rfl rfl fun A hA w hw => (Need_c _ x w hw).mono ?_
    rintro e w' (⟨h, rfl, hw'⟩ | ⟨h, rfl, hw'⟩)
    · exact absurd h (by simp [hx])
    · exact .inr ⟨_, rfl, .inl ⟨x, hz ⟨rfl, rfl⟩, hx, rfl, hw'⟩⟩
  | ok a o =>
  obtain ⟨ha, ho, q, d, rfl, hw'⟩ := hp
  refine ⟨_, rfl, _, hw', ?_⟩
  clear hw' hw w w'
  obtain ⟨t, ht⟩ : ∃ t, (a + 7) / 8 = t := ⟨_, rfl⟩
  have hto : t ≤ m - 2 := by omega
  have hTl : (B.drop (2 + t)).length = m - (2 + t) := by rw [List.length_drop, hm]
  have hrT := Rd_drop (n := 2 + t) hr hm (by omega)
  obtain ⟨T, hT⟩ : ∃ T, B.drop (2 + t) = T := ⟨_, rfl⟩
  have hz2 : ∀ {x o'}, ((T.length < 4 ∧ x = 20 ∧ o' = []) ∨ (4 ≤ T.length ∧ ((T.take 4 ≠ sb4 (adl o) ∧ x = 91 ∧ o' = []) ∨ (T.take 4 = sb4 (adl o) ∧ ((4 < T.length ∧ x = 92 ∧ o' = []) ∨ (T.length = 4 ∧ x = 0 ∧ o' = o)))))) → ZR B L x o' := fun h => hz (by unfold ZT; dsimp only; rw [ht, hT]; exact h)
  have hoB : OKB o := ALLR_okb hA
  rw [hT] at hTl hrT
  rw [ht]
  clear hz
  repeat (first | (refine sx ?_; try intro _))
  refine JO_callE Tryz.func109 Tryz.call151 rfl rfl fun A hA w hw => (Need_c _ 0 w hw).mono ?_
  rintro e w' (⟨h, rfl, hw'⟩ | ⟨h, rfl, hw'⟩)
  rotate_left
  · exact absurd h (by first | (simp; done) | (simp; omega))
  refine .inl ⟨_, rfl, _, hw', ?_⟩
  clear hw' hw w w' hA A h
  repeat (first | (apply gJO; refine JO_v (V_slice (tb := tb) (lo := 2 + t) (hi := m) rfl rfl rfl rfl rfl (by omega) (by omega) (fun w hw => ⟨by omega, by omega⟩) rfl) ?_) | first | (refine sx ?_; try intro _))
  by_cases h6 : m - (2 + t) < 4
  · refine JO_callE Tryz.func109 Tryz.call151 rfl rfl fun A hA w hw => (Need_c _ 20 w hw).mono ?_
    rintro e w' (⟨h, rfl, hw'⟩ | ⟨h, rfl, hw'⟩)
    · exact absurd h (by first | (simp; done) | (simp; omega))
    · exact .inr ⟨_, rfl, .inl ⟨20, hz2 (.inl ⟨by omega, rfl, rfl⟩), by decide, rfl, hw'.drop⟩⟩
  refine JO_callE Tryz.func109 Tryz.call151 rfl rfl fun A hA w hw => (Need_c _ 20 w hw).mono ?_
  rintro e w' (⟨h, rfl, hw'⟩ | ⟨h, rfl, hw'⟩)
  rotate_left
  · exact absurd h (by first | (simp; done) | (simp; omega))
  refine .inl ⟨_, rfl, _, hw', ?_⟩
  clear hw' hw w w' hA A h
  have hr4 := Rd_take (n := 4) hrT hTl (by omega)
  have hl4 : (T.take 4).length = 4 := by rw [List.length_take]; omega
  have hadl := adl_bd hoB
  obtain ⟨s, hs⟩ : ∃ s, adl o = s := ⟨_, rfl⟩
  repeat (first | apply hIx 8 | first | (refine sx ?_; try intro _))
  refine Hold.go ?_
  have hv : ((ints .u8 T).drop (0 * 1)).take 4 = ints .u8 (T.take 4) := by simp [ints, List.map_take]
  have hvl : (ints .u8 (T.take 4)).length = 4 := by simp only [ints_len]; exact hl4
  have heq := eq66 (T.take 4) (sb4 s) hl4 rfl
  refine JS_seq ?_
  refine JS_draw [0] (by kernel_rfl) (by kernel_rfl) (by decide +kernel) ?_
  repeat (first | (apply gQO; first | refine QO_v rfl (V_slice (tb := tb) (lo := 0) (hi := 4) rfl rfl rfl rfl rfl (by rfl) (by rfl) (fun w hw => ⟨by omega, by omega⟩) rfl) ?_ | refine QO_v rfl (V_arrayAt (tb := tb) rfl rfl (by omega) rfl) ?_ | refine QO_v rfl (V_loadSub (tb := tb) (lo := 0) (q := 4) rfl (Rd_weak hrT fun w hw => dS hw) rfl rfl (by omega) rfl (by decide) hvl hv rfl) ?_) | first | (refine sx ?_; try intro _))
  refine QO_call Tryz.call78 rfl rfl fun w hw => (ZSum_c q d o.length o (vec_rd (by repeat (first | apply List.Mem.head | apply List.Mem.tail))) rfl hoB (by omega) w hw).mono ?_
  rintro e w' ⟨rfl, hw'⟩
  refine ⟨_, rfl, _, hw', .inl fun w hw => hw, ?_⟩
  clear hw' hw w w'
  rw [hs] at hz2 hadl ⊢
  repeat (first | (apply gQO; refine QO_v rfl (V_eqArr (us := ints .u8 (T.take 4)) (vs := ints .u8 (sb4 s)) rfl rfl m66 heq rfl) ?_) | first | (refine sx ?_; try intro _))
  refine QO_callE Tryz.call151 rfl rfl fun w hw => (Need_c _ 91 w hw).mono ?_
  rintro e w' (⟨h, rfl, hw'⟩ | ⟨h, rfl, hw'⟩)
  rotate_left
  · exact .inr ⟨_, rfl, QK_e Tryz.func109 (.inl ⟨91, hz2 (.inr ⟨by omega, .inl ⟨of_decide_eq_false h, rfl, rfl⟩⟩), by decide, rfl, hw'.drop⟩)⟩
  have h7 := of_decide_eq_true h
  refine .inl ⟨_, rfl, _, hw', .inr rfl, ?_⟩
  clear hw' hw w w' h
  by_cases h8 : 4 < m - (2 + t)
  · repeat (first | (refine sx ?_; try intro _))
    refine JO_callE Tryz.func109 Tryz.call151 rfl rfl fun A hA w hw => (Need_c _ 92 w hw).mono ?_
    rintro e w' (⟨h, rfl, hw'⟩ | ⟨h, rfl, hw'⟩)
    · exact absurd h (by first | (simp; done) | (simp; omega))
    · exact .inr ⟨_, rfl, .inl ⟨92, hz2 (.inr ⟨by omega, .inr ⟨h7, .inl ⟨by omega, rfl, rfl⟩⟩⟩), by decide, rfl, hw'.drop⟩⟩
  repeat (first | (refine sx ?_; try intro _))
  refine JO_callE Tryz.func109 Tryz.call151 rfl rfl fun A hA w hw => (Need_c _ 92 w hw).mono ?_
  rintro e w' (⟨h, rfl, hw'⟩ | ⟨h, rfl, hw'⟩)
  rotate_left
  · exact absurd h (by first | (simp; done) | (simp; omega))
  refine .inl ⟨_, rfl, _, hw', ?_⟩
  clear hw' hw w w' hA A h
  repeat (first | (refine sx ?_; try intro _))
  exact JS_ret Tryz.func109 rfl rfl fun w hw => .inr ⟨o, q, d, hz2 (.inr ⟨by omega, .inr ⟨h7, .inr ⟨by omega, rfl, rfl⟩⟩⟩), rfl, hw⟩
set_option maxRecDepth 10000 in
/-- zlib.Open -/
theorem ZOpen_c (p : Option Addr) (c m : Nat) (B : List Int) (hr : Rd w0 H (.slice p m c) m (ints .u8 B)) (hm : B.length = m) (hB : OKB B) (h4 : m ≤ 1100000) (L : Int) (hL : -9223372036854775808 ≤ L ∧ L < 9223372036854775808) (w : World) (hw : St w0 H w) :
    Calls Tryz.prog 69 #[.slice p m c, .int .i64 L] w fun e w' => ∃ x o q d, ZR B L x o ∧ e = .returned (.tuple #[.slice q o.length d, .int .i64 x]) ∧ St w0 (vec 5 1 (.slice q o.length d) o.length (ints .u8 o) :: H) w' := by
  refine enter (vs := [.slice p m c, .int .i64 L]) Tryz.func69 rfl rfl rfl hw ?_
  clear hw w
  repeat (first | (apply gJR; first | (refine sx ?_; try intro _)) | (apply gJO; first | (refine JO_deferv rfl rfl rfl ?_) | (refine JO_defer rfl rfl ?_) | first | (refine sx ?_; try intro _)) | apply JS_seq | apply JS_region)
  rename_i bo be
  refine JO_callE Tryz.func69 Tryz.call109 rfl rfl fun A hA w hw => (Opened_c p c m B (Rd_weak hr fun w hw => dS hw) hm hB h4 L hL w hw).mono ?_
  rintro e w' (⟨x, hz, hx, rfl, hw'⟩ | ⟨o, q, d, hz, rfl, hw'⟩)
  · exact .inr ⟨_, rfl, LvZ_err (hA.sub (by repeat (first | exact trivial | refine ⟨rfl, ?_⟩ | refine ⟨lookI rfl (by omega), ?_⟩))) (hw'.perm (List.Perm.swap _ _ _)) fun w hw => ⟨x, [], none, 0, hz, rfl, hw.nilvec⟩⟩
  refine .inl ⟨_, rfl, _, hw', ?_⟩
  clear hw' hw w w' hA A
  repeat (first | (refine sx ?_; try intro _))
  refine JS_retD Tryz.func69 fun A w hA hw => LvZ_ok (H := vec 5 1 (.slice q o.length d) o.length (ints .u8 o) :: H) (hA.sub (by repeat (first | exact trivial | refine ⟨rfl, ?_⟩ | refine ⟨lookI rfl (by omega), ?_⟩))) (hw.perm (by (repeat (first | exact List.Perm.refl _ | refine List.Perm.cons _ ?_ | refine (List.perm_middle (l₁ := [_])).trans (List.Perm.cons _ ?_) | refine (List.perm_middle (l₁ := [_, _])).trans (List.Perm.cons _ ?_) | refine (List.perm_middle (l₁ := [_, _, _])).trans (List.Perm.cons _ ?_) | refine (List.perm_middle (l₁ := [_, _, _, _])).trans (List.Perm.cons _ ?_) | refine (List.perm_middle (l₁ := [_, _, _, _, _])).trans (List.Perm.cons _ ?_) | refine (List.perm_middle (l₁ := [_, _, _, _, _, _])).trans (List.Perm.cons _ ?_) | refine (List.perm_middle (l₁ := [_, _, _, _, _, _, _])).trans (List.Perm.cons _ ?_) | refine (List.perm_middle (l₁ := [_, _, _, _, _, _, _, _])).trans (List.Perm.cons _ ?_) | refine (List.perm_middle (l₁ := [_, _, _, _, _, _, _, _, _])).trans (List.Perm.cons _ ?_) | refine (List.perm_middle (l₁ := [_, _, _, _, _, _, _, _, _, _])).trans (List.Perm.cons _ ?_) | refine (List.perm_middle (l₁ := [_, _, _, _, _, _, _, _, _, _, _])).trans (List.Perm.cons _ ?_) | refine (List.perm_middle (l₁ := [_, _, _, _, _, _, _, _, _, _, _, _])).trans (List.Perm.cons _ ?_) | refine (List.perm_middle (l₁ := [_, _, _, _, _, _, _, _, _, _, _, _, _])).trans (List.Perm.cons _ ?_))))) fun w hw => ⟨0, o, q, d, hz, rfl, hw⟩
end
end Go.Proofs.YteelffkghidpfaaGreat

namespace Go.Proofs.YteelffkghidpfaaGreat
open Sx Go
set_option linter.unusedVariables false
set_option linter.unusedSimpArgs false
set_option maxRecDepth 100000
attribute [local irreducible] syA fc tk cds
theorem bval_take (c : Int) (n : Nat) (hc : 0 ≤ c ∧ c < 2 ^ n) : ∀ k, k ≤ n → bval (fun j => (bms c n).getD j 0) k = c / 2 ^ (n - k) := by
  intro k
  induction k with
  | zero => intro _; rw [Nat.sub_zero]; exact (Int.ediv_eq_zero_of_lt hc.1 hc.2).symm
  | succ k ih =>
    intro hk
    have h1 := ih (by omega)
    have h2 : (bms c n).getD k 0 = c / 2 ^ (n - 1 - k) % 2 := by simp [bms, List.getD_eq_getElem?_getD, show k < n by omega]
    rw [show n - k = (n - (k + 1)) + 1 by omega, div_step] at h1
    rw [show n - 1 - k = n - (k + 1) by omega] at h2
    show 2 * bval (fun j => (bms c n).getD j 0) k + (bms c n).getD k 0 = _
    omega
end Go.Proofs.YteelffkghidpfaaGreat

namespace Go.Proofs.YteelffkghidpfaaGreat
open Sx Go
set_option linter.unusedVariables false
set_option linter.unusedSimpArgs false
set_option maxRecDepth 100000
attribute [local irreducible] syA fc tk cds
/-! ## another stream with the same bits up to a place -/
theorem bval_cg {b b' : Nat → Int} : ∀ {n : Nat}, (∀ j, j < n → b j = b' j) → bval b n = bval b' n
  | 0, _ => rfl
  | n + 1, h => by simp only [bval]; rw [bval_cg (n := n) (fun j hj => h j (by omega)), h n (by omega)]
structure AG (bt bt' : Nat → Int) (N N' M : Nat) : Prop where
  eq : ∀ j, j < M → bt j = bt' j
  le : M ≤ N
  le' : M ≤ N'
  b : ∀ j, bt j = 0 ∨ bt j = 1
  b' : ∀ j, bt' j = 0 ∨ bt' j = 1
section
variable {bt bt' : Nat → Int} {N N' M : Nat}
theorem AG.nbt (h : AG bt bt' N N' M) {a c : Nat} (hc : a + c ≤ M) : nbt bt a c = nbt bt' a c := nbt_congr fun j hj => h.eq _ (by omega)
def AGg (M : Nat) (c : Prop) (f f' : Nat → List Int → Stp) : Prop := ∀ a o a' o', a ≤ M → f a o = .go a' o' → (a' ≤ M → f' a o = .go a' o') ∧ (c → M < a' → f' a o = .err 20)
def AGs (M : Nat) (c : Prop) (f f' : Nat → List Int → Stp) : Prop := ∀ a o a' o', a ≤ M → f a o = .stop a' o' → (a' ≤ M → f' a o = .stop a' o') ∧ (c → M < a' → f' a o = .err 20)
def AGr (M : Nat) (c : Prop) (f f' : Nat → List Int → Res) : Prop := ∀ a o a' o', a ≤ M → f a o = .ok a' o' → (a' ≤ M → f' a o = .ok a' o') ∧ (c → M < a' → f' a o = .err 20)
end
end Go.Proofs.YteelffkghidpfaaGreat

set_option linter.unusedVariables false
set_option linter.unusedSimpArgs false
set_option maxRecDepth 100000
namespace Go.Proofs.YteelffkghidpfaaGreat
open Sx Go
attribute [local irreducible] syA fc tk cds
/-! ## tokens' bits are read as the text -/
/-- from a place on stand these bits -/
def AtB (bt : Nat → Int) (a : Nat) (L : List Int) : Prop := ∀ j, j < L.length → bt (a + j) = L.getD j 0
theorem AtB.left {bt : Nat → Int} {a : Nat} {L M : List Int} (h : AtB bt a (L ++ M)) : AtB bt a L := fun j hj => by
  rw [h j (by rw [List.length_append]; omega), List.getD_eq_getElem?_getD, List.getElem?_append_left hj, ← List.getD_eq_getElem?_getD]
theorem AtB.right {bt : Nat → Int} {a : Nat} {L M : List Int} (h : AtB bt a (L ++ M)) : AtB bt (a + L.length) M := fun j hj => by
  rw [Nat.add_assoc, h (L.length + j) (by rw [List.length_append]; omega), List.getD_eq_getElem?_getD, List.getElem?_append_right (by omega), Nat.add_sub_cancel_left, ← List.getD_eq_getElem?_getD]
theorem sym_bits {bt : Nat → Int} {N a : Nat} {L : List Int} (hB : OKB L) (hk : OKL L) (hb : ∀ j, bt j = 0 ∨ bt j = 1) {i n : Nat} (hi : i < L.length) (h0 : 0 < n) (hn : L.getD i 0 = (n : Int)) (hN : a + n ≤ N) (h : AtB bt a (bms (cd L i) n)) : symS bt N L a = .ok i (a + n) := by
  have hc := cd_lt L hB hk i n hi h0 hn
  have hv : bval (fun j => bt (a + j)) n = cd L i := by
    rw [bval_cg (b' := fun j => (bms (cd L i) n).getD j 0) (fun j hj => h j (by rw [bms_ln]; exact hj)), bval_take (cd L i) n hc n (Nat.le_refl _), Nat.sub_self, Int.pow_zero, Int.ediv_one]
  have := symS_of (bt := bt) (N := N) (a := a) hB hk hb (i := i) (u := n) (r := 0) (.inl ⟨i, rfl, rfl, ⟨n, hi, h0, hn, by omega, hv⟩, hn⟩)
  rw [if_pos rfl] at this
  exact this
theorem nbt_at {bt : Nat → Int} {a k : Nat} {r : Int} (hr : 0 ≤ r ∧ r < 2 ^ k) (h : AtB bt a (grp r k)) : nbt bt a k = r := by
  rw [← bnum_nbt, num_congr (g := fun t => r / 2 ^ t % 2) k (fun t ht => by rw [h t (by rw [grp_len]; exact ht), grp_get ht]), bnum_bits, Int.emod_eq_of_lt hr.1 hr.2]
/-- the bytes are the same as those so far back -/
theorem sam_same (B : List Int) : ∀ (f i k j : Nat), j < sam B i k f → B.getD (i + j) 0 = B.getD (k + j) 0
  | 0, i, k, j, h => by rw [sam] at h; omega
  | f + 1, i, k, j, h => by
    rw [sam] at h
    split at h
    · rename_i hc
      cases j with
      | zero => exact hc.2
      | succ j =>
        have := sam_same B f (i + 1) (k + 1) j (by omega)
        rw [show i + (j + 1) = i + 1 + j by omega, show k + (j + 1) = k + 1 + j by omega]; exact this
    · omega
theorem bst_same (B : List Int) (at_ : Nat) : ∀ (i : Nat) (s : Nat × Nat), i ≤ at_ → (s.1 = 0 ∨ (s.1 = sam B (at_ - s.2) at_ 258 ∧ s.2 ≤ at_)) → (bst B at_ i s).1 = 0 ∨ ((bst B at_ i s).1 = sam B (at_ - (bst B at_ i s).2) at_ 258 ∧ (bst B at_ i s).2 ≤ at_)
  | 0, s, _, h => by rw [bst]; exact h
  | i + 1, s, hi, h => by
    rw [bst]
    split
    · exact h
    · refine bst_same B at_ i _ (by omega) ?_
      split
      · right
        refine ⟨?_, by show at_ - i ≤ at_; omega⟩
        show sam B i at_ 258 = sam B (at_ - (at_ - i)) at_ 258
        rw [show at_ - (at_ - i) = i by omega]
      · exact h
theorem tok_same {B : List Int} {at_ n d : Nat} {x : Int} (h : tok B at_ = (x, n, d)) : ∀ j, j < n → B.getD (at_ - d + j) 0 = B.getD (at_ + j) 0 := by
  intro j hj
  have hb := bst_same B at_ at_ (0, 0) (Nat.le_refl _) (.inl rfl)
  unfold tok at h
  split at h
  · have : n = 0 := (Prod.mk.inj (Prod.mk.inj h).2).1.symm
    omega
  · have h1 := (Prod.mk.inj (Prod.mk.inj h).2).1
    have h2 := (Prod.mk.inj (Prod.mk.inj h).2).2
    rw [h1, h2] at hb
    rcases hb with hb | hb
    · omega
    · exact sam_same B 258 (at_ - d) at_ j (by omega)
theorem cpy_take {B : List Int} {at_ d : Nat} (h1 : 1 ≤ d) (h2 : d ≤ at_) : ∀ n, at_ + n ≤ B.length → (∀ j, j < n → B.getD (at_ - d + j) 0 = B.getD (at_ + j) 0) → cpy (B.take at_) d n = B.take (at_ + n)
  | 0, _, _ => rfl
  | n + 1, hn, hs => by
    have ih := cpy_take h1 h2 n (by omega) (fun j hj => hs j (by omega))
    have hl : (B.take (at_ + n)).length = at_ + n := by rw [List.length_take]; omega
    rw [cpy, ih, hl, ← Nat.add_assoc, List.take_add_one, List.getElem?_eq_getElem (show at_ + n < B.length by omega)]
    have e := hs n (by omega)
    have g : (B.take (at_ + n)).getD (at_ + n - d) 0 = B.getD (at_ + n) 0 := by
      rw [List.getD_eq_getElem?_getD, List.getElem?_take, if_pos (by omega), ← List.getD_eq_getElem?_getD, ← e, show at_ + n - d = at_ - d + n by omega]
    rw [g, List.getD_eq_getElem?_getD, List.getElem?_eq_getElem (show at_ + n < B.length by omega)]
    rfl
/-- a token's bits, by any codes -/
def tkg (cl cs : Nat → List Int) (t : Int × Nat × Nat) : List Int :=
  if t.2.2 = 0 then cl t.1.toNat
  else cl (lenS t.2.1).1.toNat ++ grp (lenS t.2.1).2.2 (lenS t.2.1).2.1.toNat ++ cs (spanS t.2.2).1.toNat ++ grp (spanS t.2.2).2.2 (spanS t.2.2).2.1.toNat
/-- a token's symbols -/
def ts1 (t : Int × Nat × Nat) : Nat := if t.2.2 = 0 then t.1.toNat else (lenS t.2.1).1.toNat
def ts2 (t : Int × Nat × Nat) : Nat := (spanS t.2.2).1.toNat
theorem lbase_pos : ∀ j : Fin 29, 3 ≤ (lbase (257 + (j.val : Int))).1 := by decide +kernel
theorem lfar_pos : ∀ j : Fin 30, 1 ≤ (lfar (j.val : Int)).1 := by decide +kernel
/-- what is wanted of a set's codes -/
def CODED (bt : Nat → Int) (N : Nat) (L : List Int) (c : Nat → List Int) (k : Nat) : Prop := ∀ a, a + (c k).length ≤ N → AtB bt a (c k) → symS bt N L a = .ok k (a + (c k).length)
section
variable {bt : Nat → Int} {N lim : Nat} {L D : List Int} {cl cs : Nat → List Int} {B : List Int}
attribute [local irreducible] grp lenS spanS lbase lfar
theorem tok_step (hB : OKB B) {at_ a : Nat} (hat : at_ < B.length) (hlim : B.length ≤ lim) (h1 : CODED bt N L cl (ts1 (tok B at_))) (h2 : (tok B at_).2.2 ≠ 0 → CODED bt N D cs (ts2 (tok B at_))) (hN : a + (tkg cl cs (tok B at_)).length ≤ N) (hA : AtB bt a (tkg cl cs (tok B at_))) :
    blkF bt N lim L D a (B.take at_) = .go (a + (tkg cl cs (tok B at_)).length) (B.take (at_ + max 1 (tok B at_).2.1)) := by
  have hl : (B.take at_).length = at_ := by rw [List.length_take]; omega
  rcases tok_bd B at_ hat with h | ⟨n, d, h, g1, g2, g3, g4, g5, g6⟩
  · rw [h] at h1 hN hA ⊢
    have hb := hB at_
    obtain ⟨x, hx⟩ : ∃ x : Nat, B.getD at_ 0 = x := ⟨(B.getD at_ 0).toNat, by omega⟩
    rw [hx] at h1 hN hA ⊢
    have e1 : tkg cl cs ((x : Int), 0, 0) = cl x := by unfold tkg; rw [if_pos rfl]; rfl
    have e2 : ts1 ((x : Int), 0, 0) = x := by unfold ts1; rw [if_pos rfl]; rfl
    rw [e1] at hN hA ⊢
    rw [e2] at h1
    have hs := h1 a hN hA
    unfold blkF
    rw [hs]
    simp only []
    show (if (x : Int) = 256 then _ else _) = Stp.go _ (B.take (at_ + 1))
    rw [if_neg (by omega), if_pos (by omega), if_neg (by omega), List.take_add_one, List.getElem?_eq_getElem hat]
    rw [List.getD_eq_getElem?_getD, List.getElem?_eq_getElem hat, Option.getD_some] at hx
    rw [hx]
    rfl
  · have hsame := tok_same h
    rw [h] at h1 h2 hN hA ⊢
    obtain ⟨s, nb, r, e1, a1, a2, a3, a4, a5, a6⟩ := lenS_bd n (by omega) (by omega)
    obtain ⟨s', nb', r', e2, c1, c3, c4, c5, c6⟩ := spanS_bd d (by omega) (by omega)
    have a7 : 3 ≤ n - r := by
      have := lbase_pos ⟨s - 257, by omega⟩
      simp only [] at this
      rw [show (257 : Int) + ((s - 257 : Nat) : Int) = s by omega, a6] at this
      exact this
    have c7 : 1 ≤ d - r' := by
      have := lfar_pos ⟨s', by omega⟩
      simp only [] at this
      rw [c6] at this
      exact this
    have htb : tkg cl cs ((0 : Int), n, d) = cl s ++ grp r nb ++ cs s' ++ grp r' nb' := by
      unfold tkg
      simp only []
      rw [if_neg (by omega), e1, e2]
      simp only [Int.toNat_natCast]
    have ht1 : ts1 ((0 : Int), n, d) = s := by unfold ts1; simp only []; rw [if_neg (by omega), e1]; simp only [Int.toNat_natCast]
    have ht2 : ts2 ((0 : Int), n, d) = s' := by unfold ts2; simp only []; rw [e2]; simp only [Int.toNat_natCast]
    rw [htb] at hN hA ⊢
    rw [ht1] at h1
    rw [ht2] at h2
    simp only [List.length_append, grp_len] at hN ⊢
    have b1 := hA.left.left.left
    have b2 := hA.left.left.right
    have b3 := hA.left.right
    have b4 := hA.right
    simp only [List.length_append, grp_len, ← Nat.add_assoc] at b2 b3 b4
    have v1 := h1 a (by omega) b1
    have v2 := nbt_at ⟨a4, a5⟩ b2
    have v3 := h2 (by show d ≠ 0; omega) (a + (cl s).length + nb) (by omega) b3
    have v4 := nbt_at ⟨c4, c5⟩ b4
    unfold blkF
    rw [v1]
    simp only []
    rw [if_neg (by omega), if_neg (by omega), a6]
    simp only []
    rw [if_neg (by omega), Int.toNat_natCast, if_neg (by omega), v2]
    unfold blk2
    rw [v3]
    simp only []
    rw [c6]
    simp only []
    rw [if_neg (by omega), Int.toNat_natCast, if_neg (by omega), v4, hl, if_neg (by omega), if_neg (by omega), show (d : Int) - r' + r' = d by omega, show (n : Int) - r + r = n by omega, Int.toNat_natCast, Int.toNat_natCast, cpy_take g4 g5 n g3 hsame]
    rw [show max 1 n = n by omega]
    congr 1
    omega
theorem toks_It (hB : OKB B) (hlim : B.length ≤ lim) (h256 : CODED bt N L cl 256) : ∀ (f at_ a : Nat), B.length - at_ ≤ f → at_ ≤ B.length → (∀ t ∈ toks B f at_, CODED bt N L cl (ts1 t) ∧ (t.2.2 ≠ 0 → CODED bt N D cs (ts2 t))) →
    a + ((toks B f at_).flatMap (tkg cl cs) ++ cl 256).length ≤ N → AtB bt a ((toks B f at_).flatMap (tkg cl cs) ++ cl 256) → It (blkF bt N lim L D) a (B.take at_) (.ok (a + ((toks B f at_).flatMap (tkg cl cs) ++ cl 256).length) B) := by
  have hend : ∀ a, a + (cl 256).length ≤ N → AtB bt a (cl 256) → It (blkF bt N lim L D) a (B.take B.length) (.ok (a + (cl 256).length) B) := fun a hN hA => by
    rw [List.take_length]
    refine .stop ?_
    unfold blkF
    rw [h256 a hN hA]
    rfl
  intro f
  induction f with
  | zero =>
    intro at_ a hf hat hT hN hA
    obtain rfl : at_ = B.length := by omega
    rw [toks, List.flatMap_nil, List.nil_append] at hN hA ⊢
    exact hend a hN hA
  | succ f ih =>
    intro at_ a hf hat hT hN hA
    rw [toks] at hT hN hA ⊢
    by_cases h : at_ < B.length
    · rw [if_pos h] at hT hN hA ⊢
      rw [List.flatMap_cons, List.append_assoc] at hN hA ⊢
      have hT0 := hT (tok B at_) (by simp)
      rw [List.length_append] at hN ⊢
      have hs := tok_step hB h hlim hT0.1 hT0.2 (by omega) hA.left
      have hbd := tok_bd B at_ h
      have hle : at_ + max 1 (tok B at_).2.1 ≤ B.length := by
        rcases hbd with h' | ⟨n, d, h', g1, g2, g3, _⟩
        · rw [h']; show at_ + 1 ≤ _; omega
        · rw [h']; show at_ + max 1 n ≤ _; omega
      have hr := ih (at_ + max 1 (tok B at_).2.1) (a + (tkg cl cs (tok B at_)).length) (by omega) hle (fun t ht => hT t (by simp [ht])) (by omega) hA.right
      rw [Nat.add_assoc] at hr
      exact .go hs hr
    · rw [if_neg h] at hT hN hA ⊢
      obtain rfl : at_ = B.length := by omega
      rw [List.flatMap_nil, List.nil_append] at hN hA ⊢
      exact hend a hN hA
end
end Go.Proofs.YteelffkghidpfaaGreat

set_option linter.unusedVariables false
set_option linter.unusedSimpArgs false
set_option maxRecDepth 100000
namespace Go.Proofs.YteelffkghidpfaaGreat
open Sx Go
attribute [local irreducible] syA fc tk cds
theorem fx_coded {bt : Nat → Int} {N : Nat} (hb : ∀ j, bt j = 0 ∨ bt j = 1) (k : Nat) (hk : k < 288) : CODED bt N (tab 288 fixF) fxS k := by
  intro a hN hA
  obtain ⟨x, h1, h2, h3, _⟩ := fx_at k hk
  have hc : fxC.getD k 0 = cd fxB k := by
    unfold fxC
    rw [cds_get fxB fxB_okl.2.1 k (by rw [fxB_len]; exact hk), if_pos (by omega)]
  have e : fxS k = bms (cd fxB k) x := by unfold fxS; rw [h1, Int.toNat_natCast, hc]
  rw [e, bms_ln] at hN ⊢
  rw [e] at hA
  rw [fxB_eq]
  exact sym_bits fxB_okb fxB_okl hb (by rw [fxB_len]; exact hk) (by omega) h1 hN hA
theorem sp_coded {bt : Nat → Int} {N : Nat} (hb : ∀ j, bt j = 0 ∨ bt j = 1) (k : Nat) (hk : k < 32) : CODED bt N (List.replicate 32 5) spS k := by
  intro a hN hA
  obtain ⟨h1, _⟩ := sp_at k hk
  have hc : spC.getD k 0 = cd spB k := by
    unfold spC
    rw [cds_get spB spB_okl.2.1 k (by rw [spB_len]; exact hk), if_pos (by rw [h1]; decide)]
  have e : spS k = bms (cd spB k) 5 := by unfold spS; rw [hc]
  rw [e, bms_ln] at hN ⊢
  rw [e] at hA
  rw [spB_eq]
  exact sym_bits spB_okb spB_okl hb (by rw [spB_len]; exact hk) (by omega) h1 hN hA
theorem TOK_ts {t : Int × Nat × Nat} (h : TOK t) : ts1 t < 286 ∧ ts2 t < 30 := by
  have hz : (spanS ((0 : Nat) : Int)).1.toNat = 0 := by decide +kernel
  unfold ts1 ts2
  rcases h with ⟨h1, h2, h3, h4⟩ | ⟨h1, h2, h3, h4, h5⟩
  · rw [if_pos h4, h4, hz]; omega
  · rw [if_neg (by omega)]
    obtain ⟨s, b, r, e, a1, a2, a3, _⟩ := lenS_bd t.2.1 (by omega) (by omega)
    obtain ⟨s', b', r', e', a1', a3', _⟩ := spanS_bd t.2.2 (by omega) (by omega)
    rw [e, e']
    simp only [Int.toNat_natCast]
    omega
theorem pack_at (L S : List Int) (hL : ∀ j, L.getD j 0 = 0 ∨ L.getD j 0 = 1) : AtB (bitB (pack L ++ S) 0) 0 L := by
  intro j hj
  have h := pack_bit L hL 0 j
  unfold bitB at h ⊢
  rw [Nat.zero_add] at h ⊢
  rw [Nat.zero_add, List.getD_eq_getElem?_getD, List.getElem?_append_left (by rw [pack_len]; omega), ← List.getD_eq_getElem?_getD, h]
/-- a fixed block is read as the text, whatever stands behind -/
theorem ALLR_fix {B S : List Int} {lim : Nat} (hB : OKB B) (hl : B.length ≤ lim) : ALLR (pack (fixL B) ++ S) lim (.ok (fixL B).length B) := by
  have hb := bitB_01 (pack (fixL B) ++ S) 0
  have hA := pack_at (fixL B) S (fixL_01 B)
  have hlen : (fixL B).length ≤ 8 * (pack (fixL B) ++ S).length := by rw [List.length_append, pack_len]; omega
  unfold ALLR
  obtain ⟨N, hN⟩ : ∃ N, 8 * (pack (fixL B) ++ S).length = N := ⟨_, rfl⟩
  obtain ⟨bt, hbt⟩ : ∃ bt, bitB (pack (fixL B) ++ S) 0 = bt := ⟨_, rfl⟩
  rw [hN] at hlen ⊢
  rw [hbt] at hb hA ⊢
  have hfix : fixL B = grp 1 1 ++ (grp 1 2 ++ ((toks B B.length 0).flatMap (tkg fxS spS) ++ fxS 256)) := by
    unfold fixL; simp only [List.append_assoc]; rfl
  rw [hfix] at hA hlen ⊢
  have b1 := hA.left
  have b2 := hA.right.left
  have b3 := hA.right.right
  simp only [grp_len, Nat.zero_add] at b1 b2 b3
  have v1 := nbt_at (k := 1) ⟨by decide, by decide⟩ b1
  have v2 := nbt_at (k := 2) ⟨by decide, by decide⟩ b2
  obtain ⟨M, hM⟩ : ∃ M, (toks B B.length 0).flatMap (tkg fxS spS) ++ fxS 256 = M := ⟨_, rfl⟩
  rw [hM] at b3 hlen ⊢
  simp only [List.length_append, grp_len] at hlen ⊢
  have hIt := toks_It (bt := bt) (N := N) (L := tab 288 fixF) (D := List.replicate 32 5) (cl := fxS) (cs := spS) hB hl (fx_coded hb 256 (by omega)) B.length 0 3 (by omega) (by omega)
    (fun t ht => by have := TOK_ts (toks_TOK hB _ _ t ht); exact ⟨fx_coded hb _ (by omega), fun _ => sp_coded hb _ (by omega)⟩) (by rw [hM]; omega) (by rw [hM]; exact b3)
  rw [hM, List.take_zero] at hIt
  have hk : kndF bt N lim 1 (0 + 3) [] = .ok (3 + M.length) B := by
    unfold kndF
    rw [if_neg (by decide), if_pos rfl]
    exact itF_of hIt
  refine .stop ?_
  unfold rdF
  rw [if_neg (by omega), if_neg (by omega), show (0 : Nat) + 1 = 1 from rfl, v2, hk]
  simp only []
  rw [v1, if_neg (by decide)]
  congr 1
  omega
/-- the best stream is read as the text, whatever stands behind -/
theorem ALLR_best {B S : List Int} {lim : Nat} (hB : OKB B) (hS : OKB (sbs B ++ S)) (hl : B.length ≤ lim) : ∃ a, (a + 7) / 8 = (bestB B).length ∧ ALLR (bestB B ++ S) lim (.ok a B) := by
  unfold bestB
  split
  · exact ⟨_, by omega, ALLR_sbs hS hl⟩
  · exact ⟨_, (pack_len _).symm, ALLR_fix hB hl⟩
end Go.Proofs.YteelffkghidpfaaGreat

set_option linter.unusedVariables false
set_option linter.unusedSimpArgs false
set_option maxRecDepth 100000
namespace Go.Proofs.YteelffkghidpfaaGreat
open Sx Go
theorem sb4_okb {s : Int} (h : 0 ≤ s ∧ s < 4294967296) : OKB (sb4 s) := OKB_of (by simp only [sb4, List.all_cons, List.all_nil, Bool.and_true, Bool.and_eq_true, decide_eq_true_eq]; omega)
theorem pk_okb {B : List Int} (hB : OKB B) : OKB (pkB B) := by
  have o1 := pack_okb' (fixL B) (fixL_01 B)
  have o2 := sbs_okb hB
  have o3 : OKB (bestB B) := by unfold bestB; split <;> assumption
  exact OKB_app (OKB_app (okb_small (by decide)) o3) (sb4_okb (adl_bd hB))
theorem pk_len (B : List Int) : (pkB B).length = (bestB B).length + 6 := by simp [pkB, sb4]
theorem pk_head (B S : List Int) : hdOK (pkB B ++ S) := by
  have h0 : (pkB B ++ S).getD 0 0 = 120 := rfl
  have h1 : (pkB B ++ S).getD 1 0 = 1 := rfl
  unfold hdOK
  rw [h0, h1]
  refine ⟨by simp only [List.length_append, pk_len]; omega, by decide, by decide, by decide, by decide⟩
theorem pk_drop2 (B S : List Int) : (pkB B ++ S).drop 2 = bestB B ++ (sb4 (adl B) ++ S) := by
  simp [pkB, List.append_assoc]
theorem pk_dropn (B S : List Int) : (pkB B ++ S).drop (2 + (bestB B).length) = sb4 (adl B) ++ S := by
  rw [← List.drop_drop, pk_drop2]
  simp
/-- what was packed, and something behind it -/
theorem ZR_pk {B S : List Int} (hB : OKB B) (hS : OKB S) (L : Int) (hL : 0 ≤ L ∧ L ≤ 1048576) (hl : (B.length : Int) ≤ L) : ZR (pkB B ++ S) L (if S = [] then 0 else 92) (if S = [] then B else []) := by
  obtain ⟨a, ha, hA⟩ := ALLR_best (lim := L.toNat) (S := sb4 (adl B) ++ S) hB (OKB_app (sbs_okb hB) (OKB_app (sb4_okb (adl_bd hB)) hS)) (by omega)
  refine .inr ⟨hL, .inr ⟨by simp only [List.length_append, pk_len]; omega, .inr ⟨pk_head B S, _, by rw [pk_drop2]; exact hA, ?_⟩⟩⟩
  have h4 : (sb4 (adl B)).length = 4 := rfl
  unfold ZT
  dsimp only
  rw [ha, pk_dropn, List.length_append, h4]
  refine .inr ⟨by omega, .inr ⟨by rw [List.take_append_of_le_length (by rw [h4]; omega)]; rfl, ?_⟩⟩
  by_cases h : S = []
  · rw [if_pos h, if_pos h, h]; exact .inr ⟨rfl, rfl, rfl⟩
  · rw [if_neg h, if_neg h]
    have := List.length_pos_iff.2 h
    exact .inl ⟨by omega, rfl, rfl⟩
section
variable {w0 : World} {H : List Asn}
end
end Go.Proofs.YteelffkghidpfaaGreat

set_option linter.unusedVariables false
set_option linter.unusedSimpArgs false
namespace Go.Proofs.YteelffkghidpfaaGreat
open Sx Go
/-! ## the stream of one byte that is repeated: how long it is -/
theorem best_le (B : List Int) (h : B.length ≤ 2000) : (bestB B).length ≤ B.length + 5 ∧ (bestB B).length ≤ (pack (fixL B)).length ∧ (bestB B).length ≤ (sbs B).length := by
  have hl := sb_len (B.length + 1) B (by omega)
  rw [if_pos (by omega)] at hl
  have hs : (sbs B).length = B.length + 5 := by unfold sbs; omega
  unfold bestB
  split <;> omega
section
attribute [local irreducible] sbs pack fixL bestB
variable {w0 : World} {H : List Asn}
end
end Go.Proofs.YteelffkghidpfaaGreat

namespace Go.Proofs.YteelffkghidpfaaGreat
open Sx Go Hd
set_option linter.unusedVariables false
set_option linter.unusedSimpArgs false
/-! ## the compressed form (plain) -/
def hd8 (n : Nat) : List Int := encs [4, 4] [478450452, n]
def packB (P : List Int) : List Int := hd8 (pkB P).length ++ pkB P
theorem hd8_len (n : Nat) : (hd8 n).length = 8 := by
  unfold hd8 encs encs encs
  simp only [List.length_append, enc4_len, List.length_nil]
theorem packB_len (P : List Int) : (packB P).length = 8 + (pkB P).length := by unfold packB; rw [List.length_append, hd8_len]
theorem pkB_bd {P : List Int} (h : P.length ≤ 2000) : (pkB P).length ≤ 2011 := by
  have h1 := pk_len P
  have h2 := (best_le P h).1
  omega
theorem h8_fit {n : Nat} (hn : n < 4294967296) :
    (∀ j, 0 ≤ [478450452, (n : Int)].getD j 0 ∧ [478450452, (n : Int)].getD j 0 < 18446744073709551616) ∧
    (∀ j, j < [478450452, (n : Int)].length → fitA ([4, 4].getD j 0) ([478450452, (n : Int)].getD j 0)) := by
  constructor
  · intro j
    match j with
    | 0 => exact (by decide : (0 : Int) ≤ 478450452 ∧ (478450452 : Int) < 18446744073709551616)
    | 1 => show 0 ≤ (n : Int) ∧ (n : Int) < 18446744073709551616; omega
    | j + 2 => exact (by decide : (0 : Int) ≤ 0 ∧ (0 : Int) < 18446744073709551616)
  · intro j hj
    match j, hj with
    | 0, _ => exact .inr (.inr ⟨by decide, by decide, (by decide : (478450452 : Int) < 256 ^ 4)⟩)
    | 1, _ => exact .inr (.inr ⟨by decide, by decide, (by rw [show (256 : Int) ^ 4 = 4294967296 by decide]; omega : (n : Int) < 256 ^ 4)⟩)
    | j + 2, h => simp at h; omega
theorem h8_decs {n : Nat} (hn : n < 4294967296) (R : List Int) : decs [4, 4] (hd8 n ++ R) = ([478450452, (n : Int)], 8, 0) := by
  obtain ⟨h1, h2⟩ := h8_fit hn
  have := decs_encs [4, 4] [478450452, (n : Int)] R rfl (by decide) h1 h2
  have hl := hd8_len n
  have he : encs [4, 4] [478450452, (n : Int)] = hd8 n := rfl
  rw [he, hl] at this
  exact this
theorem packB_okb {P : List Int} (hP : OKB P) (h : P.length ≤ 2000) : OKB (packB P) := by
  have hb := pkB_bd h
  refine mem_okb fun x hx => ?_
  unfold packB at hx
  rcases List.mem_append.1 hx with hx | hx
  · have h1 := (h8_fit (n := (pkB P).length) (by omega)).1
    refine encs_byt _ _ (fun y hy => ?_) x hx
    obtain ⟨i, hi, rfl⟩ := List.getElem_of_mem hy
    have := h1 i
    rw [List.getD_eq_getElem?_getD, List.getElem?_eq_getElem hi] at this
    exact this
  · exact (pk_okb hP).mem x hx
section
variable {w0 : World} {H : List Asn} {lo hi dg : Int} {u g : Nat}
theorem PutW2_c (n : Nat) (hn : n < 4294967296) (q : Option Addr) (d : Nat) (hu : Rd w0 H (.slice q 2 d) 2 (ints .u64 [478450452, (n : Int)])) (w : World) (hw : St w0 H w) :
    Calls Tryz.prog 65 #[.string (bstr [87, 87]), .slice q 2 d] w fun e w' => ∃ p c, e = .returned (.tuple #[.slice p 8 c, .int .i64 0]) ∧ St w0 (vec 5 1 (.slice p 8 c) 8 (ints .u8 (hd8 n)) :: H) w' := by
  obtain ⟨h1, h2⟩ := h8_fit hn
  have := WirePut_c (w0 := w0) (H := H) [4, 4] (by decide) (by decide) q d [478450452, (n : Int)] hu rfl h1 h2 w hw
  have he : encs [4, 4] [478450452, (n : Int)] = hd8 n := rfl
  rw [he, hd8_len] at this
  exact this
set_option maxRecDepth 10000 in
set_option maxHeartbeats 4000000 in
/-- the compressed form of a histogram -/
theorem HPack_c (bh mb bm : Nat) (gr : Bool) (bu : Nat) (es : List MapEntry) (clock : Nat) (T : List (Int × Int)) (hh : blk bh (hc mb bm gr bu (sw T)) ∈ H) (hm : mapL bm es clock ∈ H) (hM : blk mb (mc lo hi dg u g) ∈ H) (hE : HM es clock T) (hG : GT T) (hug : u + g ≤ 62) (hg : 1 ≤ g ∧ g ≤ 18) (hbu : bu ≤ 64) (hl : T.length ≤ 1000000) (hPl : (wrB lo (rchv u g hi bu) dg T).length ≤ 2000)
    (hlo : 0 ≤ lo ∧ lo < 9223372036854775808) (hhi : 0 ≤ hi ∧ hi < 9223372036854775808) (hdg : 0 ≤ dg ∧ dg < 4294967296) (w : World) (hw : St w0 H w) :
    Calls Tryz.prog 33 #[.pointer (some ⟨bh, 0, none⟩)] w fun e w' => ∃ p c, e = .returned (.tuple #[.slice p (packB (wrB lo (rchv u g hi bu) dg T)).length c, .int .i64 0]) ∧ St w0 (vec 5 1 (.slice p (packB (wrB lo (rchv u g hi bu) dg T)).length c) (packB (wrB lo (rchv u g hi bu) dg T)).length (ints .u8 (packB (wrB lo (rchv u g hi bu) dg T))) :: H) w' := by
  have hcl := cntA_len T
  have hwl := wrB_len lo (rchv u g hi bu) dg T
  have hre : 0 ≤ rchv u g hi bu ∧ rchv u g hi bu < 9223372036854775808 := by
    unfold rchv
    split
    · exact hhi
    · have := topv_lt' u g bu; omega
  have hok := wrB_okb hlo hre hdg hG (by omega)
  have hW := fun w hw => HWrite_c (w0 := w0) (H := H) bh mb bm gr bu es clock T hh hm hM hE hG hug hg hbu (by omega) hlo hhi hdg w hw
  generalize wrB lo (rchv u g hi bu) dg T = P at *
  have hpl := packB_len P
  have hpb := pkB_bd hPl
  have hpe : hd8 (pkB P).length ++ pkB P = packB P := rfl
  refine enter (vs := [.pointer (some ⟨bh, 0, none⟩)]) Tryz.func33 rfl rfl rfl hw ?_
  clear hw w
  repeat (first | (refine sx ?_; try intro _))
  refine JO_call Tryz.call32 rfl rfl fun w hw => (hW w hw).mono ?_
  rintro e w' ⟨p1, c1, rfl, hw'⟩
  (refine ⟨_, rfl, _, hw', ?_⟩; clear hw' hw w w')
  repeat (first | (refine sx ?_; try intro _))
  refine JO_call Tryz.call46 rfl rfl fun w hw => (ZPack_c p1 c1 P.length P (vec_rd (List.Mem.head _)) rfl hok (by omega) w hw).mono ?_
  rintro e w' ⟨p2, c2, rfl, hw'⟩
  (refine ⟨_, rfl, _, hw', ?_⟩; clear hw' hw w w')
  generalize packB P = A at *
  generalize pkB P = Z at *
  have cz : IntKind.u64.wrap (Z.length : Int) = Z.length := wu64 (by omega)
  repeat (first | (apply gJO; refine JO_v (V_conv (tb := tb) rfl rfl rfl cz rfl) ?_) | first | (refine sx ?_; try intro _))
  refine JO_call (vs := [.string (bstr [87, 87]), .slice _ 2 2]) Tryz.call65 rfl rfl fun w hw => (PutW2_c Z.length (by omega) _ _ (vec_rd (List.Mem.head _)) w hw).mono ?_
  rintro e w' ⟨p3, c3, rfl, hw'⟩
  (refine ⟨_, rfl, _, hw', ?_⟩; clear hw' hw w w')
  repeat (first | (refine sx ?_; try intro _))
  refine JO_app (tb := tb) rfl rfl rfl rfl rfl rfl (by repeat (first | exact Sel.here _ _ | apply Sel.there)) (by first | exact vec_rd (by repeat (first | apply List.Mem.head | apply List.Mem.tail)) | assumption | exact ArgRd.rd (by assumption) _ | (apply Rd_weak; assumption; intro _ hx; exact dS hx)) (by rw [ints_len, Nat.mul_one]) ints_one (by omega) rfl ?_
  intro q4 d4
  rw [ints_app, hpe]
  repeat (first | (refine sx ?_; try intro _))
  have hlen : 8 + Z.length = A.length := by omega
  refine JS_ret Tryz.func33 rfl rfl fun w hw => ?_
  rw [hlen] at hw
  exact ⟨_, _, by rw [hlen]; rfl, dS hw⟩
set_option maxRecDepth 10000 in
set_option maxHeartbeats 4000000 in
/-- the compressed form of a plain one, the document's -/
theorem RPack19_c (p : Option Addr) (c m : Nat) (P : List Int) (hr : Rd w0 H (.slice p m c) m (ints .u8 P)) (hm : P.length = m) (hP : OKB P) (hPl : m ≤ 2000) (w : World) (hw : St w0 H w) :
    Calls Tryz.prog 34 #[.slice p m c] w fun e w' => ∃ q d, e = .returned (.slice q (packB P).length d) ∧ St w0 (vec 5 1 (.slice q (packB P).length d) (packB P).length (ints .u8 (packB P)) :: H) w' := by
  have hpl := packB_len P
  have hpb := pkB_bd (P := P) (by omega)
  have hpe : encN 4 478450452 ++ encN 4 (pkB P).length ++ pkB P = packB P := by
    unfold packB hd8 encs encs encs; simp only [List.append_assoc, List.append_nil]
  refine enter (vs := [.slice p m c]) Tryz.func34 rfl rfl rfl hw ?_
  clear hw w
  repeat (first | (refine sx ?_; try intro _))
  refine JO_call Tryz.call48 rfl rfl fun w hw => (RPack9_c p c m P hr hm hP (by omega) w hw).mono ?_
  rintro e w' ⟨p2, c2, rfl, hw'⟩
  (refine ⟨_, rfl, _, hw', ?_⟩; clear hw' hw w w')
  generalize packB P = A at *
  generalize pkB P = Z at *
  have cz : IntKind.u64.wrap (Z.length : Int) = Z.length := wu64 (by omega)
  have o1 := fun {H} w hw => ROne_c (w0 := w0) (H := H) 4 (by decide) 87 rfl 478450452 (by decide) w hw
  have o2 := fun {H} w hw => ROne_c (w0 := w0) (H := H) 4 (by decide) 87 rfl Z.length (by omega) w hw
  have l1 := enc4_len 478450452
  have l2 := enc4_len Z.length
  generalize encN 4 478450452 = A1 at *
  generalize encN 4 (Z.length : Int) = A2 at *
  repeat (first | (refine sx ?_; try intro _))
  refine JO_call Tryz.call58 rfl rfl fun w hw => (o1 w hw).mono ?_
  rintro e w' ⟨p3, c3, rfl, hw'⟩
  (refine ⟨_, rfl, _, hw', ?_⟩; clear hw' hw w w')
  clear o1
  repeat (first | (apply gJO; refine JO_v (V_conv (tb := tb) rfl rfl rfl cz rfl) ?_) | first | (refine sx ?_; try intro _))
  refine JO_call Tryz.call58 rfl rfl fun w hw => (o2 w hw).mono ?_
  rintro e w' ⟨p4, c4, rfl, hw'⟩
  (refine ⟨_, rfl, _, hw', ?_⟩; clear hw' hw w w')
  clear o2
  repeat (first | (refine sx ?_; try intro _))
  (refine JO_app (tb := tb) rfl rfl rfl rfl rfl rfl (by repeat (first | exact Sel.here _ _ | apply Sel.there)) (by first | exact vec_rd (by repeat (first | apply List.Mem.head | apply List.Mem.tail)) | assumption | exact ArgRd.rd (by assumption) _ | (apply Rd_weak; assumption; intro _ hx; exact dS hx)) (by rw [ints_len, Nat.mul_one]) ints_one (by omega) rfl ?_; intro _ _; rw [ints_app])
  repeat (first | (refine sx ?_; try intro _))
  (refine JO_app (tb := tb) rfl rfl rfl rfl rfl rfl (by repeat (first | exact Sel.here _ _ | apply Sel.there)) (by first | exact vec_rd (by repeat (first | apply List.Mem.head | apply List.Mem.tail)) | assumption | exact ArgRd.rd (by assumption) _ | (apply Rd_weak; assumption; intro _ hx; exact dS hx)) (by rw [ints_len, Nat.mul_one]) ints_one (by omega) rfl ?_; intro _ _; rw [ints_app])
  rw [hpe]
  repeat (first | (refine sx ?_; try intro _))
  have hlen : A1.length + A2.length + Z.length = A.length := by omega
  refine JS_ret Tryz.func34 rfl rfl fun w hw => ?_
  rw [hlen] at hw
  exact ⟨_, _, by rw [hlen]; rfl, dS hw⟩
end
end Go.Proofs.YteelffkghidpfaaGreat

namespace Go.Proofs.YteelffkghidpfaaGreat
open Sx Go Hd
set_option linter.unusedVariables false
set_option linter.unusedSimpArgs false
/-- bytes that are a histogram's compressed form (plain) -/
def OPD (B : List Int) (lo hi dg : Int) (T : List (Int × Int)) : Prop := ∃ P, (decs [4, 4] B).2.2 = 0 ∧ (decs [4, 4] B).1.getD 0 0 = 478450452 ∧ (decs [4, 4] B).1.getD 1 0 = ((B.length : Int) - (decs [4, 4] B).2.1) % 18446744073709551616 ∧
  ZR (B.drop (decs [4, 4] B).2.1) 1048576 0 P ∧ RDP P lo hi dg T ∧ packB P = B
theorem OPD.fun {B : List Int} {lo hi dg lo' hi' dg' : Int} {T T' : List (Int × Int)} (h : OPD B lo hi dg T) (h' : OPD B lo' hi' dg' T') : lo = lo' ∧ hi = hi' ∧ dg = dg' ∧ T = T' := by
  obtain ⟨P, _, _, _, h1, h2, _⟩ := h
  obtain ⟨P', _, _, _, g1, g2, _⟩ := h'
  obtain ⟨_, rfl⟩ := ZR_one h1 g1
  exact h2.fun g2
theorem ZR_okb {B : List Int} (hB : OKB B) {L e : Int} {o : List Int} (h : ZR B L e o) : OKB o := by
  rcases h with ⟨h1, rfl, rfl⟩ | ⟨h1, ⟨h2, rfl, rfl⟩ | ⟨h2, ⟨h3, rfl, rfl⟩ | ⟨h3, r, h4, h5⟩⟩⟩
  iterate 3 exact fun j => by simp
  cases r with
  | err x => obtain ⟨_, rfl⟩ := h5; exact fun j => by simp
  | ok a o' =>
    rcases h5 with ⟨_, _, rfl⟩ | ⟨_, ⟨_, _, rfl⟩ | ⟨_, ⟨_, _, rfl⟩ | ⟨_, _, rfl⟩⟩⟩
    iterate 3 exact fun j => by simp
    exact ALLR_okb h4
section
variable {w0 : World} {H : List Asn}
theorem LvO_err {R : Ending → World → Prop} {n : Nat} {xb eb : Nat} {p : Option Addr} {r : Int} {a : Act} {D : List Deferred} (ha : Rep n D [(2, .pointer (some ⟨xb, 0, none⟩)), (3, .pointer (some ⟨eb, 0, none⟩))] a) {w : World} (hw : St w0 (blk eb [.int .i64 r] :: blk xb [.pointer p] :: H) w)
    (hR : ∀ w, St w0 H w → R (.returned (.tuple #[.pointer none, .int .i64 9])) w) : Leaves Tryz.prog Tryz.f37 a.tmps R (defR xb eb) (.panicking FB) w := by
  refine leaves_cons (f := 67) (args := #[.pointer (some ⟨xb, 0, none⟩), .pointer (some ⟨eb, 0, none⟩)]) (by simp) (inv_f2 Tryz.call67) ?_
  refine (CaughtG_c xb eb p r w hw).mono ?_
  rintro e u' w' ⟨rfl, rfl, hw'⟩
  exact ⟨_, results_cells (tb := tb) (vs := [.pointer none, .int .i64 9]) (ResV.one (tb := tb) rfl (by repeat (first | apply List.Mem.head | apply List.Mem.tail)) rfl rfl rfl (ResV.one (tb := tb) rfl (by repeat (first | apply List.Mem.head | apply List.Mem.tail)) rfl rfl rfl ResV.nil)) ha hw', hR w' hw'.drop.drop⟩
theorem LvO_ok {R : Ending → World → Prop} {n : Nat} {xb eb : Nat} {p : Option Addr} {a : Act} {D : List Deferred} (ha : Rep n D [(2, .pointer (some ⟨xb, 0, none⟩)), (3, .pointer (some ⟨eb, 0, none⟩))] a) {w : World} (hw : St w0 (blk eb [.int .i64 0] :: blk xb [.pointer p] :: H) w)
    (hR : ∀ w, St w0 H w → R (.returned (.tuple #[.pointer p, .int .i64 0])) w) : Leaves Tryz.prog Tryz.f37 a.tmps R (defR xb eb) .returning w := by
  refine leaves_cons (f := 67) (args := #[.pointer (some ⟨xb, 0, none⟩), .pointer (some ⟨eb, 0, none⟩)]) (by simp) (inv_f2 Tryz.call67) ?_
  refine (CaughtI_c xb eb w hw).mono ?_
  rintro e u' w' ⟨rfl, rfl, hw'⟩
  exact ⟨_, results_cells (tb := tb) (vs := [.pointer p, .int .i64 0]) (ResV.one (tb := tb) rfl (by repeat (first | apply List.Mem.head | apply List.Mem.tail)) rfl rfl rfl (ResV.one (tb := tb) rfl (by repeat (first | apply List.Mem.head | apply List.Mem.tail)) rfl rfl rfl ResV.nil)) ha hw', hR w' hw'.drop.drop⟩
def OpenR (w0 : World) (H : List Asn) (B : List Int) : Ending → World → Prop := fun e w' =>
  ((∀ lo hi dg T, ¬ OPD B lo hi dg T) ∧ e = .returned (.tuple #[.pointer none, .int .i64 9]) ∧ St w0 H w') ∨
  (∃ lo hi dg T, OPD B lo hi dg T ∧ T.length ≤ 2000 ∧ GT T ∧ ∃ bh mb bm es clock, HM es clock T ∧ e = .returned (.tuple #[.pointer (some ⟨bh, 0, none⟩), .int .i64 0]) ∧ St w0 (rdH bh mb bm lo hi dg es clock T H) w')
set_option maxRecDepth 10000 in
set_option maxHeartbeats 8000000 in
theorem HOpen_c (p : Option Addr) (c m : Nat) (B : List Int) (hr : Rd w0 H (.slice p m c) m (ints .u8 B)) (hm : B.length = m) (hB : OKB B) (hm1 : m ≤ 100000) (hpm : p = none → m = 0) (hZ : (decs [4, 4] B).2.2 = 0 → ∀ P, ZR (B.drop (decs [4, 4] B).2.1) 1048576 0 P → P.length ≤ 2000) (w : World) (hw : St w0 H w) :
    Calls Tryz.prog 37 #[.slice p m c] w (OpenR w0 H B) := by
  have hmc : m ≤ c := (hr.lcap hw).1
  have hus := decs_use [4, 4] B hB
  have hGet := fun {H'} (hr' : Rd w0 H' (.slice p m c) m (ints .u8 B)) w hw => Get_c (w0 := w0) (H := H') [4, 4] (by decide) (by decide) p c m B hr' hm hB (by omega) hpm w hw
  refine enter (vs := [.slice p m c]) Tryz.func37 rfl rfl rfl hw ?_
  clear hw w
  unfold OpenR
  have hOD : ∀ lo hi dg T, OPD B lo hi dg T ↔ ∃ P, (decs [4, 4] B).2.2 = 0 ∧ (decs [4, 4] B).1.getD 0 0 = 478450452 ∧ (decs [4, 4] B).1.getD 1 0 = ((B.length : Int) - (decs [4, 4] B).2.1) % 18446744073709551616 ∧
    ZR (B.drop (decs [4, 4] B).2.1) 1048576 0 P ∧ RDP P lo hi dg T ∧ packB P = B := fun _ _ _ _ => Iff.rfl
  repeat (first | (apply gJO; refine JO_defer rfl rfl ?_) | first | (refine sx ?_; try intro _))
  rename_i xb eb
  refine JO_call (vs := [.string (bstr [87, 87]), .slice p m c]) Tryz.call66 rfl rfl fun w hw => (hGet (Rd_weak hr fun w hw => dS hw) w hw).mono ?_
  rintro e w' (⟨he, rfl, hw'⟩ | ⟨he, hl7, q, d, rfl, hw'⟩)
  · have hno : ∀ lo hi dg T, ¬ OPD B lo hi dg T := fun lo hi dg T ⟨P, h, _⟩ => he h
    (refine ⟨_, rfl, _, hw', ?_⟩; clear hw' hw w w')
    clear hOD
    generalize (decs [4, 4] B).2.2 = er at *
    repeat (first | (refine sx ?_; try intro _))
    refine JO_callE Tryz.func37 Tryz.call68 rfl rfl fun A hA w hw => (Need19_c _ w hw).mono ?_
    rintro e w' (⟨h, rfl, hw'⟩ | ⟨h, rfl, hw'⟩)
    · (exact absurd h (by first | (simp; done) | (simp; omega)))
    · (exact .inr ⟨_, rfl, LvO_err (hA.sub (by repeat (first | exact trivial | refine ⟨rfl, ?_⟩ | refine ⟨lookI rfl (by omega), ?_⟩))) (dS hw') fun w hw => .inl ⟨hno, rfl, hw⟩⟩)
  have hlen7 : ([4, 4] : List Nat).length = 2 := rfl
  rw [hlen7] at hl7 hw'
  rw [hlen7]
  clear hGet
  replace hZ := hZ he
  simp only [he] at hOD
  generalize (decs [4, 4] B).1 = F at *
  generalize (decs [4, 4] B).2.1 = us at *
  match F, hl7 with
  | [f0, f1], _ =>
  have b0 := hus.2 f0 (by simp)
  have b1 := hus.2 f1 (by simp)
  simp only [List.getD_cons_zero, List.getD_cons_succ, true_and] at hOD
  (refine ⟨_, rfl, _, hw', ?_⟩; clear hw' hw w w')
  have g0 : (ints .u64 [f0, f1])[0]? = some (.int .u64 f0) := rfl
  have g1 : (ints .u64 [f0, f1])[1]? = some (.int .u64 f1) := rfl
  have cL : IntKind.i64.wrap ((m : Int) - us) = (m : Int) - us := wi64 (by omega)
  have cU : IntKind.u64.wrap ((m : Int) - us) = ((m : Int) - us) % 18446744073709551616 := mu64 _
  rw [hm] at hOD
  generalize hwl : ((m : Int) - us) % 18446744073709551616 = wl at *
  have hcase : (¬ f0 = 478450452) ∨ (f0 = 478450452 ∧ ¬ f1 = wl) ∨ (f0 = 478450452 ∧ f1 = wl) := by omega
  rcases hcase with h0 | ⟨h0, h1⟩ | ⟨h0, h1⟩
  · have hno : ∀ lo hi dg T, ¬ OPD B lo hi dg T := fun lo hi dg T h => by
      obtain ⟨P, e1, _⟩ := (hOD _ _ _ _).1 h
      exact h0 e1
    repeat (first | (apply gJO; first | refine JO_v (V_sub rfl rfl cL rfl) ?_ | refine JO_v (V_conv (tb := tb) rfl rfl rfl cU rfl) ?_ | refine JO_v (oL (V_loadC (tb := tb) rfl (vec_rd (by repeat (first | apply List.Mem.head | apply List.Mem.tail))) rfl rfl g0 rfl)) ?_ | refine JO_v (oL (V_loadC (tb := tb) rfl (vec_rd (by repeat (first | apply List.Mem.head | apply List.Mem.tail))) rfl rfl g1 rfl)) ?_) | first | (refine sx ?_; try intro _))
    refine JO_callE Tryz.func37 Tryz.call68 rfl rfl fun A hA w hw => (Need19_c _ w hw).mono ?_
    rintro e w' (⟨h, rfl, hw'⟩ | ⟨h, rfl, hw'⟩)
    · (exact absurd h (by first | (simp; done) | (simp; omega)))
    · (exact .inr ⟨_, rfl, LvO_err (hA.sub (by repeat (first | exact trivial | refine ⟨rfl, ?_⟩ | refine ⟨lookI rfl (by omega), ?_⟩))) (dS hw') fun w hw => .inl ⟨hno, rfl, hw⟩⟩)
  · have hno : ∀ lo hi dg T, ¬ OPD B lo hi dg T := fun lo hi dg T h => by
      obtain ⟨P, _, e1, _⟩ := (hOD _ _ _ _).1 h
      exact h1 e1
    repeat (first | (apply gJO; first | refine JO_v (V_sub rfl rfl cL rfl) ?_ | refine JO_v (V_conv (tb := tb) rfl rfl rfl cU rfl) ?_ | refine JO_v (oL (V_loadC (tb := tb) rfl (vec_rd (by repeat (first | apply List.Mem.head | apply List.Mem.tail))) rfl rfl g0 rfl)) ?_ | refine JO_v (oL (V_loadC (tb := tb) rfl (vec_rd (by repeat (first | apply List.Mem.head | apply List.Mem.tail))) rfl rfl g1 rfl)) ?_) | first | (refine sx ?_; try intro _))
    refine JO_callE Tryz.func37 Tryz.call68 rfl rfl fun A hA w hw => (Need19_c _ w hw).mono ?_
    rintro e w' (⟨h, rfl, hw'⟩ | ⟨h, rfl, hw'⟩)
    · (exact absurd h (by first | (simp; done) | (simp; omega)))
    · (exact .inr ⟨_, rfl, LvO_err (hA.sub (by repeat (first | exact trivial | refine ⟨rfl, ?_⟩ | refine ⟨lookI rfl (by omega), ?_⟩))) (dS hw') fun w hw => .inl ⟨hno, rfl, hw⟩⟩)
  repeat (first | (apply gJO; first | refine JO_v (V_sub rfl rfl cL rfl) ?_ | refine JO_v (V_conv (tb := tb) rfl rfl rfl cU rfl) ?_ | refine JO_v (oL (V_loadC (tb := tb) rfl (vec_rd (by repeat (first | apply List.Mem.head | apply List.Mem.tail))) rfl rfl g0 rfl)) ?_ | refine JO_v (oL (V_loadC (tb := tb) rfl (vec_rd (by repeat (first | apply List.Mem.head | apply List.Mem.tail))) rfl rfl g1 rfl)) ?_) | first | (refine sx ?_; try intro _))
  refine JO_callE Tryz.func37 Tryz.call68 rfl rfl fun A hA w hw => (Need19_c _ w hw).mono ?_
  rintro e w' (⟨h, rfl, hw'⟩ | ⟨h, rfl, hw'⟩)
  rotate_left
  · (exact absurd h (by first | (simp; done) | (simp; omega)))
  (refine .inl ⟨_, rfl, _, hw', ?_⟩; clear hw' hw w w' hA A h)
  have hum : us ≤ m := by omega
  have hrD : Rd w0 H (.slice (subB p us c 1) (m - us) (c - us)) (m - us) (ints .u8 (B.drop us)) := Rd_dropC hr hm hum
  have hOp := fun {H'} (hr' : Rd w0 H' (.slice (subB p us c 1) (m - us) (c - us)) (m - us) (ints .u8 (B.drop us))) w hw => ZOpen_c (w0 := w0) (H := H') (subB p us c 1) (c - us) (m - us) (B.drop us) hr' (by rw [List.length_drop, hm]) (hB.drop us) (by omega) 1048576 (by decide) w hw
  repeat (first | (apply gJO; first | refine JO_v (V_slice (tb := tb) (lo := us) (hi := m) rfl rfl rfl rfl rfl rfl rfl (fun w hw => ⟨by omega, by omega⟩) rfl) ?_) | first | (refine sx ?_; try intro _))
  refine JO_call Tryz.call69 rfl rfl fun w hw => (hOp (Rd_weak hrD fun w hw => dS hw) w hw).mono ?_
  rintro e w' ⟨x, P, q2, d2, hZR, rfl, hw'⟩
  by_cases hx : x = 0
  rotate_left
  · have hno : ∀ lo hi dg T, ¬ OPD B lo hi dg T := fun lo hi dg T h => by
      obtain ⟨P', _, _, e1, _⟩ := (hOD _ _ _ _).1 h
      exact hx (ZR_one hZR e1).1
    (refine ⟨_, rfl, _, hw', ?_⟩; clear hw' hw w w')
    repeat (first | (refine sx ?_; try intro _))
    refine JO_callE Tryz.func37 Tryz.call68 rfl rfl fun A hA w hw => (Need19_c _ w hw).mono ?_
    rintro e w' (⟨h, rfl, hw'⟩ | ⟨h, rfl, hw'⟩)
    · (exact absurd h (by first | (simp; done) | (simp; omega)))
    · (exact .inr ⟨_, rfl, LvO_err (hA.sub (by repeat (first | exact trivial | refine ⟨rfl, ?_⟩ | refine ⟨lookI rfl (by omega), ?_⟩))) (dS hw') fun w hw => .inl ⟨hno, rfl, hw⟩⟩)
  subst hx
  have hPl := hZ P hZR
  have hPB : OKB P := ZR_okb (hB.drop us) hZR
  have hP2 := fun lo hi dg T (h : OPD B lo hi dg T) => show RDP P lo hi dg T ∧ packB P = B by
    obtain ⟨P', _, _, e1, e2, e3⟩ := (hOD _ _ _ _).1 h
    obtain ⟨_, rfl⟩ := ZR_one hZR e1
    exact ⟨e2, e3⟩
  have hmk := fun lo hi dg T h3 h4 => (hOD lo hi dg T).2 ⟨P, h0, h1, hZR, h3, h4⟩
  clear hOp hOD
  (refine ⟨_, rfl, _, hw', ?_⟩; clear hw' hw w w')
  repeat (first | (refine sx ?_; try intro _))
  refine JO_callE Tryz.func37 Tryz.call68 rfl rfl fun A hA w hw => (Need19_c _ w hw).mono ?_
  rintro e w' (⟨h, rfl, hw'⟩ | ⟨h, rfl, hw'⟩)
  rotate_left
  · (exact absurd h (by first | (simp; done) | (simp; omega)))
  (refine .inl ⟨_, rfl, _, hw', ?_⟩; clear hw' hw w w' hA A h)
  repeat (first | (refine sx ?_; try intro _))
  refine JO_call Tryz.call38 rfl rfl fun w hw => (HRead_c q2 d2 P.length P (vec_rd (List.Mem.head _)) rfl hPB (by omega) (Rd.nil (vec_rd (List.Mem.head _)) hw) w hw).mono ?_
  unfold ReadR
  rintro e w' (⟨hno0, rfl, hw'⟩ | ⟨lo, hi, dg, T, hR, hTl, hG, bh, mb, bm, es, clock, hE, rfl, hw'⟩)
  · have hno : ∀ lo hi dg T, ¬ OPD B lo hi dg T := fun lo hi dg T h => hno0 _ _ _ _ (hP2 _ _ _ _ h).1
    (refine ⟨_, rfl, _, hw', ?_⟩; clear hw' hw w w')
    repeat (first | (refine sx ?_; try intro _))
    refine JO_callE Tryz.func37 Tryz.call68 rfl rfl fun A hA w hw => (Need19_c _ w hw).mono ?_
    rintro e w' (⟨h, rfl, hw'⟩ | ⟨h, rfl, hw'⟩)
    · (exact absurd h (by first | (simp; done) | (simp; omega)))
    · (exact .inr ⟨_, rfl, LvO_err (hA.sub (by repeat (first | exact trivial | refine ⟨rfl, ?_⟩ | refine ⟨lookI rfl (by omega), ?_⟩))) (dS hw') fun w hw => .inl ⟨hno, rfl, hw⟩⟩)
  obtain ⟨s1, s2, s3, s4⟩ := hR.sh.1
  have hug := hR.sh.2
  have hgd := gOf_bd (dg := dg) ⟨s1, s2⟩
  have hlo63 := hR.lo63
  have hhi63 := hR.hi63
  have hwr := hR.wr
  have hb63 : bkt (uOf lo) (gOf dg) hi.toNat ≤ 62 := bkt_63 (by omega) (by omega)
  have hPk := fun {H'} (x1 : blk bh (hc mb bm false (1 + bkt (uOf lo) (gOf dg) hi.toNat) (sw T)) ∈ H') (x2 : mapL bm es clock ∈ H') (x3 : blk mb (mc lo hi dg (uOf lo) (gOf dg)) ∈ H') hpl w hw => HPack_c (w0 := w0) (H := H') bh mb bm false (1 + bkt (uOf lo) (gOf dg) hi.toNat) es clock T x1 x2 x3 hE hG hug (by omega) (by omega) (by omega) hpl (by omega) (by omega) (by omega) w hw
  have hrc : rchv (uOf lo) (gOf dg) hi (1 + bkt (uOf lo) (gOf dg) hi.toNat) = hi := if_pos rfl
  rw [hrc, hwr] at hPk
  unfold rdH at hw' ⊢
  (refine ⟨_, rfl, _, hw', ?_⟩; clear hw' hw w w')
  repeat (first | (refine sx ?_; try intro _))
  refine JO_callE Tryz.func37 Tryz.call68 rfl rfl fun A hA w hw => (Need19_c _ w hw).mono ?_
  rintro e w' (⟨h, rfl, hw'⟩ | ⟨h, rfl, hw'⟩)
  rotate_left
  · (exact absurd h (by first | (simp; done) | (simp; omega)))
  (refine .inl ⟨_, rfl, _, hw', ?_⟩; clear hw' hw w w' hA A h)
  repeat (first | (refine sx ?_; try intro _))
  refine JO_call Tryz.call33 rfl rfl fun w hw => (hPk (List.Mem.head _) (List.Mem.tail _ (List.Mem.head _)) (List.Mem.tail _ (List.Mem.tail _ (List.Mem.head _))) (by omega) w hw).mono ?_
  rintro e w' ⟨p3, c3', rfl, hw'⟩
  have hpbl := pkB_bd hPl
  have hpkl := packB_len P
  (refine ⟨_, rfl, _, hw', ?_⟩; clear hw' hw w w')
  repeat (first | (refine sx ?_; try intro _))
  refine JO_call Tryz.call70 rfl rfl fun w hw => (Equal_c p3 p c3' c _ m (packB P) B (vec_rd (List.Mem.head _)) (Rd_weak hr fun w hw => dS hw) rfl hm (by omega) (by omega) w hw).mono ?_
  rintro e w' ⟨rfl, hw'⟩
  by_cases heq : packB P = B
  rotate_left
  · have hno : ∀ lo hi dg T, ¬ OPD B lo hi dg T := fun lo hi dg T h => heq (hP2 _ _ _ _ h).2
    rw [decide_eq_false heq]
    (refine ⟨_, rfl, _, hw', ?_⟩; clear hw' hw w w')
    repeat (first | (refine sx ?_; try intro _))
    refine JO_callE Tryz.func37 Tryz.call68 rfl rfl fun A hA w hw => (Need19_c _ w hw).mono ?_
    rintro e w' (⟨h, rfl, hw'⟩ | ⟨h, rfl, hw'⟩)
    · (exact absurd h (by first | (simp; done) | (simp; omega)))
    · (exact .inr ⟨_, rfl, LvO_err (hA.sub (by repeat (first | exact trivial | refine ⟨rfl, ?_⟩ | refine ⟨lookI rfl (by omega), ?_⟩))) (dS hw') fun w hw => .inl ⟨hno, rfl, hw⟩⟩)
  rw [decide_eq_true heq]
  (refine ⟨_, rfl, _, hw', ?_⟩; clear hw' hw w w')
  have hOk := hmk lo hi dg T hR heq
  repeat (first | (refine sx ?_; try intro _))
  refine JO_callE Tryz.func37 Tryz.call68 rfl rfl fun A hA w hw => (Need19_c _ w hw).mono ?_
  rintro e w' (⟨h, rfl, hw'⟩ | ⟨h, rfl, hw'⟩)
  rotate_left
  · (exact absurd h (by first | (simp; done) | (simp; omega)))
  (refine .inl ⟨_, rfl, _, hw', ?_⟩; clear hw' hw w w' hA A h)
  repeat (first | (refine sx ?_; try intro _))
  refine JS_retD Tryz.func37 fun A w hA hw => ?_
  refine LvO_ok (p := some ⟨bh, 0, none⟩) (H := blk bh (hc mb bm false (1 + bkt (uOf lo) (gOf dg) hi.toNat) (sw T)) :: mapL bm es clock :: blk mb (mc lo hi dg (uOf lo) (gOf dg)) :: H) (hA.sub (by repeat (first | exact trivial | refine ⟨rfl, ?_⟩ | refine ⟨lookI rfl (by omega), ?_⟩))) ?_ fun w hw => .inr ⟨lo, hi, dg, T, hOk, by omega, hG, bh, mb, bm, es, clock, hE, rfl, hw⟩
  have hw2 : St w0 (blk bh (hc mb bm false (1 + bkt (uOf lo) (gOf dg) hi.toNat) (sw T)) :: mapL bm es clock :: blk mb (mc lo hi dg (uOf lo) (gOf dg)) :: blk eb [.int .i64 0] :: blk xb [.pointer (some ⟨bh, 0, none⟩)] :: H) w := dS hw
  exact hw2.perm (by (repeat (first | exact List.Perm.refl _ | refine List.Perm.cons _ ?_ | refine (List.perm_middle (l₁ := [_])).trans (List.Perm.cons _ ?_) | refine (List.perm_middle (l₁ := [_, _])).trans (List.Perm.cons _ ?_) | refine (List.perm_middle (l₁ := [_, _, _])).trans (List.Perm.cons _ ?_) | refine (List.perm_middle (l₁ := [_, _, _, _])).trans (List.Perm.cons _ ?_) | refine (List.perm_middle (l₁ := [_, _, _, _, _])).trans (List.Perm.cons _ ?_) | refine (List.perm_middle (l₁ := [_, _, _, _, _, _])).trans (List.Perm.cons _ ?_) | refine (List.perm_middle (l₁ := [_, _, _, _, _, _, _])).trans (List.Perm.cons _ ?_) | refine (List.perm_middle (l₁ := [_, _, _, _, _, _, _, _])).trans (List.Perm.cons _ ?_) | refine (List.perm_middle (l₁ := [_, _, _, _, _, _, _, _, _])).trans (List.Perm.cons _ ?_) | refine (List.perm_middle (l₁ := [_, _, _, _, _, _, _, _, _, _])).trans (List.Perm.cons _ ?_) | refine (List.perm_middle (l₁ := [_, _, _, _, _, _, _, _, _, _, _])).trans (List.Perm.cons _ ?_) | refine (List.perm_middle (l₁ := [_, _, _, _, _, _, _, _, _, _, _, _])).trans (List.Perm.cons _ ?_) | refine (List.perm_middle (l₁ := [_, _, _, _, _, _, _, _, _, _, _, _, _])).trans (List.Perm.cons _ ?_))))
end
end Go.Proofs.YteelffkghidpfaaGreat

namespace Go.Proofs.YteelffkghidpfaaGreat
open Sx Go Hd
set_option linter.unusedVariables false
set_option linter.unusedSimpArgs false
theorem ZR_pkB {B : List Int} (hB : OKB B) (hl : B.length ≤ 2000) : ZR (pkB B) 1048576 0 B := by
  have := ZR_pk (S := []) hB (fun j => by simp) 1048576 (by omega) (by omega)
  rw [List.append_nil, if_pos rfl, if_pos rfl] at this
  exact this
theorem packB_decs {B : List Int} (hl : B.length ≤ 2000) : decs [4, 4] (packB B) = ([478450452, ((pkB B).length : Int)], 8, 0) := by
  have hb := pkB_bd hl
  exact h8_decs (n := (pkB B).length) (by omega) (pkB B)
theorem packB_drop (B : List Int) : (packB B).drop 8 = pkB B := List.drop_left' (hd8_len _)
theorem OPD_pack {B : List Int} (hB : OKB B) (hl : B.length ≤ 2000) {lo hi dg : Int} {T : List (Int × Int)} : OPD (packB B) lo hi dg T ↔ RDP B lo hi dg T := by
  have hb := pkB_bd hl
  have hz := ZR_pkB hB hl
  have hpl := packB_len B
  unfold OPD
  rw [packB_decs hl]
  dsimp only
  rw [packB_drop]
  constructor
  · rintro ⟨P, _, _, _, h1, h2, _⟩
    obtain ⟨_, rfl⟩ := ZR_one h1 hz
    exact h2
  · intro h
    refine ⟨B, rfl, rfl, ?_, hz, h, rfl⟩
    show ((pkB B).length : Int) = (((packB B).length : Int) - (8 : Nat)) % 18446744073709551616
    omega
theorem ZR_packB {B P : List Int} (hB : OKB B) (hl : B.length ≤ 2000) (h : ZR ((packB B).drop (decs [4, 4] (packB B)).2.1) 1048576 0 P) : P.length ≤ 2000 := by
  rw [packB_decs hl] at h
  dsimp only at h
  rw [packB_drop] at h
  obtain ⟨_, rfl⟩ := ZR_one h (ZR_pkB hB hl)
  exact hl
set_option maxRecDepth 100000 in
set_option maxHeartbeats 8000000 in
theorem HdrwireReads_l (p : Option Addr) (c m : Nat) (B : List Int) (w0 : World) (ha : ArgRd w0 (.slice p m c) m (ints .u8 B)) (hm : B.length = m) (hO : OKB B ∧ (p = none → m = 0) ∧ m ≤ 140737488351232) :
    Calls Tryz.prog 11 #[.slice p m c] w0 fun e w' => e = .returned (.bool true) ∧ RowKit.Below w0.heap.size w0 w' := by
  subst hm
  obtain ⟨hB, hpm, hm1⟩ := hO
  refine enter (vs := [.slice p B.length c]) Tryz.func11 rfl rfl rfl (St.start w0) ?_
  repeat (first | (refine sx ?_; try intro _))
  refine JO_call Tryz.call26 rfl rfl fun w hw => (alive19_c w hw).mono ?_
  rintro e w' ⟨rfl, hw'⟩
  (refine ⟨_, rfl, _, hw', ?_⟩; clear hw' hw w w')
  by_cases h4 : 400 < B.length
  · repeat (first | (refine sx ?_; try intro _))
    exact JS_ret Tryz.func11 rfl rfl fun w hw => ⟨rfl, hw.grown⟩
  have hl : B.length ≤ 400 := by omega
  clear h4
  have hpk := fun lo hi dg T => OPD_pack (lo := lo) (hi := hi) (dg := dg) (T := T) hB (by omega : B.length ≤ 2000)
  have hzl := fun P => ZR_packB (P := P) hB (by omega : B.length ≤ 2000)
  have hpok := packB_okb hB (by omega : B.length ≤ 2000)
  have hpl := packB_len B
  have hpb := pkB_bd (P := B) (by omega)
  repeat (first | (refine sx ?_; try intro _))
  refine JO_call Tryz.call38 rfl rfl fun w hw => (HRead_c p c B.length B (ha.rd _) rfl hB (by omega) hpm w hw).mono ?_
  unfold ReadR
  rintro e w' (⟨hno, rfl, hw'⟩ | ⟨lo, hi, dg, T, hR, hTl, hG, b1, mb1, bm1, es1, clock1, hE1, rfl, hw'⟩)
  · (refine ⟨_, rfl, _, hw', ?_⟩; clear hw' hw w w')
    repeat (first | (refine sx ?_; try intro _))
    refine JO_call Tryz.call34 rfl rfl fun w hw => (RPack19_c p c B.length B (ha.rd _) rfl hB (by omega) w hw).mono ?_
    rintro e w' ⟨q, d, rfl, hw'⟩
    (refine ⟨_, rfl, _, hw', ?_⟩; clear hw' hw w w')
    generalize packB B = A at *
    repeat (first | (refine sx ?_; try intro _))
    refine JO_call Tryz.call37 rfl rfl fun w hw => (HOpen_c q d A.length A (vec_rd (List.Mem.head _)) rfl hpok (by omega) (fun h => by have := Rd.nil (p := q) (m := A.length) (c := d) (vec_rd (cs := ints .u8 A) (by repeat (first | apply List.Mem.head | apply List.Mem.tail))) hw h; omega) (fun _ => hzl) w hw).mono ?_
    unfold OpenR
    rintro e w' (⟨hno2, rfl, hw'⟩ | ⟨lo2, hi2, dg2, T2, hR2, _⟩)
    · (refine ⟨_, rfl, _, hw', ?_⟩; clear hw' hw w w')
      repeat (first | (refine sx ?_; try intro _))
      exact JS_ret Tryz.func11 rfl rfl fun w hw => ⟨rfl, hw.grown⟩
    · exact absurd ((hpk _ _ _ _).1 hR2) (hno _ _ _ _)
  · have hsh2 := hR.sh
    obtain ⟨q1, q2, q3, q4⟩ := hsh2.1
    have hlo63 := hR.lo63
    have hhi63 := hR.hi63
    have hgd2 := gOf_bd (dg := dg) ⟨q1, q2⟩
    have hwr := hR.wr
    have hug := hsh2.2
    have hbu : 1 + bkt (uOf lo) (gOf dg) hi.toNat ≤ 64 := by
      have := bkt_63 (u := uOf lo) (g := gOf dg) (v := hi.toNat) (by omega) (by omega)
      omega
    have hrc : rchv (uOf lo) (gOf dg) hi (1 + bkt (uOf lo) (gOf dg) hi.toNat) = hi := if_pos rfl
    unfold rdH at hw'
    (refine ⟨_, rfl, _, hw', ?_⟩; clear hw' hw w w')
    repeat (first | (refine sx ?_; try intro _))
    refine JO_call Tryz.call34 rfl rfl fun w hw => (RPack19_c p c B.length B (ha.rd _) rfl hB (by omega) w hw).mono ?_
    rintro e w' ⟨q, d, rfl, hw'⟩
    (refine ⟨_, rfl, _, hw', ?_⟩; clear hw' hw w w')
    have hopd := (hpk lo hi dg T).2 hR
    generalize packB B = A at *
    repeat (first | (refine sx ?_; try intro _))
    refine JO_call Tryz.call37 rfl rfl fun w hw => (HOpen_c q d A.length A (vec_rd (List.Mem.head _)) rfl hpok (by omega) (fun h => by have := Rd.nil (p := q) (m := A.length) (c := d) (vec_rd (cs := ints .u8 A) (by repeat (first | apply List.Mem.head | apply List.Mem.tail))) hw h; omega) (fun _ => hzl) w hw).mono ?_
    unfold OpenR
    rintro e w' (⟨hno2, rfl, hw'⟩ | ⟨lo2, hi2, dg2, T2, hR2, hTl2, hG2, b2, mb2, bm2, es2, clock2, hE2, rfl, hw'⟩)
    · exact absurd hopd (hno2 _ _ _ _)
    obtain ⟨rfl, rfl, rfl, rfl⟩ := OPD.fun hopd hR2
    unfold rdH at hw'
    clear hpk hzl hR2 hopd
    have hRe := fun {H'} (x1 : blk b1 (hc mb1 bm1 false (1 + bkt (uOf lo) (gOf dg) hi.toNat) (sw T)) ∈ H') (x3 : blk mb1 (mc lo hi dg (uOf lo) (gOf dg)) ∈ H') w hw => HReach_c (w0 := w0) (H := H') b1 mb1 bm1 false (1 + bkt (uOf lo) (gOf dg) hi.toNat) (sw T) x1 x3 hug (by omega) hbu ⟨by omega, by omega⟩ w hw
    rw [hrc] at hRe
    have hSh := fun {H'} (x1 : blk b1 (hc mb1 bm1 false (1 + bkt (uOf lo) (gOf dg) hi.toNat) (sw T)) ∈ H') (x3 : blk mb1 (mc lo hi dg (uOf lo) (gOf dg)) ∈ H') w hw => HShape_c (w0 := w0) (H := H') b1 mb1 bm1 false (1 + bkt (uOf lo) (gOf dg) hi.toNat) (sw T) x1 x3 w hw
    generalize 1 + bkt (uOf lo) (gOf dg) hi.toNat = bu at *
    generalize uOf lo = u at *
    generalize gOf dg = g at *
    (refine ⟨_, rfl, _, hw', ?_⟩; clear hw' hw w w')
    repeat (first | (refine sx ?_; try intro _))
    refine JO_call Tryz.call39 rfl rfl fun w hw => (hSh (by repeat (first | apply List.Mem.head | apply List.Mem.tail)) (by repeat (first | apply List.Mem.head | apply List.Mem.tail)) w hw).mono ?_
    rintro e w' ⟨rfl, hw'⟩
    (refine ⟨_, rfl, _, hw', ?_⟩; clear hw' hw w w')
    repeat (first | apply hIx 12 | first | (refine sx ?_; try intro _))
    refine Hold.go ?_
    rename_i sb
    refine JS_seq ?_
    refine JS_order [0, 1, 2, 3, 4, 5, 6, 7, 8, 9, 10, 11, 12, 13, 14, 15, 16, 17, 21, 22, 18, 19, 20, 23, 24, 25, 26, 28, 27, 29, 30, 31, 32] [] (Picks.cons rfl (Picks.cons rfl (Picks.cons rfl (Picks.cons rfl (Picks.cons rfl (Picks.cons rfl (Picks.cons rfl (Picks.cons rfl (Picks.cons rfl (Picks.cons rfl (Picks.cons rfl (Picks.cons rfl (Picks.cons rfl (Picks.cons rfl (Picks.cons rfl (Picks.cons rfl (Picks.cons rfl (Picks.cons rfl (Picks.cons rfl (Picks.cons rfl (Picks.cons rfl (Picks.cons rfl (Picks.cons rfl (Picks.cons rfl (Picks.cons rfl (Picks.cons rfl (Picks.cons rfl (Picks.cons rfl (Picks.cons rfl (Picks.cons rfl (Picks.cons rfl (Picks.cons rfl (Picks.cons rfl (Picks.nil)))))))))))))))))))))))))))))))))) (by kernel_rfl) (by kernel_rfl) rfl (by decide +kernel) ?_
    repeat (first | (refine sx ?_; try intro _))
    refine QO_call Tryz.call40 rfl rfl fun w hw => (HGrows_c b1 mb1 bm1 false bu (sw T) (by repeat (first | apply List.Mem.head | apply List.Mem.tail)) w hw).mono ?_
    rintro e w' ⟨rfl, hw'⟩
    (refine ⟨_, rfl, _, hw', .inl fun w hw => dS hw, ?_⟩; clear hw' hw w w')
    repeat (first | (refine sx ?_; try intro _))
    refine QO_call Tryz.call30 rfl rfl fun w hw => (hRe (by repeat (first | apply List.Mem.head | apply List.Mem.tail)) (by repeat (first | apply List.Mem.head | apply List.Mem.tail)) w hw).mono ?_
    rintro e w' ⟨rfl, hw'⟩
    (refine ⟨_, rfl, _, hw', .inl fun w hw => dS hw, ?_⟩; clear hw' hw w w')
    repeat (first | (apply gQO; first | refine QO_v rfl (V_str (tb := tb) rfl (ha.rd _) hB rfl rfl rfl rfl) ?_) | first | (refine sx ?_; try intro _))
    refine QO_call Tryz.call31 rfl rfl fun w hw => (HPairs_c b1 mb1 bm1 false bu (sw T) es1 clock1 T (by repeat (first | apply List.Mem.head | apply List.Mem.tail)) (by repeat (first | apply List.Mem.head | apply List.Mem.tail)) hE1 hG.srt hG.key (by omega) w hw).mono ?_
    rintro e w' ⟨qp, qd, rfl, hw'⟩
    (refine ⟨_, rfl, _, hw', .inl fun w hw => dS hw, ?_⟩; clear hw' hw w w')
    repeat (first | (refine sx ?_; try intro _))
    refine QO_call Tryz.call29 rfl rfl fun w hw => (RWrite_c lo hi dg (by omega) (by omega) (by omega) qp qd T (vec_rd (List.Mem.head _)) hG (by omega) w hw).mono ?_
    rw [hwr]
    rintro e w' ⟨pw, cw, rfl, hw'⟩
    (refine ⟨_, rfl, _, hw', .inl fun w hw => dS hw, ?_⟩; clear hw' hw w w')
    repeat (first | (apply gQO; first | refine QO_v rfl (V_eqStrC (s := bstr B) rfl rfl rfl) ?_ | refine QO_v rfl (V_str (tb := tb) rfl (vec_rd (cs := ints .u8 B) (by repeat (first | apply List.Mem.head | apply List.Mem.tail))) rfl rfl rfl rfl rfl) ?_) | first | (refine sx ?_; try intro _))
    refine QO_call Tryz.call31 rfl rfl fun w hw => (HPairs_c b1 mb1 bm1 false bu (sw T) es1 clock1 T (by repeat (first | apply List.Mem.head | apply List.Mem.tail)) (by repeat (first | apply List.Mem.head | apply List.Mem.tail)) hE1 hG.srt hG.key (by omega) w hw).mono ?_
    rintro e w' ⟨q3, d3, rfl, hw'⟩
    (refine ⟨_, rfl, _, hw', .inl fun w hw => dS hw, ?_⟩; clear hw' hw w w')
    repeat (first | (refine sx ?_; try intro _))
    refine QO_call Tryz.call31 rfl rfl fun w hw => (HPairs_c b2 mb2 bm2 false bu (sw T) es2 clock2 T (by repeat (first | apply List.Mem.head | apply List.Mem.tail)) (by repeat (first | apply List.Mem.head | apply List.Mem.tail)) hE2 hG.srt hG.key (by omega) w hw).mono ?_
    rintro e w' ⟨q4, d4, rfl, hw'⟩
    (refine ⟨_, rfl, _, hw', .inl fun w hw => dS hw, ?_⟩; clear hw' hw w w')
    repeat (first | (refine sx ?_; try intro _))
    refine QO_call Tryz.call41 rfl rfl fun w hw => (RSame_c q3 q4 d3 d4 T.length T (vec_rd (by repeat (first | apply List.Mem.head | apply List.Mem.tail))) (vec_rd (by repeat (first | apply List.Mem.head | apply List.Mem.tail))) rfl (by omega) w hw).mono ?_
    rintro e w' ⟨rfl, hw'⟩
    (refine ⟨_, rfl, _, hw', .inl fun w hw => dS hw, ?_⟩; clear hw' hw w w')
    repeat (first | (refine sx ?_; try intro _))
    exact JS_ret Tryz.func11 rfl rfl fun w hw => ⟨rfl, hw.grown⟩
end Go.Proofs.YteelffkghidpfaaGreat

namespace Go.Proofs.YteelffkghidpfaaGreat
open Sx Go Go.ChangeShapes Go.WideShapes
set_option linter.unusedVariables false
set_option linter.unusedSimpArgs false
theorem cells5 : Tryz.prog.cellsOf 5 = 1 := by kernel_rfl
set_option maxRecDepth 100000 in
/-- a slice of bytes that came in -/
theorem open_bytes {H : Type} {enc : TypeId × Value → H} {W : World} {base : Nat} {v : Value} {d : DataW H} {p : List MemPlace} (hval : Value.okWide Tryz.prog W .any base 22 v) (h : DataW.Trod enc Tryz.prog W 0 (fun _ => true) true 22 v d p) :
    ∃ (b : Option Addr) (c m : Nat) (B : List Int), v = .slice b m c ∧ ArgRd W (.slice b m c) m (ints .u8 B) ∧ B.length = m ∧ (OKB B ∧ (b = none → m = 0)) ∧ (m = 0 ∨ ∃ E S, d = .slice E S ∧ E.length = m) := by
  obtain ⟨b, m, c, rfl⟩ := okWide_slice Tryz.underlying22 hval
  obtain ⟨fuel, hf⟩ := h
  rcases Go.ChangeShapes.open_ints Tryz.underlying22 Tryz.underlying5 cells5 hf with ⟨hcs, _⟩ | ⟨a, len', cap', zs, hcs, _, hl, hm, hz, hx, hcell, hwz⟩
  · simp [Value.cells] at hcs
    obtain ⟨rfl, rfl, rfl⟩ := hcs
    exact ⟨none, 0, 0, [], rfl, argRd_mk ⟨none, 0, rfl, fun _ => rfl, Nat.le_refl _⟩ (fun j v h => by simp [ints] at h), rfl, ⟨fun j => by simp, fun _ => rfl⟩, .inl rfl⟩
  · simp [Value.cells] at hcs
    obtain ⟨rfl, rfl, rfl⟩ := hcs
    simp only [if_true] at hz
    refine ⟨some a, c, m, zs.take m, rfl, argRd_mk ⟨some a, c, rfl, (fun h => by cases h), hl⟩ (fun j v hv => ?_), by simp; omega, ⟨fun j => ?_, fun h => (by cases h)⟩, .inr ⟨_, _, congrArg Prod.fst hx, by simp [lits]; omega⟩⟩
    · have hj : j < m := by
        have := (List.getElem?_eq_some_iff.1 hv).1
        simp [ints] at this; omega
      have e : (ints .u8 (zs.take m))[j]? = some (.int .u8 (zs.getD j 0)) := by
        have := ints_get (K := .u8) (l := zs.take m) (j := j) (by simp; omega)
        rw [this]
        congr 2
        simp [List.getD_eq_getElem?_getD, List.getElem?_take, hj]
      rw [e] at hv
      obtain rfl := Option.some.inj hv
      exact ⟨a.add j, cellPtr_eq a m c j, by simpa using cell_lt (hcell j (by omega)), hcell j (by omega)⟩
    · rcases Nat.lt_or_ge j m with hj | hj
      · have : (zs.take m).getD j 0 = zs[j]'(by omega) := by simp [List.getD_eq_getElem?_getD, List.getElem?_take, hj, show j < zs.length by omega]
        rw [this]
        exact wfu8 (hwz _ (List.getElem_mem _))
      · have : (zs.take m).getD j 0 = 0 := by
          rw [List.getD_eq_getElem?_getD, List.getElem?_eq_none (by simp; omega)]; rfl
        rw [this]; decide
end Go.Proofs.YteelffkghidpfaaGreat
