import Derived.Test.YteelffkghidpfaaGreatF5
set_option linter.unusedVariables false
set_option linter.unusedSimpArgs false
set_option maxRecDepth 100000
namespace Go.Proofs.YteelffkghidpfaaGreat
open Sx Go
/-- what comes behind the deflated part -/
def ZT (B : List Int) (r : Res) (e : Int) (o : List Int) : Prop :=
  match r with
  | .err x => e = x ∧ o = []
  | .ok a o' => ((B.drop (2 + (a + 7) / 8)).length < 4 ∧ e = 20 ∧ o = []) ∨ (4 ≤ (B.drop (2 + (a + 7) / 8)).length ∧
      (((B.drop (2 + (a + 7) / 8)).take 4 ≠ sb4 (adl o') ∧ e = 91 ∧ o = []) ∨ ((B.drop (2 + (a + 7) / 8)).take 4 = sb4 (adl o') ∧
        ((4 < (B.drop (2 + (a + 7) / 8)).length ∧ e = 92 ∧ o = []) ∨ ((B.drop (2 + (a + 7) / 8)).length = 4 ∧ e = 0 ∧ o = o')))))
/-- what opening answers -/
def ZR (B : List Int) (L : Int) (e : Int) (o : List Int) : Prop :=
  ((L < 0 ∨ 1048576 < L) ∧ e = 1 ∧ o = []) ∨ ((0 ≤ L ∧ L ≤ 1048576) ∧ ((B.length < 2 ∧ e = 20 ∧ o = []) ∨ (2 ≤ B.length ∧
    ((¬ hdOK B ∧ e = 90 ∧ o = []) ∨ (hdOK B ∧ ∃ r, ALLR (B.drop 2) L.toNat r ∧ ZT B r e o)))))
theorem ZT_one {B : List Int} {r : Res} {e e' : Int} {o o' : List Int} (h : ZT B r e o) (h' : ZT B r e' o') : e = e' ∧ o = o' := by
  cases r with
  | err x => exact ⟨h.1.trans h'.1.symm, h.2.trans h'.2.symm⟩
  | ok a q =>
    rcases h with ⟨h1, rfl, rfl⟩ | ⟨h1, h | ⟨h2, h | h⟩⟩ <;> rcases h' with ⟨g1, rfl, rfl⟩ | ⟨g1, g | ⟨g2, g | g⟩⟩ <;> first | (exfalso; omega) | skip
    · exact ⟨rfl, rfl⟩
    · exact ⟨h.2.1.trans g.2.1.symm, h.2.2.trans g.2.2.symm⟩
    · exact absurd g2 h.1
    · exact absurd g2 h.1
    · exact absurd h2 g.1
    · exact ⟨h.2.1.trans g.2.1.symm, h.2.2.trans g.2.2.symm⟩
    · exact absurd h2 g.1
    · exact ⟨h.2.1.trans g.2.1.symm, h.2.2.trans g.2.2.symm⟩
theorem ZR_one {B : List Int} {L e e' : Int} {o o' : List Int} (h : ZR B L e o) (h' : ZR B L e' o') : e = e' ∧ o = o' := by
  rcases h with ⟨h1, rfl, rfl⟩ | ⟨h1, ⟨h2, rfl, rfl⟩ | ⟨h2, ⟨h3, rfl, rfl⟩ | ⟨h3, r, h4, h5⟩⟩⟩ <;> rcases h' with ⟨g1, rfl, rfl⟩ | ⟨g1, ⟨g2, rfl, rfl⟩ | ⟨g2, ⟨g3, rfl, rfl⟩ | ⟨g3, r', g4, g5⟩⟩⟩ <;> first | (exfalso; omega) | exact ⟨rfl, rfl⟩ | exact absurd g3 h3 | exact absurd h3 g3 | skip
  rw [It.one h4 g4] at h5
  exact ZT_one h5 g5
section
variable {w0 : World} {H : List Asn}
end
end Go.Proofs.YteelffkghidpfaaGreat

set_option linter.unusedVariables false
set_option linter.unusedSimpArgs false
set_option maxRecDepth 100000
namespace Go.Proofs.YteelffkghidpfaaGreat
open Sx Go
theorem eq66 (a b : List Int) (ha : a.length = 4) (hb : b.length = 4) (w : World) : (Op.equalIn 10000 116 (.agg (ints .u8 a).toArray) (.agg (ints .u8 b).toArray)).run Tryz.prog w = .ok (decide (a = b)) w := by
  match a, ha, b, hb with
  | [a0, a1, a2, a3], _, [b0, b1, b2, b3], _ =>
  have hu : Tryz.prog.underlying 116 = some (.array 4 5) := by kernel_rfl
  have hs : (Tryz.prog.info? 5).isSome = true := by kernel_rfl
  obtain ⟨i, hi⟩ := Option.isSome_iff_exists.1 hs
  have e0 := und_int (tb := tb) (t := 5) rfl
  have hc : Tryz.prog.cellsOf 5 = 1 := by kernel_rfl
  have hp : Tryz.prog.plainKey 5 = true := by kernel_rfl
  have E : ∀ x y : Int, (Op.equalIn 9999 5 (.int .u8 x) (.int .u8 y)).run Tryz.prog w = .ok (x == y) w := fun x y => run_equalIn_int (P := Tryz.prog) w 9998 5 .u8 .u8 x y e0
  have P : ∀ (xs : Array Value) (j : Nat) (v : Value), xs[j]? = some v → (part 5 xs j).run Tryz.prog w = .ok v w := fun xs j v h => run_part_plain (P := Tryz.prog) (w := w) (e := 5) hp h
  rw [run_equalIn_array (P := Tryz.prog) (w := w) 9999 _ _ hu hi, hc]
  have r4 : List.range 4 = [0, 1, 2, 3] := rfl
  have p0 := P (ints .u8 [a0, a1, a2, a3]).toArray 0 (.int .u8 a0) rfl
  have p1 := P (ints .u8 [a0, a1, a2, a3]).toArray 1 (.int .u8 a1) rfl
  have p2 := P (ints .u8 [a0, a1, a2, a3]).toArray 2 (.int .u8 a2) rfl
  have p3 := P (ints .u8 [a0, a1, a2, a3]).toArray 3 (.int .u8 a3) rfl
  have q0 := P (ints .u8 [b0, b1, b2, b3]).toArray 0 (.int .u8 b0) rfl
  have q1 := P (ints .u8 [b0, b1, b2, b3]).toArray 1 (.int .u8 b1) rfl
  have q2 := P (ints .u8 [b0, b1, b2, b3]).toArray 2 (.int .u8 b2) rfl
  have q3 := P (ints .u8 [b0, b1, b2, b3]).toArray 3 (.int .u8 b3) rfl
  rw [r4]
  simp only [Op.eqItems, Nat.zero_mul, Nat.mul_one, Sem.run_bind, p0, p1, p2, p3, q0, q1, q2, q3, E, Result.andThen_ok, Sem.run_ite, Sem.run_pure]
  by_cases h0 : a0 = b0 <;> by_cases h1 : a1 = b1 <;> by_cases h2 : a2 = b2 <;> by_cases h3 : a3 = b3 <;> simp [h0, h1, h2, h3]
theorem m66 : Tryz.prog.eqGuardType Tryz.prog.depth 116 = false := by kernel_rfl
section
variable {w0 : World} {H : List Asn}
set_option maxRecDepth 10000 in
theorem Opened_c (p : Option Addr) (c m : Nat) (B : List Int) (hr : Rd w0 H (.slice p m c) m (ints .u8 B)) (hm : B.length = m) (hB : OKB B) (h4 : m ≤ 1100000) (L : Int) (hL : -9223372036854775808 ≤ L ∧ L < 9223372036854775808) (w : World) (hw : St w0 H w) :
    Calls Tryz.prog 109 #[.slice p m c, .int .i64 L] w fun e w' => (∃ x, ZR B L x [] ∧ x ≠ 0 ∧ e = .panicked (FZ x) ∧ St w0 H w') ∨ (∃ o q d, ZR B L 0 o ∧ e = .returned (.slice q o.length d) ∧ St w0 (vec 5 1 (.slice q o.length d) o.length (ints .u8 o) :: H) w') := by
  have hmc : m ≤ c := (hr.lcap hw).1
  refine enter (vs := [.slice p m c, .int .i64 L]) Tryz.func109 rfl rfl rfl hw ?_
  clear hw w
  obtain ⟨b1, hb1⟩ : ∃ b, decide (0 ≤ L ∧ L ≤ 1048576) = b := ⟨_, rfl⟩
  by_cases h1 : L < 0
  · repeat (first | (refine sx ?_; try intro _))
    refine JO_callE Tryz.func109 Tryz.call151 rfl rfl fun A hA w hw => (Need_c _ 1 w hw).mono ?_
    rintro e w' (⟨h, rfl, hw'⟩ | ⟨h, rfl, hw'⟩)
    · cases h
    · exact .inr ⟨_, rfl, .inl ⟨1, .inl ⟨.inl h1, rfl, rfl⟩, by decide, rfl, hw'⟩⟩
  by_cases h2 : 1048576 < L
  · repeat (first | (refine sx ?_; try intro _))
    refine JO_callE Tryz.func109 Tryz.call151 rfl rfl fun A hA w hw => (Need_c _ 1 w hw).mono ?_
    rintro e w' (⟨h, rfl, hw'⟩ | ⟨h, rfl, hw'⟩)
    · cases h
    · exact .inr ⟨_, rfl, .inl ⟨1, .inl ⟨.inr h2, rfl, rfl⟩, by decide, rfl, hw'⟩⟩
  have hrr : ∀ {x o}, ((B.length < 2 ∧ x = 20 ∧ o = []) ∨ (2 ≤ B.length ∧ ((¬ hdOK B ∧ x = 90 ∧ o = []) ∨ (hdOK B ∧ ∃ r, ALLR (B.drop 2) L.toNat r ∧ ZT B r x o)))) → ZR B L x o := fun h => .inr ⟨⟨by omega, by omega⟩, h⟩
  repeat (first | (refine sx ?_; try intro _))
  refine JO_callE Tryz.func109 Tryz.call151 rfl rfl fun A hA w hw => (Need_c _ 1 w hw).mono ?_
  rintro e w' (⟨h, rfl, hw'⟩ | ⟨h, rfl, hw'⟩)
  rotate_left
  · exact absurd h (by first | (simp; done) | (simp; omega))
  refine .inl ⟨_, rfl, _, hw', ?_⟩
  clear hw' hw w w' hA A h
  by_cases h3 : m < 2
  · repeat (first | (refine sx ?_; try intro _))
    refine JO_callE Tryz.func109 Tryz.call151 rfl rfl fun A hA w hw => (Need_c _ 20 w hw).mono ?_
    rintro e w' (⟨h, rfl, hw'⟩ | ⟨h, rfl, hw'⟩)
    · exact absurd h (by first | (simp; done) | (simp; omega))
    · exact .inr ⟨_, rfl, .inl ⟨20, hrr (.inl ⟨by omega, rfl, rfl⟩), by decide, rfl, hw'⟩⟩
  repeat (first | (refine sx ?_; try intro _))
  refine JO_callE Tryz.func109 Tryz.call151 rfl rfl fun A hA w hw => (Need_c _ 20 w hw).mono ?_
  rintro e w' (⟨h, rfl, hw'⟩ | ⟨h, rfl, hw'⟩)
  rotate_left
  · exact absurd h (by first | (simp; done) | (simp; omega))
  refine .inl ⟨_, rfl, _, hw', ?_⟩
  clear hw' hw w w' hA A h
  repeat (first | (refine sx ?_; try intro _))
  refine JO_call Tryz.call152 rfl rfl fun w hw => (ZHead_c p c m B (Rd_weak hr fun w hw => dS hw) hm hB w hw).mono ?_
  rintro e w' ⟨rfl, hw'⟩
  refine ⟨_, rfl, _, hw', ?_⟩
  clear hw' hw w w'
  by_cases h5 : hdOK B
  rotate_left
  · rw [show decide (hdOK B) = false from decide_eq_false h5]
    repeat (first | (refine sx ?_; try intro _))
    refine JO_callE Tryz.func109 Tryz.call151 rfl rfl fun A hA w hw => (Need_c _ 90 w hw).mono ?_
    rintro e w' (⟨h, rfl, hw'⟩ | ⟨h, rfl, hw'⟩)
    · exact absurd h (by first | (simp; done) | (simp; omega))
    · exact .inr ⟨_, rfl, .inl ⟨90, hrr (.inr ⟨by omega, .inl ⟨h5, rfl, rfl⟩⟩), by decide, rfl, hw'⟩⟩
  rw [show decide (hdOK B) = true from decide_eq_true h5]
  repeat (first | (refine sx ?_; try intro _))
  refine JO_callE Tryz.func109 Tryz.call151 rfl rfl fun A hA w hw => (Need_c _ 90 w hw).mono ?_
  rintro e w' (⟨h, rfl, hw'⟩ | ⟨h, rfl, hw'⟩)
  rotate_left
  · exact absurd h (by first | (simp; done) | (simp; omega))
  refine .inl ⟨_, rfl, _, hw', ?_⟩
  clear hw' hw w w' hA A h
  repeat (first | (apply gJO; refine JO_v (V_slice (tb := tb) (lo := 2) (hi := m) rfl rfl rfl rfl rfl rfl (by omega) (fun w hw => ⟨by omega, by omega⟩) rfl) ?_) | first | (refine sx ?_; try intro _))
  refine JO_call Tryz.call153 rfl rfl fun w hw => (IRead_c (subB p 2 c 1) (c - 2) (m - 2) (B.drop 2) (Rd_weak (Rd_drop hr hm (by omega)) fun w hw => dS hw) (by rw [List.length_drop]; omega) (OKB_drop hB 2) (by omega) L hL w hw).mono ?_
  rintro e w' (⟨h, _⟩ | ⟨_, _, r, hA, hp⟩)
  · omega
  obtain ⟨hz, hz'⟩ : (∀ {x o}, ZT B r x o → ZR B L x o) ∧ True := ⟨fun h => hrr (.inr ⟨by omega, .inr ⟨h5, r, hA, h⟩⟩), trivial⟩
  clear hrr hz'
  cases r with
  | err x =>
    obtain ⟨rfl, hw'⟩ := hp
    have hx := ALLR_ne hA
    refine ⟨_, rfl, _, hw', ?_⟩
    clear hw' hw w w'
    repeat (first | (refine sx ?_; try intro _))
    refine JO_callE Tryz.func109 Tryz.call151 rfl rfl fun A hA w hw => (Need_c _ x w hw).mono ?_
    rintro e w' (⟨h, rfl, hw'⟩ | ⟨h, rfl, hw'⟩)
    · exact absurd h (by simp [hx])
    · exact .inr ⟨_, rfl, .inl ⟨x, hz ⟨rfl, rfl⟩, hx, rfl, hw'⟩⟩
  | ok a o =>
  obtain ⟨ha, ho, q, d, rfl, hw'⟩ := hp
  refine ⟨_, rfl, _, hw', ?_⟩
  clear hw' hw w w'
  obtain ⟨t, ht⟩ : ∃ t, (a + 7) / 8 = t := ⟨_, rfl⟩
  have hto : t ≤ m - 2 := by omega
  have hTl : (B.drop (2 + t)).length = m - (2 + t) := by rw [List.length_drop, hm]
  have hrT := Rd_drop (n := 2 + t) hr hm (by omega)
  obtain ⟨T, hT⟩ : ∃ T, B.drop (2 + t) = T := ⟨_, rfl⟩
  have hz2 : ∀ {x o'}, ((T.length < 4 ∧ x = 20 ∧ o' = []) ∨ (4 ≤ T.length ∧ ((T.take 4 ≠ sb4 (adl o) ∧ x = 91 ∧ o' = []) ∨ (T.take 4 = sb4 (adl o) ∧ ((4 < T.length ∧ x = 92 ∧ o' = []) ∨ (T.length = 4 ∧ x = 0 ∧ o' = o)))))) → ZR B L x o' := fun h => hz (by unfold ZT; dsimp only; rw [ht, hT]; exact h)
  have hoB : OKB o := ALLR_okb hA
  rw [hT] at hTl hrT
  rw [ht]
  clear hz
  repeat (first | (refine sx ?_; try intro _))
  refine JO_callE Tryz.func109 Tryz.call151 rfl rfl fun A hA w hw => (Need_c _ 0 w hw).mono ?_
  rintro e w' (⟨h, rfl, hw'⟩ | ⟨h, rfl, hw'⟩)
  rotate_left
  · exact absurd h (by first | (simp; done) | (simp; omega))
  refine .inl ⟨_, rfl, _, hw', ?_⟩
  clear hw' hw w w' hA A h
  repeat (first | (apply gJO; refine JO_v (V_slice (tb := tb) (lo := 2 + t) (hi := m) rfl rfl rfl rfl rfl (by omega) (by omega) (fun w hw => ⟨by omega, by omega⟩) rfl) ?_) | first | (refine sx ?_; try intro _))
  by_cases h6 : m - (2 + t) < 4
  · refine JO_callE Tryz.func109 Tryz.call151 rfl rfl fun A hA w hw => (Need_c _ 20 w hw).mono ?_
    rintro e w' (⟨h, rfl, hw'⟩ | ⟨h, rfl, hw'⟩)
    · exact absurd h (by first | (simp; done) | (simp; omega))
    · exact .inr ⟨_, rfl, .inl ⟨20, hz2 (.inl ⟨by omega, rfl, rfl⟩), by decide, rfl, hw'.drop⟩⟩
  refine JO_callE Tryz.func109 Tryz.call151 rfl rfl fun A hA w hw => (Need_c _ 20 w hw).mono ?_
  rintro e w' (⟨h, rfl, hw'⟩ | ⟨h, rfl, hw'⟩)
  rotate_left
  · exact absurd h (by first | (simp; done) | (simp; omega))
  refine .inl ⟨_, rfl, _, hw', ?_⟩
  clear hw' hw w w' hA A h
  have hr4 := Rd_take (n := 4) hrT hTl (by omega)
  have hl4 : (T.take 4).length = 4 := by rw [List.length_take]; omega
  have hadl := adl_bd hoB
  obtain ⟨s, hs⟩ : ∃ s, adl o = s := ⟨_, rfl⟩
  repeat (first | apply hIx 8 | first | (refine sx ?_; try intro _))
  refine Hold.go ?_
  have hv : ((ints .u8 T).drop (0 * 1)).take 4 = ints .u8 (T.take 4) := by simp [ints, List.map_take]
  have hvl : (ints .u8 (T.take 4)).length = 4 := by simp only [ints_len]; exact hl4
  have heq := eq66 (T.take 4) (sb4 s) hl4 rfl
  refine JS_seq ?_
  refine JS_draw [0] (by kernel_rfl) (by kernel_rfl) (by decide +kernel) ?_
  repeat (first | (apply gQO; first | refine QO_v rfl (V_slice (tb := tb) (lo := 0) (hi := 4) rfl rfl rfl rfl rfl (by rfl) (by rfl) (fun w hw => ⟨by omega, by omega⟩) rfl) ?_ | refine QO_v rfl (V_arrayAt (tb := tb) rfl rfl (by omega) rfl) ?_ | refine QO_v rfl (V_loadSub (tb := tb) (lo := 0) (q := 4) rfl (Rd_weak hrT fun w hw => dS hw) rfl rfl (by omega) rfl (by decide) hvl hv rfl) ?_) | first | (refine sx ?_; try intro _))
  refine QO_call Tryz.call78 rfl rfl fun w hw => (ZSum_c q d o.length o (vec_rd (by repeat (first | apply List.Mem.head | apply List.Mem.tail))) rfl hoB (by omega) w hw).mono ?_
  rintro e w' ⟨rfl, hw'⟩
  refine ⟨_, rfl, _, hw', .inl fun w hw => hw, ?_⟩
  clear hw' hw w w'
  rw [hs] at hz2 hadl ⊢
  repeat (first | (apply gQO; refine QO_v rfl (V_eqArr (us := ints .u8 (T.take 4)) (vs := ints .u8 (sb4 s)) rfl rfl m66 heq rfl) ?_) | first | (refine sx ?_; try intro _))
  refine QO_callE Tryz.call151 rfl rfl fun w hw => (Need_c _ 91 w hw).mono ?_
  rintro e w' (⟨h, rfl, hw'⟩ | ⟨h, rfl, hw'⟩)
  rotate_left
  · exact .inr ⟨_, rfl, QK_e Tryz.func109 (.inl ⟨91, hz2 (.inr ⟨by omega, .inl ⟨of_decide_eq_false h, rfl, rfl⟩⟩), by decide, rfl, hw'.drop⟩)⟩
  have h7 := of_decide_eq_true h
  refine .inl ⟨_, rfl, _, hw', .inr rfl, ?_⟩
  clear hw' hw w w' h
  by_cases h8 : 4 < m - (2 + t)
  · repeat (first | (refine sx ?_; try intro _))
    refine JO_callE Tryz.func109 Tryz.call151 rfl rfl fun A hA w hw => (Need_c _ 92 w hw).mono ?_
    rintro e w' (⟨h, rfl, hw'⟩ | ⟨h, rfl, hw'⟩)
    · exact absurd h (by first | (simp; done) | (simp; omega))
    · exact .inr ⟨_, rfl, .inl ⟨92, hz2 (.inr ⟨by omega, .inr ⟨h7, .inl ⟨by omega, rfl, rfl⟩⟩⟩), by decide, rfl, hw'.drop⟩⟩
  repeat (first | (refine sx ?_; try intro _))
  refine JO_callE Tryz.func109 Tryz.call151 rfl rfl fun A hA w hw => (Need_c _ 92 w hw).mono ?_
  rintro e w' (⟨h, rfl, hw'⟩ | ⟨h, rfl, hw'⟩)
  rotate_left
  · exact absurd h (by first | (simp; done) | (simp; omega))
  refine .inl ⟨_, rfl, _, hw', ?_⟩
  clear hw' hw w w' hA A h
  repeat (first | (refine sx ?_; try intro _))
  exact JS_ret Tryz.func109 rfl rfl fun w hw => .inr ⟨o, q, d, hz2 (.inr ⟨by omega, .inr ⟨h7, .inr ⟨by omega, rfl, rfl⟩⟩⟩), rfl, hw⟩
set_option maxRecDepth 10000 in
/-- zlib.Open -/
theorem ZOpen_c (p : Option Addr) (c m : Nat) (B : List Int) (hr : Rd w0 H (.slice p m c) m (ints .u8 B)) (hm : B.length = m) (hB : OKB B) (h4 : m ≤ 1100000) (L : Int) (hL : -9223372036854775808 ≤ L ∧ L < 9223372036854775808) (w : World) (hw : St w0 H w) :
    Calls Tryz.prog 69 #[.slice p m c, .int .i64 L] w fun e w' => ∃ x o q d, ZR B L x o ∧ e = .returned (.tuple #[.slice q o.length d, .int .i64 x]) ∧ St w0 (vec 5 1 (.slice q o.length d) o.length (ints .u8 o) :: H) w' := by
  refine enter (vs := [.slice p m c, .int .i64 L]) Tryz.func69 rfl rfl rfl hw ?_
  clear hw w
  repeat (first | (apply gJR; first | (refine sx ?_; try intro _)) | (apply gJO; first | (refine JO_deferv rfl rfl rfl ?_) | (refine JO_defer rfl rfl ?_) | first | (refine sx ?_; try intro _)) | apply JS_seq | apply JS_region)
  rename_i bo be
  refine JO_callE Tryz.func69 Tryz.call109 rfl rfl fun A hA w hw => (Opened_c p c m B (Rd_weak hr fun w hw => dS hw) hm hB h4 L hL w hw).mono ?_
  rintro e w' (⟨x, hz, hx, rfl, hw'⟩ | ⟨o, q, d, hz, rfl, hw'⟩)
  · exact .inr ⟨_, rfl, LvZ_err (hA.sub (by repeat (first | exact trivial | refine ⟨rfl, ?_⟩ | refine ⟨lookI rfl (by omega), ?_⟩))) (hw'.perm (List.Perm.swap _ _ _)) fun w hw => ⟨x, [], none, 0, hz, rfl, hw.nilvec⟩⟩
  refine .inl ⟨_, rfl, _, hw', ?_⟩
  clear hw' hw w w' hA A
  repeat (first | (refine sx ?_; try intro _))
  refine JS_retD Tryz.func69 fun A w hA hw => LvZ_ok (H := vec 5 1 (.slice q o.length d) o.length (ints .u8 o) :: H) (hA.sub (by repeat (first | exact trivial | refine ⟨rfl, ?_⟩ | refine ⟨lookI rfl (by omega), ?_⟩))) (hw.perm (by (repeat (first | exact List.Perm.refl _ | refine List.Perm.cons _ ?_ | refine (List.perm_middle (l₁ := [_])).trans (List.Perm.cons _ ?_) | refine (List.perm_middle (l₁ := [_, _])).trans (List.Perm.cons _ ?_) | refine (List.perm_middle (l₁ := [_, _, _])).trans (List.Perm.cons _ ?_) | refine (List.perm_middle (l₁ := [_, _, _, _])).trans (List.Perm.cons _ ?_) | refine (List.perm_middle (l₁ := [_, _, _, _, _])).trans (List.Perm.cons _ ?_) | refine (List.perm_middle (l₁ := [_, _, _, _, _, _])).trans (List.Perm.cons _ ?_) | refine (List.perm_middle (l₁ := [_, _, _, _, _, _, _])).trans (List.Perm.cons _ ?_) | refine (List.perm_middle (l₁ := [_, _, _, _, _, _, _, _])).trans (List.Perm.cons _ ?_) | refine (List.perm_middle (l₁ := [_, _, _, _, _, _, _, _, _])).trans (List.Perm.cons _ ?_) | refine (List.perm_middle (l₁ := [_, _, _, _, _, _, _, _, _, _])).trans (List.Perm.cons _ ?_) | refine (List.perm_middle (l₁ := [_, _, _, _, _, _, _, _, _, _, _])).trans (List.Perm.cons _ ?_) | refine (List.perm_middle (l₁ := [_, _, _, _, _, _, _, _, _, _, _, _])).trans (List.Perm.cons _ ?_) | refine (List.perm_middle (l₁ := [_, _, _, _, _, _, _, _, _, _, _, _, _])).trans (List.Perm.cons _ ?_))))) fun w hw => ⟨0, o, q, d, hz, rfl, hw⟩
end
end Go.Proofs.YteelffkghidpfaaGreat

namespace Go.Proofs.YteelffkghidpfaaGreat
open Sx Go
set_option linter.unusedVariables false
set_option linter.unusedSimpArgs false
set_option maxRecDepth 100000
attribute [local irreducible] syA fc tk cds
theorem bval_take (c : Int) (n : Nat) (hc : 0 ≤ c ∧ c < 2 ^ n) : ∀ k, k ≤ n → bval (fun j => (bms c n).getD j 0) k = c / 2 ^ (n - k) := by
  intro k
  induction k with
  | zero => intro _; rw [Nat.sub_zero]; exact (Int.ediv_eq_zero_of_lt hc.1 hc.2).symm
  | succ k ih =>
    intro hk
    have h1 := ih (by omega)
    have h2 : (bms c n).getD k 0 = c / 2 ^ (n - 1 - k) % 2 := by simp [bms, List.getD_eq_getElem?_getD, show k < n by omega]
    rw [show n - k = (n - (k + 1)) + 1 by omega, div_step] at h1
    rw [show n - 1 - k = n - (k + 1) by omega] at h2
    show 2 * bval (fun j => (bms c n).getD j 0) k + (bms c n).getD k 0 = _
    omega
end Go.Proofs.YteelffkghidpfaaGreat

namespace Go.Proofs.YteelffkghidpfaaGreat
open Sx Go
set_option linter.unusedVariables false
set_option linter.unusedSimpArgs false
set_option maxRecDepth 100000
attribute [local irreducible] syA fc tk cds
/-! ## another stream with the same bits up to a place -/
theorem bval_cg {b b' : Nat → Int} : ∀ {n : Nat}, (∀ j, j < n → b j = b' j) → bval b n = bval b' n
  | 0, _ => rfl
  | n + 1, h => by simp only [bval]; rw [bval_cg (n := n) (fun j hj => h j (by omega)), h n (by omega)]
structure AG (bt bt' : Nat → Int) (N N' M : Nat) : Prop where
  eq : ∀ j, j < M → bt j = bt' j
  le : M ≤ N
  le' : M ≤ N'
  b : ∀ j, bt j = 0 ∨ bt j = 1
  b' : ∀ j, bt' j = 0 ∨ bt' j = 1
section
variable {bt bt' : Nat → Int} {N N' M : Nat}
theorem AG.nbt (h : AG bt bt' N N' M) {a c : Nat} (hc : a + c ≤ M) : nbt bt a c = nbt bt' a c := nbt_congr fun j hj => h.eq _ (by omega)
theorem cn_pos {L : List Int} {j u : Nat} (hj : j < L.length) (h0 : 0 < u) (hu : L.getD j 0 = (u : Int)) : 1 ≤ cn L u := by
  have h1 := cn_yes L j u hj hu h0
  have h2 := cn_nonneg (L.take j) u
  have h3 := cn_mono L u (j + 1) L.length (by omega) (Nat.le_refl _)
  rw [List.take_length] at h3
  omega
theorem symS_ag (h : AG bt bt' N N' M) {L : List Int} (hB : OKB L) (hk : OKL L) {a a1 : Nat} {i : Int} (ha : a ≤ M) (hs : symS bt N L a = .ok i a1) :
    (a1 ≤ M → symS bt' N' L a = .ok i a1) ∧ (N' = M → M < a1 → symS bt' N' L a = .err 20) := by
  obtain ⟨i', u, r, h1, h2⟩ := symS_RD bt N L a
  rw [h2] at hs
  split at hs
  rotate_left
  · cases hs
  rename_i hr
  subst hr
  simp only [Sy.ok.injEq] at hs
  obtain ⟨rfl, rfl⟩ := hs
  rcases h1 with ⟨j, rfl, _, ⟨n, hj, h0, hn, hle, hbv⟩, hu⟩ | ⟨_, _, h | h | ⟨_, _, h | h⟩⟩
  rotate_left
  · omega
  · omega
  · omega
  · omega
  obtain rfl : u = n := by rw [hu] at hn; omega
  constructor
  · intro hM
    have hrd : RD L (fun j => bt' (a + j)) (N' - a) j u 0 := .inl ⟨j, rfl, rfl, ⟨u, hj, h0, hn, by have := h.le'; omega, by rw [← hbv]; exact bval_cg fun t ht => (h.eq _ (by omega)).symm⟩, hu⟩
    rw [symS_of hB hk h.b' hrd, if_pos rfl]
  · intro hN hM
    subst hN
    have hno : ∀ t, ¬ DEC L (fun j => bt' (a + j)) (N' - a) t := by
      rintro t ⟨n', ht, h0', hn', hle', hbv'⟩
      have hd : DEC L (fun j => bt (a + j)) (N - a) t := ⟨n', ht, h0', hn', by have := h.le; omega, by rw [← hbv']; exact bval_cg fun s hs => h.eq _ (by omega)⟩
      have hd0 : DEC L (fun j => bt (a + j)) (N - a) j := ⟨u, hj, h0, hn, hle, hbv⟩
      have := DEC_one L hB hk.2.1 hk.2.2 _ (fun s => h.b _) _ _ _ hd hd0
      subst this
      rw [hn] at hn'; omega
    have hsm := sm_pos L j hj (by omega)
    have hrd : ∃ v, RD L (fun j => bt' (a + j)) (N' - a) 0 v 20 := by
      by_cases hf : tk L = 32768
      · exact ⟨_, .inr ⟨hno, rfl, .inr (.inl ⟨hsm, hf, rfl, rfl⟩)⟩⟩
      · have hu1 : u = 1 := by
          rcases Nat.lt_or_ge 1 u with hlt | hge
          · have h15 := hk.2.1 j
            have := FINE_lone L hB hk.2.1 hk.2.2 hf hsm u (by omega) (by omega)
            have := cn_pos hj h0 hn
            omega
          · omega
        exact ⟨_, .inr ⟨hno, rfl, .inr (.inr ⟨hsm, hf, .inl ⟨by omega, rfl, rfl⟩⟩)⟩⟩
    obtain ⟨v, hrd⟩ := hrd
    rw [symS_of hB hk h.b' hrd, if_neg (by decide)]
def AGg (M : Nat) (c : Prop) (f f' : Nat → List Int → Stp) : Prop := ∀ a o a' o', a ≤ M → f a o = .go a' o' → (a' ≤ M → f' a o = .go a' o') ∧ (c → M < a' → f' a o = .err 20)
def AGs (M : Nat) (c : Prop) (f f' : Nat → List Int → Stp) : Prop := ∀ a o a' o', a ≤ M → f a o = .stop a' o' → (a' ≤ M → f' a o = .stop a' o') ∧ (c → M < a' → f' a o = .err 20)
def AGr (M : Nat) (c : Prop) (f f' : Nat → List Int → Res) : Prop := ∀ a o a' o', a ≤ M → f a o = .ok a' o' → (a' ≤ M → f' a o = .ok a' o') ∧ (c → M < a' → f' a o = .err 20)
theorem It_ag {c : Prop} {f f' : Nat → List Int → Stp} (hm : ∀ a o a' o', f a o = .go a' o' ∨ f a o = .stop a' o' → a ≤ a') (hg : AGg M c f f') (hs : AGs M c f f') {a : Nat} {o : List Int} {r : Res} (h : It f a o r) : a ≤ M → ∀ a' o', r = .ok a' o' →
    (a' ≤ M → It f' a o (.ok a' o')) ∧ (c → M < a' → It f' a o (.err 20)) := by
  induction h with
  | err _ => intro _ a' o' h; cases h
  | stop h =>
    intro ha a' o' h'
    cases h'
    obtain ⟨h2, h3⟩ := hs _ _ _ _ ha h
    exact ⟨fun h => .stop (h2 h), fun h h' => .err (h3 h h')⟩
  | go h t ih =>
    rename_i o1 _ a1 _ _
    intro ha a' o' h'
    obtain ⟨h2, h3⟩ := hg _ _ _ _ ha h
    have hge := It_ge hm t a' o' h'
    refine ⟨fun hle => ?_, fun hc hlt => ?_⟩
    · have h1 : a1 ≤ M := by omega
      exact .go (h2 h1) ((ih h1 a' o' h').1 hle)
    · rcases Nat.lt_or_ge M a1 with hl | hge2
      · exact .err (h3 hc hl)
      · exact .go (h2 hge2) ((ih hge2 a' o' h').2 hc hlt)
theorem itF_ag {c : Prop} {f f' : Nat → List Int → Stp} (hm : ∀ a o a' o', f a o = .go a' o' ∨ f a o = .stop a' o' → a ≤ a') (hg : AGg M c f f') (hs : AGs M c f f') : AGr M c (itF f) (itF f') := by
  intro a o a' o' ha h
  obtain ⟨h1, h2⟩ := It_ag hm hg hs (itF_ok h) ha a' o' rfl
  exact ⟨fun h => itF_of (h1 h), fun h h' => itF_of (h2 h h')⟩
theorem blk2_ag (h : AG bt bt' N N' M) {D : List Int} (hB : OKB D) (hk : OKL D) {lim a a' : Nat} {o o' : List Int} {len : Int} (ha : a ≤ M) (hs : blk2 bt N lim D o len a = .go a' o') :
    (a' ≤ M → blk2 bt' N' lim D o len a = .go a' o') ∧ (N' = M → M < a' → blk2 bt' N' lim D o len a = .err 20) := by
  unfold blk2 at hs ⊢
  cases hy : symS bt N D a with
  | err e => rw [hy] at hs; cases hs
  | ok d a2 =>
    rw [hy] at hs
    simp only at hs
    obtain ⟨s1, s2⟩ := symS_ag h hB hk ha hy
    split at hs
    · cases hs
    · rename_i h1
      split at hs
      · cases hs
      · rename_i h2
        split at hs
        · cases hs
        · rename_i h3
          split at hs
          · cases hs
          · rename_i h4
            simp only [Stp.go.injEq] at hs
            obtain ⟨rfl, rfl⟩ := hs
            refine ⟨fun hle => ?_, fun hN hlt => ?_⟩
            · have e := h.nbt (a := a2) (c := (lfar d).2.toNat) hle
              rw [s1 (by omega)]
              simp only
              rw [if_neg h1, if_neg (by have := h.le'; omega), ← e, if_neg h3, if_neg h4]
            · rcases Nat.lt_or_ge M a2 with hl | hge
              · rw [s2 hN hl]
              · rw [s1 hge]
                simp only
                rw [if_neg h1, if_pos (by omega)]
theorem blkF_agg (h : AG bt bt' N N' M) {L D : List Int} (hB : OKB L) (hk : OKL L) (hB2 : OKB D) (hk2 : OKL D) (lim : Nat) : AGg M (N' = M) (blkF bt N lim L D) (blkF bt' N' lim L D) := by
  intro a o a' o' ha hs
  unfold blkF at hs ⊢
  cases hy : symS bt N L a with
  | err e => rw [hy] at hs; cases hs
  | ok i a1 =>
    rw [hy] at hs
    simp only at hs
    obtain ⟨s1, s2⟩ := symS_ag h hB hk ha hy
    have hge1 := symS_ge hy
    split at hs
    · cases hs
    · rename_i h1
      split at hs
      · rename_i h2
        split at hs
        · cases hs
        · rename_i h3
          simp only [Stp.go.injEq] at hs
          obtain ⟨rfl, rfl⟩ := hs
          refine ⟨fun hle => ?_, fun hN hlt => ?_⟩
          · rw [s1 hle]
            simp only
            rw [if_neg h1, if_pos h2, if_neg h3]
          · rw [s2 hN hlt]
      · rename_i h2
        split at hs
        · cases hs
        · rename_i h3
          split at hs
          · cases hs
          · rename_i h4
            have hge2 := blk2_ge hs
            refine ⟨fun hle => ?_, fun hN hlt => ?_⟩
            · have e := h.nbt (a := a1) (c := (lbase i).2.toNat) (by omega)
              rw [s1 (by omega)]
              simp only
              rw [if_neg h1, if_neg h2, if_neg h3, if_neg (by have := h.le'; omega), ← e]
              exact (blk2_ag h hB2 hk2 (by omega) hs).1 hle
            · rcases Nat.lt_or_ge M a1 with hl | hge
              · rw [s2 hN hl]
              · rw [s1 hge]
                simp only
                rw [if_neg h1, if_neg h2, if_neg h3]
                rcases Nat.lt_or_ge M (a1 + (lbase i).2.toNat) with hl2 | hge3
                · rw [if_pos (by omega)]
                · have e := h.nbt (a := a1) (c := (lbase i).2.toNat) hge3
                  rw [if_neg (by omega), ← e]
                  exact (blk2_ag h hB2 hk2 hge3 hs).2 hN hlt
theorem blkF_ags (h : AG bt bt' N N' M) {L D : List Int} (hB : OKB L) (hk : OKL L) (lim : Nat) : AGs M (N' = M) (blkF bt N lim L D) (blkF bt' N' lim L D) := by
  intro a o a' o' ha hs
  unfold blkF at hs ⊢
  cases hy : symS bt N L a with
  | err e => rw [hy] at hs; cases hs
  | ok i a1 =>
    rw [hy] at hs
    simp only at hs
    obtain ⟨s1, s2⟩ := symS_ag h hB hk ha hy
    split at hs
    · rename_i h1
      simp only [Stp.stop.injEq] at hs
      obtain ⟨rfl, rfl⟩ := hs
      refine ⟨fun hle => ?_, fun hN hlt => ?_⟩
      · rw [s1 hle]; simp only; rw [if_pos h1]
      · rw [s2 hN hlt]
    · split at hs
      · split at hs <;> cases hs
      · split at hs
        · cases hs
        · split at hs
          · cases hs
          · exact (blk2_stop hs).elim
theorem itblk_ag (h : AG bt bt' N N' M) {L D : List Int} (hB : OKB L) (hk : OKL L) (hB2 : OKB D) (hk2 : OKL D) (lim : Nat) : AGr M (N' = M) (itF (blkF bt N lim L D)) (itF (blkF bt' N' lim L D)) :=
  itF_ag (fun _ _ _ _ => blkF_ge) (blkF_agg h hB hk hB2 hk2 lim) (blkF_ags h hB hk lim)
end
end Go.Proofs.YteelffkghidpfaaGreat

set_option linter.unusedVariables false
set_option linter.unusedSimpArgs false
set_option maxRecDepth 100000
namespace Go.Proofs.YteelffkghidpfaaGreat
open Sx Go
attribute [local irreducible] syA fc tk cds
/-! ## tokens' bits are read as the text -/
/-- from a place on stand these bits -/
def AtB (bt : Nat → Int) (a : Nat) (L : List Int) : Prop := ∀ j, j < L.length → bt (a + j) = L.getD j 0
theorem AtB.left {bt : Nat → Int} {a : Nat} {L M : List Int} (h : AtB bt a (L ++ M)) : AtB bt a L := fun j hj => by
  rw [h j (by rw [List.length_append]; omega), List.getD_eq_getElem?_getD, List.getElem?_append_left hj, ← List.getD_eq_getElem?_getD]
theorem AtB.right {bt : Nat → Int} {a : Nat} {L M : List Int} (h : AtB bt a (L ++ M)) : AtB bt (a + L.length) M := fun j hj => by
  rw [Nat.add_assoc, h (L.length + j) (by rw [List.length_append]; omega), List.getD_eq_getElem?_getD, List.getElem?_append_right (by omega), Nat.add_sub_cancel_left, ← List.getD_eq_getElem?_getD]
theorem sym_bits {bt : Nat → Int} {N a : Nat} {L : List Int} (hB : OKB L) (hk : OKL L) (hb : ∀ j, bt j = 0 ∨ bt j = 1) {i n : Nat} (hi : i < L.length) (h0 : 0 < n) (hn : L.getD i 0 = (n : Int)) (hN : a + n ≤ N) (h : AtB bt a (bms (cd L i) n)) : symS bt N L a = .ok i (a + n) := by
  have hc := cd_lt L hB hk i n hi h0 hn
  have hv : bval (fun j => bt (a + j)) n = cd L i := by
    rw [bval_cg (b' := fun j => (bms (cd L i) n).getD j 0) (fun j hj => h j (by rw [bms_ln]; exact hj)), bval_take (cd L i) n hc n (Nat.le_refl _), Nat.sub_self, Int.pow_zero, Int.ediv_one]
  have := symS_of (bt := bt) (N := N) (a := a) hB hk hb (i := i) (u := n) (r := 0) (.inl ⟨i, rfl, rfl, ⟨n, hi, h0, hn, by omega, hv⟩, hn⟩)
  rw [if_pos rfl] at this
  exact this
theorem nbt_at {bt : Nat → Int} {a k : Nat} {r : Int} (hr : 0 ≤ r ∧ r < 2 ^ k) (h : AtB bt a (grp r k)) : nbt bt a k = r := by
  rw [← bnum_nbt, num_congr (g := fun t => r / 2 ^ t % 2) k (fun t ht => by rw [h t (by rw [grp_len]; exact ht), grp_get ht]), bnum_bits, Int.emod_eq_of_lt hr.1 hr.2]
/-- the bytes are the same as those so far back -/
theorem sam_same (B : List Int) : ∀ (f i k j : Nat), j < sam B i k f → B.getD (i + j) 0 = B.getD (k + j) 0
  | 0, i, k, j, h => by rw [sam] at h; omega
  | f + 1, i, k, j, h => by
    rw [sam] at h
    split at h
    · rename_i hc
      cases j with
      | zero => exact hc.2
      | succ j =>
        have := sam_same B f (i + 1) (k + 1) j (by omega)
        rw [show i + (j + 1) = i + 1 + j by omega, show k + (j + 1) = k + 1 + j by omega]; exact this
    · omega
theorem bst_same (B : List Int) (at_ : Nat) : ∀ (i : Nat) (s : Nat × Nat), i ≤ at_ → (s.1 = 0 ∨ (s.1 = sam B (at_ - s.2) at_ 258 ∧ s.2 ≤ at_)) → (bst B at_ i s).1 = 0 ∨ ((bst B at_ i s).1 = sam B (at_ - (bst B at_ i s).2) at_ 258 ∧ (bst B at_ i s).2 ≤ at_)
  | 0, s, _, h => by rw [bst]; exact h
  | i + 1, s, hi, h => by
    rw [bst]
    split
    · exact h
    · refine bst_same B at_ i _ (by omega) ?_
      split
      · right
        refine ⟨?_, by show at_ - i ≤ at_; omega⟩
        show sam B i at_ 258 = sam B (at_ - (at_ - i)) at_ 258
        rw [show at_ - (at_ - i) = i by omega]
      · exact h
theorem tok_same {B : List Int} {at_ n d : Nat} {x : Int} (h : tok B at_ = (x, n, d)) : ∀ j, j < n → B.getD (at_ - d + j) 0 = B.getD (at_ + j) 0 := by
  intro j hj
  have hb := bst_same B at_ at_ (0, 0) (Nat.le_refl _) (.inl rfl)
  unfold tok at h
  split at h
  · have : n = 0 := (Prod.mk.inj (Prod.mk.inj h).2).1.symm
    omega
  · have h1 := (Prod.mk.inj (Prod.mk.inj h).2).1
    have h2 := (Prod.mk.inj (Prod.mk.inj h).2).2
    rw [h1, h2] at hb
    rcases hb with hb | hb
    · omega
    · exact sam_same B 258 (at_ - d) at_ j (by omega)
theorem cpy_take {B : List Int} {at_ d : Nat} (h1 : 1 ≤ d) (h2 : d ≤ at_) : ∀ n, at_ + n ≤ B.length → (∀ j, j < n → B.getD (at_ - d + j) 0 = B.getD (at_ + j) 0) → cpy (B.take at_) d n = B.take (at_ + n)
  | 0, _, _ => rfl
  | n + 1, hn, hs => by
    have ih := cpy_take h1 h2 n (by omega) (fun j hj => hs j (by omega))
    have hl : (B.take (at_ + n)).length = at_ + n := by rw [List.length_take]; omega
    rw [cpy, ih, hl, ← Nat.add_assoc, List.take_add_one, List.getElem?_eq_getElem (show at_ + n < B.length by omega)]
    have e := hs n (by omega)
    have g : (B.take (at_ + n)).getD (at_ + n - d) 0 = B.getD (at_ + n) 0 := by
      rw [List.getD_eq_getElem?_getD, List.getElem?_take, if_pos (by omega), ← List.getD_eq_getElem?_getD, ← e, show at_ + n - d = at_ - d + n by omega]
    rw [g, List.getD_eq_getElem?_getD, List.getElem?_eq_getElem (show at_ + n < B.length by omega)]
    rfl
/-- a token's bits, by any codes -/
def tkg (cl cs : Nat → List Int) (t : Int × Nat × Nat) : List Int :=
  if t.2.2 = 0 then cl t.1.toNat
  else cl (lenS t.2.1).1.toNat ++ grp (lenS t.2.1).2.2 (lenS t.2.1).2.1.toNat ++ cs (spanS t.2.2).1.toNat ++ grp (spanS t.2.2).2.2 (spanS t.2.2).2.1.toNat
/-- a token's symbols -/
def ts1 (t : Int × Nat × Nat) : Nat := if t.2.2 = 0 then t.1.toNat else (lenS t.2.1).1.toNat
def ts2 (t : Int × Nat × Nat) : Nat := (spanS t.2.2).1.toNat
theorem lbase_pos : ∀ j : Fin 29, 3 ≤ (lbase (257 + (j.val : Int))).1 := by decide +kernel
theorem lfar_pos : ∀ j : Fin 30, 1 ≤ (lfar (j.val : Int)).1 := by decide +kernel
/-- what is wanted of a set's codes -/
def CODED (bt : Nat → Int) (N : Nat) (L : List Int) (c : Nat → List Int) (k : Nat) : Prop := ∀ a, a + (c k).length ≤ N → AtB bt a (c k) → symS bt N L a = .ok k (a + (c k).length)
section
variable {bt : Nat → Int} {N lim : Nat} {L D : List Int} {cl cs : Nat → List Int} {B : List Int}
attribute [local irreducible] grp lenS spanS lbase lfar
theorem tok_step (hB : OKB B) {at_ a : Nat} (hat : at_ < B.length) (hlim : B.length ≤ lim) (h1 : CODED bt N L cl (ts1 (tok B at_))) (h2 : (tok B at_).2.2 ≠ 0 → CODED bt N D cs (ts2 (tok B at_))) (hN : a + (tkg cl cs (tok B at_)).length ≤ N) (hA : AtB bt a (tkg cl cs (tok B at_))) :
    blkF bt N lim L D a (B.take at_) = .go (a + (tkg cl cs (tok B at_)).length) (B.take (at_ + max 1 (tok B at_).2.1)) := by
  have hl : (B.take at_).length = at_ := by rw [List.length_take]; omega
  rcases tok_bd B at_ hat with h | ⟨n, d, h, g1, g2, g3, g4, g5, g6⟩
  · rw [h] at h1 hN hA ⊢
    have hb := hB at_
    obtain ⟨x, hx⟩ : ∃ x : Nat, B.getD at_ 0 = x := ⟨(B.getD at_ 0).toNat, by omega⟩
    rw [hx] at h1 hN hA ⊢
    have e1 : tkg cl cs ((x : Int), 0, 0) = cl x := by unfold tkg; rw [if_pos rfl]; rfl
    have e2 : ts1 ((x : Int), 0, 0) = x := by unfold ts1; rw [if_pos rfl]; rfl
    rw [e1] at hN hA ⊢
    rw [e2] at h1
    have hs := h1 a hN hA
    unfold blkF
    rw [hs]
    simp only []
    show (if (x : Int) = 256 then _ else _) = Stp.go _ (B.take (at_ + 1))
    rw [if_neg (by omega), if_pos (by omega), if_neg (by omega), List.take_add_one, List.getElem?_eq_getElem hat]
    rw [List.getD_eq_getElem?_getD, List.getElem?_eq_getElem hat, Option.getD_some] at hx
    rw [hx]
    rfl
  · have hsame := tok_same h
    rw [h] at h1 h2 hN hA ⊢
    obtain ⟨s, nb, r, e1, a1, a2, a3, a4, a5, a6⟩ := lenS_bd n (by omega) (by omega)
    obtain ⟨s', nb', r', e2, c1, c3, c4, c5, c6⟩ := spanS_bd d (by omega) (by omega)
    have a7 : 3 ≤ n - r := by
      have := lbase_pos ⟨s - 257, by omega⟩
      simp only [] at this
      rw [show (257 : Int) + ((s - 257 : Nat) : Int) = s by omega, a6] at this
      exact this
    have c7 : 1 ≤ d - r' := by
      have := lfar_pos ⟨s', by omega⟩
      simp only [] at this
      rw [c6] at this
      exact this
    have htb : tkg cl cs ((0 : Int), n, d) = cl s ++ grp r nb ++ cs s' ++ grp r' nb' := by
      unfold tkg
      simp only []
      rw [if_neg (by omega), e1, e2]
      simp only [Int.toNat_natCast]
    have ht1 : ts1 ((0 : Int), n, d) = s := by unfold ts1; simp only []; rw [if_neg (by omega), e1]; simp only [Int.toNat_natCast]
    have ht2 : ts2 ((0 : Int), n, d) = s' := by unfold ts2; simp only []; rw [e2]; simp only [Int.toNat_natCast]
    rw [htb] at hN hA ⊢
    rw [ht1] at h1
    rw [ht2] at h2
    simp only [List.length_append, grp_len] at hN ⊢
    have b1 := hA.left.left.left
    have b2 := hA.left.left.right
    have b3 := hA.left.right
    have b4 := hA.right
    simp only [List.length_append, grp_len, ← Nat.add_assoc] at b2 b3 b4
    have v1 := h1 a (by omega) b1
    have v2 := nbt_at ⟨a4, a5⟩ b2
    have v3 := h2 (by show d ≠ 0; omega) (a + (cl s).length + nb) (by omega) b3
    have v4 := nbt_at ⟨c4, c5⟩ b4
    unfold blkF
    rw [v1]
    simp only []
    rw [if_neg (by omega), if_neg (by omega), a6]
    simp only []
    rw [if_neg (by omega), Int.toNat_natCast, if_neg (by omega), v2]
    unfold blk2
    rw [v3]
    simp only []
    rw [c6]
    simp only []
    rw [if_neg (by omega), Int.toNat_natCast, if_neg (by omega), v4, hl, if_neg (by omega), if_neg (by omega), show (d : Int) - r' + r' = d by omega, show (n : Int) - r + r = n by omega, Int.toNat_natCast, Int.toNat_natCast, cpy_take g4 g5 n g3 hsame]
    rw [show max 1 n = n by omega]
    congr 1
    omega
theorem toks_It (hB : OKB B) (hlim : B.length ≤ lim) (h256 : CODED bt N L cl 256) : ∀ (f at_ a : Nat), B.length - at_ ≤ f → at_ ≤ B.length → (∀ t ∈ toks B f at_, CODED bt N L cl (ts1 t) ∧ (t.2.2 ≠ 0 → CODED bt N D cs (ts2 t))) →
    a + ((toks B f at_).flatMap (tkg cl cs) ++ cl 256).length ≤ N → AtB bt a ((toks B f at_).flatMap (tkg cl cs) ++ cl 256) → It (blkF bt N lim L D) a (B.take at_) (.ok (a + ((toks B f at_).flatMap (tkg cl cs) ++ cl 256).length) B) := by
  have hend : ∀ a, a + (cl 256).length ≤ N → AtB bt a (cl 256) → It (blkF bt N lim L D) a (B.take B.length) (.ok (a + (cl 256).length) B) := fun a hN hA => by
    rw [List.take_length]
    refine .stop ?_
    unfold blkF
    rw [h256 a hN hA]
    rfl
  intro f
  induction f with
  | zero =>
    intro at_ a hf hat hT hN hA
    obtain rfl : at_ = B.length := by omega
    rw [toks, List.flatMap_nil, List.nil_append] at hN hA ⊢
    exact hend a hN hA
  | succ f ih =>
    intro at_ a hf hat hT hN hA
    rw [toks] at hT hN hA ⊢
    by_cases h : at_ < B.length
    · rw [if_pos h] at hT hN hA ⊢
      rw [List.flatMap_cons, List.append_assoc] at hN hA ⊢
      have hT0 := hT (tok B at_) (by simp)
      rw [List.length_append] at hN ⊢
      have hs := tok_step hB h hlim hT0.1 hT0.2 (by omega) hA.left
      have hbd := tok_bd B at_ h
      have hle : at_ + max 1 (tok B at_).2.1 ≤ B.length := by
        rcases hbd with h' | ⟨n, d, h', g1, g2, g3, _⟩
        · rw [h']; show at_ + 1 ≤ _; omega
        · rw [h']; show at_ + max 1 n ≤ _; omega
      have hr := ih (at_ + max 1 (tok B at_).2.1) (a + (tkg cl cs (tok B at_)).length) (by omega) hle (fun t ht => hT t (by simp [ht])) (by omega) hA.right
      rw [Nat.add_assoc] at hr
      exact .go hs hr
    · rw [if_neg h] at hT hN hA ⊢
      obtain rfl : at_ = B.length := by omega
      rw [List.flatMap_nil, List.nil_append] at hN hA ⊢
      exact hend a hN hA
end
end Go.Proofs.YteelffkghidpfaaGreat

set_option linter.unusedVariables false
set_option linter.unusedSimpArgs false
set_option maxRecDepth 100000
namespace Go.Proofs.YteelffkghidpfaaGreat
open Sx Go
attribute [local irreducible] syA fc tk cds
theorem fx_coded {bt : Nat → Int} {N : Nat} (hb : ∀ j, bt j = 0 ∨ bt j = 1) (k : Nat) (hk : k < 288) : CODED bt N (tab 288 fixF) fxS k := by
  intro a hN hA
  obtain ⟨x, h1, h2, h3, _⟩ := fx_at k hk
  have hc : fxC.getD k 0 = cd fxB k := by
    unfold fxC
    rw [cds_get fxB fxB_okl.2.1 k (by rw [fxB_len]; exact hk), if_pos (by omega)]
  have e : fxS k = bms (cd fxB k) x := by unfold fxS; rw [h1, Int.toNat_natCast, hc]
  rw [e, bms_ln] at hN ⊢
  rw [e] at hA
  rw [fxB_eq]
  exact sym_bits fxB_okb fxB_okl hb (by rw [fxB_len]; exact hk) (by omega) h1 hN hA
theorem sp_coded {bt : Nat → Int} {N : Nat} (hb : ∀ j, bt j = 0 ∨ bt j = 1) (k : Nat) (hk : k < 32) : CODED bt N (List.replicate 32 5) spS k := by
  intro a hN hA
  obtain ⟨h1, _⟩ := sp_at k hk
  have hc : spC.getD k 0 = cd spB k := by
    unfold spC
    rw [cds_get spB spB_okl.2.1 k (by rw [spB_len]; exact hk), if_pos (by rw [h1]; decide)]
  have e : spS k = bms (cd spB k) 5 := by unfold spS; rw [hc]
  rw [e, bms_ln] at hN ⊢
  rw [e] at hA
  rw [spB_eq]
  exact sym_bits spB_okb spB_okl hb (by rw [spB_len]; exact hk) (by omega) h1 hN hA
theorem TOK_ts {t : Int × Nat × Nat} (h : TOK t) : ts1 t < 286 ∧ ts2 t < 30 := by
  have hz : (spanS ((0 : Nat) : Int)).1.toNat = 0 := by decide +kernel
  unfold ts1 ts2
  rcases h with ⟨h1, h2, h3, h4⟩ | ⟨h1, h2, h3, h4, h5⟩
  · rw [if_pos h4, h4, hz]; omega
  · rw [if_neg (by omega)]
    obtain ⟨s, b, r, e, a1, a2, a3, _⟩ := lenS_bd t.2.1 (by omega) (by omega)
    obtain ⟨s', b', r', e', a1', a3', _⟩ := spanS_bd t.2.2 (by omega) (by omega)
    rw [e, e']
    simp only [Int.toNat_natCast]
    omega
theorem pack_at (L S : List Int) (hL : ∀ j, L.getD j 0 = 0 ∨ L.getD j 0 = 1) : AtB (bitB (pack L ++ S) 0) 0 L := by
  intro j hj
  have h := pack_bit L hL 0 j
  unfold bitB at h ⊢
  rw [Nat.zero_add] at h ⊢
  rw [Nat.zero_add, List.getD_eq_getElem?_getD, List.getElem?_append_left (by rw [pack_len]; omega), ← List.getD_eq_getElem?_getD, h]
/-- a fixed block is read as the text, whatever stands behind -/
theorem ALLR_fix {B S : List Int} {lim : Nat} (hB : OKB B) (hl : B.length ≤ lim) : ALLR (pack (fixL B) ++ S) lim (.ok (fixL B).length B) := by
  have hb := bitB_01 (pack (fixL B) ++ S) 0
  have hA := pack_at (fixL B) S (fixL_01 B)
  have hlen : (fixL B).length ≤ 8 * (pack (fixL B) ++ S).length := by rw [List.length_append, pack_len]; omega
  unfold ALLR
  obtain ⟨N, hN⟩ : ∃ N, 8 * (pack (fixL B) ++ S).length = N := ⟨_, rfl⟩
  obtain ⟨bt, hbt⟩ : ∃ bt, bitB (pack (fixL B) ++ S) 0 = bt := ⟨_, rfl⟩
  rw [hN] at hlen ⊢
  rw [hbt] at hb hA ⊢
  have hfix : fixL B = grp 1 1 ++ (grp 1 2 ++ ((toks B B.length 0).flatMap (tkg fxS spS) ++ fxS 256)) := by
    unfold fixL; simp only [List.append_assoc]; rfl
  rw [hfix] at hA hlen ⊢
  have b1 := hA.left
  have b2 := hA.right.left
  have b3 := hA.right.right
  simp only [grp_len, Nat.zero_add] at b1 b2 b3
  have v1 := nbt_at (k := 1) ⟨by decide, by decide⟩ b1
  have v2 := nbt_at (k := 2) ⟨by decide, by decide⟩ b2
  obtain ⟨M, hM⟩ : ∃ M, (toks B B.length 0).flatMap (tkg fxS spS) ++ fxS 256 = M := ⟨_, rfl⟩
  rw [hM] at b3 hlen ⊢
  simp only [List.length_append, grp_len] at hlen ⊢
  have hIt := toks_It (bt := bt) (N := N) (L := tab 288 fixF) (D := List.replicate 32 5) (cl := fxS) (cs := spS) hB hl (fx_coded hb 256 (by omega)) B.length 0 3 (by omega) (by omega)
    (fun t ht => by have := TOK_ts (toks_TOK hB _ _ t ht); exact ⟨fx_coded hb _ (by omega), fun _ => sp_coded hb _ (by omega)⟩) (by rw [hM]; omega) (by rw [hM]; exact b3)
  rw [hM, List.take_zero] at hIt
  have hk : kndF bt N lim 1 (0 + 3) [] = .ok (3 + M.length) B := by
    unfold kndF
    rw [if_neg (by decide), if_pos rfl]
    exact itF_of hIt
  refine .stop ?_
  unfold rdF
  rw [if_neg (by omega), if_neg (by omega), show (0 : Nat) + 1 = 1 from rfl, v2, hk]
  simp only []
  rw [v1, if_neg (by decide)]
  congr 1
  omega
/-- the best stream is read as the text, whatever stands behind -/
theorem ALLR_best {B S : List Int} {lim : Nat} (hB : OKB B) (hS : OKB (sbs B ++ S)) (hl : B.length ≤ lim) : ∃ a, (a + 7) / 8 = (bestB B).length ∧ ALLR (bestB B ++ S) lim (.ok a B) := by
  unfold bestB
  split
  · exact ⟨_, by omega, ALLR_sbs hS hl⟩
  · exact ⟨_, (pack_len _).symm, ALLR_fix hB hl⟩
end Go.Proofs.YteelffkghidpfaaGreat

set_option linter.unusedVariables false
set_option linter.unusedSimpArgs false
set_option maxRecDepth 100000
namespace Go.Proofs.YteelffkghidpfaaGreat
open Sx Go
theorem sb4_okb {s : Int} (h : 0 ≤ s ∧ s < 4294967296) : OKB (sb4 s) := OKB_of (by simp only [sb4, List.all_cons, List.all_nil, Bool.and_true, Bool.and_eq_true, decide_eq_true_eq]; omega)
theorem pk_okb {B : List Int} (hB : OKB B) : OKB (pkB B) := by
  have o1 := pack_okb' (fixL B) (fixL_01 B)
  have o2 := sbs_okb hB
  have o3 : OKB (bestB B) := by unfold bestB; split <;> assumption
  exact OKB_app (OKB_app (okb_small (by decide)) o3) (sb4_okb (adl_bd hB))
theorem pk_len (B : List Int) : (pkB B).length = (bestB B).length + 6 := by simp [pkB, sb4]
theorem pk_head (B S : List Int) : hdOK (pkB B ++ S) := by
  have h0 : (pkB B ++ S).getD 0 0 = 120 := rfl
  have h1 : (pkB B ++ S).getD 1 0 = 1 := rfl
  unfold hdOK
  rw [h0, h1]
  refine ⟨by simp only [List.length_append, pk_len]; omega, by decide, by decide, by decide, by decide⟩
theorem pk_drop2 (B S : List Int) : (pkB B ++ S).drop 2 = bestB B ++ (sb4 (adl B) ++ S) := by
  simp [pkB, List.append_assoc]
theorem pk_dropn (B S : List Int) : (pkB B ++ S).drop (2 + (bestB B).length) = sb4 (adl B) ++ S := by
  rw [← List.drop_drop, pk_drop2]
  simp
/-- what was packed, and something behind it -/
theorem ZR_pk {B S : List Int} (hB : OKB B) (hS : OKB S) (L : Int) (hL : 0 ≤ L ∧ L ≤ 1048576) (hl : (B.length : Int) ≤ L) : ZR (pkB B ++ S) L (if S = [] then 0 else 92) (if S = [] then B else []) := by
  obtain ⟨a, ha, hA⟩ := ALLR_best (lim := L.toNat) (S := sb4 (adl B) ++ S) hB (OKB_app (sbs_okb hB) (OKB_app (sb4_okb (adl_bd hB)) hS)) (by omega)
  refine .inr ⟨hL, .inr ⟨by simp only [List.length_append, pk_len]; omega, .inr ⟨pk_head B S, _, by rw [pk_drop2]; exact hA, ?_⟩⟩⟩
  have h4 : (sb4 (adl B)).length = 4 := rfl
  unfold ZT
  dsimp only
  rw [ha, pk_dropn, List.length_append, h4]
  refine .inr ⟨by omega, .inr ⟨by rw [List.take_append_of_le_length (by rw [h4]; omega)]; rfl, ?_⟩⟩
  by_cases h : S = []
  · rw [if_pos h, if_pos h, h]; exact .inr ⟨rfl, rfl, rfl⟩
  · rw [if_neg h, if_neg h]
    have := List.length_pos_iff.2 h
    exact .inl ⟨by omega, rfl, rfl⟩
section
variable {w0 : World} {H : List Asn}
end
end Go.Proofs.YteelffkghidpfaaGreat

set_option linter.unusedVariables false
set_option linter.unusedSimpArgs false
namespace Go.Proofs.YteelffkghidpfaaGreat
open Sx Go
/-! ## the stream of one byte that is repeated: how long it is -/
theorem best_le (B : List Int) (h : B.length ≤ 2000) : (bestB B).length ≤ B.length + 5 ∧ (bestB B).length ≤ (pack (fixL B)).length ∧ (bestB B).length ≤ (sbs B).length := by
  have hl := sb_len (B.length + 1) B (by omega)
  rw [if_pos (by omega)] at hl
  have hs : (sbs B).length = B.length + 5 := by unfold sbs; omega
  unfold bestB
  split <;> omega
section
attribute [local irreducible] sbs pack fixL bestB
variable {w0 : World} {H : List Asn}
end
end Go.Proofs.YteelffkghidpfaaGreat

namespace Go.Proofs.YteelffkghidpfaaGreat
open Sx Go Hd
set_option linter.unusedVariables false
set_option linter.unusedSimpArgs false
/-! ## the compressed form (plain) -/
def hd8 (n : Nat) : List Int := encs [4, 4] [478450452, n]
def packB (P : List Int) : List Int := hd8 (pkB P).length ++ pkB P
theorem hd8_len (n : Nat) : (hd8 n).length = 8 := by
  unfold hd8 encs encs encs
  simp only [List.length_append, enc4_len, List.length_nil]
theorem packB_len (P : List Int) : (packB P).length = 8 + (pkB P).length := by unfold packB; rw [List.length_append, hd8_len]
theorem pkB_bd {P : List Int} (h : P.length ≤ 2000) : (pkB P).length ≤ 2011 := by
  have h1 := pk_len P
  have h2 := (best_le P h).1
  omega
theorem h8_fit {n : Nat} (hn : n < 4294967296) :
    (∀ j, 0 ≤ [478450452, (n : Int)].getD j 0 ∧ [478450452, (n : Int)].getD j 0 < 18446744073709551616) ∧
    (∀ j, j < [478450452, (n : Int)].length → fitA ([4, 4].getD j 0) ([478450452, (n : Int)].getD j 0)) := by
  constructor
  · intro j
    match j with
    | 0 => exact (by decide : (0 : Int) ≤ 478450452 ∧ (478450452 : Int) < 18446744073709551616)
    | 1 => show 0 ≤ (n : Int) ∧ (n : Int) < 18446744073709551616; omega
    | j + 2 => exact (by decide : (0 : Int) ≤ 0 ∧ (0 : Int) < 18446744073709551616)
  · intro j hj
    match j, hj with
    | 0, _ => exact .inr (.inr ⟨by decide, by decide, (by decide : (478450452 : Int) < 256 ^ 4)⟩)
    | 1, _ => exact .inr (.inr ⟨by decide, by decide, (by rw [show (256 : Int) ^ 4 = 4294967296 by decide]; omega : (n : Int) < 256 ^ 4)⟩)
    | j + 2, h => simp at h; omega
theorem h8_decs {n : Nat} (hn : n < 4294967296) (R : List Int) : decs [4, 4] (hd8 n ++ R) = ([478450452, (n : Int)], 8, 0) := by
  obtain ⟨h1, h2⟩ := h8_fit hn
  have := decs_encs [4, 4] [478450452, (n : Int)] R rfl (by decide) h1 h2
  have hl := hd8_len n
  have he : encs [4, 4] [478450452, (n : Int)] = hd8 n := rfl
  rw [he, hl] at this
  exact this
theorem packB_okb {P : List Int} (hP : OKB P) (h : P.length ≤ 2000) : OKB (packB P) := by
  have hb := pkB_bd h
  refine mem_okb fun x hx => ?_
  unfold packB at hx
  rcases List.mem_append.1 hx with hx | hx
  · have h1 := (h8_fit (n := (pkB P).length) (by omega)).1
    refine encs_byt _ _ (fun y hy => ?_) x hx
    obtain ⟨i, hi, rfl⟩ := List.getElem_of_mem hy
    have := h1 i
    rw [List.getD_eq_getElem?_getD, List.getElem?_eq_getElem hi] at this
    exact this
  · exact (pk_okb hP).mem x hx
section
variable {w0 : World} {H : List Asn} {lo hi dg : Int} {u g : Nat}
theorem PutW2_c (n : Nat) (hn : n < 4294967296) (q : Option Addr) (d : Nat) (hu : Rd w0 H (.slice q 2 d) 2 (ints .u64 [478450452, (n : Int)])) (w : World) (hw : St w0 H w) :
    Calls Tryz.prog 65 #[.string (bstr [87, 87]), .slice q 2 d] w fun e w' => ∃ p c, e = .returned (.tuple #[.slice p 8 c, .int .i64 0]) ∧ St w0 (vec 5 1 (.slice p 8 c) 8 (ints .u8 (hd8 n)) :: H) w' := by
  obtain ⟨h1, h2⟩ := h8_fit hn
  have := WirePut_c (w0 := w0) (H := H) [4, 4] (by decide) (by decide) q d [478450452, (n : Int)] hu rfl h1 h2 w hw
  have he : encs [4, 4] [478450452, (n : Int)] = hd8 n := rfl
  rw [he, hd8_len] at this
  exact this
set_option maxRecDepth 10000 in
set_option maxHeartbeats 4000000 in
/-- the compressed form of a histogram -/
theorem HPack_c (bh mb bm : Nat) (gr : Bool) (bu : Nat) (es : List MapEntry) (clock : Nat) (T : List (Int × Int)) (hh : blk bh (hc mb bm gr bu (sw T)) ∈ H) (hm : mapL bm es clock ∈ H) (hM : blk mb (mc lo hi dg u g) ∈ H) (hE : HM es clock T) (hG : GT T) (hug : u + g ≤ 62) (hg : 1 ≤ g ∧ g ≤ 18) (hbu : bu ≤ 64) (hl : T.length ≤ 1000000) (hPl : (wrB lo (rchv u g hi bu) dg T).length ≤ 2000)
    (hlo : 0 ≤ lo ∧ lo < 9223372036854775808) (hhi : 0 ≤ hi ∧ hi < 9223372036854775808) (hdg : 0 ≤ dg ∧ dg < 4294967296) (w : World) (hw : St w0 H w) :
    Calls Tryz.prog 33 #[.pointer (some ⟨bh, 0, none⟩)] w fun e w' => ∃ p c, e = .returned (.tuple #[.slice p (packB (wrB lo (rchv u g hi bu) dg T)).length c, .int .i64 0]) ∧ St w0 (vec 5 1 (.slice p (packB (wrB lo (rchv u g hi bu) dg T)).length c) (packB (wrB lo (rchv u g hi bu) dg T)).length (ints .u8 (packB (wrB lo (rchv u g hi bu) dg T))) :: H) w' := by
  have hcl := cntA_len T
  have hwl := wrB_len lo (rchv u g hi bu) dg T
  have hre : 0 ≤ rchv u g hi bu ∧ rchv u g hi bu < 9223372036854775808 := by
    unfold rchv
    split
    · exact hhi
    · have := topv_lt' u g bu; omega
  have hok := wrB_okb hlo hre hdg hG (by omega)
  have hW := fun w hw => HWrite_c (w0 := w0) (H := H) bh mb bm gr bu es clock T hh hm hM hE hG hug hg hbu (by omega) hlo hhi hdg w hw
  generalize wrB lo (rchv u g hi bu) dg T = P at *
  have hpl := packB_len P
  have hpb := pkB_bd hPl
  have hpe : hd8 (pkB P).length ++ pkB P = packB P := rfl
  refine enter (vs := [.pointer (some ⟨bh, 0, none⟩)]) Tryz.func33 rfl rfl rfl hw ?_
  clear hw w
  repeat (first | (refine sx ?_; try intro _))
  refine JO_call Tryz.call32 rfl rfl fun w hw => (hW w hw).mono ?_
  rintro e w' ⟨p1, c1, rfl, hw'⟩
  (refine ⟨_, rfl, _, hw', ?_⟩; clear hw' hw w w')
  repeat (first | (refine sx ?_; try intro _))
  refine JO_call Tryz.call46 rfl rfl fun w hw => (ZPack_c p1 c1 P.length P (vec_rd (List.Mem.head _)) rfl hok (by omega) w hw).mono ?_
  rintro e w' ⟨p2, c2, rfl, hw'⟩
  (refine ⟨_, rfl, _, hw', ?_⟩; clear hw' hw w w')
  generalize packB P = A at *
  generalize pkB P = Z at *
  have cz : IntKind.u64.wrap (Z.length : Int) = Z.length := wu64 (by omega)
  repeat (first | (apply gJO; refine JO_v (V_conv (tb := tb) rfl rfl rfl cz rfl) ?_) | first | (refine sx ?_; try intro _))
  refine JO_call (vs := [.string (bstr [87, 87]), .slice _ 2 2]) Tryz.call65 rfl rfl fun w hw => (PutW2_c Z.length (by omega) _ _ (vec_rd (List.Mem.head _)) w hw).mono ?_
  rintro e w' ⟨p3, c3, rfl, hw'⟩
  (refine ⟨_, rfl, _, hw', ?_⟩; clear hw' hw w w')
  repeat (first | (refine sx ?_; try intro _))
  refine JO_app (tb := tb) rfl rfl rfl rfl rfl rfl (by repeat (first | exact Sel.here _ _ | apply Sel.there)) (by first | exact vec_rd (by repeat (first | apply List.Mem.head | apply List.Mem.tail)) | assumption | exact ArgRd.rd (by assumption) _ | (apply Rd_weak; assumption; intro _ hx; exact dS hx)) (by rw [ints_len, Nat.mul_one]) ints_one (by omega) rfl ?_
  intro q4 d4
  rw [ints_app, hpe]
  repeat (first | (refine sx ?_; try intro _))
  have hlen : 8 + Z.length = A.length := by omega
  refine JS_ret Tryz.func33 rfl rfl fun w hw => ?_
  rw [hlen] at hw
  exact ⟨_, _, by rw [hlen]; rfl, dS hw⟩
end
end Go.Proofs.YteelffkghidpfaaGreat

namespace Go.Proofs.YteelffkghidpfaaGreat
open Sx Go Hd
set_option linter.unusedVariables false
set_option linter.unusedSimpArgs false
/-- bytes that are a histogram's compressed form (plain) -/
def OPD (B : List Int) (lo hi dg : Int) (T : List (Int × Int)) : Prop := ∃ P, (decs [4, 4] B).2.2 = 0 ∧ (decs [4, 4] B).1.getD 0 0 = 478450452 ∧ (decs [4, 4] B).1.getD 1 0 = ((B.length : Int) - (decs [4, 4] B).2.1) % 18446744073709551616 ∧
  ZR (B.drop (decs [4, 4] B).2.1) 1048576 0 P ∧ RDP P lo hi dg T ∧ packB P = B
theorem OPD.fun {B : List Int} {lo hi dg lo' hi' dg' : Int} {T T' : List (Int × Int)} (h : OPD B lo hi dg T) (h' : OPD B lo' hi' dg' T') : lo = lo' ∧ hi = hi' ∧ dg = dg' ∧ T = T' := by
  obtain ⟨P, _, _, _, h1, h2, _⟩ := h
  obtain ⟨P', _, _, _, g1, g2, _⟩ := h'
  obtain ⟨_, rfl⟩ := ZR_one h1 g1
  exact h2.fun g2
theorem ZR_okb {B : List Int} (hB : OKB B) {L e : Int} {o : List Int} (h : ZR B L e o) : OKB o := by
  rcases h with ⟨h1, rfl, rfl⟩ | ⟨h1, ⟨h2, rfl, rfl⟩ | ⟨h2, ⟨h3, rfl, rfl⟩ | ⟨h3, r, h4, h5⟩⟩⟩
  iterate 3 exact fun j => by simp
  cases r with
  | err x => obtain ⟨_, rfl⟩ := h5; exact fun j => by simp
  | ok a o' =>
    rcases h5 with ⟨_, _, rfl⟩ | ⟨_, ⟨_, _, rfl⟩ | ⟨_, ⟨_, _, rfl⟩ | ⟨_, _, rfl⟩⟩⟩
    iterate 3 exact fun j => by simp
    exact ALLR_okb h4
section
variable {w0 : World} {H : List Asn}
theorem LvO_err {R : Ending → World → Prop} {n : Nat} {xb eb : Nat} {p : Option Addr} {r : Int} {a : Act} {D : List Deferred} (ha : Rep n D [(2, .pointer (some ⟨xb, 0, none⟩)), (3, .pointer (some ⟨eb, 0, none⟩))] a) {w : World} (hw : St w0 (blk eb [.int .i64 r] :: blk xb [.pointer p] :: H) w)
    (hR : ∀ w, St w0 H w → R (.returned (.tuple #[.pointer none, .int .i64 9])) w) : Leaves Tryz.prog Tryz.f37 a.tmps R (defR xb eb) (.panicking FB) w := by
  refine leaves_cons (f := 67) (args := #[.pointer (some ⟨xb, 0, none⟩), .pointer (some ⟨eb, 0, none⟩)]) (by simp) (inv_f2 Tryz.call67) ?_
  refine (CaughtG_c xb eb p r w hw).mono ?_
  rintro e u' w' ⟨rfl, rfl, hw'⟩
  exact ⟨_, results_cells (tb := tb) (vs := [.pointer none, .int .i64 9]) (ResV.one (tb := tb) rfl (by repeat (first | apply List.Mem.head | apply List.Mem.tail)) rfl rfl rfl (ResV.one (tb := tb) rfl (by repeat (first | apply List.Mem.head | apply List.Mem.tail)) rfl rfl rfl ResV.nil)) ha hw', hR w' hw'.drop.drop⟩
theorem LvO_ok {R : Ending → World → Prop} {n : Nat} {xb eb : Nat} {p : Option Addr} {a : Act} {D : List Deferred} (ha : Rep n D [(2, .pointer (some ⟨xb, 0, none⟩)), (3, .pointer (some ⟨eb, 0, none⟩))] a) {w : World} (hw : St w0 (blk eb [.int .i64 0] :: blk xb [.pointer p] :: H) w)
    (hR : ∀ w, St w0 H w → R (.returned (.tuple #[.pointer p, .int .i64 0])) w) : Leaves Tryz.prog Tryz.f37 a.tmps R (defR xb eb) .returning w := by
  refine leaves_cons (f := 67) (args := #[.pointer (some ⟨xb, 0, none⟩), .pointer (some ⟨eb, 0, none⟩)]) (by simp) (inv_f2 Tryz.call67) ?_
  refine (CaughtI_c xb eb w hw).mono ?_
  rintro e u' w' ⟨rfl, rfl, hw'⟩
  exact ⟨_, results_cells (tb := tb) (vs := [.pointer p, .int .i64 0]) (ResV.one (tb := tb) rfl (by repeat (first | apply List.Mem.head | apply List.Mem.tail)) rfl rfl rfl (ResV.one (tb := tb) rfl (by repeat (first | apply List.Mem.head | apply List.Mem.tail)) rfl rfl rfl ResV.nil)) ha hw', hR w' hw'.drop.drop⟩
def OpenR (w0 : World) (H : List Asn) (B : List Int) : Ending → World → Prop := fun e w' =>
  ((∀ lo hi dg T, ¬ OPD B lo hi dg T) ∧ e = .returned (.tuple #[.pointer none, .int .i64 9]) ∧ St w0 H w') ∨
  (∃ lo hi dg T, OPD B lo hi dg T ∧ T.length ≤ 2000 ∧ GT T ∧ ∃ bh mb bm es clock, HM es clock T ∧ e = .returned (.tuple #[.pointer (some ⟨bh, 0, none⟩), .int .i64 0]) ∧ St w0 (rdH bh mb bm lo hi dg es clock T H) w')
set_option maxRecDepth 10000 in
set_option maxHeartbeats 8000000 in
theorem HOpen_c (p : Option Addr) (c m : Nat) (B : List Int) (hr : Rd w0 H (.slice p m c) m (ints .u8 B)) (hm : B.length = m) (hB : OKB B) (hm1 : m ≤ 100000) (hpm : p = none → m = 0) (hZ : (decs [4, 4] B).2.2 = 0 → ∀ P, ZR (B.drop (decs [4, 4] B).2.1) 1048576 0 P → P.length ≤ 2000) (w : World) (hw : St w0 H w) :
    Calls Tryz.prog 37 #[.slice p m c] w (OpenR w0 H B) := by
  have hmc : m ≤ c := (hr.lcap hw).1
  have hus := decs_use [4, 4] B hB
  have hGet := fun {H'} (hr' : Rd w0 H' (.slice p m c) m (ints .u8 B)) w hw => Get_c (w0 := w0) (H := H') [4, 4] (by decide) (by decide) p c m B hr' hm hB (by omega) hpm w hw
  refine enter (vs := [.slice p m c]) Tryz.func37 rfl rfl rfl hw ?_
  clear hw w
  unfold OpenR
  have hOD : ∀ lo hi dg T, OPD B lo hi dg T ↔ ∃ P, (decs [4, 4] B).2.2 = 0 ∧ (decs [4, 4] B).1.getD 0 0 = 478450452 ∧ (decs [4, 4] B).1.getD 1 0 = ((B.length : Int) - (decs [4, 4] B).2.1) % 18446744073709551616 ∧
    ZR (B.drop (decs [4, 4] B).2.1) 1048576 0 P ∧ RDP P lo hi dg T ∧ packB P = B := fun _ _ _ _ => Iff.rfl
  repeat (first | (apply gJO; refine JO_defer rfl rfl ?_) | first | (refine sx ?_; try intro _))
  rename_i xb eb
  refine JO_call (vs := [.string (bstr [87, 87]), .slice p m c]) Tryz.call66 rfl rfl fun w hw => (hGet (Rd_weak hr fun w hw => dS hw) w hw).mono ?_
  rintro e w' (⟨he, rfl, hw'⟩ | ⟨he, hl7, q, d, rfl, hw'⟩)
  · have hno : ∀ lo hi dg T, ¬ OPD B lo hi dg T := fun lo hi dg T ⟨P, h, _⟩ => he h
    (refine ⟨_, rfl, _, hw', ?_⟩; clear hw' hw w w')
    clear hOD
    generalize (decs [4, 4] B).2.2 = er at *
    repeat (first | (refine sx ?_; try intro _))
    refine JO_callE Tryz.func37 Tryz.call68 rfl rfl fun A hA w hw => (Need19_c _ w hw).mono ?_
    rintro e w' (⟨h, rfl, hw'⟩ | ⟨h, rfl, hw'⟩)
    · (exact absurd h (by first | (simp; done) | (simp; omega)))
    · (exact .inr ⟨_, rfl, LvO_err (hA.sub (by repeat (first | exact trivial | refine ⟨rfl, ?_⟩ | refine ⟨lookI rfl (by omega), ?_⟩))) (dS hw') fun w hw => .inl ⟨hno, rfl, hw⟩⟩)
  have hlen7 : ([4, 4] : List Nat).length = 2 := rfl
  rw [hlen7] at hl7 hw'
  rw [hlen7]
  clear hGet
  replace hZ := hZ he
  simp only [he] at hOD
  generalize (decs [4, 4] B).1 = F at *
  generalize (decs [4, 4] B).2.1 = us at *
  match F, hl7 with
  | [f0, f1], _ =>
  have b0 := hus.2 f0 (by simp)
  have b1 := hus.2 f1 (by simp)
  simp only [List.getD_cons_zero, List.getD_cons_succ, true_and] at hOD
  (refine ⟨_, rfl, _, hw', ?_⟩; clear hw' hw w w')
  have g0 : (ints .u64 [f0, f1])[0]? = some (.int .u64 f0) := rfl
  have g1 : (ints .u64 [f0, f1])[1]? = some (.int .u64 f1) := rfl
  have cL : IntKind.i64.wrap ((m : Int) - us) = (m : Int) - us := wi64 (by omega)
  have cU : IntKind.u64.wrap ((m : Int) - us) = ((m : Int) - us) % 18446744073709551616 := mu64 _
  rw [hm] at hOD
  generalize hwl : ((m : Int) - us) % 18446744073709551616 = wl at *
  have hcase : (¬ f0 = 478450452) ∨ (f0 = 478450452 ∧ ¬ f1 = wl) ∨ (f0 = 478450452 ∧ f1 = wl) := by omega
  rcases hcase with h0 | ⟨h0, h1⟩ | ⟨h0, h1⟩
  · have hno : ∀ lo hi dg T, ¬ OPD B lo hi dg T := fun lo hi dg T h => by
      obtain ⟨P, e1, _⟩ := (hOD _ _ _ _).1 h
      exact h0 e1
    repeat (first | (apply gJO; first | refine JO_v (V_sub rfl rfl cL rfl) ?_ | refine JO_v (V_conv (tb := tb) rfl rfl rfl cU rfl) ?_ | refine JO_v (oL (V_loadC (tb := tb) rfl (vec_rd (by repeat (first | apply List.Mem.head | apply List.Mem.tail))) rfl rfl g0 rfl)) ?_ | refine JO_v (oL (V_loadC (tb := tb) rfl (vec_rd (by repeat (first | apply List.Mem.head | apply List.Mem.tail))) rfl rfl g1 rfl)) ?_) | first | (refine sx ?_; try intro _))
    refine JO_callE Tryz.func37 Tryz.call68 rfl rfl fun A hA w hw => (Need19_c _ w hw).mono ?_
    rintro e w' (⟨h, rfl, hw'⟩ | ⟨h, rfl, hw'⟩)
    · (exact absurd h (by first | (simp; done) | (simp; omega)))
    · (exact .inr ⟨_, rfl, LvO_err (hA.sub (by repeat (first | exact trivial | refine ⟨rfl, ?_⟩ | refine ⟨lookI rfl (by omega), ?_⟩))) (dS hw') fun w hw => .inl ⟨hno, rfl, hw⟩⟩)
  · have hno : ∀ lo hi dg T, ¬ OPD B lo hi dg T := fun lo hi dg T h => by
      obtain ⟨P, _, e1, _⟩ := (hOD _ _ _ _).1 h
      exact h1 e1
    repeat (first | (apply gJO; first | refine JO_v (V_sub rfl rfl cL rfl) ?_ | refine JO_v (V_conv (tb := tb) rfl rfl rfl cU rfl) ?_ | refine JO_v (oL (V_loadC (tb := tb) rfl (vec_rd (by repeat (first | apply List.Mem.head | apply List.Mem.tail))) rfl rfl g0 rfl)) ?_ | refine JO_v (oL (V_loadC (tb := tb) rfl (vec_rd (by repeat (first | apply List.Mem.head | apply List.Mem.tail))) rfl rfl g1 rfl)) ?_) | first | (refine sx ?_; try intro _))
    refine JO_callE Tryz.func37 Tryz.call68 rfl rfl fun A hA w hw => (Need19_c _ w hw).mono ?_
    rintro e w' (⟨h, rfl, hw'⟩ | ⟨h, rfl, hw'⟩)
    · (exact absurd h (by first | (simp; done) | (simp; omega)))
    · (exact .inr ⟨_, rfl, LvO_err (hA.sub (by repeat (first | exact trivial | refine ⟨rfl, ?_⟩ | refine ⟨lookI rfl (by omega), ?_⟩))) (dS hw') fun w hw => .inl ⟨hno, rfl, hw⟩⟩)
  repeat (first | (apply gJO; first | refine JO_v (V_sub rfl rfl cL rfl) ?_ | refine JO_v (V_conv (tb := tb) rfl rfl rfl cU rfl) ?_ | refine JO_v (oL (V_loadC (tb := tb) rfl (vec_rd (by repeat (first | apply List.Mem.head | apply List.Mem.tail))) rfl rfl g0 rfl)) ?_ | refine JO_v (oL (V_loadC (tb := tb) rfl (vec_rd (by repeat (first | apply List.Mem.head | apply List.Mem.tail))) rfl rfl g1 rfl)) ?_) | first | (refine sx ?_; try intro _))
  refine JO_callE Tryz.func37 Tryz.call68 rfl rfl fun A hA w hw => (Need19_c _ w hw).mono ?_
  rintro e w' (⟨h, rfl, hw'⟩ | ⟨h, rfl, hw'⟩)
  rotate_left
  · (exact absurd h (by first | (simp; done) | (simp; omega)))
  (refine .inl ⟨_, rfl, _, hw', ?_⟩; clear hw' hw w w' hA A h)
  have hum : us ≤ m := by omega
  have hrD : Rd w0 H (.slice (subB p us c 1) (m - us) (c - us)) (m - us) (ints .u8 (B.drop us)) := Rd_dropC hr hm hum
  have hOp := fun {H'} (hr' : Rd w0 H' (.slice (subB p us c 1) (m - us) (c - us)) (m - us) (ints .u8 (B.drop us))) w hw => ZOpen_c (w0 := w0) (H := H') (subB p us c 1) (c - us) (m - us) (B.drop us) hr' (by rw [List.length_drop, hm]) (hB.drop us) (by omega) 1048576 (by decide) w hw
  repeat (first | (apply gJO; first | refine JO_v (V_slice (tb := tb) (lo := us) (hi := m) rfl rfl rfl rfl rfl rfl rfl (fun w hw => ⟨by omega, by omega⟩) rfl) ?_) | first | (refine sx ?_; try intro _))
  refine JO_call Tryz.call69 rfl rfl fun w hw => (hOp (Rd_weak hrD fun w hw => dS hw) w hw).mono ?_
  rintro e w' ⟨x, P, q2, d2, hZR, rfl, hw'⟩
  by_cases hx : x = 0
  rotate_left
  · have hno : ∀ lo hi dg T, ¬ OPD B lo hi dg T := fun lo hi dg T h => by
      obtain ⟨P', _, _, e1, _⟩ := (hOD _ _ _ _).1 h
      exact hx (ZR_one hZR e1).1
    (refine ⟨_, rfl, _, hw', ?_⟩; clear hw' hw w w')
    repeat (first | (refine sx ?_; try intro _))
    refine JO_callE Tryz.func37 Tryz.call68 rfl rfl fun A hA w hw => (Need19_c _ w hw).mono ?_
    rintro e w' (⟨h, rfl, hw'⟩ | ⟨h, rfl, hw'⟩)
    · (exact absurd h (by first | (simp; done) | (simp; omega)))
    · (exact .inr ⟨_, rfl, LvO_err (hA.sub (by repeat (first | exact trivial | refine ⟨rfl, ?_⟩ | refine ⟨lookI rfl (by omega), ?_⟩))) (dS hw') fun w hw => .inl ⟨hno, rfl, hw⟩⟩)
  subst hx
  have hPl := hZ P hZR
  have hPB : OKB P := ZR_okb (hB.drop us) hZR
  have hP2 := fun lo hi dg T (h : OPD B lo hi dg T) => show RDP P lo hi dg T ∧ packB P = B by
    obtain ⟨P', _, _, e1, e2, e3⟩ := (hOD _ _ _ _).1 h
    obtain ⟨_, rfl⟩ := ZR_one hZR e1
    exact ⟨e2, e3⟩
  have hmk := fun lo hi dg T h3 h4 => (hOD lo hi dg T).2 ⟨P, h0, h1, hZR, h3, h4⟩
  clear hOp hOD
  (refine ⟨_, rfl, _, hw', ?_⟩; clear hw' hw w w')
  repeat (first | (refine sx ?_; try intro _))
  refine JO_callE Tryz.func37 Tryz.call68 rfl rfl fun A hA w hw => (Need19_c _ w hw).mono ?_
  rintro e w' (⟨h, rfl, hw'⟩ | ⟨h, rfl, hw'⟩)
  rotate_left
  · (exact absurd h (by first | (simp; done) | (simp; omega)))
  (refine .inl ⟨_, rfl, _, hw', ?_⟩; clear hw' hw w w' hA A h)
  repeat (first | (refine sx ?_; try intro _))
  refine JO_call Tryz.call38 rfl rfl fun w hw => (HRead_c q2 d2 P.length P (vec_rd (List.Mem.head _)) rfl hPB (by omega) (Rd.nil (vec_rd (List.Mem.head _)) hw) w hw).mono ?_
  unfold ReadR
  rintro e w' (⟨hno0, rfl, hw'⟩ | ⟨lo, hi, dg, T, hR, hTl, hG, bh, mb, bm, es, clock, hE, rfl, hw'⟩)
  · have hno : ∀ lo hi dg T, ¬ OPD B lo hi dg T := fun lo hi dg T h => hno0 _ _ _ _ (hP2 _ _ _ _ h).1
    (refine ⟨_, rfl, _, hw', ?_⟩; clear hw' hw w w')
    repeat (first | (refine sx ?_; try intro _))
    refine JO_callE Tryz.func37 Tryz.call68 rfl rfl fun A hA w hw => (Need19_c _ w hw).mono ?_
    rintro e w' (⟨h, rfl, hw'⟩ | ⟨h, rfl, hw'⟩)
    · (exact absurd h (by first | (simp; done) | (simp; omega)))
    · (exact .inr ⟨_, rfl, LvO_err (hA.sub (by repeat (first | exact trivial | refine ⟨rfl, ?_⟩ | refine ⟨lookI rfl (by omega), ?_⟩))) (dS hw') fun w hw => .inl ⟨hno, rfl, hw⟩⟩)
  obtain ⟨s1, s2, s3, s4⟩ := hR.sh.1
  have hug := hR.sh.2
  have hgd := gOf_bd (dg := dg) ⟨s1, s2⟩
  have hlo63 := hR.lo63
  have hhi63 := hR.hi63
  have hwr := hR.wr
  have hb63 : bkt (uOf lo) (gOf dg) hi.toNat ≤ 62 := bkt_63 (by omega) (by omega)
  have hPk := fun {H'} (x1 : blk bh (hc mb bm false (1 + bkt (uOf lo) (gOf dg) hi.toNat) (sw T)) ∈ H') (x2 : mapL bm es clock ∈ H') (x3 : blk mb (mc lo hi dg (uOf lo) (gOf dg)) ∈ H') hpl w hw => HPack_c (w0 := w0) (H := H') bh mb bm false (1 + bkt (uOf lo) (gOf dg) hi.toNat) es clock T x1 x2 x3 hE hG hug (by omega) (by omega) (by omega) hpl (by omega) (by omega) (by omega) w hw
  have hrc : rchv (uOf lo) (gOf dg) hi (1 + bkt (uOf lo) (gOf dg) hi.toNat) = hi := if_pos rfl
  rw [hrc, hwr] at hPk
  unfold rdH at hw' ⊢
  (refine ⟨_, rfl, _, hw', ?_⟩; clear hw' hw w w')
  repeat (first | (refine sx ?_; try intro _))
  refine JO_callE Tryz.func37 Tryz.call68 rfl rfl fun A hA w hw => (Need19_c _ w hw).mono ?_
  rintro e w' (⟨h, rfl, hw'⟩ | ⟨h, rfl, hw'⟩)
  rotate_left
  · (exact absurd h (by first | (simp; done) | (simp; omega)))
  (refine .inl ⟨_, rfl, _, hw', ?_⟩; clear hw' hw w w' hA A h)
  repeat (first | (refine sx ?_; try intro _))
  refine JO_call Tryz.call33 rfl rfl fun w hw => (hPk (List.Mem.head _) (List.Mem.tail _ (List.Mem.head _)) (List.Mem.tail _ (List.Mem.tail _ (List.Mem.head _))) (by omega) w hw).mono ?_
  rintro e w' ⟨p3, c3', rfl, hw'⟩
  have hpbl := pkB_bd hPl
  have hpkl := packB_len P
  (refine ⟨_, rfl, _, hw', ?_⟩; clear hw' hw w w')
  repeat (first | (refine sx ?_; try intro _))
  refine JO_call Tryz.call70 rfl rfl fun w hw => (Equal_c p3 p c3' c _ m (packB P) B (vec_rd (List.Mem.head _)) (Rd_weak hr fun w hw => dS hw) rfl hm (by omega) (by omega) w hw).mono ?_
  rintro e w' ⟨rfl, hw'⟩
  by_cases heq : packB P = B
  rotate_left
  · have hno : ∀ lo hi dg T, ¬ OPD B lo hi dg T := fun lo hi dg T h => heq (hP2 _ _ _ _ h).2
    rw [decide_eq_false heq]
    (refine ⟨_, rfl, _, hw', ?_⟩; clear hw' hw w w')
    repeat (first | (refine sx ?_; try intro _))
    refine JO_callE Tryz.func37 Tryz.call68 rfl rfl fun A hA w hw => (Need19_c _ w hw).mono ?_
    rintro e w' (⟨h, rfl, hw'⟩ | ⟨h, rfl, hw'⟩)
    · (exact absurd h (by first | (simp; done) | (simp; omega)))
    · (exact .inr ⟨_, rfl, LvO_err (hA.sub (by repeat (first | exact trivial | refine ⟨rfl, ?_⟩ | refine ⟨lookI rfl (by omega), ?_⟩))) (dS hw') fun w hw => .inl ⟨hno, rfl, hw⟩⟩)
  rw [decide_eq_true heq]
  (refine ⟨_, rfl, _, hw', ?_⟩; clear hw' hw w w')
  have hOk := hmk lo hi dg T hR heq
  repeat (first | (refine sx ?_; try intro _))
  refine JO_callE Tryz.func37 Tryz.call68 rfl rfl fun A hA w hw => (Need19_c _ w hw).mono ?_
  rintro e w' (⟨h, rfl, hw'⟩ | ⟨h, rfl, hw'⟩)
  rotate_left
  · (exact absurd h (by first | (simp; done) | (simp; omega)))
  (refine .inl ⟨_, rfl, _, hw', ?_⟩; clear hw' hw w w' hA A h)
  repeat (first | (refine sx ?_; try intro _))
  refine JS_retD Tryz.func37 fun A w hA hw => ?_
  refine LvO_ok (p := some ⟨bh, 0, none⟩) (H := blk bh (hc mb bm false (1 + bkt (uOf lo) (gOf dg) hi.toNat) (sw T)) :: mapL bm es clock :: blk mb (mc lo hi dg (uOf lo) (gOf dg)) :: H) (hA.sub (by repeat (first | exact trivial | refine ⟨rfl, ?_⟩ | refine ⟨lookI rfl (by omega), ?_⟩))) ?_ fun w hw => .inr ⟨lo, hi, dg, T, hOk, by omega, hG, bh, mb, bm, es, clock, hE, rfl, hw⟩
  have hw2 : St w0 (blk bh (hc mb bm false (1 + bkt (uOf lo) (gOf dg) hi.toNat) (sw T)) :: mapL bm es clock :: blk mb (mc lo hi dg (uOf lo) (gOf dg)) :: blk eb [.int .i64 0] :: blk xb [.pointer (some ⟨bh, 0, none⟩)] :: H) w := dS hw
  exact hw2.perm (by (repeat (first | exact List.Perm.refl _ | refine List.Perm.cons _ ?_ | refine (List.perm_middle (l₁ := [_])).trans (List.Perm.cons _ ?_) | refine (List.perm_middle (l₁ := [_, _])).trans (List.Perm.cons _ ?_) | refine (List.perm_middle (l₁ := [_, _, _])).trans (List.Perm.cons _ ?_) | refine (List.perm_middle (l₁ := [_, _, _, _])).trans (List.Perm.cons _ ?_) | refine (List.perm_middle (l₁ := [_, _, _, _, _])).trans (List.Perm.cons _ ?_) | refine (List.perm_middle (l₁ := [_, _, _, _, _, _])).trans (List.Perm.cons _ ?_) | refine (List.perm_middle (l₁ := [_, _, _, _, _, _, _])).trans (List.Perm.cons _ ?_) | refine (List.perm_middle (l₁ := [_, _, _, _, _, _, _, _])).trans (List.Perm.cons _ ?_) | refine (List.perm_middle (l₁ := [_, _, _, _, _, _, _, _, _])).trans (List.Perm.cons _ ?_) | refine (List.perm_middle (l₁ := [_, _, _, _, _, _, _, _, _, _])).trans (List.Perm.cons _ ?_) | refine (List.perm_middle (l₁ := [_, _, _, _, _, _, _, _, _, _, _])).trans (List.Perm.cons _ ?_) | refine (List.perm_middle (l₁ := [_, _, _, _, _, _, _, _, _, _, _, _])).trans (List.Perm.cons _ ?_) | refine (List.perm_middle (l₁ := [_, _, _, _, _, _, _, _, _, _, _, _, _])).trans (List.Perm.cons _ ?_))))
end
end Go.Proofs.YteelffkghidpfaaGreat

namespace Go.Proofs.YteelffkghidpfaaGreat
open Sx Go Hd
set_option linter.unusedVariables false
set_option linter.unusedSimpArgs false
theorem ZR_pkB {B : List Int} (hB : OKB B) (hl : B.length ≤ 2000) : ZR (pkB B) 1048576 0 B := by
  have := ZR_pk (S := []) hB (fun j => by simp) 1048576 (by omega) (by omega)
  rw [List.append_nil, if_pos rfl, if_pos rfl] at this
  exact this
theorem packB_decs {B : List Int} (hl : B.length ≤ 2000) : decs [4, 4] (packB B) = ([478450452, ((pkB B).length : Int)], 8, 0) := by
  have hb := pkB_bd hl
  exact h8_decs (n := (pkB B).length) (by omega) (pkB B)
theorem packB_drop (B : List Int) : (packB B).drop 8 = pkB B := List.drop_left' (hd8_len _)
theorem ZR_packB {B P : List Int} (hB : OKB B) (hl : B.length ≤ 2000) (h : ZR ((packB B).drop (decs [4, 4] (packB B)).2.1) 1048576 0 P) : P.length ≤ 2000 := by
  rw [packB_decs hl] at h
  dsimp only at h
  rw [packB_drop] at h
  obtain ⟨_, rfl⟩ := ZR_one h (ZR_pkB hB hl)
  exact hl
end Go.Proofs.YteelffkghidpfaaGreat

namespace Go.Proofs.YteelffkghidpfaaGreat
open Sx Go
set_option linter.unusedVariables false
set_option linter.unusedSimpArgs false
attribute [local irreducible] syA fc tk cds
theorem lenP_okb {many : Nat} {l l' : List Int} {x t : Int} {a a' : Nat} (hl : OKB l) (hx : 0 ≤ x ∧ x < 256) (h : lenP many l x t a = .go a' l') : OKB l' := by
  unfold lenP at h
  split at h
  · cases h
  · simp only [Stp.go.injEq] at h
    obtain ⟨rfl, rfl⟩ := h
    exact OKB_app hl (OKB_rep hx _)
theorem lenF_okb {bt : Nat → Int} {N a a' many : Nat} {C l l' : List Int} (hC : C.length ≤ 256) (ha : a ≤ N) (hl : OKB l) (h : lenF bt N C many a l = .go a' l') : OKB l' := by
  unfold lenF at h
  split at h
  · cases h
  · split at h
    · cases h
    · rename_i i a1 hs
      have hi := symS_gt hs ha
      split at h
      · split at h
        · cases h
        · split at h
          · cases h
          · exact lenP_okb hl (hl _) h
      · split at h
        · split at h
          · cases h
          · exact lenP_okb hl ⟨by decide, by decide⟩ h
        · split at h
          · split at h
            · cases h
            · exact lenP_okb hl ⟨by decide, by decide⟩ h
          · exact lenP_okb hl ⟨hi.2.2.1, by omega⟩ h
theorem lens_okb {bt : Nat → Int} {N many : Nat} {C : List Int} (hC : C.length ≤ 256) {a : Nat} {l : List Int} {r : Res} (h : It (lenF bt N C many) a l r) : a ≤ N → OKB l → ∀ a' l', r = .ok a' l' → OKB l' := by
  induction h with
  | err _ => intro _ _ a' l' h; cases h
  | stop h =>
    intro ha hl a' l' h'
    cases h'
    unfold lenF at h
    split at h
    · simp only [Stp.stop.injEq] at h; rw [← h.2]; exact hl
    · exfalso
      split at h
      · cases h
      · split at h
        · split at h
          · cases h
          · split at h
            · cases h
            · unfold lenP at h; split at h <;> cases h
        · split at h
          · split at h
            · cases h
            · unfold lenP at h; split at h <;> cases h
          · split at h
            · split at h
              · cases h
              · unfold lenP at h; split at h <;> cases h
            · unfold lenP at h; split at h <;> cases h
  | go h _ ih =>
    intro ha hl
    exact ih (lenF_gt ha h).2 (lenF_okb hC ha hl h)
section
variable {bt bt' : Nat → Int} {N N' M : Nat}
/-- some bits behind a symbol of the lengths -/
theorem lenQ (h : AG bt bt' N N' M) {many c a1 a' : Nat} {l l' : List Int} {x b : Int} (hs : (if N < a1 + c then .err 20 else lenP many l x (b + nbt bt a1 c) (a1 + c)) = Stp.go a' l') :
    (a' ≤ M → (if N' < a1 + c then .err 20 else lenP many l x (b + nbt bt' a1 c) (a1 + c)) = Stp.go a' l') ∧ (N' = M → M < a' → (if N' < a1 + c then .err 20 else lenP many l x (b + nbt bt' a1 c) (a1 + c)) = Stp.err 20) ∧ a1 ≤ a' := by
  split at hs
  · cases hs
  · have hp := lenP_go hs
    refine ⟨fun hle => ?_, fun hN hlt => ?_, by omega⟩
    · have e := h.nbt (a := a1) (c := c) (by omega)
      rw [if_neg (by have := h.le'; omega), ← e]; exact hs
    · rw [if_pos (by omega)]
theorem lenF_agg (h : AG bt bt' N N' M) {C : List Int} (hB : OKB C) (hk : OKL C) (many : Nat) : AGg M (N' = M) (lenF bt N C many) (lenF bt' N' C many) := by
  intro a l a' l' ha hs
  unfold lenF at hs ⊢
  split at hs
  · cases hs
  · rename_i h0
    rw [if_neg h0]
    cases hy : symS bt N C a with
    | err e => rw [hy] at hs; cases hs
    | ok i a1 =>
      rw [hy] at hs
      simp only at hs
      obtain ⟨s1, s2⟩ := symS_ag h hB hk ha hy
      rcases Nat.lt_or_ge M a1 with hl | hge
      · refine ⟨fun hle => ?_, fun hN hlt => ?_⟩
        · exfalso
          split at hs
          · split at hs
            · cases hs
            · have := (lenQ h (b := 3) hs).2.2; omega
          · split at hs
            · have := (lenQ h (b := 3) hs).2.2; omega
            · split at hs
              · have := (lenQ h (b := 11) hs).2.2; omega
              · have := lenP_go hs; omega
        · rw [s2 hN hl]
      · rw [s1 hge]
        simp only
        split at hs
        · rename_i h1
          rw [if_pos h1]
          split at hs
          · cases hs
          · rename_i h2
            rw [if_neg h2]
            exact ⟨(lenQ h (b := 3) hs).1, (lenQ h (b := 3) hs).2.1⟩
        · rename_i h1
          rw [if_neg h1]
          split at hs
          · rename_i h2
            rw [if_pos h2]
            exact ⟨(lenQ h (b := 3) hs).1, (lenQ h (b := 3) hs).2.1⟩
          · rename_i h2
            rw [if_neg h2]
            split at hs
            · rename_i h3
              rw [if_pos h3]
              exact ⟨(lenQ h (b := 11) hs).1, (lenQ h (b := 11) hs).2.1⟩
            · rename_i h3
              rw [if_neg h3]
              have hp := lenP_go hs
              exact ⟨fun _ => hs, fun hN hlt => by omega⟩
theorem lenF_ags (h : AG bt bt' N N' M) {C : List Int} (many : Nat) : AGs M (N' = M) (lenF bt N C many) (lenF bt' N' C many) := by
  intro a l a' l' ha hs
  have hst : many ≤ l.length := by
    rcases Nat.lt_or_ge l.length many with hlt | hge
    · exfalso
      unfold lenF at hs
      rw [if_neg (by omega)] at hs
      split at hs
      · cases hs
      · split at hs
        · split at hs
          · cases hs
          · split at hs
            · cases hs
            · unfold lenP at hs; split at hs <;> cases hs
        · split at hs
          · split at hs
            · cases hs
            · unfold lenP at hs; split at hs <;> cases hs
          · split at hs
            · split at hs
              · cases hs
              · unfold lenP at hs; split at hs <;> cases hs
            · unfold lenP at hs; split at hs <;> cases hs
    · exact hge
  unfold lenF at hs ⊢
  rw [if_pos hst] at hs ⊢
  simp only [Stp.stop.injEq] at hs
  obtain ⟨rfl, rfl⟩ := hs
  exact ⟨fun _ => rfl, fun _ hlt => by omega⟩
theorem ccl_ag (h : AG bt bt' N N' M) (a : Nat) : ∀ n, a + 3 * n ≤ M → ccl bt a n = ccl bt' a n
  | 0, _ => rfl
  | n + 1, hn => by
    simp only [ccl]
    rw [ccl_ag h a n (by omega), h.nbt (a := a + 3 * n) (c := 3) (by omega)]
theorem stoF_ag (h : AG bt bt' N N' M) (hM : M % 8 = 0 ∨ ¬ N' = M) (lim : Nat) : AGr M (N' = M) (stoF bt N lim) (stoF bt' N' lim) := by
  intro a o a' o' ha hs
  have hn := (nbt_bd bt h.b (upto8 a) 16).1
  unfold stoF at hs ⊢
  split at hs
  · cases hs
  · rename_i h1
    split at hs
    · cases hs
    · rename_i h2
      split at hs
      · cases hs
      · rename_i h3
        split at hs
        · cases hs
        · rename_i h4
          split at hs
          · cases hs
          · rename_i h5
            simp only [Res.ok.injEq] at hs
            obtain ⟨rfl, rfl⟩ := hs
            refine ⟨fun hle => ?_, fun hN hlt => ?_⟩
            · have e1 := h.nbt (a := upto8 a) (c := 16) (by omega)
              have e2 := h.nbt (a := upto8 a + 16) (c := 16) (by omega)
              have := h.le'
              rw [if_neg (by omega), if_neg (by omega), ← e1, ← e2, if_neg h3, if_neg h4, if_neg (by omega)]
              congr 2
              unfold byts
              apply List.map_congr_left
              intro j hj
              rw [List.mem_range] at hj
              exact (h.nbt (by omega)).symm
            · rcases Nat.lt_or_ge M (upto8 a + 16) with g1 | g1
              · rw [if_pos (by omega)]
              · rw [if_neg (by omega)]
                rcases Nat.lt_or_ge M (upto8 a + 32) with g2 | g2
                · rw [if_pos (by omega)]
                · rw [if_neg (by omega)]
                  have e1 := h.nbt (a := upto8 a) (c := 16) (by omega)
                  have e2 := h.nbt (a := upto8 a + 16) (c := 16) (by omega)
                  rw [← e1, ← e2, if_neg h3, if_neg h4, if_pos (by omega)]
theorem desF_ag (h : AG bt bt' N N' M) (lim : Nat) : AGr M (N' = M) (desF bt N lim) (desF bt' N' lim) := by
  intro a o a' o' ha hs
  have hleN := h.le
  unfold desF at hs ⊢
  split at hs
  · cases hs
  · rename_i h1
    split at hs
    · cases hs
    · rename_i h2
      split at hs
      · cases hs
      · rename_i h3
        rcases Nat.lt_or_ge M (a + 14) with g | g
        · have hge : a + 14 ≤ a' := by
            unfold des1 at hs
            split at hs
            · cases hs
            · split at hs
              · cases hs
              · split at hs
                · cases hs
                · split at hs
                  · cases hs
                  · rename_i a1 l1 hl1
                    have q1 := It_ge (fun a o a' o' => lenF_ge) (itF_ok hl1) _ _ rfl
                    unfold des2 at hs
                    split at hs
                    · cases hs
                    · split at hs
                      · cases hs
                      · split at hs
                        · cases hs
                        · have := It_ge (fun a o a' o' => blkF_ge) (itF_ok hs) _ _ rfl
                          omega
          refine ⟨fun hle => by omega, fun hN hlt => ?_⟩
          rcases Nat.lt_or_ge M (a + 5) with q1 | q1
          · rw [if_pos (by omega)]
          · rw [if_neg (by omega)]
            rcases Nat.lt_or_ge M (a + 10) with q2 | q2
            · rw [if_pos (by omega)]
            · rw [if_neg (by omega), if_pos (by omega)]
        · have hle' := h.le'
          rw [if_neg (by omega), if_neg (by omega), if_neg (by omega)]
          rw [← h.nbt (a := a) (c := 5) (by omega), ← h.nbt (a := a + 5) (c := 5) (by omega), ← h.nbt (a := a + 10) (c := 4) (by omega)]
          generalize (nbt bt a 5 + 257).toNat = lit at *
          generalize (nbt bt (a + 5) 5 + 1).toNat = sp at *
          generalize (nbt bt (a + 10) 4 + 4).toNat = ln at *
          unfold des1 at hs ⊢
          split at hs
          · cases hs
          · rename_i h4
            rw [if_neg h4]
            split at hs
            · cases hs
            · rename_i h5
              split at hs
              · cases hs
              · rename_i h6
                have hkC : OKL (ccl bt (a + 14) ln) := Classical.byContradiction fun hh => h6 (.inl hh)
                have hBC := ccl_okb bt h.b (a + 14) ln
                split at hs
                · cases hs
                · rename_i a1 l1 hl1
                  have q1 := It_ge (fun a o a' o' => lenF_ge) (itF_ok hl1) _ _ rfl
                  have hol : OKB l1 := lens_okb (by rw [ccl_len]; omega) (itF_ok hl1) (by omega) OKB_nil _ _ rfl
                  have q2 : a1 ≤ a' := by
                    unfold des2 at hs
                    split at hs
                    · cases hs
                    · split at hs
                      · cases hs
                      · split at hs
                        · cases hs
                        · exact It_ge (fun a o a' o' => blkF_ge) (itF_ok hs) _ _ rfl
                  have D2 : a1 ≤ M → (a' ≤ M → des2 bt' N' lim lit l1 a1 o = .ok a' o') ∧ (N' = M → M < a' → des2 bt' N' lim lit l1 a1 o = .err 20) := by
                    intro h1M
                    unfold des2 at hs ⊢
                    split at hs
                    · cases hs
                    · rename_i h7
                      rw [if_neg h7]
                      split at hs
                      · cases hs
                      · rename_i h8
                        rw [if_neg h8]
                        split at hs
                        · cases hs
                        · rename_i h9
                          rw [if_neg h9]
                          exact itblk_ag h (Byt_take hol _) (Classical.byContradiction h8) (Byt_drop hol _) (Classical.byContradiction h9) lim _ _ _ _ h1M hs
                  rcases Nat.lt_or_ge M (a + 14 + 3 * ln) with g2 | g2
                  · refine ⟨fun hle => by omega, fun hN hlt => ?_⟩
                    rw [if_pos (by omega)]
                  · rw [if_neg (by omega), ← ccl_ag h (a + 14) ln g2, if_neg h6]
                    obtain ⟨t1, t2⟩ := itF_ag (fun _ _ _ _ => lenF_ge) (lenF_agg h hBC hkC (lit + sp)) (lenF_ags h (C := ccl bt (a + 14) ln) (lit + sp)) _ _ _ _ g2 hl1
                    rcases Nat.lt_or_ge M a1 with g3 | g3
                    · refine ⟨fun hle => by omega, fun hN hlt => ?_⟩
                      rw [t2 hN g3]
                    · rw [t1 g3]
                      exact D2 g3
theorem kndF_ag (h : AG bt bt' N N' M) (hM : M % 8 = 0 ∨ ¬ N' = M) (lim : Nat) (k : Int) : AGr M (N' = M) (kndF bt N lim k) (kndF bt' N' lim k) := by
  intro a o a' o' ha hs
  unfold kndF at hs ⊢
  split at hs
  · rename_i h1
    rw [if_pos h1]
    exact stoF_ag h hM lim _ _ _ _ ha hs
  · rename_i h1
    rw [if_neg h1]
    split at hs
    · rename_i h2
      rw [if_pos h2]
      exact itblk_ag h fix_okb fix_okl spans_okb spans_okl lim _ _ _ _ ha hs
    · rename_i h2
      rw [if_neg h2]
      split at hs
      · rename_i h3
        rw [if_pos h3]
        exact desF_ag h lim _ _ _ _ ha hs
      · cases hs
theorem rdF_both (h : AG bt bt' N N' M) (hM : M % 8 = 0 ∨ ¬ N' = M) (lim : Nat) : AGg M (N' = M) (rdF bt N lim) (rdF bt' N' lim) ∧ AGs M (N' = M) (rdF bt N lim) (rdF bt' N' lim) := by
  have hle' := h.le'
  have key : ∀ a o a1 o1, a ≤ M → ¬ N < a + 1 → ¬ N < a + 3 → kndF bt N lim (nbt bt (a + 1) 2) (a + 3) o = .ok a1 o1 →
      (a1 ≤ M → rdF bt' N' lim a o = if nbt bt a 1 = 0 then .go a1 o1 else .stop a1 o1) ∧ (N' = M → M < a1 → rdF bt' N' lim a o = .err 20) := by
    intro a o a1 o1 ha h1 h2 hk
    have hge := kndF_ge hk
    unfold rdF
    rcases Nat.lt_or_ge M (a + 3) with g | g
    · refine ⟨fun hle => by omega, fun hN hlt => ?_⟩
      rcases Nat.lt_or_ge M (a + 1) with g1 | g1
      · rw [if_pos (by omega)]
      · rw [if_neg (by omega), if_pos (by omega)]
    · obtain ⟨k1, k2⟩ := kndF_ag h hM lim _ _ _ _ _ g hk
      rw [if_neg (by omega), if_neg (by omega), ← h.nbt (a := a) (c := 1) (by omega), ← h.nbt (a := a + 1) (c := 2) (by omega)]
      exact ⟨fun hle => by rw [k1 hle], fun hN hlt => by rw [k2 hN hlt]⟩
  constructor
  all_goals
    intro a o a' o' ha hs
    have hs0 := hs
    unfold rdF at hs
    split at hs
    · cases hs
    · rename_i h1
      split at hs
      · cases hs
      · rename_i h2
        split at hs
        · cases hs
        · rename_i a1 o1 hk
          obtain ⟨q1, q2⟩ := key a o a1 o1 ha h1 h2 hk
          split at hs
          all_goals first
            | cases hs; done
            | (rename_i h3
               first
                | (simp only [Stp.go.injEq] at hs
                   obtain ⟨rfl, rfl⟩ := hs
                   exact ⟨fun hle => by rw [q1 hle, if_pos h3], q2⟩)
                | (simp only [Stp.stop.injEq] at hs
                   obtain ⟨rfl, rfl⟩ := hs
                   exact ⟨fun hle => by rw [q1 hle, if_neg h3], q2⟩))
end
theorem rdF_ge {bt : Nat → Int} {N lim a a' : Nat} {o o' : List Int} (h : rdF bt N lim a o = .go a' o' ∨ rdF bt N lim a o = .stop a' o') : a ≤ a' := by
  unfold rdF at h
  split at h
  · rcases h with h | h <;> cases h
  · split at h
    · rcases h with h | h <;> cases h
    · split at h
      · rcases h with h | h <;> cases h
      · rename_i a1 o1 hk
        have := kndF_ge hk
        split at h
        · rcases h with h | h
          · simp only [Stp.go.injEq] at h; omega
          · cases h
        · rcases h with h | h
          · cases h
          · simp only [Stp.stop.injEq] at h; omega
/-- a stream that is cut off ends -/
theorem ALLR_cut {B B' : List Int} {lim a : Nat} {o : List Int} (h : ALLR B lim (.ok a o)) (hl : 8 * B'.length < a) (hle : B'.length ≤ B.length) (he : ∀ j, j < 8 * B'.length → bitB B 0 j = bitB B' 0 j) : ALLR B' lim (.err 20) := by
  have ag : AG (bitB B 0) (bitB B' 0) (8 * B.length) (8 * B'.length) (8 * B'.length) := ⟨he, by omega, Nat.le_refl _, bitB_01 _ _, bitB_01 _ _⟩
  exact (It_ag (fun _ _ _ _ => rdF_ge) (rdF_both ag (.inl (by omega)) lim).1 (rdF_both ag (.inl (by omega)) lim).2 h (Nat.zero_le _) _ _ rfl).2 rfl hl
end Go.Proofs.YteelffkghidpfaaGreat

namespace Go.Proofs.YteelffkghidpfaaGreat
open Sx Go Hd
set_option linter.unusedVariables false
set_option linter.unusedSimpArgs false
/-! ## torn compressed forms (plain) -/
def TornR (A : List Int) : Prop := (decs [4, 4] A).2.2 = 0 → ∀ P, ¬ ZR (A.drop (decs [4, 4] A).2.1) 1048576 0 P
theorem torn_z {n : Nat} {R : List Int} {e : Int} {o : List Int} (hn : n < 4294967296) (hz : ZR R 1048576 e o) (he : e ≠ 0) : TornR (hd8 n ++ R) := by
  intro _ P h
  rw [h8_decs hn] at h
  dsimp only at h
  rw [List.drop_left' (hd8_len n)] at h
  exact he (ZR_one hz h).1
theorem torn_short {A : List Int} (h : A.length < 8) : TornR A := by
  intro h0
  exfalso
  by_cases h4 : A.length < 4
  · have e1 : dec 4 A = (0, 0, 20) := if_pos h4
    unfold decs at h0
    rw [e1] at h0
    simp at h0
  · have e1 : dec 4 A = (hiN (A.take 4), 4, 0) := if_neg h4
    have e2 : dec 4 (A.drop 4) = (0, 0, 20) := if_pos (by rw [List.length_drop]; omega)
    have e3 : decs [4] (A.drop 4) = ([], 0, 20) := by unfold decs; rw [e2]; rfl
    unfold decs at h0
    rw [e1] at h0
    dsimp only at h0
    rw [e3] at h0
    simp at h0
theorem hdOK_X (X : List Int) : hdOK ([120, 1] ++ X) := by
  have h0 : ([120, 1] ++ X).getD 0 0 = 120 := rfl
  have h1 : ([120, 1] ++ X).getD 1 0 = 1 := rfl
  unfold hdOK
  rw [h0, h1]
  exact ⟨by simp, by decide, by decide, by decide, by decide⟩
theorem bitB_cut {B : List Int} {n j : Nat} (h : j < 8 * n) : bitB B 0 j = bitB (B.take n) 0 j := by
  unfold bitB
  rw [Nat.zero_add, List.getD_eq_getElem?_getD, List.getD_eq_getElem?_getD, List.getElem?_take, if_pos (by omega)]
theorem ZR_S {B S : List Int} (hB : OKB B) (hS : OKB S) (hl : B.length ≤ 2000) (h : S.length < 4 ∨ S.take 4 ≠ sb4 (adl B)) : ∃ e, e ≠ 0 ∧ ZR ([120, 1] ++ (bestB B ++ S)) 1048576 e [] := by
  obtain ⟨a, ha, hA⟩ := ALLR_best (lim := (1048576 : Int).toNat) (S := S) hB (OKB_app (sbs_okb hB) hS) (by rw [show (1048576 : Int).toNat = 1048576 from rfl]; omega)
  have hd : ([120, 1] ++ (bestB B ++ S)).drop (2 + (a + 7) / 8) = S := by
    rw [ha, ← List.drop_drop]; exact List.drop_left
  by_cases h4 : S.length < 4
  · refine ⟨20, by decide, .inr ⟨by decide, .inr ⟨by simp, .inr ⟨hdOK_X _, .ok a B, hA, .inl ⟨by rw [hd]; exact h4, rfl, rfl⟩⟩⟩⟩⟩
  · refine ⟨91, by decide, .inr ⟨by decide, .inr ⟨by simp, .inr ⟨hdOK_X _, .ok a B, hA, .inr ⟨by rw [hd]; omega, .inl ⟨by rw [hd]; exact h.resolve_left h4, rfl, rfl⟩⟩⟩⟩⟩⟩
theorem ZR_cut {B : List Int} (hB : OKB B) (hl : B.length ≤ 2000) {j : Nat} (hj : j < (bestB B).length) : ∃ e, e ≠ 0 ∧ ZR ([120, 1] ++ (bestB B).take j) 1048576 e [] := by
  obtain ⟨a, ha, hA⟩ := ALLR_best (lim := (1048576 : Int).toNat) (S := []) hB (OKB_app (sbs_okb hB) (fun j => by simp)) (by rw [show (1048576 : Int).toNat = 1048576 from rfl]; omega)
  rw [List.append_nil] at hA
  have hlen : ((bestB B).take j).length = j := by rw [List.length_take]; omega
  have hc := ALLR_cut (B' := (bestB B).take j) hA (by rw [hlen]; omega) (by rw [hlen]; omega) (fun i hi => by rw [hlen] at hi; exact bitB_cut hi)
  exact ⟨20, by decide, .inr ⟨by decide, .inr ⟨by simp, .inr ⟨hdOK_X _, .err 20, hc, rfl, rfl⟩⟩⟩⟩
end Go.Proofs.YteelffkghidpfaaGreat

namespace Go.Proofs.YteelffkghidpfaaGreat
open Sx Go Hd
set_option linter.unusedVariables false
set_option linter.unusedSimpArgs false
/-! ## the three torn forms (plain) -/
theorem xor_ne {z a : Int} (hz : 0 ≤ z ∧ z < 256) (ha : 0 ≤ a ∧ a < 256) (hne : a ≠ 0) : IntKind.u8.wrap ((BitVec.ofInt IntKind.u8.bits z ^^^ BitVec.ofInt IntKind.u8.bits a).toNat) ≠ z := by
  have h1 := xor_nat .u8 (a := z) (b := a) (by rw [show IntKind.u8.bits = 8 from rfl]; omega) (by rw [show IntKind.u8.bits = 8 from rfl]; omega)
  rw [h1]
  obtain ⟨m, rfl⟩ := Int.eq_ofNat_of_zero_le hz.1
  obtain ⟨k, rfl⟩ := Int.eq_ofNat_of_zero_le ha.1
  intro h
  have hx : m ^^^ k < 256 := Nat.xor_lt_two_pow (n := 8) (by omega) (by omega)
  rw [mu8] at h
  simp only [Int.toNat_natCast] at h
  have h2 : m ^^^ k = m := by omega
  have h3 : m ^^^ (m ^^^ k) = m ^^^ m := by rw [h2]
  rw [← Nat.xor_assoc, Nat.xor_self, Nat.zero_xor] at h3
  omega
theorem packB_X (P : List Int) : packB P = (hd8 (pkB P).length ++ ([120, 1] ++ bestB P)) ++ sb4 (adl P) := by
  unfold packB
  rw [show pkB P = [120, 1] ++ bestB P ++ sb4 (adl P) from rfl]
  simp only [List.append_assoc]
theorem X_len (P : List Int) : (hd8 (pkB P).length ++ ([120, 1] ++ bestB P)).length + 4 = (packB P).length := by
  rw [packB_X]
  generalize hd8 (pkB P).length ++ ([120, 1] ++ bestB P) = X
  rw [List.length_append]; rfl
theorem torn_last {P : List Int} (hP : OKB P) (hl : P.length ≤ 2000) {x : Int} (hx : 0 ≤ x ∧ x < 256) (hne : x ≠ (packB P).getD ((packB P).length - 1) 0) : TornR ((packB P).set ((packB P).length - 1) x) := by
  have hXl := X_len P
  have hb := pkB_bd hl
  have hs4 : (sb4 (adl P)).length = 4 := rfl
  have e1 : (packB P).set ((packB P).length - 1) x = hd8 (pkB P).length ++ ([120, 1] ++ (bestB P ++ (sb4 (adl P)).set 3 x)) := by
    have h := packB_X P
    generalize hX : hd8 (pkB P).length ++ ([120, 1] ++ bestB P) = X at *
    rw [h, List.set_append_right _ _ (by rw [List.length_append]; omega)]
    rw [show (X ++ sb4 (adl P)).length - 1 - X.length = 3 by rw [List.length_append]; omega, ← hX]
    simp only [List.append_assoc]
  have e2 : (packB P).getD ((packB P).length - 1) 0 = (sb4 (adl P)).getD 3 0 := by
    have h := packB_X P
    generalize hd8 (pkB P).length ++ ([120, 1] ++ bestB P) = X at *
    rw [h, List.getD_eq_getElem?_getD, List.getElem?_append_right (by rw [List.length_append]; omega), show (X ++ sb4 (adl P)).length - 1 - X.length = 3 by rw [List.length_append]; omega, ← List.getD_eq_getElem?_getD]
  rw [e2] at hne
  rw [e1]
  obtain ⟨e, he, hz⟩ := ZR_S (S := (sb4 (adl P)).set 3 x) hP (okb_set (sb4_okb (adl_bd hP)) 3 hx) hl (.inr fun h => hne (by
    have h' := congrArg (fun l => l.getD 3 0) h
    rw [List.take_of_length_le (by rw [List.length_set]; omega)] at h'
    have h'' : ((sb4 (adl P)).set 3 x).getD 3 0 = x := by
      rw [List.getD_eq_getElem?_getD, List.getElem?_set_self (by omega)]; rfl
    exact h''.symm.trans h'))
  exact torn_z (by omega) hz he
theorem torn_app {P : List Int} (hP : OKB P) (hl : P.length ≤ 2000) {x : Int} (hx : 0 ≤ x ∧ x < 256) : TornR (packB P ++ [x]) := by
  have hb := pkB_bd hl
  have hz := ZR_pk (S := [x]) hP (mem_okb (fun y hy => by rw [List.mem_singleton] at hy; rw [hy]; exact hx)) 1048576 (by omega) (by omega)
  rw [if_neg (by simp), if_neg (by simp)] at hz
  have : packB P ++ [x] = hd8 (pkB P).length ++ (pkB P ++ [x]) := by unfold packB; rw [List.append_assoc]
  rw [this]
  exact torn_z (by omega) hz (by decide)
theorem torn_cut {P : List Int} (hP : OKB P) (hl : P.length ≤ 2000) {k : Nat} (hk : k < (packB P).length) : TornR ((packB P).take k) := by
  have hb := pkB_bd hl
  have hpl := packB_len P
  have hpk := pk_len P
  by_cases h8 : k < 8
  · exact torn_short (by rw [List.length_take]; omega)
  have e1 : (packB P).take k = hd8 (pkB P).length ++ (pkB P).take (k - 8) := by
    unfold packB
    rw [List.take_append, hd8_len, List.take_of_length_le (by rw [hd8_len]; omega)]
  rw [e1]
  have e2 : pkB P = [120, 1] ++ (bestB P ++ sb4 (adl P)) := by
    rw [show pkB P = [120, 1] ++ bestB P ++ sb4 (adl P) from rfl, List.append_assoc]
  by_cases h2 : k - 8 < 2
  · refine torn_z (e := 20) (o := []) (by omega) (.inr ⟨by decide, .inl ⟨by rw [List.length_take]; omega, rfl, rfl⟩⟩) (by decide)
  have e3 : (pkB P).take (k - 8) = [120, 1] ++ (bestB P ++ sb4 (adl P)).take (k - 10) := by
    rw [e2, List.take_append, List.take_of_length_le (by show 2 ≤ k - 8; omega)]
    rw [show k - 8 - ([120, 1] : List Int).length = k - 10 by show k - 8 - 2 = _; omega]
  rw [e3]
  by_cases hj : k - 10 < (bestB P).length
  · obtain ⟨e, he, hz⟩ := ZR_cut hP hl hj
    rw [List.take_append_of_le_length (by omega)]
    exact torn_z (by omega) hz he
  · obtain ⟨e, he, hz⟩ := ZR_S (S := (sb4 (adl P)).take (k - 10 - (bestB P).length)) hP (okb_take (sb4_okb (adl_bd hP)) _) hl (.inl (by
      rw [List.length_take, show (sb4 (adl P)).length = 4 from rfl]; omega))
    rw [List.take_append, List.take_of_length_le (by omega)]
    exact torn_z (by omega) hz he
theorem TornR.opd {A : List Int} (h : TornR A) (lo hi dg : Int) (T : List (Int × Int)) : ¬ OPD A lo hi dg T := fun ⟨P, h0, _, _, hz, _⟩ => h h0 P hz
end Go.Proofs.YteelffkghidpfaaGreat

namespace Go.Proofs.YteelffkghidpfaaGreat
open Sx Go Hd
set_option linter.unusedVariables false
set_option linter.unusedSimpArgs false
theorem OpenT {w0 : World} {H : List Asn} {A : List Int} (h : TornR A) (p : Option Addr) (c m : Nat) (hr : Rd w0 H (.slice p m c) m (ints .u8 A)) (hm : A.length = m) (hok : OKB A) (hl : m ≤ 100000) (hp : p = none → m = 0) (w : World) (hw : St w0 H w) :
    Calls Tryz.prog 37 #[.slice p m c] w fun e w' => e = .returned (.tuple #[.pointer none, .int .i64 9]) ∧ St w0 H w' := by
  refine (HOpen_c p c m A hr hm hok hl hp (fun h0 P hz => absurd hz (h h0 P)) w hw).mono ?_
  unfold OpenR
  rintro e w' (⟨_, rfl, hw'⟩ | ⟨lo, hi, dg, T, hR, _⟩)
  · exact ⟨rfl, hw'⟩
  · exact absurd hR (h.opd _ _ _ _)
theorem OpenA {w0 : World} {H : List Asn} (B : List Int) (hB : OKB B) (hl : B.length ≤ 2000) (p : Option Addr) (c : Nat) (hr : Rd w0 H (.slice p (packB B).length c) (packB B).length (ints .u8 (packB B))) (hp : p = none → (packB B).length = 0) (w : World) (hw : St w0 H w) :
    Calls Tryz.prog 37 #[.slice p (packB B).length c] w fun e w' => ∃ pt er, e = .returned (.tuple #[.pointer pt, .int .i64 er]) ∧ St w0 H w' := by
  have hpl := packB_len B
  have hpb := pkB_bd hl
  refine (HOpen_c p c _ _ hr rfl (packB_okb hB hl) (by omega) hp (fun _ P => ZR_packB hB hl) w hw).mono ?_
  unfold OpenR
  rintro e w' (⟨_, rfl, hw'⟩ | ⟨lo, hi, dg, T, hR, _, _, bh, mb, bm, es, clock, _, rfl, hw'⟩)
  · exact ⟨_, _, rfl, hw'⟩
  · unfold rdH at hw'
    exact ⟨_, _, rfl, dS hw'⟩
set_option maxRecDepth 100000 in
set_option maxHeartbeats 8000000 in
theorem HdrwireTorn_l (a0 a1 : Int) (lp : Option Addr) (lc lm : Nat) (L : List Int) (a3 a4 : Int) (w0 : World) (h0 : 0 ≤ a0 ∧ a0 < 18446744073709551616) (h1 : 0 ≤ a1 ∧ a1 < 256)
    (hL : ArgRd w0 (.slice lp lm lc) lm (ints .i64 L)) (lL : L.length = lm) (kL : OKI L ∧ (lp = none → lm = 0) ∧ lm ≤ 17592186043904) (h3 : -9223372036854775808 ≤ a3 ∧ a3 < 9223372036854775808) (h4 : 0 ≤ a4 ∧ a4 < 256) :
    Calls Tryz.prog 10 #[.int .u64 a0, .int .u8 a1, .slice lp lm lc, .int .i64 a3, .int .u8 a4] w0 fun e w' => e = .returned (.bool true) ∧ RowKit.Below w0.heap.size w0 w' := by
  subst lL
  have hs := law_sh a0 a1 5000 h0 h1 (by decide)
  have hl1 : 1 ≤ lawLo a0 ∧ lawLo a0 ≤ 100000 := by unfold lawLo; omega
  have hhi : lawHi a0 5000 < 9223372036854775808 := by unfold lawHi; omega
  have hhi0 : 0 ≤ lawHi a0 5000 := by unfold lawHi; omega
  have hd1 : 1 ≤ lawDg a1 ∧ lawDg a1 ≤ 5 := by unfold lawDg; omega
  have hSh := fun {H} w hw => Shape17_c (w0 := w0) (H := H) a0 a1 5000 h0 h1 (by decide) w hw
  refine enter (vs := [.int .u64 a0, .int .u8 a1, .slice lp L.length lc, .int .i64 a3, .int .u8 a4]) Tryz.func10 rfl rfl rfl (St.start w0) ?_
  generalize lawLo a0 = lo at *
  generalize lawHi a0 5000 = hi at *
  generalize lawDg a1 = dg at *
  have hug := hs.2
  have hgd := gOf_bd hd1
  have hg' : 1 ≤ gOf dg ∧ gOf dg ≤ 18 := by omega
  repeat (first | (refine sx ?_; try intro _))
  refine JO_call Tryz.call26 rfl rfl fun w hw => (alive19_c w hw).mono ?_
  rintro e w' ⟨rfl, hw'⟩
  (refine ⟨_, rfl, _, hw', ?_⟩; clear hw' hw w w')
  repeat (first | (refine sx ?_; try intro _))
  refine JO_call Tryz.call27 rfl rfl fun w hw => (hSh w hw).mono ?_
  rintro e w' ⟨rfl, hw'⟩
  (refine ⟨_, rfl, _, hw', ?_⟩; clear hw' hw w w')
  repeat (first | (refine sx ?_; try intro _))
  refine JO_call Tryz.call28 rfl rfl fun w hw => (Recorded19_c lo hi dg true hs hhi lp none lc 0 L [] (hL.rd _) Rd_nil kL.1 (fun j => by simp) (by omega) (by decide) w hw).mono ?_
  rintro e w' ⟨h, m, b, es, clock, rfl, hE, hw'⟩
  have hb0 : 1 + bkt (uOf lo) (gOf dg) hi.toNat ≤ 64 := by
    have := bkt_63 (u := uOf lo) (g := gOf dg) (v := hi.toNat) (by omega) (by omega)
    omega
  obtain ⟨⟨ob, ogt⟩, ol⟩ := recS_ok (u := uOf lo) (g := gOf dg) (gr := true) (bu := 1 + bkt (uOf lo) (gOf dg) hi.toNat) (L := L) (W := wtW []) hug hg' hb0 (fun j => (kL.1 j).2) (fun j => by have := wtW_bd [] j; omega) (min L.length 40)
  generalize recS (uOf lo) (gOf dg) true (1 + bkt (uOf lo) (gOf dg) hi.toNat) L (wtW []) (min L.length 40) = s at *
  obtain ⟨bu, T⟩ := s
  unfold hW at hw'
  dsimp only at ob ogt ol hE hw'
  generalize uOf lo = u at *
  generalize gOf dg = g at *
  have hl : T.length ≤ 40 := by omega
  have hlo63 : 0 ≤ lo ∧ lo < 9223372036854775808 := by omega
  have hre : 0 ≤ rchv u g hi bu ∧ rchv u g hi bu < 9223372036854775808 := by
    unfold rchv
    split
    · omega
    · have := topv_lt' u g bu; omega
  have hok0 := wrB_okb (lo := lo) (reach := rchv u g hi bu) (dg := dg) (T := T) (by omega) hre (by omega) ogt (by omega)
  have hlen0 := wrB_len lo (rchv u g hi bu) dg T
  have hcl := cntA_len T
  have hP2 : (wrB lo (rchv u g hi bu) dg T).length ≤ 2000 := by omega
  have hpok := packB_okb hok0 hP2
  have hpl := packB_len (wrB lo (rchv u g hi bu) dg T)
  have hpb := pkB_bd hP2
  have hPk := fun {H'} (x1 : blk h (hc m b true bu (sw T)) ∈ H') (x2 : mapL b es clock ∈ H') (x3 : blk m (mc lo hi dg u g) ∈ H') w hw => HPack_c (w0 := w0) (H := H') h m b true bu es clock T x1 x2 x3 hE ogt hug hg' ob (by omega) hP2 hlo63 ⟨hhi0, hhi⟩ (by omega) w hw
  generalize rchv u g hi bu = rc at *
  generalize wrB lo rc dg T = B0 at *
  clear hSh hgd hL kL
  have hx0 : OKB (packB B0) := hpok
  have htl := fun x hx hne => torn_last (x := x) hok0 hP2 hx hne
  have hta := fun x hx => torn_app (x := x) hok0 hP2 hx
  have htc := fun k hk => torn_cut (k := k) hok0 hP2 hk
  have hOA := fun {H'} (q : Option Addr) (d : Nat) (hr : Rd w0 H' (.slice q (packB B0).length d) (packB B0).length (ints .u8 (packB B0))) hp w hw => OpenA (w0 := w0) (H := H') B0 hok0 hP2 q d hr hp w hw
  generalize hA : packB B0 = A at *
  obtain ⟨n, hn⟩ : ∃ n, A.length = n := ⟨_, rfl⟩
  rw [hn] at hpl htl htc
  simp only [hn] at hOA hPk
  (refine ⟨_, rfl, _, hw', ?_⟩; clear hw' hw w w')
  repeat (first | (refine sx ?_; try intro _))
  refine JO_call Tryz.call33 rfl rfl fun w hw => (hPk (by repeat (first | apply List.Mem.head | apply List.Mem.tail)) (by repeat (first | apply List.Mem.head | apply List.Mem.tail)) (by repeat (first | apply List.Mem.head | apply List.Mem.tail)) w hw).mono ?_
  rintro e w' ⟨p3, c3, rfl, hw'⟩
  (refine ⟨_, rfl, _, hw', ?_⟩; clear hw' hw w w')
  repeat (first | (refine sx ?_; try intro _))
  refine JO_app (tb := tb) rfl rfl rfl rfl rfl rfl (by repeat (first | exact Sel.here _ _ | apply Sel.there)) (vec_rd (cs := ints .u8 A) (by repeat (first | apply List.Mem.head | apply List.Mem.tail))) (by rw [ints_len, Nat.mul_one]; exact hn) ints_one (by omega) rfl ?_
  intro q4 d4
  rw [show rep 0 [Value.int .u8 0] ++ ints .u8 A = ints .u8 A from rfl, Nat.zero_add]
  have gA := ints_get (K := .u8) (l := A) (j := n - 1) (by omega)
  have hz := hpok (n - 1)
  have hset : A.set (n - 1) (A.getD (n - 1) 0) = A := by
    rw [List.getD_eq_getElem?_getD, List.getElem?_eq_getElem (by omega)]; exact List.set_getElem_self _
  generalize A.getD (n - 1) 0 = z at *
  have hxz : a4 = 0 → IntKind.u8.wrap ((BitVec.ofInt IntKind.u8.bits z ^^^ BitVec.ofInt IntKind.u8.bits a4).toNat) = z := by
    rintro rfl
    have h1 := xor_nat .u8 (a := z) (b := 0) (by rw [show IntKind.u8.bits = 8 from rfl]; omega) (by decide)
    rw [h1, show (0 : Int).toNat = 0 from rfl, Nat.xor_zero, mu8]; omega
  have hxn := xor_ne hz h4
  obtain ⟨x, hx⟩ : ∃ x, IntKind.u8.wrap ((BitVec.ofInt IntKind.u8.bits z ^^^ BitVec.ofInt IntKind.u8.bits a4).toNat) = x := ⟨_, rfl⟩
  have hxb : 0 ≤ x ∧ x < 256 := by rw [mu8] at hx; omega
  have cL : IntKind.i64.wrap ((n : Int) - 1) = ((n - 1 : Nat) : Int) := by rw [wi64 (by omega)]; omega
  rw [hx] at hxz hxn
  have hsl : (A.set (n - 1) x).length = n := by rw [List.length_set]; exact hn
  have hso := okb_set hpok (n - 1) hxb
  repeat (first | (apply gJO; first | refine JO_v (oL (V_loadC (tb := tb) rfl (vec_rd (List.Mem.head _)) rfl rfl gA rfl)) ?_ | refine JO_v (V_xor rfl rfl hx rfl) ?_ | refine JO_v (V_sub rfl rfl cL rfl) ?_) | first | (refine sx ?_; try intro _))
  by_cases h40 : a4 = 0
  have hxe := hxz h40
  rw [hxe, hset]
  refine JO_call Tryz.call37 rfl rfl fun w hw => (hOA q4 d4 (vec_rd (by repeat (first | apply List.Mem.head | apply List.Mem.tail))) (fun h => by have := Rd.nil (p := q4) (m := n) (c := d4) (vec_rd (by repeat (first | apply List.Mem.head | apply List.Mem.tail))) hw h; omega) w hw).mono ?_
  rintro e w' ⟨pt, er, rfl, hw'⟩
  (refine ⟨_, rfl, _, hw', ?_⟩; clear hw' hw w w')
  repeat (first | (refine sx ?_; try intro _))
  rotate_left
  refine JO_call Tryz.call37 rfl rfl fun w hw => (OpenT (htl x hxb (hxn h40)) q4 d4 n (vec_rd (by repeat (first | apply List.Mem.head | apply List.Mem.tail))) hsl hso (by omega) (fun h => by have := Rd.nil (p := q4) (m := n) (c := d4) (vec_rd (by repeat (first | apply List.Mem.head | apply List.Mem.tail))) hw h; omega) w hw).mono ?_
  rintro e w' ⟨rfl, hw'⟩
  (refine ⟨_, rfl, _, hw', ?_⟩; clear hw' hw w w')
  repeat (first | (refine sx ?_; try intro _))
  all_goals (
    refine JO_app (tb := tb) rfl rfl rfl rfl rfl rfl (by repeat (first | exact Sel.here _ _ | apply Sel.there)) (vec_rd (cs := ints .u8 A) (by repeat (first | apply List.Mem.head | apply List.Mem.tail))) (by rw [ints_len, Nat.mul_one]; exact hn) ints_one (by omega) rfl ?_
    intro q5 d5
    rw [show rep 0 [Value.int .u8 0] ++ ints .u8 A = ints .u8 A from rfl, Nat.zero_add]
    repeat (first | (refine sx ?_; try intro _))
    refine JO_app (tb := tb) rfl rfl rfl rfl rfl rfl (by repeat (first | exact Sel.here _ _ | apply Sel.there)) (vec_rd (cs := ints .u8 [a4]) (by repeat (first | apply List.Mem.head | apply List.Mem.tail))) (by rw [ints_len, Nat.mul_one]; rfl) ints_one (by omega) rfl ?_
    intro q6 d6
    rw [ints_app]
    repeat (first | (refine sx ?_; try intro _))
    refine JO_call Tryz.call37 rfl rfl fun w hw => (OpenT (hta a4 h4) q6 d6 (n + 1) (vec_rd (by repeat (first | apply List.Mem.head | apply List.Mem.tail))) (by rw [List.length_append, hn]; rfl) (OKB_app hpok (mem_okb (fun y hy => by rw [List.mem_singleton] at hy; rw [hy]; exact h4))) (by omega) (fun h => by have := Rd.nil (p := q6) (m := n + 1) (c := d6) (vec_rd (cs := ints .u8 (A ++ [a4])) (by repeat (first | apply List.Mem.head | apply List.Mem.tail))) hw h; omega) w hw).mono ?_
    rintro e w' ⟨rfl, hw'⟩
    (refine ⟨_, rfl, _, hw', ?_⟩; clear hw' hw w w')
    by_cases hcut : 0 ≤ a3 ∧ a3 < n
    · obtain ⟨k, rfl⟩ := Int.eq_ofNat_of_zero_le hcut.1
      have hk : k < n := by omega
      clear hcut
      have hV := fun {H' : List Asn} (h : vec 5 1 (.slice p3 n c3) n (ints .u8 A) ∈ H') => (vec_rd (w0 := w0) h)
      have hS := fun {H' : List Asn} (h : vec 5 1 (.slice p3 n c3) n (ints .u8 A) ∈ H') => Rd_sub (lo := 0) (hi := k) (sz := 1) (vec_rd (w0 := w0) h) (Nat.zero_le _) (by omega)
      have e1 : ((ints .u8 A).drop (0 * 1)).take ((k - 0) * 1) = ints .u8 (A.take k) := by
        rw [Nat.zero_mul, List.drop_zero, Nat.mul_one, Nat.sub_zero]; unfold ints; rw [List.map_take]
      rw [e1] at hS
      repeat (first | (apply gJO; first | refine JO_v (V_slice (tb := tb) (lo := 0) (hi := k) rfl rfl rfl rfl rfl rfl rfl (fun w hw => ⟨by omega, by have := ((hV (by repeat (first | apply List.Mem.head | apply List.Mem.tail))).lcap hw).1; omega⟩) rfl) ?_) | first | (refine sx ?_; try intro _))
      refine JO_call Tryz.call37 rfl rfl fun w hw => (OpenT (htc k hk) (subB p3 0 c3 1) (c3 - 0) (k - 0) (hS (by repeat (first | apply List.Mem.head | apply List.Mem.tail))) (by rw [List.length_take]; omega) (okb_take hpok k) (by omega) (fun h => by
        have hn0 := Rd.nil (p := p3) (m := n) (c := c3) (vec_rd (cs := ints .u8 A) (by repeat (first | apply List.Mem.head | apply List.Mem.tail))) hw
        cases hp3 : p3 with
        | none => have := hn0 hp3; omega
        | some a => rw [hp3] at h; unfold subB at h; split at h <;> simp at h) w hw).mono ?_
      rintro e w' ⟨rfl, hw'⟩
      (refine ⟨_, rfl, _, hw', ?_⟩; clear hw' hw w w')
      repeat (first | (refine sx ?_; try intro _))
      exact JS_ret Tryz.func10 rfl rfl fun w hw => ⟨rfl, hw.grown⟩
    · have hcase : a3 < 0 ∨ (0 ≤ a3 ∧ ¬ a3 < n) := by omega
      clear hcut
      rcases hcase with h7 | ⟨h7, h8⟩
      all_goals (
        repeat (first | (refine sx ?_; try intro _))
        exact JS_ret Tryz.func10 rfl rfl fun w hw => ⟨rfl, hw.grown⟩))
end Go.Proofs.YteelffkghidpfaaGreat
