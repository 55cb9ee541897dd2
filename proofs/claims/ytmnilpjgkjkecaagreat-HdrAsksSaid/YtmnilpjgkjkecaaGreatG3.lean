import Derived.Test.YtmnilpjgkjkecaaGreatG2
namespace Go.Proofs.YtmnilpjgkjkecaaGreat
open Sx Go Hd
set_option linter.unusedVariables false
set_option linter.unusedSimpArgs false
/-! ## equality of pairs, and of shapes -/
theorem fieldsPair : (Tryz.prog.fieldsOf 63).toList = [⟨"Key", 3, 0, false, "", "", 0⟩, ⟨"N", 22, 1, false, "", "", 8⟩] := by kernel_rfl
theorem fieldsHdr : (Tryz.prog.fieldsOf 27).toList = [⟨"Lowest", 2, 0, false, "", "", 0⟩, ⟨"Highest", 2, 1, false, "", "", 8⟩, ⟨"Digits", 3, 2, false, "", "", 16⟩] := by kernel_rfl
theorem part1 {t : Nat} {l : List Value} {i : Nat} {v : Value} (h : Tryz.prog.plainKey t = true) (hv : l[i]? = some v) (w : World) : (part t l.toArray i).run Tryz.prog w = .ok v w :=
  run_part_plain (P := Tryz.prog) (w := w) (e := t) h (xs := l.toArray) (off := i) (by simpa using hv)
theorem eqPair (a b c d : Int) (w : World) : (Op.eqFields 9999 [Value.int .i64 a, .int .u64 b].toArray [Value.int .i64 c, .int .u64 d].toArray (Tryz.prog.fieldsOf 63).toList).run Tryz.prog w = .ok (decide (a = c) && decide (b = d)) w := by
  have e1 : (Op.equalIn 9999 3 (.int .i64 a) (.int .i64 c)).run Tryz.prog w = .ok (a == c) w := run_equalIn_int (P := Tryz.prog) w 9998 3 .i64 .i64 a c (und_int (tb := tb) (t := 3) rfl)
  have e2 : (Op.equalIn 9999 22 (.int .u64 b) (.int .u64 d)).run Tryz.prog w = .ok (b == d) w := run_equalIn_int (P := Tryz.prog) w 9998 22 .u64 .u64 b d (und_int (tb := tb) (t := 22) rfl)
  have k3 : Tryz.prog.plainKey 3 = true := by kernel_rfl
  have k22 : Tryz.prog.plainKey 22 = true := by kernel_rfl
  rw [fieldsPair]
  have p1 := part1 (l := [Value.int .i64 a, .int .u64 b]) (i := 0) k3 rfl w
  have p2 := part1 (l := [Value.int .i64 a, .int .u64 b]) (i := 1) k22 rfl w
  have p3 := part1 (l := [Value.int .i64 c, .int .u64 d]) (i := 0) k3 rfl w
  have p4 := part1 (l := [Value.int .i64 c, .int .u64 d]) (i := 1) k22 rfl w
  have n1 : ("Key" : String) ≠ "_" := by decide
  have n2 : ("N" : String) ≠ "_" := by decide
  simp only [Op.eqFields, n1, n2, ne_eq, not_false_eq_true, if_true, Sem.run_bind, p1, p2, p3, p4, e1, e2, Result.andThen_ok, Sem.run_ite, Sem.run_pure]
  by_cases h1 : a = c <;> by_cases h2 : b = d <;> simp [h1, h2]
theorem eqHdr (a b c a' b' c' : Int) (w : World) : (Op.eqFields 9999 [Value.int .i64 a, .int .i64 b, .int .i64 c].toArray [Value.int .i64 a', .int .i64 b', .int .i64 c'].toArray (Tryz.prog.fieldsOf 27).toList).run Tryz.prog w = .ok (decide (a = a') && (decide (b = b') && decide (c = c'))) w := by
  have e1 : (Op.equalIn 9999 2 (.int .i64 a) (.int .i64 a')).run Tryz.prog w = .ok (a == a') w := run_equalIn_int (P := Tryz.prog) w 9998 2 .i64 .i64 a a' (und_int (tb := tb) (t := 2) rfl)
  have e2 : (Op.equalIn 9999 2 (.int .i64 b) (.int .i64 b')).run Tryz.prog w = .ok (b == b') w := run_equalIn_int (P := Tryz.prog) w 9998 2 .i64 .i64 b b' (und_int (tb := tb) (t := 2) rfl)
  have e3 : (Op.equalIn 9999 3 (.int .i64 c) (.int .i64 c')).run Tryz.prog w = .ok (c == c') w := run_equalIn_int (P := Tryz.prog) w 9998 3 .i64 .i64 c c' (und_int (tb := tb) (t := 3) rfl)
  have k3 : Tryz.prog.plainKey 3 = true := by kernel_rfl
  have k2 : Tryz.prog.plainKey 2 = true := by kernel_rfl
  rw [fieldsHdr]
  have p1 := part1 (l := [Value.int .i64 a, .int .i64 b, .int .i64 c]) (i := 0) k2 rfl w
  have p2 := part1 (l := [Value.int .i64 a, .int .i64 b, .int .i64 c]) (i := 1) k2 rfl w
  have p3 := part1 (l := [Value.int .i64 a, .int .i64 b, .int .i64 c]) (i := 2) k3 rfl w
  have p4 := part1 (l := [Value.int .i64 a', .int .i64 b', .int .i64 c']) (i := 0) k2 rfl w
  have p5 := part1 (l := [Value.int .i64 a', .int .i64 b', .int .i64 c']) (i := 1) k2 rfl w
  have p6 := part1 (l := [Value.int .i64 a', .int .i64 b', .int .i64 c']) (i := 2) k3 rfl w
  have n1 : ("Lowest" : String) ≠ "_" := by decide
  have n2 : ("Highest" : String) ≠ "_" := by decide
  have n3 : ("Digits" : String) ≠ "_" := by decide
  simp only [Op.eqFields, n1, n2, n3, ne_eq, not_false_eq_true, if_true, Sem.run_bind, p1, p2, p3, p4, p5, p6, e1, e2, e3, Result.andThen_ok, Sem.run_ite, Sem.run_pure]
  by_cases h1 : a = a' <;> by_cases h2 : b = b' <;> by_cases h3 : c = c' <;> simp [h1, h2, h3]
theorem uPair : Tryz.prog.underlying 63 = some (.struct (Tryz.prog.fieldsOf 63)) := by kernel_rfl
theorem hPair : Tryz.prog.stoodInHeld 63 = false := by kernel_rfl
theorem mPair : Tryz.prog.eqGuardType Tryz.prog.depth 63 = false := by kernel_rfl
theorem uHdr : Tryz.prog.underlying 27 = some (.struct (Tryz.prog.fieldsOf 27)) := by kernel_rfl
theorem hHdr : Tryz.prog.stoodInHeld 27 = false := by kernel_rfl
theorem mHdr : Tryz.prog.eqGuardType Tryz.prog.depth 27 = false := by kernel_rfl
section
variable {D : List Deferred} {w0 : World} {H : List Asn} {ov : Ov} {n : Nat} {d : Option Nat} {x y : Operand} {T T2 : Nat} {pos : String} {af : Array Edge} {g : Option (Nat × Bool)}
theorem V_nePair {a b a' b' : Int} {r : Bool} (hx : ev ov x = some (.agg #[.int .i64 a, .int .u64 b])) (hy : ev ov y = some (.agg #[.int .i64 a', .int .u64 b'])) (hr : (!(decide (a = a') && decide (b = b'))) = r) (hd : dOk d n = true) :
    OpV Tryz.prog n D w0 ov H ⟨d, .binOp .neq 63 x y T2, T, pos, af, g⟩ (.bool r) := by
  have := V_eqS (P := Tryz.prog) (w0 := w0) (D := D) (H := H) (T := T) (T2 := T2) (pos := pos) (af := af) (g := g) (.inr rfl) hx hy uPair hPair mPair (eqPair a b a' b') hd
  simp only [hr] at this; exact this
theorem V_neHdr {a b c a' b' c' : Int} {r : Bool} (hx : ev ov x = some (hagg a b c)) (hy : ev ov y = some (hagg a' b' c')) (hr : (!(decide (a = a') && (decide (b = b') && decide (c = c')))) = r) (hd : dOk d n = true) :
    OpV Tryz.prog n D w0 ov H ⟨d, .binOp .neq 27 x y T2, T, pos, af, g⟩ (.bool r) := by
  have := V_eqS (P := Tryz.prog) (w0 := w0) (D := D) (H := H) (T := T) (T2 := T2) (pos := pos) (af := af) (g := g) (.inr rfl) hx hy uHdr hHdr mHdr (eqHdr a b c a' b' c') hd
  simp only [hr] at this; exact this
theorem V_eqHdr {a b c a' b' c' : Int} {r : Bool} (hx : ev ov x = some (hagg a b c)) (hy : ev ov y = some (hagg a' b' c')) (hr : (decide (a = a') && (decide (b = b') && decide (c = c'))) = r) (hd : dOk d n = true) :
    OpV Tryz.prog n D w0 ov H ⟨d, .binOp .eql 27 x y T2, T, pos, af, g⟩ (.bool r) := by
  have := V_eqS (P := Tryz.prog) (w0 := w0) (D := D) (H := H) (T := T) (T2 := T2) (pos := pos) (af := af) (g := g) (.inl rfl) hx hy uHdr hHdr mHdr (eqHdr a b c a' b' c') hd
  simp only [hr] at this; exact this
end
section
variable {w0 : World} {H : List Asn} {lo hi dg : Int} {u g : Nat}
set_option maxRecDepth 10000 in
set_option maxHeartbeats 2000000 in
/-- the ends of the cell with an index -/
theorem REnds_c (b : Nat) (gr : Bool) (bu : Nat) (v : Value) (hh : blk b (rc lo hi dg u g gr bu v) ∈ H) (hug : u + g ≤ 62) (hg : 1 ≤ g ∧ g ≤ 18) (k : Nat) (hk : isI u g k) (w : World) (hw : St w0 H w) :
    Calls Tryz.prog 12 #[.pointer (some ⟨b, 0, none⟩), .int .i64 k] w fun e w' => e = .returned (.tuple #[.int .i64 (ival u g k : Nat), .int .i64 (hiI u g k : Nat)]) ∧ St w0 H w' := by
  have hkb := isI_bd hug hg hk
  have hiv := ival_lt hk
  have hhl := hiI_lt hug hg.1 hk
  have hsz : 0 < siz u g (ival u g k) := p2pos _
  have hhi : hiI u g k = ival u g k + (siz u g (ival u g k) - 1) := rfl
  have hV := fun {H} w hw => RValue_c (w0 := w0) (H := H) hug hg k (by omega) w hw
  rw [if_pos hk] at hV
  have hC := fun {H} w hw => RCell_c (w0 := w0) (H := H) hug hg.1 (ival u g k) hiv w hw
  rw [(ival_idx hg.1 hk).2] at hC
  refine enter (vs := [.pointer (some ⟨b, 0, none⟩), .int .i64 k]) Tryz.func12 rfl rfl rfl hw ?_
  clear hw w
  repeat (first | (apply gJO; first | refine JO_v (oL (V_load (tb := tb) rfl hh rfl rfl rfl rfl)) ?_) | (apply gQO; first | refine QO_v rfl (oL (V_load (tb := tb) rfl hh rfl rfl rfl rfl)) ?_) | first | (refine sx ?_; try intro _))
  refine QO_call Tryz.call39 rfl rfl fun w hw => (hV w hw).mono ?_
  rintro e w' ⟨rfl, hw'⟩
  (refine ⟨_, rfl, _, hw', .inl fun w hw => hw, ?_⟩; clear hw' hw w w')
  generalize ival u g k = x at *
  repeat (first | (apply gJO; first | refine JO_v (oL (V_load (tb := tb) rfl hh rfl rfl rfl rfl)) ?_) | (apply gQO; first | refine QO_v rfl (oL (V_load (tb := tb) rfl hh rfl rfl rfl rfl)) ?_) | first | (refine sx ?_; try intro _))
  refine QO_call Tryz.call40 rfl rfl fun w hw => (hC w hw).mono ?_
  rintro e w' ⟨rfl, hw'⟩
  (refine ⟨_, rfl, _, hw', .inl fun w hw => hw, ?_⟩; clear hw' hw w w')
  generalize siz u g x = z at *
  have c1 : IntKind.i64.wrap ((z : Int) - 1) = ((z - 1 : Nat) : Int) := (wi64 (by omega)).trans (by omega)
  have c2 : IntKind.i64.wrap ((x : Int) + ((z - 1 : Nat) : Int)) = (hiI u g k : Nat) := (wi64 (by omega)).trans (by omega)
  repeat (first | (apply gJO; first | refine JO_v (V_sub rfl rfl c1 rfl) ?_ | refine JO_v (V_add rfl rfl c2 rfl) ?_) | first | (refine sx ?_; try intro _))
  exact JS_ret Tryz.func12 rfl rfl fun w hw => ⟨rfl, hw⟩
end
end Go.Proofs.YtmnilpjgkjkecaaGreat

namespace Go.Proofs.YtmnilpjgkjkecaaGreat
open Sx Go Hd
set_option linter.unusedVariables false
set_option linter.unusedSimpArgs false
/-- a walk stops in front of a condition's region -/
theorem hIy {P : Program} {f n : Nat} {R : Ending → World → Prop} {D : List Deferred} {w0 : World} {k : List Item} {ov : Ov} {H : List Asn} (i : Nat) {l : Array Oper} {b : Bool} {y z : Code} (h : Hold (JS P f n R D w0 (.code (.seq (.seq (.region i l b) y) z) :: k) ov H)) : JS P f n R D w0 (.code (.seq (.seq (.region i l b) y) z) :: k) ov H := by
  unfold Hold at h; exact h
set_option maxRecDepth 10000 in
set_option maxHeartbeats 8000000 in
theorem HdrAsks_l (a0 a1 : Int) (lp : Option Addr) (lc lm : Nat) (L : List Int) (np : Option Addr) (nc nm : Nat) (N : List Int) (a4 a5 a6 a7 : Int) (w0 : World) (h0 : 0 ≤ a0 ∧ a0 < 18446744073709551616) (h1 : 0 ≤ a1 ∧ a1 < 256)
    (hL : ArgRd w0 (.slice lp lm lc) lm (ints .i64 L)) (lL : L.length = lm) (kL : OKI L ∧ (lp = none → lm = 0) ∧ lm ≤ 17592186043904) (hN : ArgRd w0 (.slice np nm nc) nm (ints .u16 N)) (lN : N.length = nm) (kN : OKH N ∧ (np = none → nm = 0) ∧ nm ≤ 70368744175616)
    (h4 : 0 ≤ a4 ∧ a4 < 18446744073709551616) (h5 : 0 ≤ a5 ∧ a5 < 18446744073709551616) (h6 : -9223372036854775808 ≤ a6 ∧ a6 < 9223372036854775808) (h7 : -9223372036854775808 ≤ a7 ∧ a7 < 9223372036854775808) :
    Calls Tryz.prog 3 #[.int .u64 a0, .int .u8 a1, .slice lp lm lc, .slice np nm nc, .int .u64 a4, .int .u64 a5, .int .i64 a6, .int .i64 a7] w0 fun e w' => e = .returned (.bool true) ∧ RowKit.Below w0.heap.size w0 w' := by
  subst lL lN
  have hs := law_sh a0 a1 1000000 h0 h1 (by decide)
  have hl1 : 1 ≤ lawLo a0 ∧ lawLo a0 ≤ 100000 := by unfold lawLo; omega
  have hhi : lawHi a0 1000000 < 9223372036854775808 := by unfold lawHi; omega
  have hd1 : 1 ≤ lawDg a1 ∧ lawDg a1 ≤ 5 := by unfold lawDg; omega
  have hSh := fun {H} w hw => Shape17_c (w0 := w0) (H := H) a0 a1 1000000 h0 h1 (by decide) w hw
  refine enter (vs := [.int .u64 a0, .int .u8 a1, .slice lp L.length lc, .slice np N.length nc, .int .u64 a4, .int .u64 a5, .int .i64 a6, .int .i64 a7]) Tryz.func3 rfl rfl rfl (St.start w0) ?_
  generalize lawLo a0 = lo at *
  generalize lawHi a0 1000000 = hi at *
  generalize lawDg a1 = dg at *
  have hug := hs.2
  have hgd := gOf_bd hd1
  have hg' : 1 ≤ gOf dg ∧ gOf dg ≤ 18 := by omega
  repeat (first | (refine sx ?_; try intro _))
  refine JO_call Tryz.call6 rfl rfl fun w hw => (alive18_c w hw).mono ?_
  rintro e w' ⟨rfl, hw'⟩
  (refine ⟨_, rfl, _, hw', ?_⟩; clear hw' hw w w')
  repeat (first | (refine sx ?_; try intro _))
  refine JO_call Tryz.call7 rfl rfl fun w hw => (hSh w hw).mono ?_
  rintro e w' ⟨rfl, hw'⟩
  (refine ⟨_, rfl, _, hw', ?_⟩; clear hw' hw w w')
  repeat (first | (refine sx ?_; try intro _))
  rename_i bx
  refine JO_call Tryz.call8 rfl rfl fun w hw => (Recorded_c lo hi dg true hs hhi lp np lc nc L N (hL.rd _) (hN.rd _) kL.1 kN.1 (by omega) (by omega) w hw).mono ?_
  rintro e w' ⟨h, m, b, r, es, clock, q, d, rfl, hE, hw'⟩
  have hb0 : 1 + bkt (uOf lo) (gOf dg) hi.toNat ≤ 64 := by
    have := bkt_63 (u := uOf lo) (g := gOf dg) (v := hi.toNat) (by omega) (by omega)
    omega
  obtain ⟨⟨ob, ogt⟩, ol⟩ := recS_ok (u := uOf lo) (g := gOf dg) (gr := true) (bu := 1 + bkt (uOf lo) (gOf dg) hi.toNat) (L := L) (W := wtN N) hug hg' hb0 (fun j => (kL.1 j).2) (fun j => by have := wtN_bd N j; omega) (min L.length 40)
  have hks := (recS_rg (u := uOf lo) (g := gOf dg) (bu := 1 + bkt (uOf lo) (gOf dg) hi.toNat) (L := L) (W := wtN N) (wtN_bd N) (min L.length 40) (by omega)).ksi hug hg'.1 (fun j => (kL.1 j).2)
  generalize recS (uOf lo) (gOf dg) true (1 + bkt (uOf lo) (gOf dg) hi.toNat) L (wtN N) (min L.length 40) = s at *
  obtain ⟨bu, T⟩ := s
  dsimp only at ob ogt ol hks hE hw'
  generalize uOf lo = u at *
  generalize gOf dg = g at *
  have hl : T.length ≤ 1000000 := by omega
  clear hSh hb0 hgd hL hN kL kN
  have hR0 : hA h m b r lo hi dg u g true bu es clock T q d = hA h m b r lo hi dg u g true bu es clock T q d := rfl
  refine ⟨_, rfl, hA h m b r lo hi dg u g true bu es clock T q d, St.sub (by repeat (first | exact List.Sublist.refl _ | apply List.Sublist.cons_cons | apply List.Sublist.cons)) hw', ?_⟩
  clear hw' hw w w' hR0
  have hh1 : blk h (hc m b true bu (sw T)) ∈ hA h m b r lo hi dg u g true bu es clock T q d := List.Mem.head _
  have hm1 : mapL b es clock ∈ hA h m b r lo hi dg u g true bu es clock T q d := List.Mem.tail _ (List.Mem.head _)
  have hr1 : blk r (rc lo hi dg u g true bu (.slice q T.length d)) ∈ hA h m b r lo hi dg u g true bu es clock T q d := List.Mem.tail _ (List.Mem.tail _ (List.Mem.head _))
  have hR1 : Rd w0 (hA h m b r lo hi dg u g true bu es clock T q d) (.slice q T.length d) T.length (flat T) := vec_rd (List.Mem.tail _ (List.Mem.tail _ (List.Mem.tail _ (List.Mem.head _))))
  have hM1 : blk m (mc lo hi dg u g) ∈ hA h m b r lo hi dg u g true bu es clock T q d := List.Mem.tail _ (List.Mem.tail _ (List.Mem.tail _ (List.Mem.tail _ (List.Mem.head _))))
  generalize hA h m b r lo hi dg u g true bu es clock T q d = R at *
  have hsw := sw_nn ogt.pos
  have htot := ogt.tot
  have hBT := BT_bd u g ogt.pos
  repeat (first | (apply gJO; first | refine JO_v (oL (V_load (tb := tb) rfl hr1 rfl rfl rfl rfl)) ?_) | first | (refine sx ?_; try intro _))
  refine JO_call Tryz.call9 rfl rfl fun w hw => (RTotal_c q d T.length T hR1 rfl ogt.okt ogt.right hl w hw).mono ?_
  rintro e w' ⟨rfl, hw'⟩
  (refine ⟨_, rfl, _, hw', ?_⟩; clear hw' hw w w')
  repeat (first | (apply gJO; first | refine JO_v (oL (V_load (tb := tb) rfl hr1 rfl rfl rfl rfl)) ?_) | first | (refine sx ?_; try intro _))
  refine JO_call Tryz.call10 rfl rfl fun w hw => (HAt_c h m b true bu (sw T) es clock T hh1 hm1 hM1 hE ogt hks hug hg' hl a4 a5 h4 h5 w hw).mono ?_
  rintro e w' ⟨v, f, rr, rfl, hw', hRK, hf1, hf0⟩
  (refine ⟨_, rfl, _, hw', ?_⟩; clear hw' hw w w')
  repeat (first | (apply gJO; first | refine JO_v (oL (V_load (tb := tb) rfl hr1 rfl rfl rfl rfl)) ?_) | first | (refine sx ?_; try intro _))
  refine JO_call Tryz.call11 rfl rfl fun w hw => (RRank_c a4 a5 (sw T) h4 h5 (by omega) w hw).mono ?_
  rintro e w' ⟨rr', f', rfl, hw', hRK'⟩
  obtain ⟨rfl, rfl⟩ := RK_fun hRK hRK'
  (refine ⟨_, rfl, _, hw', ?_⟩; clear hw' hw w w')
  repeat (first | apply hIx 12 | (apply gJO; first | refine JO_v (oL (V_load (tb := tb) rfl hr1 rfl rfl rfl rfl)) ?_) | first | (refine sx ?_; try intro _))
  refine Hold.go ?_
  refine JS_join1 (fun (_ : Unit) => [(6, .int .i64 a6), (7, .int .i64 a7), (18, .pointer (some ⟨h, 0, none⟩)), (19, .pointer (some ⟨r, 0, none⟩)), (20, .int .u64 (sw T))]) (fun _ => R) (fun _ => True) ?_ ?_
  · clear hf0 hf1 hRK hRK'
    intro _ _
    repeat (first | (apply gJO; first | refine JO_v (oL (V_load (tb := tb) rfl hr1 rfl rfl rfl rfl)) ?_) | first | (refine sx ?_; try intro _))
    refine JO_call Tryz.call14 rfl rfl fun w hw => (HShare_c h m b true bu es clock T hh1 hm1 hM1 hE ogt hug hg' hl a6 h6 w hw).mono ?_
    rintro e w' ⟨x, y, f, rfl, hw', hor⟩
    (refine ⟨_, rfl, _, hw', ?_⟩; clear hw' hw w w')
    repeat (first | apply hIx 19 | (apply gJO; first | refine JO_v (oL (V_load (tb := tb) rfl hr1 rfl rfl rfl rfl)) ?_) | first | (refine sx ?_; try intro _))
    refine Hold.go ?_
    refine JS_join1 (fun (_ : Unit) => [(6, .int .i64 a6), (7, .int .i64 a7), (18, .pointer (some ⟨h, 0, none⟩)), (19, .pointer (some ⟨r, 0, none⟩)), (20, .int .u64 (sw T)), (27, .int .u64 x), (28, .int .u64 y), (29, .int .i64 f)]) (fun _ => R) (fun _ => True) ?_ ?_
    · intro _ _
      repeat (first | apply hIx 21 | (apply gJO; first | refine JO_v (oL (V_load (tb := tb) rfl hr1 rfl rfl rfl rfl)) ?_) | first | (refine sx ?_; try intro _))
      refine Hold.go ?_
      refine JS_join1 (fun (_ : Unit) => [(6, .int .i64 a6), (7, .int .i64 a7), (18, .pointer (some ⟨h, 0, none⟩)), (19, .pointer (some ⟨r, 0, none⟩))]) (fun _ => R) (fun _ => True) ?_ ?_
      · clear hor
        intro _ _
        repeat (first | apply hIx 24 | (apply gJO; first | refine JO_v (oL (V_load (tb := tb) rfl hr1 rfl rfl rfl rfl)) ?_) | first | (refine sx ?_; try intro _))
        refine Hold.go ?_
        refine JS_join1 (fun (_ : Unit) => [(6, .int .i64 a6), (7, .int .i64 a7), (18, .pointer (some ⟨h, 0, none⟩)), (19, .pointer (some ⟨r, 0, none⟩)), (30, .int .u64 (cntV u g T a6))]) (fun _ => R) (fun _ => True) ?_ ?_
        · intro _ _
          have hB := fun w hw => HBetween_c (w0 := w0) (H := R) h m b true bu (sw T) es clock T hh1 hm1 hM1 hE ogt hug hg' hl a6 a7 h6 h7 w hw
          have hB2 := fun w hw => RBetween_c (w0 := w0) (H := R) r true bu q d T.length T hr1 hR1 rfl ogt hug hg' hl a6 a7 h6 h7 w hw
          have hC := fun w hw => HCountV_c (w0 := w0) (H := R) h m b true bu (sw T) es clock T hh1 hm1 hM1 hE ogt.srt hug hg' a6 h6 w hw
          generalize BT u g T a6 a7 = B at *
          generalize cntV u g T a6 = C at *
          repeat (first | (apply gJO; first | refine JO_v (oL (V_load (tb := tb) rfl hr1 rfl rfl rfl rfl)) ?_) | first | (refine sx ?_; try intro _))
          refine JO_call Tryz.call19 rfl rfl fun w hw => (hB w hw).mono ?_
          rintro e w' ⟨rfl, hw'⟩
          (refine ⟨_, rfl, _, hw', ?_⟩; clear hw' hw w w')
          repeat (first | (apply gJO; first | refine JO_v (oL (V_load (tb := tb) rfl hr1 rfl rfl rfl rfl)) ?_) | first | (refine sx ?_; try intro _))
          refine JO_call Tryz.call16 rfl rfl fun w hw => (hB2 w hw).mono ?_
          rintro e w' ⟨rfl, hw'⟩
          (refine ⟨_, rfl, _, hw', ?_⟩; clear hw' hw w w')
          repeat (first | (apply gJO; first | refine JO_v (oL (V_load (tb := tb) rfl hr1 rfl rfl rfl rfl)) ?_) | first | (refine sx ?_; try intro _))
          refine JO_call Tryz.call20 rfl rfl fun w hw => (hC w hw).mono ?_
          rintro e w' ⟨rfl, hw'⟩
          (refine ⟨_, rfl, _, hw', ?_⟩; clear hw' hw w w')
          repeat (first | (apply gJO; first | refine JO_v (oL (V_load (tb := tb) rfl hr1 rfl rfl rfl rfl)) ?_) | first | (refine sx ?_; try intro _))
          exact JS_ret Tryz.func3 rfl rfl fun w hw => ⟨rfl, hw.grown⟩
        · intro K
          by_cases hv : a6 < 0
          · have hc0 : cntV u g T a6 = 0 := if_pos hv
            rw [hc0] at K
            repeat (first | apply hIx 26 | (apply gJO; first | refine JO_v (oL (V_load (tb := tb) rfl hr1 rfl rfl rfl rfl)) ?_) | first | (refine sx ?_; try intro _))
            refine Hold.go ?_
            exact JS_weak (K () trivial) (by repeat (first | exact trivial | refine ⟨rfl, ?_⟩ | refine ⟨lookI rfl (by omega), ?_⟩)) (fun w hw => hw)
          · obtain ⟨x, rfl⟩ := Int.eq_ofNat_of_zero_le (show 0 ≤ a6 by omega)
            have hc0 : cntV u g T x = cntT (idx u g x : Nat) T := by unfold cntV; rw [if_neg hv, Int.toNat_natCast]
            rw [hc0] at K
            repeat (first | apply hIx 26 | (apply gJO; first | refine JO_v (oL (V_load (tb := tb) rfl hr1 rfl rfl rfl rfl)) ?_) | (apply gQO; first | refine QO_v rfl (oL (V_load (tb := tb) rfl hr1 rfl rfl rfl rfl)) ?_) | first | (refine sx ?_; try intro _))
            refine QO_call Tryz.call18 rfl rfl fun w hw => (RIndex_c hug hg' x (by omega) w hw).mono ?_
            rintro e w' ⟨rfl, hw'⟩
            (refine ⟨_, rfl, _, hw', .inl fun w hw => hw, ?_⟩; clear hw' hw w w')
            repeat (first | apply hIx 26 | (apply gJO; first | refine JO_v (oL (V_load (tb := tb) rfl hr1 rfl rfl rfl rfl)) ?_) | (apply gQO; first | refine QO_v rfl (oL (V_load (tb := tb) rfl hr1 rfl rfl rfl rfl)) ?_) | first | (refine sx ?_; try intro _))
            refine QO_call Tryz.call17 rfl rfl fun w hw => (RCount13_c q d T.length T _ hR1 rfl ogt.okt hl w hw).mono ?_
            rintro e w' ⟨rfl, hw'⟩
            (refine ⟨_, rfl, _, hw', .inl fun w hw => hw, ?_⟩; clear hw' hw w w')
            repeat (first | apply hIx 26 | (apply gJO; first | refine JO_v (oL (V_load (tb := tb) rfl hr1 rfl rfl rfl rfl)) ?_) | (apply gQO; first | refine QO_v rfl (oL (V_load (tb := tb) rfl hr1 rfl rfl rfl rfl)) ?_) | first | (refine sx ?_; try intro _))
            refine Hold.go ?_
            exact JS_weak (K () trivial) (by repeat (first | exact trivial | refine ⟨rfl, ?_⟩ | refine ⟨lookI rfl (by omega), ?_⟩)) (fun w hw => hw)
      · intro K
        rcases hor with ⟨hz, rfl, rfl, rfl⟩ | ⟨hnz, rfl, hLE⟩
        · rw [hz]
          repeat (first | apply hIx 23 | (apply gJO; first | refine JO_v (oL (V_load (tb := tb) rfl hr1 rfl rfl rfl rfl)) ?_) | first | (refine sx ?_; try intro _))
          refine Hold.go ?_
          exact JS_weak (K () trivial) (by repeat (first | exact trivial | refine ⟨rfl, ?_⟩ | refine ⟨lookI rfl (by omega), ?_⟩)) (fun w hw => hw)
        · have hbb := hBT 0 a6
          have hB2 := fun w hw => RBetween_c (w0 := w0) (H := R) r true bu q d T.length T hr1 hR1 rfl ogt hug hg' hl 0 a6 (by omega) h6 w hw
          have hcm := fun o ho => LE_cm (o := o) (show 0 < sw T by omega) hLE hbb ho
          have hxy : 0 ≤ x ∧ x ≤ BT u g T 0 a6 ∧ 0 < y ∧ y ≤ sw T := by
            rcases hLE with ⟨h9, _⟩ | ⟨_, _, hg9, rfl, rfl⟩
            · omega
            · have d2 : ((Int.gcd (BT u g T 0 a6) (sw T) : Nat) : Int) ∣ sw T := Int.gcd_dvd_right ..
              exact ⟨Int.ediv_nonneg hbb.1 (by omega), Int.ediv_le_self _ hbb.1, Int.ediv_pos_of_pos_of_dvd (by omega) (by omega) d2, Int.ediv_le_self _ hsw⟩
          clear hLE
          generalize BT u g T 0 a6 = B at *
          generalize sw T = S at *
          repeat (first | (apply gJO; first | refine JO_v (oL (V_load (tb := tb) rfl hr1 rfl rfl rfl rfl)) ?_) | first | (refine sx ?_; try intro _))
          refine JO_call Tryz.call16 rfl rfl fun w hw => (hB2 w hw).mono ?_
          rintro e w' ⟨rfl, hw'⟩
          (refine ⟨_, rfl, _, hw', ?_⟩; clear hw' hw w w')
          repeat (first | (apply gJO; first | refine JO_v (oL (V_load (tb := tb) rfl hr1 rfl rfl rfl rfl)) ?_) | first | (refine sx ?_; try intro _))
          refine JO_call Tryz.call15 rfl rfl fun w hw => (RCmp11_c x y B S (by omega) (by omega) (by omega) (by omega) w hw).mono ?_
          rintro e w' ⟨o, rfl, hw', ho⟩
          obtain rfl := (hcm o ho).2.2.2.2
          (refine ⟨_, rfl, _, hw', ?_⟩; clear hw' hw w w')
          repeat (first | apply hIx 23 | (apply gJO; first | refine JO_v (oL (V_load (tb := tb) rfl hr1 rfl rfl rfl rfl)) ?_) | first | (refine sx ?_; try intro _))
          refine Hold.go ?_
          exact JS_weak (K () trivial) (by repeat (first | exact trivial | refine ⟨rfl, ?_⟩ | refine ⟨lookI rfl (by omega), ?_⟩)) (fun w hw => hw)
    · intro K
      rcases hor with ⟨hz, rfl, rfl, rfl⟩ | ⟨hnz, rfl, hLE⟩
      · rw [hz] at K ⊢
        repeat (first | apply hIy 21 | (apply gJO; first | refine JO_v (oL (V_load (tb := tb) rfl hr1 rfl rfl rfl rfl)) ?_) | first | (refine sx ?_; try intro _))
        refine Hold.go ?_
        exact JS_weak (K () trivial) (by repeat (first | exact trivial | refine ⟨rfl, ?_⟩ | refine ⟨lookI rfl (by omega), ?_⟩)) (fun w hw => hw)
      · repeat (first | apply hIy 21 | (apply gJO; first | refine JO_v (oL (V_load (tb := tb) rfl hr1 rfl rfl rfl rfl)) ?_) | first | (refine sx ?_; try intro _))
        refine Hold.go ?_
        exact JS_weak (K () trivial) (by repeat (first | exact trivial | refine ⟨rfl, ?_⟩ | refine ⟨lookI rfl (by omega), ?_⟩)) (fun w hw => hw)
  · intro K
    by_cases hf : f = 0
    · subst hf
      obtain ⟨k, hk, hky, rfl⟩ := hf0 rfl
      have hb := RK_bd h4.1 hsw hRK
      have hRe := fun w hw => REnds_c (w0 := w0) (H := R) r true bu _ hr1 hug hg' k hk w hw
      have hkf := fun v' h' => KY_fun (v' := v') ogt.okt hky h'
      have hhi2 := hiI_lt hug hg'.1 hk
      generalize hiI u g k = y at *
      repeat (first | (apply gJO; first | refine JO_v (oL (V_load (tb := tb) rfl hr1 rfl rfl rfl rfl)) ?_) | first | (refine sx ?_; try intro _))
      refine JO_call Tryz.call13 rfl rfl fun w hw => (RKey_c q d T.length T rr hR1 rfl ogt.okt ogt.right hl w hw).mono ?_
      rintro e w' ⟨v', rfl, hw', hky'⟩
      obtain rfl := hkf v' hky'
      (refine ⟨_, rfl, _, hw', ?_⟩; clear hw' hw w w')
      repeat (first | (apply gJO; first | refine JO_v (oL (V_load (tb := tb) rfl hr1 rfl rfl rfl rfl)) ?_) | first | (refine sx ?_; try intro _))
      refine JO_call Tryz.call12 rfl rfl fun w hw => (hRe w hw).mono ?_
      rintro e w' ⟨rfl, hw'⟩
      (refine ⟨_, rfl, _, hw', ?_⟩; clear hw' hw w w')
      repeat (first | apply hIx 18 | (apply gJO; first | refine JO_v (oL (V_load (tb := tb) rfl hr1 rfl rfl rfl rfl)) ?_) | first | (refine sx ?_; try intro _))
      refine Hold.go ?_
      exact JS_weak (K () trivial) (by repeat (first | exact trivial | refine ⟨rfl, ?_⟩ | refine ⟨lookI rfl (by omega), ?_⟩)) (fun w hw => hw)
    · obtain rfl := hf1 hf
      repeat (first | apply hIx 18 | (apply gJO; first | refine JO_v (oL (V_load (tb := tb) rfl hr1 rfl rfl rfl rfl)) ?_) | first | (refine sx ?_; try intro _))
      refine Hold.go ?_
      exact JS_weak (K () trivial) (by repeat (first | exact trivial | refine ⟨rfl, ?_⟩ | refine ⟨lookI rfl (by omega), ?_⟩)) (fun w hw => hw)
end Go.Proofs.YtmnilpjgkjkecaaGreat
