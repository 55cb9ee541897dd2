import Derived.WalkKit
import Derived.ProofKit
import Derived.OpenShut
import Derived.ChangeSlices
import Derived.Lib.AppendZeros
import Derived.Test.YtbiocgenbgbfpaaGreatN3
namespace Sx
open Go
section
variable {P : Program} {n : Nat} {D : List Deferred} {w0 : World} {ov : Ov} {H : List Asn} {d : Option Nat} {T : Nat} {pos : String} {af : Array Edge} {g : Option (Nat × Bool)} {x y : Operand} {v : Value} {tb : Tb P}
theorem E_box {e : Nat} {cs : List Value} (hx : ev ov x = some v) (hc : cellsL v = cs) (hd : dOk d n = true) : OpE (ι := Nat) P n D w0 ov H ⟨d, .box e x, T, pos, af, g⟩ (fun b => .pointer (some ⟨b, 0, none⟩)) (fun b => blk b cs :: H) :=
  ⟨hd, fun a w ha hw => ⟨w.heap.size, w.alloc (.cells cs.toArray e), by
    simp [execOp, ha.ev hx, Instr.box, newVar, newRow, cellsL_eq, hc], hw.new cs e _ fun w' h' => blk_holds.2 ⟨rfl, e, h'⟩⟩⟩
theorem E_app {t e sz by' m q sz1 by1 : Nat} {ty2 : Ty} {z1 : Option (List Value)} {z : List Value} {u ux : Value} {cs news : List Value} {F : Asn → List Asn}
    (hx : ev ov x = some u) (hy : ev ov y = some ux) (h : tlook tb.l t = some ⟨.slice e, sz1, by1, z1⟩) (h2 : tlook tb.l e = some ⟨ty2, sz, by', some z⟩) (hzl : Nat.beq z.length sz = true) (hsz : Nat.blt 0 sz = true)
    (hu : Sel H (vec e sz u m cs) F) (hr : Rd w0 H ux q news) (hl : news.length = q * sz) (h1 : All1 news) (hb : (m + q) * by' ≤ 140737488355328 ∧ m + q ≤ 140737488355328) (hd : dOk d n = true) :
    OpE (ι := Option Addr × Nat) P n D w0 ov H ⟨d, .call ⟨.builtin .append, #[x, y], #[t, t]⟩, T, pos, af, g⟩ (fun pc => .slice pc.1 (m + q) pc.2) (fun pc => F (vec e sz (.slice pc.1 (m + q) pc.2) (m + q) (cs ++ news))) :=
  ⟨hd, fun A w ha hw => by
    obtain ⟨i, zv, hi, e1, e2, e3, e4⟩ := Tb.inf' h2
    obtain ⟨p, c, w', hr', hw'⟩ := run_appendV (ty := T) hw (und_slice h) hi e3 e1 e2 (by have := Nat.eq_of_beq_eq_true hzl; rw [cellsL_eq, e4]; simpa using this) (by simpa [Nat.blt_eq] using hsz) (fun _ _ => hu.upd _) hr hl h1 hb.1 hb.2
    exact ⟨(p, c), w', by simp [execOp, resolve, invoke, builtin, ha.ev hx, ha.ev hy, hr'], hw'⟩⟩
end
end Sx
namespace Go.Proofs.YtbiocgenbgbfpaaGreat
open Sx Go Pm
set_option linter.unusedVariables false
set_option linter.unusedSimpArgs false
def nats (W : List Nat) : List Int := W.map fun (x : Nat) => (x : Int)
theorem nats_len (W : List Nat) : (nats W).length = W.length := by simp [nats]
theorem nats_getD (W : List Nat) (j : Nat) : (nats W).getD j 0 = (W.getD j 0 : Nat) := by
  unfold nats
  rw [List.getD_eq_getElem?_getD, List.getD_eq_getElem?_getD, List.getElem?_map]
  cases W[j]? <;> rfl
theorem nats_get {W : List Nat} {j : Nat} (h : j < W.length) : (ints .u64 (nats W))[j]? = some (.int .u64 (W.getD j 0 : Nat)) := by
  rw [ints_get (by rw [nats_len]; exact h), nats_getD]
theorem take_snoc (W : List Nat) {i : Nat} (h : i < W.length) : W.take (i + 1) = W.take i ++ [W.getD i 0] := by
  rw [List.take_succ_eq_append_getElem h]; simp [h]
theorem sum_take_le (W : List Nat) (k : Nat) : (W.take k).sum ≤ W.sum := by
  have := congrArg List.sum (List.take_append_drop k W)
  rw [List.sum_append] at this
  omega
theorem vals_snoc {α : Type} (enc : α → Value) (D : Nat → α) (m : Nat) (x : α) : vals enc D m ++ [enc x] = vals enc (upd D m x) (m + 1) := by
  unfold vals
  rw [List.range_succ, List.map_append, List.map_cons, List.map_nil]
  congr 1
  · exact List.map_congr_left fun k hk => by unfold upd; rw [if_neg (by have := List.mem_range.1 hk; omega)]
  · unfold upd; rw [if_pos rfl]
theorem sg_upd {α β : Type} (f : α → β) (D : Nat → α) (m : Nat) (x : α) : sg (fun k => f (upd D m x k)) 0 (m + 1) = sg (fun k => f (D k)) 0 m ++ [f x] := by
  rw [sg_snoc]
  congr 1
  · exact sg_congr _ _ _ fun k hk => by unfold upd; rw [if_neg (by omega)]
  · unfold upd; rw [if_pos (by omega)]
theorem vals_one {α : Type} {enc : α → Value} (h : ∀ x, Sx.one (enc x)) (D : Nat → α) (N : Nat) : All1 (vals enc D N) := All1.of fun v hv => by
  unfold vals at hv
  obtain ⟨k, _, rfl⟩ := List.mem_map.1 hv
  exact h _
section
variable {w0 : World} {H : List Asn}
set_option maxHeartbeats 2000000 in
/-- the symbols that come -/
theorem Symbols_c (p : Option Addr) (c n : Nat) (W : List Nat) (hr : Rd w0 H (.slice p n c) n (ints .u64 (nats W))) (hn : W.length = n) (hn1 : n ≤ 1000) (hW : ∀ j, W.getD j 0 < 18446744073709551616) (w : World) (hw : St w0 H w) :
    Calls Tryz.prog 45 #[.slice p n c] w fun e w' => (4294967296 < W.sum ∧ e = .returned (.tuple #[.slice none 0 0, .bool false]) ∧ St w0 H w') ∨
      (W.sum ≤ 4294967296 ∧ ∃ (PK : List Asn) (D : Nat → Nat × T) (q : Option Addr) (d : Nat), e = .returned (.tuple #[.slice q (oneW W).length d, .bool true]) ∧ St w0 (vec 89 1 (.slice q (oneW W).length d) (oneW W).length (vals encP D (oneW W).length) :: (PK ++ H)) w' ∧
        (∀ k, k < (oneW W).length → Rp PK (D k).1 (D k).2) ∧ sg (fun k => (D k).2) 0 (oneW W).length = oneW W) := by
  refine enter (vs := [.slice p n c]) Tryz.func45 rfl rfl rfl hw ?_
  clear hw w
  repeat (first | (apply gJR; first | (refine sx ?_; try intro _)) | (apply gJO; first | (refine sx ?_; try intro _)) | apply JS_seq | apply JS_region)
  refine JS_block ?_
  refine JS_loop5 (fun (i : Nat) (PK : List Asn) (D : Nat → Nat × T) (q : Option Addr) (d : Nat) => [(8, .slice p n c), (4, .slice q (lvf 0 (W.take i)).length d), (5, .int .u64 (W.take i).sum), (9, .int .i64 n), (10, .int .i64 i)])
    (fun i PK D q d => vec 89 1 (.slice q (lvf 0 (W.take i)).length d) (lvf 0 (W.take i)).length (vals encP D (lvf 0 (W.take i)).length) :: (PK ++ H))
    (fun i PK D q d => i ≤ n ∧ (W.take i).sum ≤ 4294967296 ∧ (∀ k, k < (lvf 0 (W.take i)).length → Rp PK (D k).1 (D k).2) ∧ sg (fun k => (D k).2) 0 (lvf 0 (W.take i)).length = lvf 0 (W.take i)) (fun i _ _ _ _ => n - i)
    0 [] (fun _ => (0, .leaf 0 0)) none 0 ⟨Nat.zero_le _, by simp, fun k hk => by simp [lvf] at hk, rfl⟩ (by repeat (first | exact trivial | refine ⟨rfl, ?_⟩ | refine ⟨lookI rfl (by omega), ?_⟩)) (fun w hw => St.nilvec hw) ?_
  intro i PK D q d ⟨hi, hs, hRp, hsg⟩ again
  have hml : (lvf 0 (W.take i)).length ≤ i := Nat.le_trans (lvf_len_le _ _) (by rw [List.length_take]; omega)
  by_cases hlt : i < n
  · have gi := nats_get (W := W) (j := i) (by omega)
    have hwi := hW i
    have hts := take_snoc W (i := i) (by omega)
    have htl : (W.take i).length = i := by rw [List.length_take]; omega
    have hlv : lvf 0 (W.take (i + 1)) = lvf 0 (W.take i) ++ lvf i [W.getD i 0] := by rw [hts, lvf_app, htl, Nat.zero_add]
    have hsum : (W.take (i + 1)).sum = (W.take i).sum + W.getD i 0 := by rw [hts, List.sum_append]; simp
    have hle := sum_take_le W (i + 1)
    obtain ⟨x, hx⟩ : ∃ x, W.getD i 0 = x := ⟨_, rfl⟩
    rw [hx] at gi hwi hlv hsum
    generalize hS : (W.take i).sum = S at *
    generalize hM : (lvf 0 (W.take i)) = A at *
    by_cases hbig : 4294967296 - S < x
    · repeat (first | (apply gJO; refine JO_v (V_loadC (tb := tb) rfl (Rd_weak hr fun w hw => St.sub (by exact (List.sublist_append_right _ _).cons _) hw) rfl rfl gi rfl) ?_) | (apply gJO; refine JO_v (V_index (tb := tb) rfl rfl rfl rfl (Rd.sl (Rd_weak hr fun w hw => St.sub (by exact (List.sublist_append_right _ _).cons _) hw)) (by omega) (by (try simp only [tn, tna, tn1, tn2, tn3, tn4, tnd16, tnd8, Int.reduceToNat]); first | exact Nat.mul_one _ | exact rfl) rfl) ?_) | (first | (refine sx ?_; try intro _)))
      refine JS_ret Tryz.func45 rfl rfl ?_
      intro w hw
      exact .inl ⟨by omega, rfl, St.sub ((List.sublist_append_right _ _).cons _) hw⟩
    · by_cases h0 : 0 < x
      · have hlf : lvf i [x] = [.leaf x i] := by rw [lvf, if_pos h0]; rfl
        rw [hlf] at hlv
        repeat (first | (apply gJO; refine JO_v (V_loadC (tb := tb) rfl (Rd_weak hr fun w hw => St.sub (by exact (List.sublist_append_right _ _).cons _) hw) rfl rfl gi rfl) ?_) | (apply gJO; refine JO_v (V_index (tb := tb) rfl rfl rfl rfl (Rd.sl (Rd_weak hr fun w hw => St.sub (by exact (List.sublist_append_right _ _).cons _) hw)) (by omega) (by (try simp only [tn, tna, tn1, tn2, tn3, tn4, tnd16, tnd8, Int.reduceToNat]); first | exact Nat.mul_one _ | exact rfl) rfl) ?_) | (first | (refine sx ?_; try intro _)))
        rename_i b pa
        refine JO_app (tb := tb) rfl rfl rfl rfl rfl rfl (by repeat (first | exact Sel.here _ _ | apply Sel.there)) (vec_rd (List.Mem.head _)) (by rfl) ⟨rfl, trivial⟩ (by omega) rfl ?_
        intro p2 c2
        have hlen : (lvf 0 (W.take (i + 1))).length = A.length + 1 := by rw [hlv]; simp
        repeat (first | (refine sx ?_; try intro _))
        refine JS_again5 again (i + 1) (blk b [.int .u64 x, .int .i64 i, .pointer none, .pointer none] :: PK) (upd D A.length (b, .leaf x i)) p2 c2 ⟨by omega, by omega, ?_, ?_⟩ (by omega) ⟨rfl, by rw [hlen]; rfl, lookI rfl (by omega), rfl, lookI rfl (by omega), trivial⟩ (fun w hw => ?_)
        · intro k hk
          rw [hlen] at hk
          by_cases hkA : k = A.length
          · subst hkA
            have e : upd D A.length (b, T.leaf x i) A.length = (b, T.leaf x i) := by unfold upd; rw [if_pos rfl]
            rw [e]
            exact List.Mem.head _
          · have e : upd D A.length (b, T.leaf x i) k = D k := by unfold upd; rw [if_neg hkA]
            rw [e]
            exact (hRp k (by omega)).sub fun a ha => List.Mem.tail _ ha
        · rw [hlen, sg_upd (fun y : Nat × T => y.2), hsg, hlv]
        · rw [hlen, ← vals_snoc]
          exact hw.drop.perm (List.Perm.swap _ _ _)
      · have hlf : lvf i [x] = [] := by rw [lvf, if_neg h0]; rfl
        rw [hlf, List.append_nil] at hlv
        repeat (first | (apply gJO; refine JO_v (V_loadC (tb := tb) rfl (Rd_weak hr fun w hw => St.sub (by exact (List.sublist_append_right _ _).cons _) hw) rfl rfl gi rfl) ?_) | (apply gJO; refine JO_v (V_index (tb := tb) rfl rfl rfl rfl (Rd.sl (Rd_weak hr fun w hw => St.sub (by exact (List.sublist_append_right _ _).cons _) hw)) (by omega) (by (try simp only [tn, tna, tn1, tn2, tn3, tn4, tnd16, tnd8, Int.reduceToNat]); first | exact Nat.mul_one _ | exact rfl) rfl) ?_) | (first | (refine sx ?_; try intro _)))
        exact JS_again5 again (i + 1) PK D q d ⟨by omega, by omega, by rw [hlv]; exact hRp, by rw [hlv]; exact hsg⟩ (by omega) ⟨rfl, by rw [hlv]; rfl, lookI rfl (by omega), rfl, lookI rfl (by omega), trivial⟩ (fun w hw => by rw [hlv]; exact hw)
  · obtain rfl : i = n := by omega
    clear again
    have hWt : W.take i = W := List.take_of_length_le (by omega)
    rw [hWt] at hs hRp hsg hml ⊢
    repeat (first | (refine sx ?_; try intro _))
    refine JO_call Tryz.call89 rfl rfl fun w hw => (SortP_c (K := PK) (fun a ha => List.mem_append_left _ ha) q d _ (by omega) D hRp w hw).mono ?_
    rintro e w' ⟨rfl, D', hw', g1, g2⟩
    refine ⟨_, rfl, _, hw', ?_⟩
    clear hw' hw w w'
    have hlo : (lvf 0 W).length = (oneW W).length := (oneW_len W).symm
    repeat (first | (refine sx ?_; try intro _))
    refine JS_ret Tryz.func45 rfl rfl ?_
    intro w hw
    rw [hlo] at hw g1 g2
    refine .inr ⟨hs, PK, D', q, d, by rw [hlo]; rfl, hw, g1, ?_⟩
    rw [g2, ← hlo, hsg]
    rfl
end
end Go.Proofs.YtbiocgenbgbfpaaGreat

set_option linter.unusedVariables false
set_option linter.unusedSimpArgs false
namespace Sq
/-! ## runs of lengths (plain) -/
abbrev Run := Nat × Nat × Nat
def zr : Nat → Nat → List Run
  | 0, _ => []
  | f + 1, n => if n = 0 then [] else if 11 ≤ n then (18, min n 138 - 11, 7) :: zr f (n - min n 138) else if 3 ≤ n then [(17, n - 3, 3)] else (0, 0, 0) :: zr f (n - 1)
theorem zr_zero (f : Nat) : zr f 0 = [] := by cases f <;> rfl
theorem zr_fuel : ∀ (f g n : Nat), n ≤ f → n ≤ g → zr f n = zr g n
  | 0, g, n, h, _ => by obtain rfl : n = 0 := by omega
                        rw [zr_zero, zr_zero]
  | f + 1, 0, n, _, h => by obtain rfl : n = 0 := by omega
                            rw [zr_zero, zr_zero]
  | f + 1, g + 1, n, h1, h2 => by
    rw [zr, zr]
    by_cases h0 : n = 0
    · rw [if_pos h0, if_pos h0]
    · rw [if_neg h0, if_neg h0, zr_fuel f g (n - min n 138) (by omega) (by omega), zr_fuel f g (n - 1) (by omega) (by omega)]
/-- runs of so many zeros -/
def zeros (n : Nat) : List Run := zr n n
theorem zeros_0 : zeros 0 = [] := rfl
theorem zeros_big {n : Nat} (h : 11 ≤ n) : zeros n = (18, min n 138 - 11, 7) :: zeros (n - min n 138) := by
  unfold zeros
  obtain ⟨m, rfl⟩ : ∃ m, n = m + 1 := ⟨n - 1, by omega⟩
  rw [zr, if_neg (by omega), if_pos h, zr_fuel m (m + 1 - min (m + 1) 138) _ (by omega) (by omega)]
theorem zeros_mid {n : Nat} (h : 3 ≤ n) (h2 : n < 11) : zeros n = [(17, n - 3, 3)] := by
  unfold zeros
  obtain ⟨m, rfl⟩ : ∃ m, n = m + 1 := ⟨n - 1, by omega⟩
  rw [zr, if_neg (by omega), if_neg (by omega), if_pos h]
theorem zeros_small {n : Nat} (h : 1 ≤ n) (h2 : n < 3) : zeros n = (0, 0, 0) :: zeros (n - 1) := by
  unfold zeros
  obtain ⟨m, rfl⟩ : ∃ m, n = m + 1 := ⟨n - 1, by omega⟩
  rw [zr, if_neg (by omega), if_neg (by omega), if_neg (by omega), Nat.add_sub_cancel]
def tr (l : Nat) : Nat → Nat → List Run
  | 0, _ => []
  | f + 1, n => if n = 0 then [] else if n < 3 then (l, 0, 0) :: tr l f (n - 1) else (16, min n 6 - 3, 2) :: tr l f (n - min n 6)
theorem tr_zero (l f : Nat) : tr l f 0 = [] := by cases f <;> rfl
theorem tr_fuel (l : Nat) : ∀ (f g n : Nat), n ≤ f → n ≤ g → tr l f n = tr l g n
  | 0, g, n, h, _ => by obtain rfl : n = 0 := by omega
                        rw [tr_zero, tr_zero]
  | f + 1, 0, n, _, h => by obtain rfl : n = 0 := by omega
                            rw [tr_zero, tr_zero]
  | f + 1, g + 1, n, h1, h2 => by
    rw [tr, tr]
    by_cases h0 : n = 0
    · rw [if_pos h0, if_pos h0]
    · rw [if_neg h0, if_neg h0, tr_fuel l f g (n - min n 6) (by omega) (by omega), tr_fuel l f g (n - 1) (by omega) (by omega)]
/-- behind the first one of so many that are alike -/
def tails (l n : Nat) : List Run := tr l n n
theorem tails_0 (l : Nat) : tails l 0 = [] := rfl
theorem tails_small {l n : Nat} (h : 1 ≤ n) (h2 : n < 3) : tails l n = (l, 0, 0) :: tails l (n - 1) := by
  unfold tails
  obtain ⟨m, rfl⟩ : ∃ m, n = m + 1 := ⟨n - 1, by omega⟩
  rw [tr, if_neg (by omega), if_pos h2, Nat.add_sub_cancel]
theorem tails_big {l n : Nat} (h : 3 ≤ n) : tails l n = (16, min n 6 - 3, 2) :: tails l (n - min n 6) := by
  unfold tails
  obtain ⟨m, rfl⟩ : ∃ m, n = m + 1 := ⟨n - 1, by omega⟩
  rw [tr, if_neg (by omega), if_neg (by omega), tr_fuel l m (m + 1 - min (m + 1) 6) _ (by omega) (by omega)]
def again (l n : Nat) : List Run := (l, 0, 0) :: tails l (n - 1)
def rl : Nat → List Nat → List Run
  | 0, _ => []
  | _, [] => []
  | f + 1, a :: r => (if a = 0 then zeros (1 + (r.takeWhile (· == a)).length) else again a (1 + (r.takeWhile (· == a)).length)) ++ rl f (r.dropWhile (· == a))
theorem rl_nil (f : Nat) : rl f [] = [] := by cases f <;> rfl
theorem drop_le (a : Nat) : ∀ r : List Nat, (r.dropWhile (· == a)).length ≤ r.length := fun r => (List.dropWhile_suffix _).length_le
theorem rl_fuel : ∀ (f g : Nat) (l : List Nat), l.length ≤ f → l.length ≤ g → rl f l = rl g l
  | f, g, [], _, _ => by rw [rl_nil, rl_nil]
  | 0, g, a :: r, h, _ => absurd h (by simp)
  | f + 1, 0, a :: r, _, h => absurd h (by simp)
  | f + 1, g + 1, a :: r, h1, h2 => by
    have := drop_le a r
    rw [rl, rl, rl_fuel f g _ (by simp at h1; omega) (by simp at h2; omega)]
/-- runs of all lengths -/
def runs (l : List Nat) : List Run := rl l.length l
theorem runs_nil : runs [] = [] := rfl
theorem take_rep (a : Nat) (r : List Nat) (h : r.head? ≠ some a) : ∀ m, (List.replicate m a ++ r).takeWhile (· == a) = List.replicate m a ∧ (List.replicate m a ++ r).dropWhile (· == a) = r
  | 0 => by
    cases r with
    | nil => exact ⟨rfl, rfl⟩
    | cons b r =>
      have hb : (b == a) = false := by
        rw [beq_eq_false_iff_ne]
        exact fun e => h (by rw [e]; rfl)
      simp [hb]
  | m + 1 => by
    obtain ⟨h1, h2⟩ := take_rep a r h m
    rw [List.replicate_succ, List.cons_append, List.takeWhile_cons, List.dropWhile_cons]
    simp [h1, h2]
/-- one run -/
theorem runs_step {a m : Nat} {r : List Nat} (h : r.head? ≠ some a) : runs (List.replicate (m + 1) a ++ r) = (if a = 0 then zeros (m + 1) else again a (m + 1)) ++ runs r := by
  obtain ⟨h1, h2⟩ := take_rep a r h m
  unfold runs
  rw [List.replicate_succ, List.cons_append, List.length_cons, rl, h1, h2, List.length_replicate, Nat.add_comm 1 m, rl_fuel _ r.length r (by simp) (Nat.le_refl _)]
/-! what runs say -/
def ex1 (l : List Nat) (r : Run) : List Nat :=
  if r.1 = 16 then l ++ List.replicate (3 + r.2.1) (l.getD (l.length - 1) 0) else if r.1 = 17 then l ++ List.replicate (3 + r.2.1) 0 else if r.1 = 18 then l ++ List.replicate (11 + r.2.1) 0 else l ++ [r.1]
/-- runs as they may be, behind so many lengths -/
def okR (l : List Nat) (r : Run) : Prop := (r.1 = 16 ∧ r.2.2 = 2 ∧ r.2.1 < 4 ∧ l ≠ []) ∨ (r.1 = 17 ∧ r.2.2 = 3 ∧ r.2.1 < 8) ∨ (r.1 = 18 ∧ r.2.2 = 7 ∧ r.2.1 < 128) ∨ (r.1 < 16 ∧ r.2.2 = 0 ∧ r.2.1 = 0)
def okRs : List Nat → List Run → Prop
  | _, [] => True
  | l, r :: rs => okR l r ∧ okRs (ex1 l r) rs
theorem okRs_app : ∀ (l : List Nat) (A B : List Run), okRs l A → okRs (A.foldl ex1 l) B → okRs l (A ++ B)
  | l, [], B, _, h => h
  | l, a :: A, B, ⟨h1, h2⟩, h => ⟨h1, okRs_app (ex1 l a) A B h2 h⟩
theorem rep_app (a m n : Nat) : List.replicate m a ++ List.replicate n a = List.replicate (m + n) a := List.replicate_append_replicate
theorem zeros_ex : ∀ (n : Nat) (l : List Nat), (zeros n).foldl ex1 l = l ++ List.replicate n 0 ∧ okRs l (zeros n) := by
  intro n
  induction n using Nat.strongRecOn with
  | _ n ih =>
    intro l
    by_cases h0 : n = 0
    · subst h0; rw [zeros_0]; exact ⟨by simp, trivial⟩
    by_cases h11 : 11 ≤ n
    · rw [zeros_big h11]
      obtain ⟨i1, i2⟩ := ih (n - min n 138) (by omega) (ex1 l (18, min n 138 - 11, 7))
      have e : ex1 l (18, min n 138 - 11, 7) = l ++ List.replicate (min n 138) 0 := by
        show l ++ List.replicate (11 + (min n 138 - 11)) 0 = _
        rw [show 11 + (min n 138 - 11) = min n 138 by omega]
      refine ⟨?_, .inr (.inr (.inl ⟨rfl, rfl, by show min n 138 - 11 < 128; omega⟩)), i2⟩
      rw [List.foldl_cons, i1, e, List.append_assoc, rep_app, show min n 138 + (n - min n 138) = n by omega]
    · by_cases h3 : 3 ≤ n
      · rw [zeros_mid h3 (by omega)]
        refine ⟨?_, .inr (.inl ⟨rfl, rfl, by show n - 3 < 8; omega⟩), trivial⟩
        show l ++ List.replicate (3 + (n - 3)) 0 = _
        rw [show 3 + (n - 3) = n by omega]
      · rw [zeros_small (by omega) (by omega)]
        obtain ⟨i1, i2⟩ := ih (n - 1) (by omega) (ex1 l (0, 0, 0))
        refine ⟨?_, .inr (.inr (.inr ⟨by show 0 < 16; omega, rfl, rfl⟩)), i2⟩
        rw [List.foldl_cons, i1]
        show l ++ [0] ++ _ = _
        rw [List.append_assoc, show [0] = List.replicate 1 0 from rfl, rep_app, show 1 + (n - 1) = n by omega]
theorem last_rep (l : List Nat) (a m : Nat) : (l ++ List.replicate (m + 1) a).getD ((l ++ List.replicate (m + 1) a).length - 1) 0 = a := by
  rw [List.getD_eq_getElem?_getD, List.getElem?_append_right (by simp), List.getElem?_replicate]
  simp
theorem tails_ex (a : Nat) (ha : a < 16) : ∀ (n : Nat) (l : List Nat) (m : Nat), (tails a n).foldl ex1 (l ++ List.replicate (m + 1) a) = l ++ List.replicate (m + 1 + n) a ∧ okRs (l ++ List.replicate (m + 1) a) (tails a n) := by
  intro n
  induction n using Nat.strongRecOn with
  | _ n ih =>
    intro l m
    by_cases h0 : n = 0
    · subst h0; rw [tails_0]; exact ⟨rfl, trivial⟩
    by_cases h3 : n < 3
    · rw [tails_small (by omega) h3]
      have e : ex1 (l ++ List.replicate (m + 1) a) (a, 0, 0) = l ++ List.replicate (m + 1 + 1) a := by
        unfold ex1
        rw [if_neg (by show ¬ a = 16; omega), if_neg (by show ¬ a = 17; omega), if_neg (by show ¬ a = 18; omega), List.append_assoc]
        show l ++ (_ ++ [a]) = _
        rw [show [a] = List.replicate 1 a from rfl, rep_app]
      obtain ⟨i1, i2⟩ := ih (n - 1) (by omega) l (m + 1)
      rw [← e] at i1 i2
      refine ⟨?_, .inr (.inr (.inr ⟨ha, rfl, rfl⟩)), i2⟩
      rw [List.foldl_cons, i1, show m + 1 + 1 + (n - 1) = m + 1 + n by omega]
    · rw [tails_big (by omega)]
      have e : ex1 (l ++ List.replicate (m + 1) a) (16, min n 6 - 3, 2) = l ++ List.replicate (m + min n 6 + 1) a := by
        unfold ex1
        rw [if_pos rfl, last_rep, List.append_assoc, rep_app]
        show l ++ List.replicate (m + 1 + (3 + (min n 6 - 3))) a = _
        rw [show m + 1 + (3 + (min n 6 - 3)) = m + min n 6 + 1 by omega]
      obtain ⟨i1, i2⟩ := ih (n - min n 6) (by omega) l (m + min n 6)
      rw [← e] at i1 i2
      refine ⟨?_, .inl ⟨rfl, rfl, by show min n 6 - 3 < 4; omega, by simp⟩, i2⟩
      rw [List.foldl_cons, i1, show m + min n 6 + 1 + (n - min n 6) = m + 1 + n by omega]
theorem again_ex (a n : Nat) (ha : a < 16) (hn : 1 ≤ n) (l : List Nat) : (again a n).foldl ex1 l = l ++ List.replicate n a ∧ okRs l (again a n) := by
  have e : ex1 l (a, 0, 0) = l ++ List.replicate (0 + 1) a := by
    unfold ex1
    rw [if_neg (by show ¬ a = 16; omega), if_neg (by show ¬ a = 17; omega), if_neg (by show ¬ a = 18; omega)]; rfl
  obtain ⟨i1, i2⟩ := tails_ex a ha (n - 1) l 0
  rw [← e] at i1 i2
  refine ⟨?_, .inr (.inr (.inr ⟨ha, rfl, rfl⟩)), i2⟩
  unfold again
  rw [List.foldl_cons, i1, show 0 + 1 + (n - 1) = n by omega]
theorem split_rep (a : Nat) : ∀ r : List Nat, ∃ m s, a :: r = List.replicate (m + 1) a ++ s ∧ s.head? ≠ some a
  | [] => ⟨0, [], rfl, by simp⟩
  | b :: r => by
    by_cases h : b = a
    · subst h
      obtain ⟨m, s, h1, h2⟩ := split_rep b r
      exact ⟨m + 1, s, by rw [h1]; rfl, h2⟩
    · exact ⟨0, b :: r, rfl, by simpa using h⟩
theorem runs_ex : ∀ (k : Nat) (B l : List Nat), B.length ≤ k → (∀ x ∈ B, x < 16) → (runs B).foldl ex1 l = l ++ B ∧ okRs l (runs B)
  | _, [], l, _, _ => by rw [runs_nil]; exact ⟨by simp, trivial⟩
  | 0, a :: r, l, h, _ => absurd h (by simp)
  | k + 1, a :: r, l, h, hx => by
    obtain ⟨m, s, e, hs⟩ := split_rep a r
    have ha := hx a (by simp)
    rw [e] at h hx ⊢
    rw [List.length_append, List.length_replicate] at h
    rw [runs_step hs, List.foldl_append]
    have hx' : ∀ x ∈ s, x < 16 := fun x h => hx x (List.mem_append_right _ h)
    by_cases h0 : a = 0
    · subst h0
      rw [if_pos rfl]
      obtain ⟨j1, j2⟩ := zeros_ex (m + 1) l
      obtain ⟨i1, i2⟩ := runs_ex k s (l ++ List.replicate (m + 1) 0) (by omega) hx'
      exact ⟨by rw [j1, i1, List.append_assoc], okRs_app _ _ _ j2 (by rw [j1]; exact i2)⟩
    · rw [if_neg h0]
      obtain ⟨j1, j2⟩ := again_ex a (m + 1) ha (by omega) l
      obtain ⟨i1, i2⟩ := runs_ex k s (l ++ List.replicate (m + 1) a) (by omega) hx'
      exact ⟨by rw [j1, i1, List.append_assoc], okRs_app _ _ _ j2 (by rw [j1]; exact i2)⟩
/-- bounds of runs -/
def bdR (r : Run) : Prop := r.1 ≤ 18 ∧ r.2.2 ≤ 7 ∧ r.2.1 < 2 ^ r.2.2
theorem okR.bd {l : List Nat} {r : Run} (h : okR l r) : bdR r := by
  unfold bdR
  rcases h with ⟨h1, h2, h3, _⟩ | ⟨h1, h2, h3⟩ | ⟨h1, h2, h3⟩ | ⟨h1, h2, h3⟩ <;> rw [h2] <;> omega
theorem okRs.bd : ∀ {l : List Nat} {rs : List Run}, okRs l rs → ∀ r ∈ rs, bdR r
  | _, [], _, r, h => by simp at h
  | l, a :: rs, ⟨h1, h2⟩, r, h => by
    rcases List.mem_cons.1 h with rfl | h
    · exact h1.bd
    · exact h2.bd r h
theorem ex1_grow (l : List Nat) (r : Run) : l.length + 1 ≤ (ex1 l r).length := by
  unfold ex1
  split
  · simp; omega
  · split
    · simp; omega
    · split
      · simp; omega
      · simp
theorem fold_grow : ∀ (rs : List Run) (l : List Nat), l.length + rs.length ≤ (rs.foldl ex1 l).length
  | [], l => by simp
  | r :: rs, l => by
    have h1 := ex1_grow l r
    have h2 := fold_grow rs (ex1 l r)
    rw [List.foldl_cons, List.length_cons]
    omega
theorem runs_len (B : List Nat) (h : ∀ x ∈ B, x < 16) : (runs B).length ≤ B.length := by
  have h1 := fold_grow (runs B) []
  rw [(runs_ex B.length B [] (Nat.le_refl _) h).1] at h1
  simpa using h1
end Sq

namespace Go.Proofs.YtbiocgenbgbfpaaGreat
open Sx Go
set_option linter.unusedVariables false
set_option linter.unusedSimpArgs false
/-! runs in memory -/
def rv (R : List Sq.Run) : List Value := R.flatMap fun r => [.int .i64 r.1, .int .i64 r.2.1, .int .i64 r.2.2]
theorem rv_app (A B : List Sq.Run) : rv A ++ rv B = rv (A ++ B) := by unfold rv; rw [List.flatMap_append]
theorem rv_app1 (A : List Sq.Run) (s r b : Nat) : rv A ++ [.int .i64 s, .int .i64 r, .int .i64 b] = rv (A ++ [(s, r, b)]) := by rw [← rv_app]; rfl
theorem rv_len (A : List Sq.Run) : (rv A).length = A.length * 3 := by
  unfold rv
  induction A with
  | nil => rfl
  | cons a r ih => rw [List.flatMap_cons, List.length_append, ih, List.length_cons]; simp; omega
theorem rv_one (A : List Sq.Run) : All1 (rv A) := All1.of fun v hv => by
  unfold rv at hv
  obtain ⟨a, _, hv⟩ := List.mem_flatMap.1 hv
  simp at hv
  rcases hv with rfl | rfl | rfl <;> rfl
section
variable {w0 : World} {H : List Asn}
set_option maxHeartbeats 2000000 in
theorem Zeros_c (N : Nat) (hN : N ≤ 1000) (w : World) (hw : St w0 H w) :
    Calls Tryz.prog 97 #[.int .i64 N] w fun e w' => ∃ q d, e = .returned (.slice q (Sq.zeros N).length d) ∧ St w0 (vec 48 3 (.slice q (Sq.zeros N).length d) (Sq.zeros N).length (rv (Sq.zeros N)) :: H) w' := by
  refine enter (vs := [.int .i64 N]) Tryz.func97 rfl rfl rfl hw ?_
  repeat (first | (apply gJR; first | (refine sx ?_; try intro _)) | (apply gJO; first | (refine sx ?_; try intro _)) | apply JS_seq | apply JS_region)
  refine JS_block ?_
  refine JS_loop4 (fun (n : Nat) (A : List Sq.Run) (q : Option Addr) (d : Nat) => [(0, .int .i64 n), (3, .slice q A.length d)]) (fun n A q d => vec 48 3 (.slice q A.length d) A.length (rv A) :: H)
    (fun n A _ _ => A ++ Sq.zeros n = Sq.zeros N ∧ n + A.length ≤ N) (fun n _ _ _ => n) N [] none 0 ⟨rfl, Nat.le_refl _⟩ (by repeat (first | exact trivial | refine ⟨rfl, ?_⟩ | refine ⟨lookI rfl (by omega), ?_⟩)) (fun w hw => St.nilvec hw) ?_
  intro n A q d ⟨hA, hnA⟩ again
  by_cases h0 : n = 0
  · subst h0
    clear again
    rw [Sq.zeros_0, List.append_nil] at hA
    repeat (first | (refine sx ?_; try intro _))
    refine JS_ret Tryz.func97 rfl rfl fun w hw => ?_
    rw [hA] at hw
    rw [← hA]
    rw [← hA] at hw
    exact ⟨q, d, rfl, hw⟩
  · by_cases h11 : 11 ≤ n
    · have hmin : min (n : Int) 138 = ((min n 138 : Nat) : Int) := by omega
      have hk : min n 138 ≤ n ∧ 11 ≤ min n 138 ∧ min n 138 ≤ 138 := by omega
      rw [Sq.zeros_big h11] at hA
      generalize min n 138 = k at hA hmin hk
      have e1 : IntKind.i64.wrap ((k : Int) - 11) = ((k - 11 : Nat) : Int) := (wi64 (by omega)).trans (by omega)
      have e2 : IntKind.i64.wrap ((n : Int) - (k : Int)) = ((n - k : Nat) : Int) := (wi64 (by omega)).trans (by omega)
      repeat (first | (apply gJO; first | refine JO_v (oc_min (V_min rfl rfl hmin rfl)) ?_ | refine JO_v (V_sub rfl rfl e1 rfl) ?_ | refine JO_v (V_sub rfl rfl e2 rfl) ?_ | (refine JO_app (tb := tb) rfl rfl rfl rfl rfl rfl (by repeat (first | exact Sel.here _ _ | apply Sel.there)) (vec_rd (List.Mem.head _)) (by rfl) ⟨rfl, rfl, rfl, trivial⟩ (by omega) rfl ?_; intro _ _)) | (first | (refine sx ?_; try intro _)))
      refine JS_again4 again (n - k) (A ++ [(18, k - 11, 7)]) _ _ ⟨by rw [List.append_assoc]; exact hA, by simp; omega⟩ (by omega) ⟨rfl, by rw [List.length_append]; rfl, trivial⟩ (fun w hw => ?_)
      rw [← rv_app1, List.length_append]
      exact St.sub (by repeat (first | exact List.Sublist.refl _ | apply List.Sublist.cons_cons | apply List.Sublist.cons)) hw
    · by_cases h3 : 3 ≤ n
      · rw [Sq.zeros_mid h3 (by omega)] at hA
        have e1 : IntKind.i64.wrap ((n : Int) - 3) = ((n - 3 : Nat) : Int) := (wi64 (by omega)).trans (by omega)
        repeat (first | (apply gJO; first | refine JO_v (V_sub rfl rfl e1 rfl) ?_ | (refine JO_app (tb := tb) rfl rfl rfl rfl rfl rfl (by repeat (first | exact Sel.here _ _ | apply Sel.there)) (vec_rd (List.Mem.head _)) (by rfl) ⟨rfl, rfl, rfl, trivial⟩ (by omega) rfl ?_; intro _ _)) | (first | (refine sx ?_; try intro _)))
        refine JS_again4 again 0 (A ++ [(17, n - 3, 3)]) _ _ ⟨by rw [Sq.zeros_0, List.append_nil]; exact hA, by simp; omega⟩ (by omega) ⟨rfl, by rw [List.length_append]; rfl, trivial⟩ (fun w hw => ?_)
        rw [← rv_app1, List.length_append]
        exact St.sub (by repeat (first | exact List.Sublist.refl _ | apply List.Sublist.cons_cons | apply List.Sublist.cons)) hw
      · rw [Sq.zeros_small (by omega) (by omega)] at hA
        have e1 : IntKind.i64.wrap ((n : Int) - 1) = ((n - 1 : Nat) : Int) := (wi64 (by omega)).trans (by omega)
        repeat (first | (apply gJO; first | refine JO_v (V_sub rfl rfl e1 rfl) ?_ | (refine JO_app (tb := tb) rfl rfl rfl rfl rfl rfl (by repeat (first | exact Sel.here _ _ | apply Sel.there)) (vec_rd (List.Mem.head _)) (by rfl) ⟨rfl, rfl, rfl, trivial⟩ (by omega) rfl ?_; intro _ _)) | (first | (refine sx ?_; try intro _)))
        refine JS_again4 again (n - 1) (A ++ [(0, 0, 0)]) _ _ ⟨by rw [List.append_assoc]; exact hA, by simp; omega⟩ (by omega) ⟨rfl, by rw [List.length_append]; rfl, trivial⟩ (fun w hw => ?_)
        rw [← rv_app1, List.length_append]
        exact St.sub (by repeat (first | exact List.Sublist.refl _ | apply List.Sublist.cons_cons | apply List.Sublist.cons)) hw
set_option maxHeartbeats 2000000 in
theorem SqAgain_c (l N : Nat) (hl : l < 16) (hN1 : 1 ≤ N) (hN : N ≤ 1000) (w : World) (hw : St w0 H w) :
    Calls Tryz.prog 98 #[.int .i64 l, .int .i64 N] w fun e w' => ∃ q d, e = .returned (.slice q (Sq.again l N).length d) ∧ St w0 (vec 48 3 (.slice q (Sq.again l N).length d) (Sq.again l N).length (rv (Sq.again l N)) :: H) w' := by
  refine enter (vs := [.int .i64 l, .int .i64 N]) Tryz.func98 rfl rfl rfl hw ?_
  have e0 : IntKind.i64.wrap ((N : Int) - 1) = ((N - 1 : Nat) : Int) := (wi64 (by omega)).trans (by omega)
  repeat (first | (apply gJR; first | (refine sx ?_; try intro _)) | (apply gJO; first | refine JO_v (V_sub rfl rfl e0 rfl) ?_ | first | (refine sx ?_; try intro _)) | apply JS_seq | apply JS_region)
  refine JS_block ?_
  rename_i p0
  refine JS_loop4 (fun (n : Nat) (A : List Sq.Run) (q : Option Addr) (d : Nat) => [(0, .int .i64 l), (1, .int .i64 n), (5, .slice q A.length d)]) (fun n A q d => vec 48 3 (.slice q A.length d) A.length (rv A) :: H)
    (fun n A _ _ => A ++ Sq.tails l n = Sq.again l N ∧ n + A.length ≤ N) (fun n _ _ _ => n) (N - 1) [(l, 0, 0)] (some p0) 1 ⟨rfl, by simp; omega⟩ (by repeat (first | exact trivial | refine ⟨rfl, ?_⟩ | refine ⟨lookI rfl (by omega), ?_⟩)) (fun w hw => hw) ?_
  intro n A q d ⟨hA, hnA⟩ again
  by_cases h0 : n = 0
  · subst h0
    clear again
    rw [Sq.tails_0, List.append_nil] at hA
    repeat (first | (refine sx ?_; try intro _))
    refine JS_ret Tryz.func98 rfl rfl fun w hw => ?_
    rw [← hA]
    exact ⟨q, d, rfl, hw⟩
  · by_cases h3 : n < 3
    · rw [Sq.tails_small (by omega) h3] at hA
      have e1 : IntKind.i64.wrap ((n : Int) - 1) = ((n - 1 : Nat) : Int) := (wi64 (by omega)).trans (by omega)
      repeat (first | (apply gJO; first | refine JO_v (V_sub rfl rfl e1 rfl) ?_ | (refine JO_app (tb := tb) rfl rfl rfl rfl rfl rfl (by repeat (first | exact Sel.here _ _ | apply Sel.there)) (vec_rd (List.Mem.head _)) (by rfl) ⟨rfl, rfl, rfl, trivial⟩ (by omega) rfl ?_; intro _ _)) | (first | (refine sx ?_; try intro _)))
      refine JS_again4 again (n - 1) (A ++ [(l, 0, 0)]) _ _ ⟨by rw [List.append_assoc]; exact hA, by simp; omega⟩ (by omega) ⟨rfl, rfl, by rw [List.length_append]; rfl, trivial⟩ (fun w hw => ?_)
      rw [← rv_app1, List.length_append]
      exact St.sub (by repeat (first | exact List.Sublist.refl _ | apply List.Sublist.cons_cons | apply List.Sublist.cons)) hw
    · have hmin : min (n : Int) 6 = ((min n 6 : Nat) : Int) := by omega
      have hk : min n 6 ≤ n ∧ 3 ≤ min n 6 ∧ min n 6 ≤ 6 := by omega
      rw [Sq.tails_big (by omega)] at hA
      generalize min n 6 = k at hA hmin hk
      have e1 : IntKind.i64.wrap ((k : Int) - 3) = ((k - 3 : Nat) : Int) := (wi64 (by omega)).trans (by omega)
      have e2 : IntKind.i64.wrap ((n : Int) - (k : Int)) = ((n - k : Nat) : Int) := (wi64 (by omega)).trans (by omega)
      repeat (first | (apply gJO; first | refine JO_v (oc_min (V_min rfl rfl hmin rfl)) ?_ | refine JO_v (V_sub rfl rfl e1 rfl) ?_ | refine JO_v (V_sub rfl rfl e2 rfl) ?_ | (refine JO_app (tb := tb) rfl rfl rfl rfl rfl rfl (by repeat (first | exact Sel.here _ _ | apply Sel.there)) (vec_rd (List.Mem.head _)) (by rfl) ⟨rfl, rfl, rfl, trivial⟩ (by omega) rfl ?_; intro _ _)) | (first | (refine sx ?_; try intro _)))
      refine JS_again4 again (n - k) (A ++ [(16, k - 3, 2)]) _ _ ⟨by rw [List.append_assoc]; exact hA, by simp; omega⟩ (by omega) ⟨rfl, rfl, by rw [List.length_append]; rfl, trivial⟩ (fun w hw => ?_)
      rw [← rv_app1, List.length_append]
      exact St.sub (by repeat (first | exact List.Sublist.refl _ | apply List.Sublist.cons_cons | apply List.Sublist.cons)) hw
end
end Go.Proofs.YtbiocgenbgbfpaaGreat

namespace Go.Proofs.YtbiocgenbgbfpaaGreat
open Sx Go Pm
set_option linter.unusedVariables false
set_option linter.unusedSimpArgs false
theorem prs_sg (f : Nat → T) : ∀ (n a : Nat), prs (sg f a n) = sg (fun k => T.node (f (a + 2 * k)) (f (a + 2 * k + 1))) 0 (n / 2)
  | 0, a => rfl
  | 1, a => rfl
  | n + 2, a => by
    rw [sg, sg, prs, prs_sg f n (a + 1 + 1), show (n + 2) / 2 = n / 2 + 1 by omega, sg]
    congr 1
    exact sg_congr _ _ _ fun k hk => by
      rw [show a + 1 + 1 + 2 * (0 + k) = a + 2 * (0 + 1 + k) by omega]
/-- tells the region -/
theorem gIdR {P : Program} {f n : Nat} {R : Ending → World → Prop} {D : List Deferred} {w0 : World} {k : List Item} {ov : Ov} {H : List Asn} (i : Nat) {l : Array Oper} {b : Bool} (h : JS P f n R D w0 (.code (.region i l b) :: k) ov H) : JS P f n R D w0 (.code (.region i l b) :: k) ov H := h
section
variable {w0 : World} {H : List Asn}
set_option maxHeartbeats 4000000 in
/-- symbols and packs of two, sorted -/
theorem Merged_c {K : List Asn} (hK : ∀ a ∈ K, a ∈ H) (p1 p2 : Option Addr) (c1 c2 n1 n2 : Nat) (D1 D2 : Nat → Nat × T) (hr1 : Rd w0 H (.slice p1 n1 c1) n1 (vals encP D1 n1)) (hr2 : Rd w0 H (.slice p2 n2 c2) n2 (vals encP D2 n2)) (hp1 : p1 = none → n1 = 0) (hn1 : n1 ≤ 1000) (hn2 : n2 ≤ 1000)
    (hR1 : ∀ k, k < n1 → Rp K (D1 k).1 (D1 k).2) (hR2 : ∀ k, k < n2 → Rp K (D2 k).1 (D2 k).2) (hwt : ∀ k, k < n2 → wt (D2 k).2 ≤ 4611686018427387904) (w : World) (hw : St w0 H w) :
    Calls Tryz.prog 46 #[.slice p1 n1 c1, .slice p2 n2 c2] w fun e w' => ∃ (PK : List Asn) (D : Nat → Nat × T) (q : Option Addr) (d : Nat), e = .returned (.slice q (n1 + n2 / 2) d) ∧ St w0 (vec 89 1 (.slice q (n1 + n2 / 2) d) (n1 + n2 / 2) (vals encP D (n1 + n2 / 2)) :: (PK ++ H)) w' ∧
        (∀ k, k < n1 + n2 / 2 → Rp (PK ++ K) (D k).1 (D k).2) ∧ sg (fun k => (D k).2) 0 (n1 + n2 / 2) = isrt wt (sg (fun k => (D1 k).2) 0 n1 ++ prs (sg (fun k => (D2 k).2) 0 n2)) := by
  refine enter (vs := [.slice p1 n1 c1, .slice p2 n2 c2]) Tryz.func46 rfl rfl rfl hw ?_
  clear hw w
  repeat (first | (refine sx ?_; try intro _))
  refine JO_call Tryz.call91 rfl rfl fun w hw => (CloneP_c p1 c1 n1 _ hr1 (vals_len _ _ _) (vals_one encP_one _ _) (by omega) hp1 w hw).mono ?_
  rintro e w' ⟨q0, d0, rfl, hw'⟩
  refine ⟨_, rfl, _, hw', ?_⟩
  clear hw' hw w w'
  repeat (first | (apply gJR; first | (refine sx ?_; try intro _)) | (apply gJO; first | (refine sx ?_; try intro _)) | apply JS_seq | apply JS_region)
  refine JS_block ?_
  refine JS_loop5 (fun (k : Nat) (PK : List Asn) (D : Nat → Nat × T) (q : Option Addr) (d : Nat) => [(0, .slice p1 n1 c1), (1, .slice p2 n2 c2), (5, .slice q (n1 + k) d), (6, .int .i64 (2 * k : Nat))])
    (fun k PK D q d => vec 89 1 (.slice q (n1 + k) d) (n1 + k) (vals encP D (n1 + k)) :: (PK ++ H))
    (fun k PK D q d => 2 * k ≤ n2 ∧ (∀ j, j < n1 + k → Rp (PK ++ K) (D j).1 (D j).2) ∧ sg (fun j => (D j).2) 0 (n1 + k) = sg (fun j => (D1 j).2) 0 n1 ++ sg (fun j => T.node (D2 (2 * j)).2 (D2 (2 * j + 1)).2) 0 k) (fun k _ _ _ _ => n2 - k)
    0 [] D1 q0 d0 ⟨by omega, hR1, by simp [sg]⟩ (by repeat (first | exact trivial | refine ⟨rfl, ?_⟩ | refine ⟨lookI rfl (by omega), ?_⟩)) (fun w hw => hw) ?_
  intro k PK D q d ⟨hk, hRp, hsg⟩ again
  by_cases hlt : 2 * k + 1 < n2
  · have k0 : 2 * k < n2 := by omega
    have r1 := hR2 _ k0
    have r2 := hR2 _ hlt
    have w1 := hwt _ k0
    have w2 := hwt _ hlt
    obtain ⟨x1, y1, z1, m1⟩ := (r1.sub (H' := PK ++ H) fun a ha => List.mem_append_right _ (hK a ha)).head
    obtain ⟨x2, y2, z2, m2⟩ := (r2.sub (H' := PK ++ H) fun a ha => List.mem_append_right _ (hK a ha)).head
    replace m1 := List.mem_cons_of_mem (vec 89 1 (.slice q (n1 + k) d) (n1 + k) (vals encP D (n1 + k))) m1
    replace m2 := List.mem_cons_of_mem (vec 89 1 (.slice q (n1 + k) d) (n1 + k) (vals encP D (n1 + k))) m2
    have e1 : IntKind.i64.wrap (((2 * k : Nat) : Int) + 1) = ((2 * k + 1 : Nat) : Int) := (wi64 (by omega)).trans (by omega)
    repeat ((fail_if_success (refine gIdR 6 ?_)); first | (apply gJO; refine JO_v (V_add rfl rfl e1 rfl) ?_) | (apply gQO; refine QO_v rfl (V_add rfl rfl e1 rfl) ?_) | (apply gQO; first | refine QO_v rfl (V_loadC (tb := tb) rfl (Rd_weak hr2 fun w hw => St.sub (by exact (List.sublist_append_right _ _).cons _) hw) rfl rfl (vals_get encP (by assumption)) rfl) ?_ | refine QO_v rfl (V_index (tb := tb) rfl rfl rfl rfl (Rd.sl (Rd_weak hr2 fun w hw => St.sub (by exact (List.sublist_append_right _ _).cons _) hw)) (by omega) (by (try simp only [tn, tna, tn1, tn2, tn3, tn4, tnd16, tnd8, Int.reduceToNat]); first | exact Nat.mul_one _ | exact rfl) rfl) ?_ | refine QO_v rfl (V_load (tb := tb) rfl m1 rfl rfl rfl rfl) ?_ | refine QO_v rfl (V_load (tb := tb) rfl m2 rfl rfl rfl rfl) ?_) | (first | (refine sx ?_; try intro _)))
    refine JS_draw [1] (by kernel_rfl) (by kernel_rfl) (by decide +kernel) ?_
    have e2 : IntKind.u64.wrap ((wt (D2 (2 * k)).2 : Nat) + (wt (D2 (2 * k + 1)).2 : Nat)) = ((wt (D2 (2 * k)).2 + wt (D2 (2 * k + 1)).2 : Nat) : Int) := (wu64 (by omega)).trans (by omega)
    repeat (first | (apply gQO; refine QO_v rfl (V_add rfl rfl e2 rfl) ?_) | (apply gQO; first | refine QO_v rfl (V_loadC (tb := tb) rfl (Rd_weak hr2 fun w hw => St.sub (by exact (List.sublist_append_right _ _).cons _) hw) rfl rfl (vals_get encP (by assumption)) rfl) ?_ | refine QO_v rfl (V_index (tb := tb) rfl rfl rfl rfl (Rd.sl (Rd_weak hr2 fun w hw => St.sub (by exact (List.sublist_append_right _ _).cons _) hw)) (by omega) (by (try simp only [tn, tna, tn1, tn2, tn3, tn4, tnd16, tnd8, Int.reduceToNat]); first | exact Nat.mul_one _ | exact rfl) rfl) ?_ | refine QO_v rfl (V_load (tb := tb) rfl m1 rfl rfl rfl rfl) ?_ | refine QO_v rfl (V_load (tb := tb) rfl m2 rfl rfl rfl rfl) ?_) | (first | (refine sx ?_; try intro _)))
    refine QO_e (E_box rfl rfl rfl) rfl (.inr fun b w hw => hw.drop) ?_
    intro b
    repeat (first | (refine sx ?_; try intro _))
    refine QO_e (E_buildSlice (tb := tb) rfl rfl rfl rfl rfl rfl rfl rfl rfl) rfl (.inr fun _ _ hw => hw.drop) ?_
    intro pa
    repeat (first | (refine sx ?_; try intro _))
    refine QO_e (E_app (tb := tb) rfl rfl rfl rfl rfl rfl (by repeat (first | exact Sel.here _ _ | apply Sel.there)) (vec_rd (List.Mem.head _)) (by rfl) ⟨rfl, trivial⟩ (by omega) rfl) rfl (.inl rfl) ?_
    intro pc
    have e3 : IntKind.i64.wrap (((2 * k : Nat) : Int) + 2) = ((2 * (k + 1) : Nat) : Int) := (wi64 (by omega)).trans (by omega)
    repeat (first | (apply gJO; refine JO_v (V_add rfl rfl e3 rfl) ?_) | (first | (refine sx ?_; try intro _)))
    refine JS_again5 again (k + 1) (blk b [.int .u64 (wt (D2 (2 * k)).2 + wt (D2 (2 * k + 1)).2 : Nat), .int .i64 0, ptr (D2 (2 * k)).1, ptr (D2 (2 * k + 1)).1] :: PK) (upd D (n1 + k) (b, .node (D2 (2 * k)).2 (D2 (2 * k + 1)).2)) pc.1 pc.2 ⟨by omega, ?_, ?_⟩ (by omega) (by repeat (first | exact trivial | refine ⟨rfl, ?_⟩ | refine ⟨lookI rfl (by omega), ?_⟩)) (fun w hw => ?_)
    · intro j hj
      by_cases hjk : j = n1 + k
      · subst hjk
        have e : upd D (n1 + k) (b, T.node (D2 (2 * k)).2 (D2 (2 * k + 1)).2) (n1 + k) = (b, T.node (D2 (2 * k)).2 (D2 (2 * k + 1)).2) := by unfold upd; rw [if_pos rfl]
        rw [e]
        exact ⟨_, _, List.Mem.head _, r1.sub fun a ha => List.Mem.tail _ (List.mem_append_right _ ha), r2.sub fun a ha => List.Mem.tail _ (List.mem_append_right _ ha)⟩
      · have e : upd D (n1 + k) (b, T.node (D2 (2 * k)).2 (D2 (2 * k + 1)).2) j = D j := by unfold upd; rw [if_neg hjk]
        rw [e]
        exact (hRp j (by omega)).sub fun a ha => List.Mem.tail _ ha
    · have e4 := sg_upd (fun y : Nat × T => y.2) D (n1 + k) (b, T.node (D2 (2 * k)).2 (D2 (2 * k + 1)).2)
      rw [show n1 + (k + 1) = n1 + k + 1 by omega, e4, hsg, List.append_assoc, sg_snoc _ 0 k, Nat.zero_add]
    · rw [show n1 + (k + 1) = n1 + k + 1 by omega, ← vals_snoc]
      exact hw.drop.perm (List.Perm.swap _ _ _)
  · clear again
    have e1 : IntKind.i64.wrap (((2 * k : Nat) : Int) + 1) = ((2 * k + 1 : Nat) : Int) := (wi64 (by omega)).trans (by omega)
    have hk2 : n2 / 2 = k := by omega
    repeat (first | (apply gJO; refine JO_v (V_add rfl rfl e1 rfl) ?_) | (first | (refine sx ?_; try intro _)))
    refine JO_call Tryz.call89 rfl rfl fun w hw => (SortP_c (K := PK ++ K) (fun a ha => (List.mem_append.1 ha).elim (fun h => List.mem_append_left _ h) fun h => List.mem_append_right _ (hK a h)) q d _ (by omega) D hRp w hw).mono ?_
    rintro e w' ⟨rfl, D', hw', g1, g2⟩
    refine ⟨_, rfl, _, hw', ?_⟩
    clear hw' hw w w'
    repeat (first | (refine sx ?_; try intro _))
    refine JS_ret Tryz.func46 rfl rfl ?_
    intro w hw
    rw [hk2]
    refine ⟨PK, D', q, d, rfl, hw, g1, ?_⟩
    rw [g2, hsg, prs_sg, hk2]
    congr 2
    exact sg_congr _ _ _ fun j hj => by simp only [Nat.zero_add]
end
end Go.Proofs.YtbiocgenbgbfpaaGreat

namespace Go.Proofs.YtbiocgenbgbfpaaGreat
open Sx Go Pm
set_option linter.unusedVariables false
set_option linter.unusedSimpArgs false
theorem Rd.capU {w0 : World} {H : List Asn} {p : Option Addr} {m c m' : Nat} {cs : List Value} {w : World} (h : Rd w0 H (.slice p m c) m' cs) (hw : St w0 H w) : m ≤ c := by
  unfold Rd at h
  obtain ⟨⟨b, c', e, hn, hl⟩, _⟩ := h w hw
  cases e
  exact hl
/-- which lengths may be asked for -/
def AskOK (W : List Nat) (L : Int) : Prop := W.length ≤ 320 ∧ 1 ≤ L ∧ L ≤ 15 ∧ W.sum ≤ 4294967296 ∧ (oneW W).length ≤ 2 ^ L.toNat
theorem lev_wt {one : List T} (h : Srt one) {B : Nat} (hB : ∀ y ∈ one, wt y ≤ B) : ∀ k, ∀ y ∈ lev one k, wt y ≤ B * 2 ^ k
  | 0 => fun y hy => by rw [Nat.pow_zero, Nat.mul_one]; exact hB y hy
  | k + 1 => fun y hy => by
    have e : B * 2 ^ (k + 1) = B * 2 ^ k + B * 2 ^ k := by rw [Nat.pow_succ, ← Nat.mul_assoc, Nat.mul_two]
    rw [e]
    rcases List.mem_append.1 ((lev_perm h k).mem_iff.1 hy) with hy | hy
    · have := hB y hy
      have := Nat.le_mul_of_pos_right B (show 0 < 2 ^ k from Nat.pow_pos (by omega))
      omega
    · obtain ⟨x, z, hx, hz, rfl⟩ := prs_srt.prs_mem _ _ hy
      have h1 := lev_wt h hB k x hx
      have h2 := lev_wt h hB k z hz
      show wt x + wt z ≤ _
      omega
theorem lev_cn {one : List T} (h : Srt one) {s : Nat} (hB : ∀ y ∈ one, Pm.cn s y = 0) : ∀ k, ∀ y ∈ lev one k, Pm.cn s y = 0
  | 0 => hB
  | k + 1 => fun y hy => by
    rcases List.mem_append.1 ((lev_perm h k).mem_iff.1 hy) with hy | hy
    · exact hB y hy
    · obtain ⟨x, z, hx, hz, rfl⟩ := prs_srt.prs_mem _ _ hy
      have h1 := lev_cn h hB k x hx
      have h2 := lev_cn h hB k z hz
      show Pm.cn s x + Pm.cn s z = 0
      omega
theorem sum_wt : ∀ (W : List Nat) (i : Nat), ∀ y ∈ lvf i W, wt y ≤ W.sum
  | [], i, y, h => by simp [lvf] at h
  | w :: r, i, y, h => by
    rw [lvf] at h
    rw [List.sum_cons]
    split at h
    · rcases List.mem_cons.1 h with rfl | h
      · show w ≤ _; omega
      · have := sum_wt r (i + 1) y h; omega
    · have := sum_wt r (i + 1) y h; omega
/-- the next level, sorted -/
theorem lev_next {one : List T} (h : Srt one) (k : Nat) : isrt wt (one ++ prs (lev one k)) = lev one (k + 1) := by
  rw [isrt_app, isrt_id wt h, isrt_id wt (prs_srt (lev_srt h k)), ← mg_mrg _ _ _ (Nat.le_refl _)]
  rfl
section
variable {w0 : World} {H : List Asn}
set_option maxHeartbeats 1000000 in
/-- each symbol in a pack has one bit more -/
theorem Count_c (ul : Option Addr) (cl n : Nat) (hn : n ≤ 1000) : ∀ (t : T) (b : Nat) (f : Nat → Int), Rp H b t → (∀ s, n ≤ s → Pm.cn s t = 0) → (∀ s, 0 ≤ f s ∧ f s < 256) → ∀ (w : World), St w0 (vec 5 1 (.slice ul n cl) n (ints .u8 (tab n f)) :: H) w →
    Calls Tryz.prog 47 #[ptr b, .slice ul n cl] w fun e w' => e = .returned (.tuple #[]) ∧ St w0 (vec 5 1 (.slice ul n cl) n (ints .u8 (tab n fun s => (f s + Pm.cn s t) % 256)) :: H) w'
  | .leaf x s, b, f, hR, hs, hf, w, hw => by
    have hsn : s < n := by
      rcases Nat.lt_or_ge s n with h | h
      · exact h
      · have := hs s h; simp [Pm.cn] at this
    have m1 := List.mem_cons_of_mem (vec 5 1 (.slice ul n cl) n (ints .u8 (tab n f))) (show blk b _ ∈ H from hR)
    have hlen := tab_len n f
    have g : (ints .u8 (tab n f))[s]? = some (.int .u8 (f s)) := by rw [ints_get (by omega), tab_get hsn]
    have hfs := hf s
    have e1 : IntKind.u8.wrap (f s + 1) = (f s + 1) % 256 := mu8 _
    refine enter (vs := [ptr b, .slice ul n cl]) Tryz.func47 rfl rfl rfl hw ?_
    repeat (first | (apply gJO; first | refine JO_v (V_load (tb := tb) rfl m1 rfl rfl rfl rfl) ?_ | refine JO_v (V_loadC (tb := tb) rfl (vec_rd (List.Mem.head _)) rfl rfl g rfl) ?_ | refine JO_v (V_add rfl rfl e1 rfl) ?_) | (first | (refine sx ?_; try intro _)))
    refine JS_ret Tryz.func47 rfl rfl ?_
    intro w hw
    refine ⟨rfl, ?_⟩
    rw [tab_set] at hw
    rw [tab_congr (g := fun j => if j = s then (f s + 1) % 256 else f j) fun j hj => ?_]
    · exact hw
    · have := hf j
      show (f j + ((if s = j then 1 else 0 : Nat) : Int)) % 256 = _
      by_cases e : j = s
      · subst e; rw [if_pos rfl, if_pos rfl]; rfl
      · rw [if_neg (Ne.symm e), if_neg e]; omega
  | .node x y, b, f, ⟨p, q, hb, hx, hy⟩, hs, hf, w, hw => by
    have m1 : ∀ f : Nat → Int, blk b [.int .u64 (wt x + wt y : Nat), .int .i64 0, ptr p, ptr q] ∈ vec 5 1 (.slice ul n cl) n (ints .u8 (tab n f)) :: H := fun f => List.mem_cons_of_mem _ hb
    have hsx0 : ∀ s, n ≤ s → Pm.cn s x = 0 := fun s h => by have : Pm.cn s x + Pm.cn s y = 0 := hs s h; omega
    have sy' : ∀ s, n ≤ s → Pm.cn s y = 0 := fun s h => by have : Pm.cn s x + Pm.cn s y = 0 := hs s h; omega
    refine enter (vs := [ptr b, .slice ul n cl]) Tryz.func47 rfl rfl rfl hw ?_
    repeat (first | (apply gJO; refine JO_v (V_load (tb := tb) rfl (m1 _) rfl rfl rfl rfl) ?_) | (first | (refine sx ?_; try intro _)))
    refine JO_call Tryz.call47 rfl rfl fun w hw => (Count_c ul cl n hn x p f hx hsx0 hf w hw).mono ?_
    rintro e w' ⟨rfl, hw'⟩
    refine ⟨_, rfl, _, hw', ?_⟩
    clear hw' hw w w'
    repeat (first | (apply gJO; refine JO_v (V_load (tb := tb) rfl (m1 _) rfl rfl rfl rfl) ?_) | (first | (refine sx ?_; try intro _)))
    refine JO_call Tryz.call47 rfl rfl fun w hw => (Count_c ul cl n hn y q (fun s => (f s + Pm.cn s x) % 256) hy sy' (fun s => by omega) w hw).mono ?_
    rintro e w' ⟨rfl, hw'⟩
    refine ⟨_, rfl, _, hw', ?_⟩
    clear hw' hw w w'
    repeat (first | (refine sx ?_; try intro _))
    refine JS_fin Tryz.func47 rfl rfl ?_
    intro w hw
    refine ⟨rfl, ?_⟩
    rw [tab_congr (g := fun s => ((f s + Pm.cn s x) % 256 + Pm.cn s y) % 256) fun s _ => ?_]
    · exact hw
    · show (f s + ((Pm.cn s x + Pm.cn s y : Nat) : Int)) % 256 = _
      omega
end
end Go.Proofs.YtbiocgenbgbfpaaGreat

namespace Go.Proofs.YtbiocgenbgbfpaaGreat
open Sx Go Pm
set_option linter.unusedVariables false
set_option linter.unusedSimpArgs false
theorem pw15b (L : Nat) (h : L ≤ 15) : (1 : Int) ≤ 2 ^ L ∧ (2 : Int) ^ L ≤ 32768 ∧ ((2 ^ L : Nat) : Int) = 2 ^ L := by
  have : ∀ k : Fin 16, (1 : Int) ≤ 2 ^ k.val ∧ (2 : Int) ^ k.val ≤ 32768 ∧ ((2 ^ k.val : Nat) : Int) = 2 ^ k.val := by decide +kernel
  exact this ⟨L, by omega⟩
theorem take_sg {D : Nat → T} {n : Nat} {l : List T} (h : sg D 0 n = l) {i : Nat} (hi : i < n) : l.take (i + 1) = l.take i ++ [D i] := by
  have hl : l.length = n := by rw [← h, sg_len]
  rw [List.take_succ_eq_append_getElem (by omega)]
  have := sg_get D n 0 i hi
  rw [h, List.getElem?_eq_getElem (by omega)] at this
  simp at this
  rw [this]
section
variable {w0 : World} {H : List Asn}
set_option maxHeartbeats 4000000 in
/-- the lengths of symbols -/
theorem Lengths_c (p : Option Addr) (c n : Nat) (W : List Nat) (hr : Rd w0 H (.slice p n c) n (ints .u64 (nats W))) (hn : W.length = n) (hn1 : n ≤ 140737488355328) (hW : ∀ j, W.getD j 0 < 18446744073709551616) (L : Int) (w : World) (hw : St w0 H w) :
    Calls Tryz.prog 13 #[.slice p n c, .int .i64 L] w fun e w' => (¬ AskOK W L ∧ e = .returned (.tuple #[.slice none 0 0, .int .i64 1]) ∧ St w0 H w') ∨
      (AskOK W L ∧ ∃ (q : Option Addr) (d : Nat), e = .returned (.tuple #[.slice q n d, .int .i64 0]) ∧ St w0 (vec 5 1 (.slice q n d) n (ints .u8 (tab n fun s => (LL W L.toNat s : Nat))) :: H) w') := by
  refine enter (vs := [.slice p n c, .int .i64 L]) Tryz.func13 rfl rfl rfl hw ?_
  clear hw w
  by_cases h1 : 320 < n
  · repeat (first | (refine sx ?_; try intro _))
    refine JS_ret Tryz.func13 rfl rfl ?_
    intro w hw
    exact .inl ⟨fun h => by have := h.1; omega, rfl, hw⟩
  by_cases h2 : L < 1
  · repeat (first | (refine sx ?_; try intro _))
    refine JS_ret Tryz.func13 rfl rfl ?_
    intro w hw
    exact .inl ⟨fun h => by have := h.2.1; omega, rfl, hw⟩
  by_cases h3 : 15 < L
  · repeat (first | (refine sx ?_; try intro _))
    refine JS_ret Tryz.func13 rfl rfl ?_
    intro w hw
    exact .inl ⟨fun h => by have := h.2.2.1; omega, rfl, hw⟩
  obtain ⟨L, rfl⟩ := Int.eq_ofNat_of_zero_le (show 0 ≤ L by omega)
  obtain ⟨pw1, pw2, pw3⟩ := pw15b L (by omega)
  repeat (first | (refine sx ?_; try intro _))
  refine JO_call Tryz.call45 rfl rfl fun w hw => (Symbols_c p c n W hr hn (by omega) hW w hw).mono ?_
  rintro e w' (⟨hs, rfl, hw'⟩ | ⟨hs, PK, D, q, d, rfl, hw', hRp, hsg⟩)
  · refine ⟨_, rfl, _, hw', ?_⟩
    clear hw' hw w w'
    repeat (first | (refine sx ?_; try intro _))
    refine JS_ret Tryz.func13 rfl rfl ?_
    intro w hw
    exact .inl ⟨fun h => by have := h.2.2.2.1; omega, rfl, hw⟩
  refine ⟨_, rfl, _, hw', ?_⟩
  clear hw' hw w w'
  have hlen1 : (oneW W).length ≤ n := by rw [oneW_len, ← hn]; exact lvf_len_le _ _
  have hsh : min ((L : Int)).toNat IntKind.i64.bits = L := by show min _ 64 = _; omega
  have hwr : IntKind.i64.wrap (1 * 2 ^ L) = ((2 ^ L : Nat) : Int) := by rw [Int.one_mul, pw3]; exact wi64 (by omega)
  by_cases h4 : 2 ^ L < (oneW W).length
  · have h4' : ((2 ^ L : Nat) : Int) < ((oneW W).length : Int) := by omega
    repeat (first | (apply gJO; refine JO_v (V_shl (m := L) rfl rfl (by omega) hsh hwr rfl) ?_) | (first | (refine sx ?_; try intro _)))
    refine JS_ret Tryz.func13 rfl rfl ?_
    intro w hw
    refine .inl ⟨fun h => by have := h.2.2.2.2; rw [Int.toNat_natCast] at this; omega, rfl, St.sub ((List.sublist_append_right _ _).cons _) hw⟩
  have hA : AskOK W L := ⟨by omega, by omega, by omega, hs, by rw [Int.toNat_natCast]; omega⟩
  have h4' : ¬ ((2 ^ L : Nat) : Int) < ((oneW W).length : Int) := by omega
  have hb2 : (oneW W).length ≤ 2 ^ L := by omega
  have hL1 : 1 ≤ L := by omega
  have hfin : ∀ (q2 : Option Addr) (d2 : Nat) (f : Nat → Int) (HH : List Asn), H.Sublist HH → (∀ s, s < n → f s = (LL W L s : Nat)) → ∀ w, St w0 (vec 5 1 (.slice q2 n d2) n (ints .u8 (tab n f)) :: HH) w →
      St w0 (vec 5 1 (.slice q2 n d2) n (ints .u8 (tab n fun s => (LL W ((L : Int)).toNat s : Nat))) :: H) w := fun q2 d2 f HH hsub hf w hw => by
    rw [Int.toNat_natCast, ← tab_congr hf]
    exact St.sub (hsub.cons_cons _) hw
  have hbd : ∀ s, s < n → LL W L s ≤ L := fun s hs => (LL_bd hL1 hb2 (by omega)).1
  repeat ((fail_if_success (refine gIdR 7 ?_)); first | (apply gJO; refine JO_v (V_shl (m := L) rfl rfl (by omega) hsh hwr rfl) ?_) | (first | (refine sx ?_; try intro _)))
  rename_i pl
  rw [Int.toNat_natCast n, ints_rep, tab_const]
  obtain ⟨m, hm⟩ : ∃ m, (oneW W).length = m := ⟨_, rfl⟩
  rw [hm] at hRp hsg h4 h4' hlen1 hb2 ⊢
  clear h4 h4' hwr hsh
  match m, hm with
  | 0, hm =>
    repeat (first | (refine sx ?_; try intro _))
    refine JS_ret Tryz.func13 rfl rfl ?_
    intro w hw
    exact .inr ⟨hA, some pl, n, rfl, hfin _ _ _ _ ((List.sublist_append_right _ _).cons _) (fun s hs => by rw [LL_zero s hm]; rfl) w hw⟩
  | 1, hm =>
    obtain ⟨s, hsn, h1w, _⟩ := one_leaf hm
    have hD : (D 0).2 = .leaf (W.getD s 0) s := by
      rw [h1w] at hsg
      simpa [sg] using hsg
    have hR0 := hRp 0 (by omega)
    rw [hD] at hR0
    have hR0' : blk (D 0).1 [.int .u64 (W.getD s 0 : Nat), .int .i64 s, .pointer none, .pointer none] ∈ PK ++ H := List.mem_append_left _ hR0
    have m1 := List.mem_cons_of_mem (vec 5 1 (.slice (some pl) n n) n (ints .u8 (tab n fun _ => 0))) (List.mem_cons_of_mem (vec 89 1 (.slice q 1 d) 1 (vals encP D 1)) hR0')
    have hlen := tab_len n fun _ => 0
    have hsn' : s < n := by omega
    repeat (first | (apply gJO; first | refine JO_v (V_load (tb := tb) rfl m1 rfl rfl rfl rfl) ?_ | refine JO_v (V_loadC (tb := tb) (v := encP (D 0)) rfl (vec_rd (List.Mem.tail _ (List.Mem.head _))) rfl rfl (vals_get encP (show 0 < 1 by omega)) rfl) ?_) | (first | (refine sx ?_; try intro _)))
    refine JS_ret Tryz.func13 rfl rfl ?_
    intro w hw
    rw [tab_set] at hw
    refine .inr ⟨hA, some pl, n, rfl, hfin _ _ _ _ ((List.sublist_append_right _ _).cons _) (fun j hj => ?_) w hw⟩
    rw [LL_one j hm, sc_leaf h1w]
    by_cases e : j = s
    · subst e; rw [if_pos rfl, if_pos rfl]; rfl
    · rw [if_neg e, if_neg (Ne.symm e)]; rfl
  | m + 2, hm =>
    repeat (first | (apply gJR; first | (refine sx ?_; try intro _)) | (apply gJO; first | (refine sx ?_; try intro _)) | apply JS_seq | apply JS_region | apply JS_skip | (apply gJS; refine JS_condT rfl ?_) | (apply gJS; refine JS_condF rfl ?_) | (apply gJS; refine JS_cond_T rfl (by omega) ?_) | (apply gJS; refine JS_cond_F rfl (by omega) ?_))
    have hs' := oneW_srt W
    have hM2 : 2 ≤ (oneW W).length := by omega
    obtain ⟨M, hMe⟩ : ∃ M, m + 2 = M := ⟨_, rfl⟩
    rw [hMe] at hm hb2 hlen1 hsg hRp ⊢
    have hl0 : (lev (oneW W) 0).length = M := hm
    have hle2 : ∀ k, (lev (oneW W) k).length ≤ 2 * M := fun k => by
      induction k with
      | zero => omega
      | succ k ih => rw [lev_len hs' k, hm]; omega
    have hcn0 : ∀ k, ∀ y ∈ lev (oneW W) k, ∀ s, n ≤ s → Pm.cn s y = 0 := fun k y hy s hs => lev_cn hs' (fun y hy => by
      obtain ⟨j, hj, rfl, _⟩ := oneW_mem hy
      show (if j = s then 1 else 0) = 0
      rw [if_neg (by omega)]) k y hy
    have hwt0 : ∀ k, k ≤ 14 → ∀ y ∈ lev (oneW W) k, wt y ≤ 4611686018427387904 := fun k hk y hy => by
      have a1 := lev_wt hs' (B := 4294967296) (fun y hy => Nat.le_trans (sum_wt W 0 y ((oneW_perm W).mem_iff.1 hy)) hs) k y hy
      have a2 : 2 ^ k ≤ 2 ^ 14 := Nat.pow_le_pow_right (by omega) hk
      omega
    refine JS_block ?_
    refine JS_loop5 (fun (k : Nat) (Hk : List Asn) (E : Nat → Nat × T) (qk : Option Addr) (dk : Nat) => [(6, .slice q M d), (8, .slice (some pl) n n), (9, .slice qk (lev (oneW W) k).length dk), (57, .int .i64 (L - 1 : Nat)), (58, .int .i64 k)])
      (fun k Hk E qk dk => vec 5 1 (.slice (some pl) n n) n (ints .u8 (tab n fun _ => 0)) :: Hk)
      (fun k Hk E qk dk => k ≤ L - 1 ∧ H.Sublist Hk ∧ vec 89 1 (.slice q M d) M (vals encP D M) ∈ Hk ∧ vec 89 1 (.slice qk (lev (oneW W) k).length dk) (lev (oneW W) k).length (vals encP E (lev (oneW W) k).length) ∈ Hk ∧
        (∀ j, j < M → Rp Hk (D j).1 (D j).2) ∧ (∀ j, j < (lev (oneW W) k).length → Rp Hk (E j).1 (E j).2) ∧ sg (fun j => (E j).2) 0 (lev (oneW W) k).length = lev (oneW W) k) (fun k _ _ _ _ => L - k)
      0 (vec 89 1 (.slice q M d) M (vals encP D M) :: (PK ++ H)) D q d
      ⟨Nat.zero_le _, (List.sublist_append_right _ _).cons _, List.Mem.head _, by rw [hl0]; exact List.Mem.head _, fun j hj => (hRp j hj).sub fun a ha => List.Mem.tail _ (List.mem_append_left _ ha), fun j hj => (hRp j (by omega)).sub fun a ha => List.Mem.tail _ (List.mem_append_left _ ha), by rw [hl0]; exact hsg⟩
      ⟨rfl, rfl, by rw [hl0]; rfl, lookI rfl (by omega), rfl, trivial⟩ (fun w hw => hw) ?_
    intro k Hk E qk dk ⟨j1, j2, j3, j4, j5, j6, j7⟩ again
    by_cases hlt : k < L - 1
    · have hl1 : (lev (oneW W) (k + 1)).length = M + (lev (oneW W) k).length / 2 := by rw [lev_len hs' k, hm]
      have h2k := hle2 k
      repeat (first | (refine sx ?_; try intro _))
      refine JO_call Tryz.call46 rfl rfl fun w hw => (Merged_c (K := Hk) (fun a ha => List.Mem.tail _ ha) q qk d dk M _ D E (vec_rd (List.Mem.tail _ j3)) (vec_rd (List.Mem.tail _ j4)) (Rd.nil (vec_rd (List.Mem.tail _ j3)) hw) (by omega) (by omega) j5 j6 (fun i hi => hwt0 k (by omega) _ (by rw [← j7]; have := sg_in (fun j => (E j).2) (a := 0) hi; rwa [Nat.zero_add] at this)) w hw).mono ?_
      rintro e w' ⟨PK2, E2, q2, d2, rfl, hw', g1, g2⟩
      refine ⟨_, rfl, _, hw', ?_⟩
      clear hw' hw w w'
      rw [j7, hsg, lev_next hs' k, ← hl1] at g2
      rw [← hl1] at g1 ⊢
      repeat (first | (refine sx ?_; try intro _))
      refine JS_again5 again (k + 1) (vec 89 1 (.slice q2 (lev (oneW W) (k + 1)).length d2) (lev (oneW W) (k + 1)).length (vals encP E2 (lev (oneW W) (k + 1)).length) :: (PK2 ++ Hk)) E2 q2 d2
        ⟨by omega, (j2.trans (List.sublist_append_right _ _)).cons _, List.Mem.tail _ (List.mem_append_right _ j3), List.Mem.head _, fun j hj => (j5 j hj).sub fun a ha => List.Mem.tail _ (List.mem_append_right _ ha), fun j hj => (g1 j hj).sub fun a ha => List.Mem.tail _ ha, g2⟩ (by omega) (by repeat (first | exact trivial | refine ⟨rfl, ?_⟩ | refine ⟨lookI rfl (by omega), ?_⟩)) (fun w hw => hw.perm (List.perm_middle (l₁ := vec 89 1 _ _ _ :: PK2)))
    · obtain rfl : k = L - 1 := by omega
      clear again hlt
      obtain ⟨hlong, _, _⟩ := lens (L := L) hL1 hM2 (by omega)
      rw [hm] at hlong
      have h2k := hle2 (L - 1)
      have hrd : Rd w0 Hk (.slice qk (lev (oneW W) (L - 1)).length dk) (lev (oneW W) (L - 1)).length (vals encP E (lev (oneW W) (L - 1)).length) := vec_rd j4
      have hrs := Rd_sub (lo := 0) (hi := 2 * M - 2) (sz := 1) hrd (Nat.zero_le _) hlong
      have hget : ∀ i, i < 2 * M - 2 → (((vals encP E (lev (oneW W) (L - 1)).length).drop (0 * 1)).take ((2 * M - 2 - 0) * 1))[i]? = some (encP (E i)) := fun i hi => by
        rw [List.getElem?_take, if_pos (by omega), List.getElem?_drop, Nat.zero_mul, Nat.zero_add]
        exact vals_get encP (by omega)
      generalize ((vals encP E (lev (oneW W) (L - 1)).length).drop (0 * 1)).take ((2 * M - 2 - 0) * 1) = cs2 at hrs hget
      have e1 : IntKind.i64.wrap (2 * (M : Int)) = ((2 * M : Nat) : Int) := (wi64 (by omega)).trans (by omega)
      have e2 : IntKind.i64.wrap (((2 * M : Nat) : Int) - 2) = ((2 * M - 2 : Nat) : Int) := (wi64 (by omega)).trans (by omega)
      repeat (first | (apply gJR; first | (refine sx ?_; try intro _)) | (apply gJO; first | refine JO_v (V_mul rfl rfl e1 rfl) ?_ | refine JO_v (V_sub rfl rfl e2 rfl) ?_ | refine JO_v (V_slice (tb := tb) (lo := 0) (hi := 2 * M - 2) rfl rfl rfl rfl rfl rfl rfl (fun w hw => ⟨Nat.zero_le _, Nat.le_trans hlong (Rd.capU hrd hw.drop)⟩) rfl) ?_ | first | (refine sx ?_; try intro _)) | apply JS_seq | apply JS_region | (apply gJS; refine JS_condF rfl ?_) | (apply gJS; refine JS_cond_F rfl (by omega) ?_) | (apply gJS; refine JS_exit rfl ?_))
      refine JS_block ?_
      rw [Nat.sub_zero] at hrs ⊢
      generalize Sx.subB qk 0 dk 1 = qs at hrs ⊢
      refine JS_loop1 (fun (i : Nat) => [(8, .slice (some pl) n n), (69, .slice qs (2 * M - 2) (dk - 0)), (70, .int .i64 (2 * M - 2 : Nat)), (71, .int .i64 i)])
        (fun i => vec 5 1 (.slice (some pl) n n) n (ints .u8 (tab n fun s => ((sc s ((lev (oneW W) (L - 1)).take i) : Nat) : Int) % 256)) :: Hk) (fun i => i ≤ 2 * M - 2) (fun i => 2 * M - i) 0 (Nat.zero_le _) (by repeat (first | exact trivial | refine ⟨rfl, ?_⟩ | refine ⟨lookI rfl (by omega), ?_⟩)) (fun w hw => by
          rw [tab_congr (g := fun _ => 0) fun s _ => by rw [List.take_zero]; rfl]; exact hw) ?_
      intro i hi again
      by_cases hlt : i < 2 * M - 2
      · have gi := hget i hlt
        repeat (first | (apply gJO; first | refine JO_v (V_loadC (tb := tb) rfl (Rd_weak hrs fun w hw => hw.drop) rfl rfl gi rfl) ?_ | refine JO_v (V_index (tb := tb) rfl rfl rfl rfl (Rd.sl (Rd_weak hrs fun w hw => hw.drop)) (by omega) (by (try simp only [tn, tna, tn1, tn2, tn3, tn4, tnd16, tnd8, Int.reduceToNat]); first | exact Nat.mul_one _ | exact rfl) rfl) ?_) | (first | (refine sx ?_; try intro _)))
        have hin : (E i).2 ∈ lev (oneW W) (L - 1) := by
          rw [← j7]
          have := sg_in (fun j => (E j).2) (a := 0) (show i < (lev (oneW W) (L - 1)).length by omega)
          rwa [Nat.zero_add] at this
        refine JO_call Tryz.call47 rfl rfl fun w hw => (Count_c (some pl) n n (by omega) (E i).2 (E i).1 _ (j6 i (by omega)) (hcn0 _ _ hin) (fun s => by omega) w hw).mono ?_
        rintro e w' ⟨rfl, hw'⟩
        refine ⟨_, rfl, _, hw', ?_⟩
        clear hw' hw w w'
        repeat (first | (refine sx ?_; try intro _))
        refine JS_again1 again (i + 1) (by omega) (by omega) (by repeat (first | exact trivial | refine ⟨rfl, ?_⟩ | refine ⟨lookI rfl (by omega), ?_⟩)) (fun w hw => ?_)
        rw [tab_congr (g := fun s => (((sc s ((lev (oneW W) (L - 1)).take i) : Nat) : Int) % 256 + Pm.cn s (E i).2) % 256) fun s _ => ?_]
        · exact hw
        · have ht := take_sg j7 (i := i) (by omega)
          rw [ht, sc_app]
          have : sc s [(E i).2] = Pm.cn s (E i).2 := by simp [sc]
          rw [this]
          omega
      · obtain rfl : i = 2 * M - 2 := by omega
        clear again
        repeat (first | (refine sx ?_; try intro _))
        refine JS_ret Tryz.func13 rfl rfl ?_
        intro w hw
        refine .inr ⟨hA, some pl, n, rfl, hfin _ _ _ _ j2 (fun s hs => ?_) w hw⟩
        have := hbd s hs
        rw [LL_two s hM2, hm] at this ⊢
        omega
end
end Go.Proofs.YtbiocgenbgbfpaaGreat

namespace Go.Proofs.YtbiocgenbgbfpaaGreat
open Sx Go
set_option linter.unusedVariables false
set_option linter.unusedSimpArgs false
theorem nats_get8 {W : List Nat} {j : Nat} (h : j < W.length) : (ints .u8 (nats W))[j]? = some (.int .u8 (W.getD j 0 : Nat)) := by
  rw [ints_get (by rw [nats_len]; exact h), nats_getD]
theorem drop_rep (B : List Nat) (a : Nat) : ∀ (n i : Nat), i + n ≤ B.length → (∀ j, j < n → B.getD (i + j) 0 = a) → B.drop i = List.replicate n a ++ B.drop (i + n)
  | 0, i, _, _ => by simp
  | n + 1, i, h, hj => by
    have ih := drop_rep B a n (i + 1) (by omega) fun j hj' => by
      have := hj (j + 1) (by omega)
      rwa [show i + (j + 1) = i + 1 + j by omega] at this
    have h0 := hj 0 (by omega)
    rw [Nat.add_zero, List.getD_eq_getElem?_getD, List.getElem?_eq_getElem (by omega), Option.getD_some] at h0
    rw [List.drop_eq_getElem_cons (by omega), h0, ih, List.replicate_succ, List.cons_append, show i + 1 + n = i + (n + 1) by omega]
theorem drop_head (B : List Nat) (k : Nat) : (B.drop k).head? = B[k]? := by rw [List.head?_drop]
section
variable {w0 : World} {H : List Asn}
set_option maxHeartbeats 4000000 in
theorem Runs_c (p : Option Addr) (c m : Nat) (B : List Nat) (hr : Rd w0 H (.slice p m c) m (ints .u8 (nats B))) (hm : B.length = m) (hB : ∀ j, B.getD j 0 < 16) (hm1 : m ≤ 1000) (w : World) (hw : St w0 H w) :
    Calls Tryz.prog 57 #[.slice p m c] w fun e w' => ∃ q d, e = .returned (.slice q (Sq.runs B).length d) ∧ St w0 (vec 48 3 (.slice q (Sq.runs B).length d) (Sq.runs B).length (rv (Sq.runs B)) :: H) w' := by
  have hmem : ∀ x ∈ B, x < 16 := fun x hx => by
    obtain ⟨j, hj, rfl⟩ := List.mem_iff_getElem.1 hx
    have := hB j
    rwa [List.getD_eq_getElem?_getD, List.getElem?_eq_getElem hj] at this
  have hrl := Sq.runs_len B hmem
  refine enter (vs := [.slice p m c]) Tryz.func57 rfl rfl rfl hw ?_
  clear hw w
  repeat (first | (apply gJR; first | (refine sx ?_; try intro _)) | (apply gJO; first | (refine sx ?_; try intro _)) | apply JS_seq | apply JS_region)
  refine JS_block ?_
  refine JS_loop4 (fun (i : Nat) (A : List Sq.Run) (q : Option Addr) (d : Nat) => [(0, .slice p m c), (3, .slice q A.length d), (4, .int .i64 i)]) (fun i A q d => vec 48 3 (.slice q A.length d) A.length (rv A) :: H)
    (fun i A _ _ => A ++ Sq.runs (B.drop i) = Sq.runs B ∧ i ≤ m) (fun i _ _ _ => m - i) 0 [] none 0 ⟨by simp, Nat.zero_le _⟩ (by repeat (first | exact trivial | refine ⟨rfl, ?_⟩ | refine ⟨lookI rfl (by omega), ?_⟩)) (fun w hw => St.nilvec hw) ?_
  intro i A q d ⟨hA, hi⟩ again
  have hAl : A.length ≤ m := by have := congrArg List.length hA; rw [List.length_append] at this; omega
  by_cases hlt : i < m
  · have gi := nats_get8 (W := B) (j := i) (by omega)
    have hbi := hB i
    repeat (first | (apply gJR; first | (refine sx ?_; try intro _)) | (apply gJO; first | (refine sx ?_; try intro _)) | apply JS_seq | apply JS_region | apply JS_skip | (apply gJS; refine JS_condT rfl ?_) | (apply gJS; refine JS_cond_T rfl (by omega) ?_))
    refine JS_block ?_
    repeat (first | (apply gJR; first | (refine sx ?_; try intro _)) | (apply gJO; first | (refine sx ?_; try intro _)) | apply JS_seq | apply JS_region)
    refine JS_block ?_
    refine JS_loop1 (fun (k : Nat) => [(0, .slice p m c), (3, .slice q A.length d), (4, .int .i64 i), (5, .int .i64 k)]) (fun _ => vec 48 3 (.slice q A.length d) A.length (rv A) :: H)
      (fun k => i ≤ k ∧ k ≤ m ∧ ∀ j, i ≤ j → j < k → B.getD j 0 = B.getD i 0) (fun k => m - k) i ⟨Nat.le_refl _, by omega, fun j _ _ => by omega⟩ (by repeat (first | exact trivial | refine ⟨rfl, ?_⟩ | refine ⟨lookI rfl (by omega), ?_⟩)) (fun w hw => hw) ?_
    intro k ⟨hik, hkm, hsame⟩ again2
    have fin : (k = m ∨ B.getD k 0 ≠ B.getD i 0) → i < k ∧ (A ++ ((if B.getD i 0 = 0 then Sq.zeros (k - i) else Sq.again (B.getD i 0) (k - i)) ++ Sq.runs (B.drop k)) = Sq.runs B) := fun h => by
      have hlt' : i < k := by
        rcases Nat.lt_or_ge i k with h' | h'
        · exact h'
        · exfalso
          obtain rfl : i = k := by omega
          rcases h with h | h
          · omega
          · exact h rfl
      refine ⟨hlt', ?_⟩
      obtain ⟨n, hn⟩ : ∃ n, k - i = n + 1 := ⟨k - i - 1, by omega⟩
      have e := drop_rep B (B.getD i 0) (n + 1) i (by omega) fun j hj => hsame (i + j) (by omega) (by omega)
      rw [show i + (n + 1) = k by omega] at e
      rw [e, Sq.runs_step] at hA
      · rw [hn]; exact hA
      · rw [drop_head]
        rcases h with h | h
        · rw [List.getElem?_eq_none (by omega)]; simp
        · intro h'
          exact h (by rw [List.getD_eq_getElem?_getD, h']; rfl)
    have gk : k < m → (ints .u8 (nats B))[k]? = some (.int .u8 (B.getD k 0 : Nat)) := fun h => nats_get8 (by omega)
    have hr' : Rd w0 (vec 48 3 (.slice q A.length d) A.length (rv A) :: H) (.slice p m c) m (ints .u8 (nats B)) := Rd_weak hr fun w hw => hw.drop
    by_cases hgo : k < m ∧ B.getD k 0 = B.getD i 0
    · obtain ⟨h1, h2⟩ := hgo
      have gk := gk h1
      rw [h2] at gk
      generalize B.getD i 0 = a at *
      repeat (first | (apply gQO; refine QO_v rfl (V_loadC (tb := tb) rfl hr' rfl rfl gk rfl) ?_) | (apply gQO; refine QO_v rfl (V_loadC (tb := tb) rfl hr' rfl rfl gi rfl) ?_) | (first | (refine sx ?_; try intro _)))
      exact JS_again1 again2 (k + 1) ⟨by omega, by omega, fun j hj1 hj2 => by
        rcases Nat.lt_or_ge j k with h | h
        · exact hsame j hj1 h
        · rw [show j = k by omega]; exact h2⟩ (by omega) (by repeat (first | exact trivial | refine ⟨rfl, ?_⟩ | refine ⟨lookI rfl (by omega), ?_⟩)) (fun w hw => hw)
    · have hex : k = m ∨ B.getD k 0 ≠ B.getD i 0 := by
        by_cases h : k = m
        · exact .inl h
        · exact .inr fun h' => hgo ⟨by omega, h'⟩
      obtain ⟨hlt', hA2⟩ := fin hex
      clear fin hsame again2 hgo
      have e1 : IntKind.i64.wrap ((k : Int) - (i : Int)) = ((k - i : Nat) : Int) := (wi64 (by omega)).trans (by omega)
      have e2 : IntKind.i64.wrap ((B.getD i 0 : Nat) : Int) = ((B.getD i 0 : Nat) : Int) := wi64 (by omega)
      have hXl := congrArg List.length hA2
      rw [List.length_append, List.length_append] at hXl
      obtain ⟨a, ha⟩ : ∃ a, B.getD i 0 = a := ⟨_, rfl⟩
      rw [ha] at hA2 hXl gi e2 hbi hex
      by_cases ha0 : a = 0
      · subst ha0
        rw [if_pos rfl] at hA2 hXl
        by_cases hkm' : k = m
        case' pos =>
          repeat (first | (apply gQO; refine QO_v rfl (V_loadC (tb := tb) rfl hr' rfl rfl gi rfl) ?_) | (apply gJO; first | refine JO_v (V_loadC (tb := tb) rfl hr' rfl rfl gi rfl) ?_ | refine JO_v (V_sub rfl rfl e1 rfl) ?_) | (first | (refine sx ?_; try intro _)))
        case' neg =>
          have gk := gk (by omega)
          have hne : B.getD k 0 ≠ 0 := by rcases hex with h | h <;> omega
          generalize B.getD k 0 = b at gk hne
          repeat (first | (apply gQO; first | refine QO_v rfl (V_loadC (tb := tb) rfl hr' rfl rfl gk rfl) ?_ | refine QO_v rfl (V_loadC (tb := tb) rfl hr' rfl rfl gi rfl) ?_) | (apply gJO; first | refine JO_v (V_loadC (tb := tb) rfl hr' rfl rfl gi rfl) ?_ | refine JO_v (V_sub rfl rfl e1 rfl) ?_) | (first | (refine sx ?_; try intro _)))
        all_goals
          refine JO_call Tryz.call97 rfl rfl fun w hw => (Zeros_c (k - i) (by omega) w hw).mono ?_
          rintro e w' ⟨q2, d2, rfl, hw'⟩
          refine ⟨_, rfl, _, hw', ?_⟩
          clear hw' hw w w'
          repeat (first | (apply gJO; (refine JO_app (tb := tb) rfl rfl rfl rfl rfl rfl (by repeat (first | exact Sel.here _ _ | apply Sel.there)) (vec_rd (List.Mem.head _)) (rv_len _) (rv_one _) (by omega) rfl ?_; intro _ _)) | (first | (refine sx ?_; try intro _)))
          refine JS_again4 again k (A ++ Sq.zeros (k - i)) _ _ ⟨by rw [List.append_assoc]; exact hA2, hkm⟩ (by omega) ⟨rfl, by rw [List.length_append]; rfl, rfl, trivial⟩ (fun w hw => ?_)
          rw [← rv_app, List.length_append]
          exact St.sub (by repeat (first | exact List.Sublist.refl _ | apply List.Sublist.cons_cons | apply List.Sublist.cons)) hw
      · rw [if_neg ha0] at hA2 hXl
        by_cases hkm' : k = m
        case' pos =>
          repeat (first | (apply gQO; refine QO_v rfl (V_loadC (tb := tb) rfl hr' rfl rfl gi rfl) ?_) | (apply gJO; first | refine JO_v (V_loadC (tb := tb) rfl hr' rfl rfl gi rfl) ?_ | refine JO_v (oCv (V_conv (tb := tb) rfl rfl rfl e2 rfl)) ?_ | refine JO_v (V_sub rfl rfl e1 rfl) ?_) | (first | (refine sx ?_; try intro _)))
        case' neg =>
          have gk := gk (by omega)
          have hne : B.getD k 0 ≠ a := by rcases hex with h | h <;> omega
          generalize B.getD k 0 = b at gk hne
          repeat (first | (apply gQO; first | refine QO_v rfl (V_loadC (tb := tb) rfl hr' rfl rfl gk rfl) ?_ | refine QO_v rfl (V_loadC (tb := tb) rfl hr' rfl rfl gi rfl) ?_) | (apply gJO; first | refine JO_v (V_loadC (tb := tb) rfl hr' rfl rfl gi rfl) ?_ | refine JO_v (oCv (V_conv (tb := tb) rfl rfl rfl e2 rfl)) ?_ | refine JO_v (V_sub rfl rfl e1 rfl) ?_) | (first | (refine sx ?_; try intro _)))
        all_goals
          refine JO_call Tryz.call98 rfl rfl fun w hw => (SqAgain_c a (k - i) hbi (by omega) (by omega) w hw).mono ?_
          rintro e w' ⟨q2, d2, rfl, hw'⟩
          refine ⟨_, rfl, _, hw', ?_⟩
          clear hw' hw w w'
          repeat (first | (apply gJO; (refine JO_app (tb := tb) rfl rfl rfl rfl rfl rfl (by repeat (first | exact Sel.here _ _ | apply Sel.there)) (vec_rd (List.Mem.head _)) (rv_len _) (rv_one _) (by omega) rfl ?_; intro _ _)) | (first | (refine sx ?_; try intro _)))
          refine JS_again4 again k (A ++ Sq.again a (k - i)) _ _ ⟨by rw [List.append_assoc]; exact hA2, hkm⟩ (by omega) ⟨rfl, by rw [List.length_append]; rfl, rfl, trivial⟩ (fun w hw => ?_)
          rw [← rv_app, List.length_append]
          exact St.sub (by repeat (first | exact List.Sublist.refl _ | apply List.Sublist.cons_cons | apply List.Sublist.cons)) hw
  · obtain rfl : i = m := by omega
    clear again
    rw [List.drop_of_length_le (by omega), Sq.runs_nil, List.append_nil] at hA
    repeat (first | (refine sx ?_; try intro _))
    refine JS_ret Tryz.func57 rfl rfl fun w hw => ?_
    rw [← hA]
    exact ⟨q, d, rfl, hw⟩
end
end Go.Proofs.YtbiocgenbgbfpaaGreat

namespace Go.Proofs.YtbiocgenbgbfpaaGreat
open Sx Go
set_option linter.unusedVariables false
set_option linter.unusedSimpArgs false
/-! zeros cut off behind -/
def cutm (B : List Nat) (least : Nat) : Nat → Nat
  | 0 => 0
  | m + 1 => if least < m + 1 ∧ B.getD m 0 = 0 then cutm B least m else m + 1
def cutN (B : List Nat) (least : Nat) : List Nat := B.take (cutm B least B.length)
theorem cutm_le (B : List Nat) (least : Nat) : ∀ m, cutm B least m ≤ m
  | 0 => Nat.le_refl _
  | m + 1 => by
    rw [cutm]
    split
    · have := cutm_le B least m; omega
    · omega
theorem cutm_ge (B : List Nat) (least : Nat) : ∀ m, least ≤ m → least ≤ cutm B least m
  | 0, h => h
  | m + 1, h => by
    rw [cutm]
    split
    · rename_i hc; exact cutm_ge B least m (by omega)
    · exact h
theorem cutm_zero (B : List Nat) (least : Nat) : ∀ m, ∀ j, cutm B least m ≤ j → j < m → B.getD j 0 = 0
  | 0, j, _, h => absurd h (by omega)
  | m + 1, j, h1, h2 => by
    rw [cutm] at h1
    split at h1
    · rename_i hc
      rcases Nat.lt_or_ge j m with h | h
      · exact cutm_zero B least m j h1 h
      · rw [show j = m by omega]; exact hc.2
    · omega
theorem nats_take (B : List Nat) (k : Nat) : nats (B.take k) = (nats B).take k := by unfold nats; rw [List.map_take]
section
variable {w0 : World} {H : List Asn}
set_option maxHeartbeats 1000000 in
theorem SqCut_c (p : Option Addr) (c m : Nat) (B : List Nat) (least : Nat) (hr : Rd w0 H (.slice p m c) m (ints .u8 (nats B))) (hm : B.length = m) (hm1 : m ≤ 1000) (hl : least ≤ 1000) (w : World) (hw : St w0 H w) :
    Calls Tryz.prog 17 #[.slice p m c, .int .i64 least] w fun e w' => ∃ q d, e = .returned (.slice q (cutN B least).length d) ∧ Rd w0 H (.slice q (cutN B least).length d) (cutN B least).length (ints .u8 (nats (cutN B least))) ∧ St w0 H w' := by
  refine enter (vs := [.slice p m c, .int .i64 least]) Tryz.func17 rfl rfl rfl hw ?_
  clear hw w
  repeat (first | (apply gJR; first | (refine sx ?_; try intro _)) | (apply gJO; first | (refine sx ?_; try intro _)) | apply JS_seq | apply JS_region)
  refine JS_block ?_
  refine JS_loop3 (fun (k : Nat) (q : Option Addr) (d : Nat) => [(0, .slice q k d), (1, .int .i64 least)]) (fun _ _ _ => H)
    (fun k q d => k ≤ m ∧ cutm B least k = cutm B least m ∧ Rd w0 H (.slice q k d) k (ints .u8 (nats (B.take k)))) (fun k _ _ => k) m p c ⟨Nat.le_refl _, rfl, by rw [List.take_of_length_le (by omega)]; exact hr⟩ (by repeat (first | exact trivial | refine ⟨rfl, ?_⟩ | refine ⟨lookI rfl (by omega), ?_⟩)) (fun w hw => hw) ?_
  intro k q d ⟨hk, hc, hrd⟩ again
  have hend : cutm B least k = k → ∀ w, St w0 H w → ∃ q' d', (Ending.returned (.slice q k d) = Ending.returned (.slice q' (cutN B least).length d')) ∧ Rd w0 H (.slice q' (cutN B least).length d') (cutN B least).length (ints .u8 (nats (cutN B least))) ∧ St w0 H w := fun h w hw => by
    have e : cutN B least = B.take k := by unfold cutN; rw [hm, ← hc, h]
    have e2 : (B.take k).length = k := by rw [List.length_take]; omega
    rw [e, e2]
    exact ⟨q, d, rfl, hrd, hw⟩
  by_cases hlt : least < k
  · obtain ⟨k, rfl⟩ : ∃ k', k = k' + 1 := ⟨k - 1, by omega⟩
    have g : (ints .u8 (nats (B.take (k + 1))))[k]? = some (.int .u8 (B.getD k 0 : Nat)) := by
      rw [nats_get8 (by rw [List.length_take]; omega)]
      rw [List.getD_eq_getElem?_getD, List.getElem?_take, if_pos (by omega), ← List.getD_eq_getElem?_getD]
    have e1 : IntKind.i64.wrap (((k + 1 : Nat) : Int) - 1) = (k : Int) := (wi64 (by omega)).trans (by omega)
    have hstep : cutm B least (k + 1) = if least < k + 1 ∧ B.getD k 0 = 0 then cutm B least k else k + 1 := rfl
    by_cases h0 : B.getD k 0 = 0
    · rw [if_pos ⟨hlt, h0⟩] at hstep
      have hrs := Rd_sub (lo := 0) (hi := k) (sz := 1) hrd (Nat.zero_le _) (by omega)
      rw [Nat.zero_mul, List.drop_zero, Nat.sub_zero, Nat.mul_one, ints_take, ← nats_take, List.take_take, show min k (k + 1) = k by omega] at hrs
      rw [h0] at g
      repeat (first | (apply gJO; first | refine JO_v (V_sub rfl rfl e1 rfl) ?_ | refine JO_v (V_loadC (tb := tb) rfl hrd rfl rfl g rfl) ?_ | refine JO_v (V_index (tb := tb) rfl rfl rfl rfl (Rd.sl hrd) (by omega) (by (try simp only [tn, tna, tn1, tn2, tn3, tn4, tnd16, tnd8, Int.reduceToNat]); first | exact Nat.mul_one _ | exact rfl) rfl) ?_ | refine JO_v (V_slice (tb := tb) (lo := 0) (hi := k) rfl rfl rfl rfl rfl rfl rfl (fun w hw => ⟨Nat.zero_le _, by have := Rd.capU hrd hw; omega⟩) rfl) ?_) | (first | (refine sx ?_; try intro _)))
      exact JS_again3 again k _ _ ⟨by omega, by rw [← hc, hstep], hrs⟩ (by omega) (by repeat (first | exact trivial | refine ⟨rfl, ?_⟩ | refine ⟨lookI rfl (by omega), ?_⟩)) (fun w hw => hw)
    · rw [if_neg (fun h => h0 h.2)] at hstep
      have hend := hend hstep
      clear again
      generalize B.getD k 0 = a at g h0
      repeat (first | (apply gJO; first | refine JO_v (V_sub rfl rfl e1 rfl) ?_ | refine JO_v (V_loadC (tb := tb) rfl hrd rfl rfl g rfl) ?_ | refine JO_v (V_index (tb := tb) rfl rfl rfl rfl (Rd.sl hrd) (by omega) (by (try simp only [tn, tna, tn1, tn2, tn3, tn4, tnd16, tnd8, Int.reduceToNat]); first | exact Nat.mul_one _ | exact rfl) rfl) ?_) | (first | (refine sx ?_; try intro _)))
      exact JS_ret Tryz.func17 rfl rfl fun w hw => hend w hw
  · have hend := hend (by
      cases k with
      | zero => rfl
      | succ k => rw [cutm, if_neg (fun h => hlt h.1)])
    clear again
    repeat (first | (refine sx ?_; try intro _))
    exact JS_ret Tryz.func17 rfl rfl fun w hw => hend w hw
/-- the lengths, where there are some -/
theorem SqBest_c (p : Option Addr) (c n : Nat) (W : List Nat) (hr : Rd w0 H (.slice p n c) n (ints .u64 (nats W))) (hn : W.length = n) (hW : ∀ j, W.getD j 0 < 18446744073709551616) (L : Nat) (hA : AskOK W L) (w : World) (hw : St w0 H w) :
    Calls Tryz.prog 18 #[.slice p n c, .int .i64 L] w fun e w' => ∃ (q : Option Addr) (d : Nat), e = .returned (.slice q n d) ∧ St w0 (vec 5 1 (.slice q n d) n (ints .u8 (tab n fun s => (Pm.LL W L s : Nat))) :: H) w' := by
  refine enter (vs := [.slice p n c, .int .i64 L]) Tryz.func18 rfl rfl rfl hw ?_
  have h320 := hA.1
  repeat (first | (refine sx ?_; try intro _))
  refine JO_call Tryz.call13 rfl rfl fun w hw => (Lengths_c p c n W hr hn (by omega) hW L w hw).mono ?_
  rintro e w' (⟨h, _⟩ | ⟨_, q, d, rfl, hw'⟩)
  · exact absurd hA h
  rw [Int.toNat_natCast] at hw'
  refine ⟨_, rfl, _, hw', ?_⟩
  clear hw' hw w w'
  repeat (first | (refine sx ?_; try intro _))
  exact JS_ret Tryz.func18 rfl rfl fun w hw => ⟨q, d, rfl, hw⟩
def ordV : List Value := [.int .i64 16, .int .i64 17, .int .i64 18, .int .i64 0, .int .i64 8, .int .i64 7, .int .i64 9, .int .i64 6, .int .i64 10, .int .i64 5, .int .i64 11, .int .i64 4, .int .i64 12, .int .i64 3, .int .i64 13, .int .i64 2, .int .i64 14, .int .i64 1, .int .i64 15]
theorem Order_c (w : World) (hw : St w0 H w) : Calls Tryz.prog 58 #[] w fun e w' => e = .returned (.agg ordV.toArray) ∧ St w0 H w' := by
  refine enter (vs := []) Tryz.func58 rfl rfl rfl hw ?_
  repeat (first | (apply gJO; refine JO_v (V_buildA (tb := tb) rfl rfl rfl rfl rfl) ?_) | (first | (refine sx ?_; try intro _)))
  rename_i b
  refine JS_retC (tb := tb) (vs := [.agg ordV.toArray]) Tryz.func58 rfl (.agg (b := b) (off := 0) rfl (List.Mem.head _) rfl rfl rfl .nil) ?_
  intro w hw
  exact ⟨rfl, St.sub (by repeat (first | exact List.Sublist.refl _ | apply List.Sublist.cons_cons | apply List.Sublist.cons)) hw⟩
/-- a token's symbols, with what follows -/
def splitR (t : Int × Nat × Nat) : List Sq.Run :=
  if t.2.2 = 0 then [(t.1.toNat, 0, 0)] else [((lenS t.2.1).1.toNat, (lenS t.2.1).2.2.toNat, (lenS t.2.1).2.1.toNat), ((spanS t.2.2).1.toNat, (spanS t.2.2).2.2.toNat, (spanS t.2.2).2.1.toNat)]
set_option maxRecDepth 10000 in
theorem Split_c (t : Int × Nat × Nat) (ht : TOK t) (w : World) (hw : St w0 H w) :
    Calls Tryz.prog 16 #[.agg #[.int .u8 t.1, .int .i64 t.2.1, .int .i64 t.2.2]] w fun e w' => ∃ q d, e = .returned (.slice q (splitR t).length d) ∧ St w0 (vec 48 3 (.slice q (splitR t).length d) (splitR t).length (rv (splitR t)) :: H) w' := by
  obtain ⟨x, n, k⟩ := t
  refine enter (vs := [.agg #[.int .u8 x, .int .i64 n, .int .i64 k]]) Tryz.func16 rfl rfl rfl hw ?_
  clear hw w
  rcases ht with ⟨h1, h2, h3, h4⟩ | ⟨h1, h2, h3, h4, h5⟩
  · simp only [] at h1 h2 h3 h4
    subst h3; subst h4
    obtain ⟨x', rfl⟩ : ∃ x' : Nat, x = x' := ⟨x.toNat, by omega⟩
    have e : splitR ((x' : Int), 0, 0) = [(x', 0, 0)] := rfl
    rw [e]
    have e2 : IntKind.i64.wrap (x' : Int) = (x' : Int) := wi64 (by omega)
    repeat (first | (apply gJO; refine JO_v (oCv (V_conv (tb := tb) rfl rfl rfl e2 rfl)) ?_) | (first | (refine sx ?_; try intro _)))
    rename_i b p
    exact JS_ret Tryz.func16 rfl rfl fun w hw => ⟨some p, 1, rfl, St.sub (by repeat (first | exact List.Sublist.refl _ | apply List.Sublist.cons_cons | apply List.Sublist.cons)) hw⟩
  · simp only [] at h1 h2 h3 h4 h5
    obtain ⟨s, nb, r, e1, a1, a2, a3, a4, a5, _⟩ := lenS_bd n (by omega) (by omega)
    obtain ⟨s', nb', r', e2, c1, c3, c4, c5, _⟩ := spanS_bd k (by omega) (by omega)
    obtain ⟨r, rfl⟩ := Int.eq_ofNat_of_zero_le a4
    obtain ⟨r', rfl⟩ := Int.eq_ofNat_of_zero_le c4
    have e : splitR (x, n, k) = [(s, r, nb), (s', r', nb')] := by
      unfold splitR
      simp only []
      rw [if_neg (by omega), e1, e2]
      simp only [Int.toNat_natCast]
    rw [e]
    repeat (first | (refine sx ?_; try intro _))
    refine JO_call Tryz.call50 rfl rfl fun w hw => (TLength_c n w hw).mono ?_
    rintro e w' ⟨rfl, hw'⟩
    rw [e1]; dsimp only
    refine ⟨_, rfl, _, hw', ?_⟩
    clear hw' hw w w'
    repeat (first | (refine sx ?_; try intro _))
    refine JO_call Tryz.call51 rfl rfl fun w hw => (Span_c k w hw).mono ?_
    rintro e w' ⟨rfl, hw'⟩
    rw [e2]; dsimp only
    refine ⟨_, rfl, _, hw', ?_⟩
    clear hw' hw w w'
    repeat (first | (refine sx ?_; try intro _))
    rename_i b p
    exact JS_ret Tryz.func16 rfl rfl fun w hw => ⟨some p, 2, rfl, St.sub (by repeat (first | exact List.Sublist.refl _ | apply List.Sublist.cons_cons | apply List.Sublist.cons)) hw⟩
end
end Go.Proofs.YtbiocgenbgbfpaaGreat

namespace Go.Proofs.YtbiocgenbgbfpaaGreat
open Sx Go Pm
set_option linter.unusedVariables false
set_option linter.unusedSimpArgs false
/-! costs, and what may be asked -/
/-- a cost, one by one -/
def costN (W : List Nat) (g : Nat → Nat) (k : Nat) : Nat := rs k fun i => W.getD i 0 * g i
section
variable {w0 : World} {H : List Asn}
theorem mulu (x b : Nat) : IntKind.u64.wrap ((x : Int) * (b : Int)) = ((x * b % 18446744073709551616 : Nat) : Int) := by
  rw [mu64, ← Int.natCast_mul]; rfl
theorem addu (S y : Nat) : IntKind.u64.wrap (((S % 18446744073709551616 : Nat) : Int) + ((y % 18446744073709551616 : Nat) : Int)) = (((S + y) % 18446744073709551616 : Nat) : Int) := by
  rw [mu64]; omega
set_option maxHeartbeats 1000000 in
theorem SCost_c (p q : Option Addr) (c d n m : Nat) (W : List Nat) (B : List Int) (hr : Rd w0 H (.slice p n c) n (ints .u64 (nats W))) (hn : W.length = n) (hr2 : Rd w0 H (.slice q m d) m (ints .u8 B)) (hm : B.length = m) (hB : OKB B) (hn1 : n ≤ 140737488355328) (hm1 : m ≤ 140737488355328) (w : World) (hw : St w0 H w) :
    Calls Tryz.prog 14 #[.slice p n c, .slice q m d] w fun e w' => e = .returned (.int .u64 (costN W (fun i => (B.getD i 0).toNat) (min n m) % 18446744073709551616 : Nat)) ∧ St w0 H w' := by
  refine enter (vs := [.slice p n c, .slice q m d]) Tryz.func14 rfl rfl rfl hw ?_
  have hmin : min (n : Int) (m : Int) = ((min n m : Nat) : Int) := by omega
  repeat (first | (apply gJO; refine JO_v (oc_min (V_min rfl rfl hmin rfl)) ?_) | (apply gJR; first | (refine sx ?_; try intro _)) | (apply gJO; first | (refine sx ?_; try intro _)) | apply JS_seq | apply JS_region)
  refine JS_block ?_
  refine JS_loop1 (fun (i : Nat) => [(0, .slice p n c), (1, .slice q m d), (5, .int .u64 (costN W (fun i => (B.getD i 0).toNat) i % 18446744073709551616 : Nat)), (11, .int .i64 (min n m : Nat)), (12, .int .i64 i)]) (fun _ => H) (fun i => i ≤ min n m) (fun i => min n m - i) 0 (Nat.zero_le _) (by repeat (first | exact trivial | refine ⟨rfl, ?_⟩ | refine ⟨lookI rfl (by omega), ?_⟩)) (fun _ h => h) ?_
  intro i hi again
  by_cases hlt : i < min n m
  · have g1 := nats_get (W := W) (j := i) (by omega)
    have g2 : (ints .u8 B)[i]? = some (.int .u8 (B.getD i 0)) := ints_get (by omega)
    have hb := hB i
    have hS : costN W (fun i => (B.getD i 0).toNat) (i + 1) = costN W (fun i => (B.getD i 0).toNat) i + W.getD i 0 * (B.getD i 0).toNat := rfl
    generalize costN W (fun i => (B.getD i 0).toNat) i = S at *
    obtain ⟨b, hbb⟩ := Int.eq_ofNat_of_zero_le hb.1
    rw [hbb] at g2 hb hS
    rw [Int.toNat_natCast] at hS
    have c1 : IntKind.u64.wrap (b : Int) = (b : Int) := wu64 (by omega)
    have c2 := mulu (W.getD i 0) b
    have c3 := addu S (W.getD i 0 * b)
    repeat (first | (apply gQO; first | refine QO_v rfl (V_loadC (tb := tb) rfl hr rfl rfl g1 rfl) ?_ | refine QO_v rfl (V_loadC (tb := tb) rfl hr2 rfl rfl g2 rfl) ?_ | refine QO_v rfl (oCv (V_conv (tb := tb) rfl rfl rfl c1 rfl)) ?_ | refine QO_v rfl (V_mul rfl rfl c2 rfl) ?_ | refine QO_v rfl (V_add rfl rfl c3 rfl) ?_) | (first | (refine sx ?_; try intro _)))
    rw [← hS]
    exact JS_again1 again (i + 1) (by omega) (by omega) ⟨rfl, rfl, rfl, rfl, lookI rfl (by omega), trivial⟩ (fun w hw => hw)
  · obtain rfl : i = min n m := by omega
    clear again
    repeat (first | (refine sx ?_; try intro _))
    exact JS_ret Tryz.func14 rfl rfl fun w hw => ⟨rfl, hw⟩
end
end Go.Proofs.YtbiocgenbgbfpaaGreat

namespace Go.Proofs.YtbiocgenbgbfpaaGreat
open Sx Go Pm
set_option linter.unusedVariables false
set_option linter.unusedSimpArgs false
section
variable {w0 : World} {H : List Asn}
theorem lvf_step (W : List Nat) {i : Nat} (h : i < W.length) : lvf 0 (W.take (i + 1)) = lvf 0 (W.take i) ++ (if 0 < W.getD i 0 then [.leaf (W.getD i 0) i] else []) := by
  rw [take_snoc W h, lvf_app, Nat.zero_add, show (W.take i).length = i by rw [List.length_take]; omega, lvf]
  split <;> rfl
/-- may these lengths be? -/
def FitP (W : List Nat) (B : List Int) (L : Int) : Prop :=
  B.length = W.length ∧ (∀ s, s < W.length → B.getD s 0 ≤ L ∧ (0 < B.getD s 0 ↔ 0 < W.getD s 0)) ∧
  ((lvf 0 W).length = 0 ∨ ((lvf 0 W).length = 1 ∧ tkn W (fun s => (B.getD s 0).toNat) = 16384) ∨ (2 ≤ (lvf 0 W).length ∧ tkn W (fun s => (B.getD s 0).toNat) = 32768))
theorem tkn_step (W : List Nat) (g : Nat → Nat) {i : Nat} (h : i < W.length) : tkn (W.take (i + 1)) g = tkn (W.take i) g + (if 0 < W.getD i 0 then 32768 / 2 ^ g i else 0) := by
  unfold tkn
  rw [lvf_step W h, List.map_append, List.sum_append]
  congr 1
  split <;> simp [Pm.sy]
end
end Go.Proofs.YtbiocgenbgbfpaaGreat

namespace Go.Proofs.YtbiocgenbgbfpaaGreat
open Sx Go Go.ChangeShapes Go.WideShapes
set_option linter.unusedVariables false
set_option linter.unusedSimpArgs false
theorem cell_lt {w : World} {a : Addr} {v : Value} (h : w.cell? a = some v) : a.block < w.heap.size := by
  rcases Nat.lt_or_ge a.block w.heap.size with h1 | h1
  · exact h1
  · simp [World.cell?, Array.getElem?_eq_none h1] at h
theorem wf64 {a : Int} (h : (Lit.int .i64 a).wf = true) : -9223372036854775808 ≤ a ∧ a < 9223372036854775808 := by
  simp only [Lit.wf, Bool.and_eq_true, decide_eq_true_eq] at h
  have h1 : IntKind.i64.min = -9223372036854775808 := by decide
  have h2 : IntKind.i64.max = 9223372036854775808 - 1 := by decide
  omega
theorem argRd_mk {w0 : World} {u : Value} {m : Nat} {cs : List Value} (h1 : isSl u m) (h2 : ∀ j v, cs[j]? = some v → ∃ a, cellPtr u j = .pointer (some a) ∧ a.block < w0.heap.size ∧ w0.cell? a = some v) : ArgRd w0 u m cs := by
  unfold ArgRd; exact ⟨h1, h2⟩
def iv : Value → Int
  | .int _ n => n
  | _ => 0
theorem wfu8 {a : Int} (h : (Lit.int .u8 a).wf = true) : 0 ≤ a ∧ a < 256 := by
  simp only [Lit.wf, Bool.and_eq_true, decide_eq_true_eq] at h
  have h1 : IntKind.u8.min = 0 := by decide
  have h2 : IntKind.u8.max = 256 - 1 := by decide
  omega
end Go.Proofs.YtbiocgenbgbfpaaGreat

namespace Go.Proofs.YtbiocgenbgbfpaaGreat
open Sx Go Go.ChangeShapes Go.WideShapes
set_option linter.unusedVariables false
set_option linter.unusedSimpArgs false
theorem cells3 : Tryz.prog.cellsOf 3 = 1 := by kernel_rfl
def OKI (B : List Int) : Prop := ∀ j, -9223372036854775808 ≤ B.getD j 0 ∧ B.getD j 0 < 9223372036854775808
set_option maxRecDepth 100000 in
/-- a slice of numbers that came in -/
theorem open_ints {H : Type} {enc : TypeId × Value → H} {W : World} {base : Nat} {v : Value} {d : DataW H} {p : List MemPlace} (hval : Value.okWide Tryz.prog W .any base 105 v) (h : DataW.Trod enc Tryz.prog W 0 (fun _ => true) true 105 v d p) :
    ∃ (b : Option Addr) (c m : Nat) (B : List Int), v = .slice b m c ∧ ArgRd W (.slice b m c) m (ints .i64 B) ∧ B.length = m ∧ (OKI B ∧ (b = none → m = 0)) ∧ (m = 0 ∨ ∃ E S, d = .slice E S ∧ E.length = m) := by
  obtain ⟨b, m, c, rfl⟩ := okWide_slice Tryz.underlying105 hval
  obtain ⟨fuel, hf⟩ := h
  rcases Go.ChangeShapes.open_ints Tryz.underlying105 Tryz.underlying3 cells3 hf with ⟨hcs, _⟩ | ⟨a, len', cap', zs, hcs, _, hl, hm, hz, hx, hcell, hwz⟩
  · simp [Value.cells] at hcs
    obtain ⟨rfl, rfl, rfl⟩ := hcs
    exact ⟨none, 0, 0, [], rfl, argRd_mk ⟨none, 0, rfl, fun _ => rfl, Nat.le_refl _⟩ (fun j v h => by simp [ints] at h), rfl, ⟨fun j => by simp, fun _ => rfl⟩, .inl rfl⟩
  · simp [Value.cells] at hcs
    obtain ⟨rfl, rfl, rfl⟩ := hcs
    simp only [if_true] at hz
    refine ⟨some a, c, m, zs.take m, rfl, argRd_mk ⟨some a, c, rfl, (fun h => by cases h), hl⟩ (fun j v hv => ?_), by simp; omega, ⟨fun j => ?_, fun h => (by cases h)⟩, .inr ⟨_, _, congrArg Prod.fst hx, by simp [lits]; omega⟩⟩
    · have hj : j < m := by
        have := (List.getElem?_eq_some_iff.1 hv).1
        simp [ints] at this; omega
      have e : (ints .i64 (zs.take m))[j]? = some (.int .i64 (zs.getD j 0)) := by
        have := ints_get (K := .i64) (l := zs.take m) (j := j) (by simp; omega)
        rw [this]
        congr 2
        simp [List.getD_eq_getElem?_getD, List.getElem?_take, hj]
      rw [e] at hv
      obtain rfl := Option.some.inj hv
      exact ⟨a.add j, cellPtr_eq a m c j, by simpa using cell_lt (hcell j (by omega)), hcell j (by omega)⟩
    · rcases Nat.lt_or_ge j m with hj | hj
      · have : (zs.take m).getD j 0 = zs[j]'(by omega) := by simp [List.getD_eq_getElem?_getD, List.getElem?_take, hj, show j < zs.length by omega]
        rw [this]
        exact wf64 (hwz _ (List.getElem_mem _))
      · have : (zs.take m).getD j 0 = 0 := by
          rw [List.getD_eq_getElem?_getD, List.getElem?_eq_none (by simp; omega)]; rfl
        rw [this]; decide
end Go.Proofs.YtbiocgenbgbfpaaGreat

namespace Go.Proofs.YtbiocgenbgbfpaaGreat
open Sx Go Pm
set_option linter.unusedVariables false
set_option linter.unusedSimpArgs false
theorem getD_lt {W : List Nat} {b : Nat} (hb : 0 < b) (h : W.all (fun x => decide (x < b)) = true) (j : Nat) : W.getD j 0 < b := by
  rw [List.getD_eq_getElem?_getD]
  cases e : W[j]? with
  | none => exact hb
  | some x =>
    rw [List.all_eq_true] at h
    exact of_decide_eq_true (h x (List.mem_of_getElem? e))
/-- numbers brought to where all together are not too many -/
def fewW (W : List Nat) : List Nat := (W.take 320).map fun x => x % 1000000
section
variable {w0 : World} {H : List Asn}
theorem V_eqStrU {n : Nat} {D : List Deferred} {ov : Ov} {d : Option Nat} {T T1 T2 : Nat} {pos : String} {af : Array Edge} {g : Option (Nat × Bool)} {x y : Operand} {s : ByteArray}
    (hx : ev ov x = some (.string s)) (hy : ev ov y = some (.string s)) (hd : dOk d n = true) : OpV Tryz.prog n D w0 ov H ⟨d, .binOp .eql T1 x y T2, T, pos, af, g⟩ (.bool true) := by
  unfold OpV
  exact ⟨hd, fun a w ha _ => by simp [execOp, ha.ev hx, ha.ev hy, eqGuard, binOp, Op.stringOp]⟩
theorem exb1 : AskOK [5, 1, 1, 0] 15 ∧ tab 4 (fun s => ((LL [5, 1, 1, 0] 15 s : Nat) : Int)) = [1, 2, 2, 0] := ⟨⟨by decide, by decide, by decide, by decide, by decide +kernel⟩, by decide +kernel⟩
theorem exb2 : AskOK [8, 4, 2, 1] 2 ∧ tab 4 (fun s => ((LL [8, 4, 2, 1] 2 s : Nat) : Int)) = [2, 2, 2, 2] := ⟨⟨by decide, by decide, by decide, by decide, by decide +kernel⟩, by decide +kernel⟩
theorem exb3 : AskOK [3] 1 ∧ tab 1 (fun s => ((LL [3] 1 s : Nat) : Int)) = [1] := ⟨⟨by decide, by decide, by decide, by decide, by decide +kernel⟩, by decide +kernel⟩
theorem exb4 : costN [5, 1, 1] (fun i => (([1, 2, 2] : List Int).getD i 0).toNat) (min 3 3) % 18446744073709551616 = 9 := by decide +kernel
/-- lengths where they are known -/
theorem Lengths_at (p : Option Addr) (c n : Nat) (W : List Nat) (hr : Rd w0 H (.slice p n c) n (ints .u64 (nats W))) (hn : W.length = n) (hn1 : n ≤ 140737488355328) (hW : ∀ j, W.getD j 0 < 18446744073709551616) (L : Int) (B : List Int) (hA : AskOK W L ∧ tab n (fun s => ((LL W L.toNat s : Nat) : Int)) = B) (w : World) (hw : St w0 H w) :
    Calls Tryz.prog 13 #[.slice p n c, .int .i64 L] w fun e w' => ∃ (q : Option Addr) (d : Nat), e = .returned (.tuple #[.slice q n d, .int .i64 0]) ∧ St w0 (vec 5 1 (.slice q n d) n (ints .u8 B) :: H) w' := by
  refine (Lengths_c p c n W hr hn hn1 hW L w hw).mono ?_
  rintro e w' (⟨h, _⟩ | ⟨_, q, d, h1, h2⟩)
  · exact absurd hA.1 h
  · rw [hA.2] at h2
    exact ⟨q, d, h1, h2⟩
set_option maxRecDepth 10000 in
set_option maxHeartbeats 2000000 in
theorem alive29_c (w : World) (hw : St w0 H w) : Calls Tryz.prog 4 #[] w fun e w' => e = .returned (.bool true) ∧ St w0 H w' := by
  refine enter (vs := []) Tryz.func4 rfl rfl rfl hw ?_
  repeat (first | (refine sx ?_; try intro _))
  rename_i p1
  refine JO_call Tryz.call13 rfl rfl fun w hw => (Lengths_at (some p1) 4 4 [5, 1, 1, 0] (vec_rd (by repeat (first | apply List.Mem.head | apply List.Mem.tail))) rfl (by omega) (getD_lt (by omega) (by decide)) 15 _ exb1 w hw).mono ?_
  rintro e w' ⟨q1, d1, rfl, hw'⟩
  refine ⟨_, rfl, _, hw', ?_⟩
  clear hw' hw w w'
  repeat (first | (refine sx ?_; try intro _))
  rename_i p2
  refine JO_call Tryz.call13 rfl rfl fun w hw => (Lengths_at (some p2) 4 4 [8, 4, 2, 1] (vec_rd (by repeat (first | apply List.Mem.head | apply List.Mem.tail))) rfl (by omega) (getD_lt (by omega) (by decide)) 2 _ exb2 w hw).mono ?_
  rintro e w' ⟨q2, d2, rfl, hw'⟩
  refine ⟨_, rfl, _, hw', ?_⟩
  clear hw' hw w w'
  repeat (first | (refine sx ?_; try intro _))
  rename_i p3
  refine JO_call Tryz.call13 rfl rfl fun w hw => (Lengths_at (some p3) 1 1 [3] (vec_rd (by repeat (first | apply List.Mem.head | apply List.Mem.tail))) rfl (by omega) (getD_lt (by omega) (by decide)) 1 _ exb3 w hw).mono ?_
  rintro e w' ⟨q3, d3, rfl, hw'⟩
  refine ⟨_, rfl, _, hw', ?_⟩
  clear hw' hw w w'
  repeat (first | (apply gJO; first | refine JO_v (V_eqStrU (s := bstr [1, 2, 2, 0]) rfl rfl rfl) ?_ | refine JO_v (V_eqStrU (s := bstr [2, 2, 2, 2]) rfl rfl rfl) ?_ | refine JO_v (V_eqStrU (s := bstr [1]) rfl rfl rfl) ?_) | (first | (refine sx ?_; try intro _)))
  rename_i p4 p5
  refine JO_call Tryz.call14 rfl rfl fun w hw => (SCost_c (some p4) (some p5) 3 3 3 3 [5, 1, 1] [1, 2, 2] (vec_rd (by repeat (first | apply List.Mem.head | apply List.Mem.tail))) rfl (vec_rd (by repeat (first | apply List.Mem.head | apply List.Mem.tail))) rfl (by intro j; match j with | 0 | 1 | 2 => decide | j + 3 => simp) (by omega) (by omega) w hw).mono ?_
  rw [exb4]
  rintro e w' ⟨rfl, hw'⟩
  refine ⟨_, rfl, _, hw', ?_⟩
  clear hw' hw w w'
  repeat (first | (refine sx ?_; try intro _))
  exact JS_ret Tryz.func4 rfl rfl fun w hw => ⟨rfl, St.sub (by repeat (first | exact List.Sublist.refl _ | apply List.Sublist.cons_cons | apply List.Sublist.cons)) hw⟩
end
end Go.Proofs.YtbiocgenbgbfpaaGreat

namespace Go.Proofs.YtbiocgenbgbfpaaGreat
open Sx Go Go.ChangeShapes Go.WideShapes
set_option linter.unusedVariables false
set_option linter.unusedSimpArgs false
attribute [local irreducible] syA
def OKU (B : List Int) : Prop := ∀ j, 0 ≤ B.getD j 0 ∧ B.getD j 0 < 18446744073709551616
/-! the lengths are a set's -/
section
variable {W : List Nat} {L : Nat}
theorem lensTab (f : Nat → Nat) (n : Nat) (j : Nat) : (tab n fun s => ((f s : Nat) : Int)).getD j 0 = if j < n then ((f j : Nat) : Int) else 0 := by
  split
  · rename_i h; exact tab_get h
  · rename_i h; exact tab_out (by omega)
theorem tk_tab (g : Nat → Nat) (hg : ∀ s, s < W.length → g s ≤ 15 ∧ (0 < g s ↔ 0 < W.getD s 0)) : ∀ i, i ≤ W.length → tk (tab i fun s => ((g s : Nat) : Int)) = ((Pm.tkn (W.take i) g : Nat) : Int)
  | 0, _ => rfl
  | i + 1, h => by
    have ih := tk_tab g hg i (by omega)
    obtain ⟨h1, h2⟩ := hg i (by omega)
    rw [tab_succ, tk_app, ih, tkn_step W g (by omega)]
    have e : tk [((g i : Nat) : Int)] = if 0 < g i then 2 ^ (15 - g i) else 0 := by
      simp only [tk, Int.add_zero, Int.toNat_natCast]
      by_cases h0 : 0 < g i
      · rw [if_pos (by omega), if_pos h0]
      · rw [if_neg (by omega), if_neg h0]
    rw [e]
    by_cases h0 : 0 < g i
    · rw [if_pos h0, if_pos (h2.1 h0)]
      have : 32768 / 2 ^ g i = 2 ^ (15 - g i) := by
        have := Pm.pw15 (L := 15) (by omega) h1
        rw [this]; simp
      rw [this]; simp
    · rw [if_neg h0, if_neg (fun h => h0 (h2.2 h))]; rfl
theorem sm_app (A B : List Int) : sm (A ++ B) = sm A + sm B := by unfold sm; rw [List.countP_append]
theorem sm_tab (g : Nat → Nat) (hg : ∀ s, s < W.length → (0 < g s ↔ 0 < W.getD s 0)) : ∀ i, i ≤ W.length → sm (tab i fun s => ((g s : Nat) : Int)) = (Pm.lvf 0 (W.take i)).length
  | 0, _ => rfl
  | i + 1, h => by
    have ih := sm_tab g hg i (by omega)
    have h2 := hg i (by omega)
    rw [tab_succ, sm_app, ih, lvf_step W (by omega), List.length_append]
    congr 1
    unfold sm
    by_cases h0 : 0 < g i
    · rw [if_pos (h2.1 h0)]; simp [h0]
    · rw [if_neg (fun h => h0 (h2.2 h))]
      have : g i = 0 := by omega
      simp [this]
theorem cn_tab (k : Nat) : ∀ i, cn (tab i fun s => (((if k = s then 1 else 0 : Nat) : Nat) : Int)) 1 = if k < i then 1 else 0
  | 0 => by simp [cn, tab]
  | i + 1 => by
    rw [tab_succ, cn_app, cn_tab k i]
    by_cases h : k = i
    · subst h; simp
    · rcases Nat.lt_or_ge k i with h' | h'
      · rw [if_pos h', if_neg (by simp [h]), if_pos (by omega)]; rfl
      · rw [if_neg (by omega), if_neg (by simp [h]), if_neg (by omega)]; rfl
theorem LL_set (hA : AskOK W L) : OKB (tab W.length fun s => ((Pm.LL W L s : Nat) : Int)) ∧ OKL (tab W.length fun s => ((Pm.LL W L s : Nat) : Int)) ∧ ∀ s, s < W.length → Pm.LL W L s ≤ L ∧ (0 < Pm.LL W L s ↔ 0 < W.getD s 0) := by
  obtain ⟨a1, a2, a3, a4, a5⟩ := hA
  rw [Int.toNat_natCast] at a5
  have hb : ∀ s, s < W.length → Pm.LL W L s ≤ L ∧ (0 < Pm.LL W L s ↔ 0 < W.getD s 0) := fun s hs => Pm.LL_bd (by omega) a5 hs
  have h15 : ∀ j, 0 ≤ (tab W.length fun s => ((Pm.LL W L s : Nat) : Int)).getD j 0 ∧ (tab W.length fun s => ((Pm.LL W L s : Nat) : Int)).getD j 0 ≤ 15 := fun j => by
    rw [lensTab]
    split
    · rename_i h; have := (hb j h).1; omega
    · omega
  refine ⟨fun j => by have := h15 j; omega, ⟨by rw [tab_len]; exact a1, fun j => (h15 j).2, ?_⟩, hb⟩
  have ht := tk_tab (W := W) (Pm.LL W L) (fun s hs => ⟨by have := (hb s hs).1; omega, (hb s hs).2⟩) W.length (Nat.le_refl _)
  have hs := sm_tab (W := W) (Pm.LL W L) (fun s hs => (hb s hs).2) W.length (Nat.le_refl _)
  rw [List.take_length] at ht hs
  rw [← Pm.oneW_len W] at hs
  obtain ⟨t1, t2⟩ := Pm.LL_tkn (W := W) (L := L) (by omega) (by omega) a5
  unfold FINE
  rcases Nat.lt_or_ge (Pm.oneW W).length 2 with h | h
  · rcases Nat.eq_zero_or_pos (Pm.oneW W).length with h0 | h0
    · exact .inr (.inl (by omega))
    · have h1 : (Pm.oneW W).length = 1 := by omega
      obtain ⟨k, k1, k2, k3⟩ := Pm.one_leaf h1
      refine .inr (.inr ⟨by omega, ?_⟩)
      have e : (tab W.length fun s => ((Pm.LL W L s : Nat) : Int)) = tab W.length fun s => (((if k = s then 1 else 0 : Nat) : Nat) : Int) := tab_congr fun s _ => by rw [Pm.LL_one s h1, Pm.sc_leaf k2]
      rw [e, cn_tab, if_pos k1]
  · exact .inl (by rw [ht, t2 h]; rfl)
end
end Go.Proofs.YtbiocgenbgbfpaaGreat

namespace Go.Proofs.YtbiocgenbgbfpaaGreat
open Sx Go
set_option linter.unusedVariables false
set_option linter.unusedSimpArgs false
attribute [local irreducible] syA fc tk cds
/-! what a described block's bits are -/
/-- a symbol's code by lengths -/
def cw (B : List Int) (k : Nat) : List Int := bms (cd B k) (B.getD k 0).toNat
theorem cw_01 (B : List Int) (k j : Nat) : (cw B k).getD j 0 = 0 ∨ (cw B k).getD j 0 = 1 := bms_01 _ _ j
theorem cw_len (B : List Int) (k : Nat) : (cw B k).length = (B.getD k 0).toNat := bms_ln _ _
def cnt (R : List Sq.Run) (s : Nat) : Nat := R.countP fun r => r.1 == s
theorem cnt_app (A B : List Sq.Run) (s : Nat) : cnt (A ++ B) s = cnt A s + cnt B s := by unfold cnt; rw [List.countP_append]
theorem cnt_le (R : List Sq.Run) (s : Nat) : cnt R s ≤ R.length := List.countP_le_length
/-- how often each symbol of the lengths comes -/
def w19 (R : List Sq.Run) : List Nat := (List.range 19).map fun s => if s = 18 then max (cnt R 18) 1 else cnt R s
theorem w19_len (R : List Sq.Run) : (w19 R).length = 19 := by simp [w19]
theorem w19_get (R : List Sq.Run) {s : Nat} (h : s < 19) : (w19 R).getD s 0 = if s = 18 then max (cnt R 18) 1 else cnt R s := by
  unfold w19
  rw [List.getD_eq_getElem?_getD, List.getElem?_map, List.getElem?_range h]; rfl
theorem nats_map (n : Nat) (f : Nat → Nat) : nats ((List.range n).map f) = tab n fun s => ((f s : Nat) : Int) := by
  unfold nats tab
  rw [List.map_map]; rfl
/-- the lengths of the lengths' symbols -/
def c19 (R : List Sq.Run) : List Int := tab 19 fun s => ((Pm.LL (w19 R) 7 s : Nat) : Int)
theorem sum_map_le (f : Nat → Nat) (c : Nat) (hf : ∀ s, f s ≤ c) : ∀ n, ((List.range n).map f).sum ≤ n * c
  | 0 => by simp
  | n + 1 => by
    have := sum_map_le f c hf n
    have := hf n
    rw [List.range_succ, List.map_append, List.sum_append, Nat.add_mul]
    simp; omega
theorem ask19 (R : List Sq.Run) (hR : R.length ≤ 1000) : AskOK (w19 R) (7 : Nat) := by
  refine ⟨by rw [w19_len]; omega, by omega, by omega, ?_, ?_⟩
  · have := sum_map_le (fun s => if s = 18 then max (cnt R 18) 1 else cnt R s) 1001 (fun s => by
      have h1 := cnt_le R s
      have h2 := cnt_le R 18
      show (if s = 18 then max (cnt R 18) 1 else cnt R s) ≤ 1001
      split <;> omega) 19
    exact Nat.le_trans this (by omega)
  · rw [Pm.oneW_len]
    have := Pm.lvf_len_le (w19 R) 0
    rw [w19_len] at this
    exact Nat.le_trans this (by decide)
theorem w19_lt (R : List Sq.Run) (hR : R.length ≤ 1000) (j : Nat) : (w19 R).getD j 0 < 18446744073709551616 := by
  rcases Nat.lt_or_ge j 19 with h | h
  · rw [w19_get R h]
    have h1 := cnt_le R j
    have h2 := cnt_le R 18
    split <;> omega
  · rw [List.getD_eq_getElem?_getD, List.getElem?_eq_none (by rw [w19_len]; exact h)]; decide
/-- each symbol that comes has a code -/
theorem c19_has (R : List Sq.Run) (hR : R.length ≤ 1000) (r : Sq.Run) (hr : r ∈ R) (h18 : r.1 ≤ 18) : HAS (c19 R) r.1 ((c19 R).getD r.1 0).toNat ∧ ((c19 R).getD r.1 0).toNat ≤ 7 := by
  have hA := ask19 R hR
  obtain ⟨b1, b2, b3⟩ := LL_set hA
  rw [w19_len] at b1 b2 b3
  have hp : 0 < (w19 R).getD r.1 0 := by
    rw [w19_get R (by omega)]
    have : 0 < cnt R r.1 := List.countP_pos_iff.2 ⟨r, hr, by simp⟩
    split <;> omega
  have := b3 r.1 (by omega)
  have hg : (c19 R).getD r.1 0 = ((Pm.LL (w19 R) 7 r.1 : Nat) : Int) := tab_get (by omega)
  unfold HAS
  rw [Int.toNat_natCast, hg, Int.toNat_natCast]
  have hl : (c19 R).length = 19 := tab_len _ _
  refine ⟨⟨by omega, by omega, this.2.2 hp, rfl⟩, this.1⟩
def ordN : List Nat := [16, 17, 18, 0, 8, 7, 9, 6, 10, 5, 11, 4, 12, 3, 13, 2, 14, 1, 15]
/-- how many of the lengths' lengths are told -/
def mny (C : List Int) : Nat → Nat
  | 0 => 0
  | m + 1 => if 4 < m + 1 ∧ C.getD (ordN.getD m 0) 0 = 0 then mny C m else m + 1
theorem mny_le (C : List Int) : ∀ m, mny C m ≤ m
  | 0 => Nat.le_refl _
  | m + 1 => by
    rw [mny]
    split
    · have := mny_le C m; omega
    · omega
theorem mny_ge (C : List Int) : ∀ m, 4 ≤ m → 4 ≤ mny C m
  | 0, h => absurd h (by omega)
  | m + 1, h => by
    rw [mny]
    split
    · exact mny_ge C m (by omega)
    · exact h
def rbits (C : List Int) (r : Sq.Run) : List Int := cw C r.1 ++ grp r.2.1 r.2.2
/-- the bits of both sets' lengths -/
def descB (X Y : List Nat) : List Int :=
  grp ((X.length - 257 : Nat) : Int) 5 ++ grp ((Y.length - 1 : Nat) : Int) 5 ++ grp ((mny (c19 (Sq.runs (X ++ Y))) 19 - 4 : Nat) : Int) 4 ++
    (ordN.take (mny (c19 (Sq.runs (X ++ Y))) 19)).flatMap (fun k => grp ((c19 (Sq.runs (X ++ Y))).getD k 0) 3) ++ (Sq.runs (X ++ Y)).flatMap (rbits (c19 (Sq.runs (X ++ Y))))
theorem flat_01 {α : Type} (f : α → List Int) (hf : ∀ x j, (f x).getD j 0 = 0 ∨ (f x).getD j 0 = 1) : ∀ (l : List α) (j : Nat), (l.flatMap f).getD j 0 = 0 ∨ (l.flatMap f).getD j 0 = 1
  | [], j => .inl (by simp)
  | t :: l, j => by rw [List.flatMap_cons]; exact app_01 (hf t) (flat_01 f hf l) j
theorem flatb_len {α : Type} (f : α → List Int) (c : Nat) : ∀ (l : List α), (∀ x ∈ l, (f x).length ≤ c) → (l.flatMap f).length ≤ l.length * c
  | [], _ => by simp
  | t :: l, h => by
    have h1 := flatb_len f c l fun x hx => h x (by simp [hx])
    have h2 := h t (by simp)
    rw [List.flatMap_cons, List.length_append, List.length_cons, Nat.add_mul]
    omega
theorem flat_take {α : Type} (f : α → List Int) {l : List α} {i : Nat} (h : i < l.length) : (l.take (i + 1)).flatMap f = (l.take i).flatMap f ++ f (l[i]'h) := by
  rw [List.take_add_one, List.getElem?_eq_getElem h, List.flatMap_append]; simp
theorem rbits_01 (C : List Int) (r : Sq.Run) : ∀ j, (rbits C r).getD j 0 = 0 ∨ (rbits C r).getD j 0 = 1 := app_01 (cw_01 C r.1) (grp_01 _ _)
theorem rv_at {l : List Sq.Run} {i : Nat} (h : i < l.length) : ((rv l).drop (i * 3)).take 3 = [.int .i64 (l[i]'h).1, .int .i64 (l[i]'h).2.1, .int .i64 (l[i]'h).2.2] := by
  have e : l = l.take i ++ l[i] :: l.drop (i + 1) := by rw [List.getElem_cons_drop, List.take_append_drop]
  have e2 : rv l = rv (l.take i) ++ ([.int .i64 (l[i]'h).1, .int .i64 (l[i]'h).2.1, .int .i64 (l[i]'h).2.2] ++ rv (l.drop (i + 1))) := by
    conv => lhs; rw [e]
    unfold rv
    rw [List.flatMap_append, List.flatMap_cons]
  rw [e2, List.drop_append_of_le_length (by rw [rv_len, List.length_take]; omega), List.drop_of_length_le (by rw [rv_len, List.length_take]; omega)]
  rfl
section
variable {w0 : World} {H : List Asn}
set_option maxHeartbeats 2000000 in
/-- a symbol that has a code is written, by a writer that is the first field of a greater block -/
theorem WriteT_c {z : Value} {tl : List Value} (b b2 : Nat) (B L : List Int) (q : Option Addr) (d : Nat) (hs : IsSet w0 H b B) (k n : Nat) (hH : HAS B k n) (hL : ∀ j, L.getD j 0 = 0 ∨ L.getD j 0 = 1) (hl : L.length ≤ 70368744177600) (w : World) (hw : St w0 (wtA b2 L q d (z :: tl) :: wrV L q d :: H) w) :
    Calls Tryz.prog 22 #[.pointer (some ⟨b, 0, none⟩), .pointer (some ⟨b2, 0, none⟩), .int .i64 k] w fun e w' => e = .returned (.int .i64 0) ∧ ∃ q d, St w0 (wtA b2 (L ++ cw B k) q d (z :: tl) :: wrV (L ++ cw B k) q d :: H) w' := by
  obtain ⟨h1, h2, h3, h4⟩ := hH
  rw [Int.toNat_natCast] at h4
  have hB := hs.hB
  have hkl := hs.hl
  have h15 := hkl.2.1 k
  have h320 := hkl.1
  refine enter (vs := [.pointer (some ⟨b, 0, none⟩), .pointer (some ⟨b2, 0, none⟩), .int .i64 k]) Tryz.func22 rfl rfl rfl hw ?_
  repeat (first | (refine sx ?_; try intro _))
  refine JO_call Tryz.call59 rfl rfl fun w hw => (Length2_c b B (hs.sub (by repeat (first | exact List.Sublist.refl _ | apply List.Sublist.cons))) k (by omega) w hw).mono ?_
  rintro e w' ⟨r, rfl, hw', h⟩
  obtain rfl : r = (n : Int) := by
    rcases h with ⟨h, _⟩ | ⟨_, _, h⟩
    · omega
    · rw [h, Int.toNat_natCast, h4]
  refine ⟨_, rfl, _, hw', ?_⟩
  clear hw' hw w w'
  have hcl := cds_len B 16 0
  have hcg := cds_get B hkl.2.1 k (by omega)
  rw [if_pos (by omega)] at hcg
  have gc : (ints .u32 (cds B 16 0))[k]? = some (.int .u32 (cd B k)) := by rw [← hcg]; exact ints_get (by omega)
  have hcd := cd_lt B hB hkl k n (by omega) (by omega) h4
  have hcb := cd_bd B k
  have hcw : cw B k = bms (cd B k) n := by unfold cw; rw [h4, Int.toNat_natCast]
  repeat (first | (refine sx ?_; try intro _))
  refine JO_call Tryz.call61 rfl rfl fun w hw => (Codes2_c b B.length B rfl (hs.sub (by repeat (first | exact List.Sublist.refl _ | apply List.Sublist.cons))) w hw).mono ?_
  rintro e w' ⟨p1, c1, rfl, hw'⟩
  refine ⟨_, rfl, _, hw', ?_⟩
  clear hw' hw w w'
  repeat (first | (apply gJO; refine JO_v (V_loadC (tb := tb) rfl (vec_rd (List.Mem.head _)) rfl rfl gc rfl) ?_) | (first | (refine sx ?_; try intro _)))
  refine JO_call Tryz.call60 rfl rfl fun w hw => (WCodeT_c b2 L q d (cd B k) n (by omega) hcd hcb.2 hL hl w (hw.perm ((List.Perm.swap _ _ _).trans (List.Perm.cons _ (List.Perm.swap _ _ _))))).mono ?_
  rintro e w' ⟨rfl, q2, d2, hw'⟩
  rw [← hcw] at hw'
  refine ⟨_, rfl, _, hw', ?_⟩
  clear hw' hw w w'
  repeat (first | (refine sx ?_; try intro _))
  refine JS_ret Tryz.func22 rfl rfl ?_
  intro w hw
  exact ⟨rfl, q2, d2, St.sub (by repeat (first | exact List.Sublist.refl _ | apply List.Sublist.cons_cons | apply List.Sublist.cons)) hw⟩
end
end Go.Proofs.YtbiocgenbgbfpaaGreat

namespace Go.Proofs.YtbiocgenbgbfpaaGreat
open Sx Go
set_option linter.unusedVariables false
set_option linter.unusedSimpArgs false
attribute [local irreducible] syA fc tk cds grp cw pack c19 rv
theorem ordV_eq : ordV = ordN.map fun k => Value.int .i64 ((k : Nat) : Int) := rfl
theorem ordV_get {k : Nat} (h : k < 19) : ordV[k]? = some (.int .i64 ((ordN.getD k 0 : Nat) : Int)) := by
  have hl : k < ordN.length := h
  rw [ordV_eq, List.getElem?_map, List.getD_eq_getElem?_getD, List.getElem?_eq_getElem hl]; rfl
theorem ordN_lt : ∀ k : Fin 19, ordN.getD k.val 0 < 19 := by decide +kernel
section
variable {w0 : World} {H : List Asn}
theorem rd2 {a b : Asn} {G : List Asn} {u : Value} {m : Nat} {cs : List Value} (h : Rd w0 G u m cs) : Rd w0 (a :: b :: G) u m cs := Rd_weak h fun w hw => hw.drop.drop
set_option maxRecDepth 10000 in
set_option maxHeartbeats 8000000 in
/-- the lengths of both sets are described -/
theorem Describe_c {z : Value} {tl : List Value} (b : Nat) (L : List Int) (q : Option Addr) (d : Nat) (px py : Option Addr) (cx cy mx my : Nat) (X Y : List Nat) (hrx : Rd w0 H (.slice px mx cx) mx (ints .u8 (nats X))) (hry : Rd w0 H (.slice py my cy) my (ints .u8 (nats Y))) (hx : X.length = mx) (hy : Y.length = my)
    (hxb : 257 ≤ mx ∧ mx ≤ 286) (hyb : 1 ≤ my ∧ my ≤ 30) (hX : ∀ j, X.getD j 0 < 16) (hY : ∀ j, Y.getD j 0 < 16) (hL : ∀ j, L.getD j 0 = 0 ∨ L.getD j 0 = 1) (hl : L.length ≤ 1000000) (w : World) (hw : St w0 (wtA b L q d (z :: tl) :: wrV L q d :: H) w) :
    Calls Tryz.prog 21 #[.pointer (some ⟨b, 0, none⟩), .slice px mx cx, .slice py my cy] w fun e w' => e = .returned (.tuple #[]) ∧ ∃ q d, St w0 (wtA b (L ++ descB X Y) q d (z :: tl) :: wrV (L ++ descB X Y) q d :: H) w' := by
  have hXY : ∀ j, (X ++ Y).getD j 0 < 16 := fun j => by
    rw [List.getD_eq_getElem?_getD]
    rcases Nat.lt_or_ge j X.length with h | h
    · rw [List.getElem?_append_left h, ← List.getD_eq_getElem?_getD]; exact hX j
    · rw [List.getElem?_append_right h, ← List.getD_eq_getElem?_getD]; exact hY _
  have hmem : ∀ x ∈ X ++ Y, x < 16 := fun x hx => by
    obtain ⟨j, hj, rfl⟩ := List.mem_iff_getElem.1 hx
    have := hXY j
    rwa [List.getD_eq_getElem?_getD, List.getElem?_eq_getElem hj] at this
  have hXYl : (X ++ Y).length = mx + my := by rw [List.length_append]; omega
  have hrl := Sq.runs_len (X ++ Y) hmem
  have hrx1 := (Sq.runs_ex (X ++ Y).length (X ++ Y) [] (Nat.le_refl _) hmem).2.bd
  have hdesc : descB X Y = descB X Y := rfl
  conv at hdesc => rhs; unfold descB
  refine enter (vs := [.pointer (some ⟨b, 0, none⟩), .slice px mx cx, .slice py my cy]) Tryz.func21 rfl rfl rfl hw ?_
  clear hw w
  repeat (first | (apply gJR; first | (refine sx ?_; try intro _)) | (apply gJO; first | (refine sx ?_; try intro _)) | apply JS_seq | apply JS_region)
  rename_i p0
  refine JO_app (tb := tb) rfl rfl rfl rfl rfl rfl (by repeat (first | exact Sel.here _ _ | apply Sel.there)) (Rd_weak hrx fun w hw => St.sub (by exact ((List.Sublist.refl _).cons _).cons _ |>.cons _) hw) (by rw [ints_len, nats_len]; omega) ints_one (by omega) rfl ?_
  intro p1 c1
  repeat (first | (refine sx ?_; try intro _))
  refine JO_app (tb := tb) rfl rfl rfl rfl rfl rfl (by repeat (first | exact Sel.here _ _ | apply Sel.there)) (Rd_weak hry fun w hw => St.sub (by exact ((List.Sublist.refl _).cons _).cons _ |>.cons _) hw) (by rw [ints_len, nats_len]; omega) ints_one (by omega) rfl ?_
  intro p2 c2
  have hall : [] ++ ints .u8 (nats X) ++ ints .u8 (nats Y) = ints .u8 (nats (X ++ Y)) := by
    rw [List.nil_append, ints_app]; unfold nats; rw [List.map_append]
  rw [show rep 0 [Value.int IntKind.u8 0] ++ ints .u8 (nats X) ++ ints .u8 (nats Y) = ints .u8 (nats (X ++ Y)) from hall, show 0 + mx + my = mx + my by omega]
  clear hall hmem
  repeat (first | (refine sx ?_; try intro _))
  refine JO_call Tryz.call57 rfl rfl fun w hw => (Runs_c p2 c2 (mx + my) (X ++ Y) (vec_rd (List.Mem.head _)) hXYl hXY (by omega) w hw).mono ?_
  rintro e w' ⟨qr, dr, rfl, hw'⟩
  obtain ⟨R, hR⟩ : ∃ R, Sq.runs (X ++ Y) = R := ⟨_, rfl⟩
  rw [hR] at hdesc hrl hrx1 hw' ⊢
  have hRl : R.length ≤ 1000 := by omega
  refine ⟨_, rfl, _, hw', ?_⟩
  clear hw' hw w w'
  repeat (first | (apply gJR; first | (refine sx ?_; try intro _)) | (apply gJO; first | (refine sx ?_; try intro _)) | apply JS_seq | apply JS_region)
  rename_i po
  rw [show (19 : Int).toNat = 19 from rfl, ints_rep, tab_const]
  refine JS_block ?_
  refine JS_loop1 (fun (i : Nat) => [(0, .pointer (some ⟨b, 0, none⟩)), (1, .slice px mx cx), (2, .slice py my cy), (6, .slice qr R.length dr), (7, .slice (some po) 19 19), (26, .slice qr R.length dr), (27, .int .i64 R.length), (28, .int .i64 i)])
    (fun i => vec 38 1 (.slice (some po) 19 19) 19 (ints .u64 (tab 19 fun s => ((cnt (R.take i) s : Nat) : Int))) :: vec 48 3 (.slice qr R.length dr) R.length (rv R) :: vec 5 1 (.slice p2 (mx + my) c2) (mx + my) (ints .u8 (nats (X ++ Y))) :: wtA b L q d (z :: tl) :: wrV L q d :: H)
    (fun i => i ≤ R.length) (fun i => R.length - i) 0 (Nat.zero_le _) (by repeat (first | exact trivial | refine ⟨rfl, ?_⟩ | refine ⟨lookI rfl (by omega), ?_⟩)) (fun w hw => hw) ?_
  intro i hi again
  by_cases hil : i < R.length
  · have hat := rv_at hil
    have hbd := hrx1 _ (List.getElem_mem hil)
    have hcs : ∀ j, cnt (R.take (i + 1)) j = cnt (R.take i) j + if R[i].1 = j then 1 else 0 := fun j => by
      rw [List.take_add_one, List.getElem?_eq_getElem hil, cnt_app]
      congr 1
      show List.countP _ [R[i]] = _
      rw [List.countP_singleton]
      simp only [beq_iff_eq]
    have hcl := fun j => cnt_le (R.take i) j
    have hti : (R.take i).length = i := by rw [List.length_take]; omega
    obtain ⟨r, hr⟩ : ∃ r, R[i] = r := ⟨_, rfl⟩
    rw [hr] at hat hbd
    simp only [hr] at hcs
    obtain ⟨rs, rr, rb⟩ := r
    have hb1 : rs ≤ 18 := hbd.1
    simp only [] at hat hcs
    have hlt := tab_len 19 fun s => ((cnt (R.take i) s : Nat) : Int)
    have go : (ints .u64 (tab 19 fun s => ((cnt (R.take i) s : Nat) : Int)))[rs]? = some (.int .u64 ((cnt (R.take i) rs : Nat) : Int)) := by rw [ints_get (by omega), tab_get (by omega)]
    have hc := hcl rs
    repeat (first | (apply gJO; first | refine JO_v (oL (V_loadCA (tb := tb) rfl (vec_rd (by repeat (first | apply List.Mem.head | apply List.Mem.tail))) rfl rfl rfl (by decide) hat rfl)) ?_ | refine JO_v (V_loadC (tb := tb) rfl (vec_rd (e := 38) (by repeat (first | apply List.Mem.head | apply List.Mem.tail))) rfl rfl go rfl) ?_) | (first | (refine sx ?_; try intro _)))
    refine JS_again1 again (i + 1) (by omega) (by omega) (by repeat (first | exact trivial | refine ⟨rfl, ?_⟩ | refine ⟨lookI rfl (by omega), ?_⟩)) (fun w hw => ?_)
    rw [tab_set] at hw
    rw [tab_congr (g := fun j => if j = rs then ((cnt (R.take i) rs : Nat) : Int) + 1 else ((cnt (R.take i) j : Nat) : Int)) fun j _ => ?_]
    · exact St.sub (by repeat (first | exact List.Sublist.refl _ | apply List.Sublist.cons_cons | apply List.Sublist.cons)) hw
    · rw [hcs j]
      by_cases e : j = rs
      · subst e; rw [if_pos rfl, if_pos rfl]; rfl
      · rw [if_neg e, if_neg (Ne.symm e)]; rfl
  obtain rfl : i = R.length := by omega
  clear again
  rw [List.take_length]
  have hlt := tab_len 19 fun s => ((cnt R s : Nat) : Int)
  have g18 : (ints .u64 (tab 19 fun s => ((cnt R s : Nat) : Int)))[18]? = some (.int .u64 ((cnt R 18 : Nat) : Int)) := by rw [ints_get (by omega), tab_get (by omega)]
  have hmax : max ((cnt R 18 : Nat) : Int) 1 = ((max (cnt R 18) 1 : Nat) : Int) := by omega
  have h18 := cnt_le R 18
  repeat ((fail_if_success refine gIdR 8 ?_); first | (apply gJO; first | refine JO_v (V_loadC (tb := tb) rfl (vec_rd (e := 38) (by repeat (first | apply List.Mem.head | apply List.Mem.tail))) rfl rfl g18 rfl) ?_ | refine JO_v (oc_max (V_max rfl rfl hmax rfl)) ?_) | (first | (refine sx ?_; try intro _)))
  have hw19 : (tab 19 fun s => ((cnt R s : Nat) : Int)).set 18 ((max (cnt R 18) 1 : Nat) : Int) = nats (w19 R) := by
    rw [tab_set]
    unfold w19
    rw [nats_map]
    refine tab_congr fun j _ => ?_
    by_cases e : j = 18
    · rw [if_pos e, if_pos e]
    · rw [if_neg e, if_neg e]
  rw [hw19]
  clear hw19 hlt g18 hmax h18
  have hA := ask19 R hRl
  obtain ⟨b1, b2, _⟩ := LL_set hA
  rw [w19_len] at b1 b2
  have hc19 : (tab 19 fun s => ((Pm.LL (w19 R) 7 s : Nat) : Int)) = c19 R := by unfold c19; rfl
  rw [hc19] at b1 b2
  have hcl : (c19 R).length = 19 := by rw [← hc19]; exact tab_len _ _
  repeat (first | (refine sx ?_; try intro _))
  refine JO_call Tryz.call18 rfl rfl fun w hw => (SqBest_c (some po) 19 19 (w19 R) (vec_rd (List.Mem.head _)) (w19_len R) (w19_lt R hRl) 7 hA w hw).mono ?_
  rintro e w' ⟨q7, d7, rfl, hw'⟩
  rw [hc19] at hw'
  refine ⟨_, rfl, _, hw', ?_⟩
  clear hw' hw w w'
  repeat (first | (refine sx ?_; try intro _))
  refine JO_call Tryz.call19 rfl rfl fun w hw => (MakeS_c q7 d7 19 (c19 R) (vec_rd (List.Mem.head _)) hcl b1 (by omega) (Rd.nil (vec_rd (List.Mem.head _)) hw) w hw).mono ?_
  rintro e w' ⟨u, r, rfl, ⟨h, _⟩ | ⟨_, rfl, b7, a1, a2, a3, rfl, hset, hw'⟩⟩
  · exact absurd b2 h.not
  refine ⟨_, rfl, _, hw', ?_⟩
  clear hw' hw w w'
  repeat (first | (refine sx ?_; try intro _))
  refine JO_call Tryz.call58 rfl rfl fun w hw => (Order_c w hw).mono ?_
  rintro e w' ⟨rfl, hw'⟩
  refine ⟨_, rfl, _, hw', ?_⟩
  clear hw' hw w w'
  repeat (first | (apply gJR; first | (refine sx ?_; try intro _)) | (apply gJO; first | (refine sx ?_; try intro _)) | apply JS_seq | apply JS_region)
  rename_i bo
  refine JS_block ?_
  obtain ⟨HH, hHH⟩ : ∃ HH, blk bo ordV :: a1 :: a2 :: a3 :: vec 5 1 (.slice q7 19 d7) 19 (ints .u8 (c19 R)) :: vec 38 1 (.slice (some po) 19 19) 19 (ints .u64 (nats (w19 R))) :: vec 48 3 (.slice qr R.length dr) R.length (rv R) :: vec 5 1 (.slice p2 (mx + my) c2) (mx + my) (ints .u8 (nats (X ++ Y))) :: wtA b L q d (z :: tl) :: wrV L q d :: H = HH := ⟨_, rfl⟩
  have hbo : blk bo ordV ∈ HH := by rw [← hHH]; exact List.Mem.head _
  have hrC : Rd w0 HH (.slice q7 19 d7) 19 (ints .u8 (c19 R)) := vec_rd (e := 5) (size := 1) (by rw [← hHH]; exact List.Mem.tail _ (List.Mem.tail _ (List.Mem.tail _ (List.Mem.tail _ (List.Mem.head _)))))
  refine JS_loop1 (fun (m : Nat) => [(0, .pointer (some ⟨b, 0, none⟩)), (1, .slice px mx cx), (2, .slice py my cy), (6, .slice qr R.length dr), (10, .slice q7 19 d7), (11, .pointer (some ⟨b7, 0, none⟩)), (13, .pointer (some ⟨bo, 0, none⟩)), (14, .int .i64 m)])
    (fun _ => HH) (fun m => 4 ≤ m ∧ m ≤ 19 ∧ mny (c19 R) m = mny (c19 R) 19) (fun m => m) 19 ⟨by omega, Nat.le_refl _, rfl⟩ (by repeat (first | exact trivial | refine ⟨rfl, ?_⟩ | refine ⟨lookI rfl (by omega), ?_⟩)) (fun w hw => by rw [← hHH]; exact hw) ?_
  intro m ⟨hm4, hm19, hmy⟩ again
  have hmain : mny (c19 R) 19 = m → JS Tryz.prog 21 Tryz.f21.ntmps (fun e w' => e = .returned (.tuple #[]) ∧ ∃ q d, St w0 (wtA b (L ++ descB X Y) q d (z :: tl) :: wrV (L ++ descB X Y) q d :: H) w') [] w0 (todo Tryz.f21 [.b, .b, .b, .b, .b, .b, .b, .b, .b])
      [(0, .pointer (some ⟨b, 0, none⟩)), (1, .slice px mx cx), (2, .slice py my cy), (6, .slice qr R.length dr), (10, .slice q7 19 d7), (11, .pointer (some ⟨b7, 0, none⟩)), (13, .pointer (some ⟨bo, 0, none⟩)), (14, .int .i64 m)] HH := by
    intro hmm
    clear hmy again hrC hbo
    rw [hmm, hx, hy] at hdesc
    refine JS_at rfl ?_
    refine JS_H (H' := wtA b L q d (z :: tl) :: wrV L q d :: blk bo ordV :: a1 :: a2 :: a3 :: vec 5 1 (.slice q7 19 d7) 19 (ints .u8 (c19 R)) :: vec 48 3 (.slice qr R.length dr) R.length (rv R) :: H) (fun w hw => by
      rw [← hHH] at hw
      exact St.sub (by repeat (first | exact List.Sublist.refl _ | apply List.Sublist.cons_cons | apply List.Sublist.cons)) (hw.perm (show List.Perm _ (wtA b L q d (z :: tl) :: wrV L q d :: blk bo ordV :: a1 :: a2 :: a3 :: vec 5 1 (.slice q7 19 d7) 19 (ints .u8 (c19 R)) :: vec 38 1 (.slice (some po) 19 19) 19 (ints .u64 (nats (w19 R))) :: vec 48 3 (.slice qr R.length dr) R.length (rv R) :: vec 5 1 (.slice p2 (mx + my) c2) (mx + my) (ints .u8 (nats (X ++ Y))) :: H) by (repeat (first | exact List.Perm.refl _ | refine List.Perm.cons _ ?_ | refine (List.perm_middle (l₁ := [_])).trans (List.Perm.cons _ ?_) | refine (List.perm_middle (l₁ := [_, _])).trans (List.Perm.cons _ ?_) | refine (List.perm_middle (l₁ := [_, _, _])).trans (List.Perm.cons _ ?_) | refine (List.perm_middle (l₁ := [_, _, _, _])).trans (List.Perm.cons _ ?_) | refine (List.perm_middle (l₁ := [_, _, _, _, _])).trans (List.Perm.cons _ ?_) | refine (List.perm_middle (l₁ := [_, _, _, _, _, _])).trans (List.Perm.cons _ ?_) | refine (List.perm_middle (l₁ := [_, _, _, _, _, _, _])).trans (List.Perm.cons _ ?_) | refine (List.perm_middle (l₁ := [_, _, _, _, _, _, _, _])).trans (List.Perm.cons _ ?_)))))) ?_
    clear hHH
    clear HH
    have e1 : IntKind.i64.wrap ((mx : Int) - 257) = ((mx - 257 : Nat) : Int) := (wi64 (by omega)).trans (by omega)
    have e1' : IntKind.u32.wrap ((mx - 257 : Nat) : Int) = ((mx - 257 : Nat) : Int) := wu32 (by omega)
    have e2 : IntKind.i64.wrap ((my : Int) - 1) = ((my - 1 : Nat) : Int) := (wi64 (by omega)).trans (by omega)
    have e2' : IntKind.u32.wrap ((my - 1 : Nat) : Int) = ((my - 1 : Nat) : Int) := wu32 (by omega)
    have e3 : IntKind.i64.wrap ((m : Int) - 4) = ((m - 4 : Nat) : Int) := (wi64 (by omega)).trans (by omega)
    have e3' : IntKind.u32.wrap ((m - 4 : Nat) : Int) = ((m - 4 : Nat) : Int) := wu32 (by omega)
    have f1 : 0 ≤ ((mx - 257 : Nat) : Int) ∧ ((mx - 257 : Nat) : Int) < 2 ^ 5 := by omega
    have f2 : 0 ≤ ((my - 1 : Nat) : Int) ∧ ((my - 1 : Nat) : Int) < 2 ^ 5 := by omega
    have f3 : 0 ≤ ((m - 4 : Nat) : Int) ∧ ((m - 4 : Nat) : Int) < 2 ^ 4 := by omega
    have o1 := app_01 hL (grp_01 ((mx - 257 : Nat) : Int) 5)
    have o2 := app_01 o1 (grp_01 ((my - 1 : Nat) : Int) 5)
    have o3 := app_01 o2 (grp_01 ((m - 4 : Nat) : Int) 4)
    have l1 : (L ++ grp ((mx - 257 : Nat) : Int) 5).length = L.length + 5 := by rw [List.length_append, grp_len]
    have l2 : (L ++ grp ((mx - 257 : Nat) : Int) 5 ++ grp ((my - 1 : Nat) : Int) 5).length = L.length + 10 := by rw [List.length_append, l1, grp_len]
    have l3 : (L ++ grp ((mx - 257 : Nat) : Int) 5 ++ grp ((my - 1 : Nat) : Int) 5 ++ grp ((m - 4 : Nat) : Int) 4).length = L.length + 14 := by rw [List.length_append, l2, grp_len]
    have hfin : L ++ descB X Y = L ++ grp ((mx - 257 : Nat) : Int) 5 ++ grp ((my - 1 : Nat) : Int) 5 ++ grp ((m - 4 : Nat) : Int) 4 ++ (ordN.take m).flatMap (fun k => grp ((c19 R).getD k 0) 3) ++ R.flatMap (rbits (c19 R)) := by
      rw [hdesc]; simp only [List.append_assoc]
    repeat (first | (apply gJO; first | refine JO_v (V_sub rfl rfl e1 rfl) ?_ | refine JO_v (oCv (V_conv (tb := tb) rfl rfl rfl e1' rfl)) ?_) | (first | (refine sx ?_; try intro _)))
    refine JO_call Tryz.call20 rfl rfl fun w hw => (WGroupT_c b L q d _ 5 (by omega) f1 (by omega) hL (by omega) w hw).mono ?_
    rintro e w' ⟨rfl, qa, da, hw'⟩
    refine ⟨_, rfl, _, hw', ?_⟩
    clear hw' hw w w'
    repeat (first | (apply gJO; first | refine JO_v (V_sub rfl rfl e2 rfl) ?_ | refine JO_v (oCv (V_conv (tb := tb) rfl rfl rfl e2' rfl)) ?_) | (first | (refine sx ?_; try intro _)))
    refine JO_call Tryz.call20 rfl rfl fun w hw => (WGroupT_c b _ qa da _ 5 (by omega) f2 (by omega) o1 (by omega) w hw).mono ?_
    rintro e w' ⟨rfl, qb, db, hw'⟩
    refine ⟨_, rfl, _, hw', ?_⟩
    clear hw' hw w w'
    repeat (first | (apply gJO; first | refine JO_v (V_sub rfl rfl e3 rfl) ?_ | refine JO_v (oCv (V_conv (tb := tb) rfl rfl rfl e3' rfl)) ?_) | (first | (refine sx ?_; try intro _)))
    refine JO_call Tryz.call20 rfl rfl fun w hw => (WGroupT_c b _ qb db _ 4 (by omega) f3 (by omega) o2 (by omega) w hw).mono ?_
    rintro e w' ⟨rfl, qc, dc, hw'⟩
    refine ⟨_, rfl, _, hw', ?_⟩
    clear hw' hw w w' e1 e1' e2 e2' e3 e3' f1 f2 f3 o1 o2 l1 l2
    generalize L ++ grp ((mx - 257 : Nat) : Int) 5 ++ grp ((my - 1 : Nat) : Int) 5 ++ grp ((m - 4 : Nat) : Int) 4 = L3 at *
    repeat (first | (apply gJR; first | (refine sx ?_; try intro _)) | (apply gJO; first | refine JO_v (V_sliceP (tb := tb) (lo := 0) (hi := m) rfl rfl rfl rfl rfl rfl rfl (by omega) rfl) ?_ | first | (refine sx ?_; try intro _)) | apply JS_seq | apply JS_region)
    refine JS_block ?_
    rw [show Sx.subB (some ⟨bo, 0, none⟩) 0 19 1 = some ⟨bo, 0, none⟩ from rfl, Nat.sub_zero, Nat.sub_zero]
    obtain ⟨G, hG⟩ : ∃ G, blk bo ordV :: a1 :: a2 :: a3 :: vec 5 1 (.slice q7 19 d7) 19 (ints .u8 (c19 R)) :: vec 48 3 (.slice qr R.length dr) R.length (rv R) :: H = G := ⟨_, rfl⟩
    rw [hG]
    have gO : Rd w0 G (.slice (some ⟨bo, 0, none⟩) m 19) m ordV := blk_rd (by rw [← hG]; exact List.Mem.head _) hm19
    have gC : Rd w0 G (.slice q7 19 d7) 19 (ints .u8 (c19 R)) := vec_rd (e := 5) (size := 1) (by rw [← hG]; exact List.Mem.tail _ (List.Mem.tail _ (List.Mem.tail _ (List.Mem.tail _ (List.Mem.head _)))))
    have gR : Rd w0 G (.slice qr R.length dr) R.length (rv R) := vec_rd (e := 48) (size := 3) (by rw [← hG]; exact List.Mem.tail _ (List.Mem.tail _ (List.Mem.tail _ (List.Mem.tail _ (List.Mem.tail _ (List.Mem.head _))))))
    have gS : IsSet w0 G b7 (c19 R) := hset.sub (by rw [← hG]; exact (((List.nil_sublist _).cons_cons a3).cons_cons a2).cons_cons a1 |>.cons _)
    have gH : ∀ q d L, ∀ w, St w0 (wtA b L q d (z :: tl) :: wrV L q d :: G) w → St w0 (wtA b L q d (z :: tl) :: wrV L q d :: H) w := fun q d L w hw => by
      rw [← hG] at hw
      exact St.sub (by repeat (first | exact List.Sublist.refl _ | apply List.Sublist.cons_cons | apply List.Sublist.cons)) hw
    clear hG hset
    have hb7 : ∀ k, k < 19 → 0 ≤ (c19 R).getD k 0 ∧ (c19 R).getD k 0 < 2 ^ 3 := fun k hk => by
      have h1 := (b1 k).1
      have h2 : (c19 R).getD k 0 = ((Pm.LL (w19 R) 7 k : Nat) : Int) := by rw [← hc19]; exact tab_get hk
      have h3 := (Pm.LL_bd (W := w19 R) (L := 7) (s := k) (by omega) hA.2.2.2.2 (by rw [w19_len]; exact hk)).1
      omega
    refine JS_loop3 (fun (i : Nat) (q : Option Addr) (d : Nat) => [(0, .pointer (some ⟨b, 0, none⟩)), (6, .slice qr R.length dr), (10, .slice q7 19 d7), (11, .pointer (some ⟨b7, 0, none⟩)), (92, .slice (some ⟨bo, 0, none⟩) m 19), (93, .int .i64 m), (94, .int .i64 i)])
      (fun i q d => wtA b (L3 ++ (ordN.take i).flatMap (fun k => grp ((c19 R).getD k 0) 3)) q d (z :: tl) :: wrV (L3 ++ (ordN.take i).flatMap (fun k => grp ((c19 R).getD k 0) 3)) q d :: G) (fun i _ _ => i ≤ m) (fun i _ _ => m - i) 0 qc dc (Nat.zero_le _) (by repeat (first | exact trivial | refine ⟨rfl, ?_⟩ | refine ⟨lookI rfl (by omega), ?_⟩))
      (fun w hw => by rw [List.take_zero, List.flatMap_nil, List.append_nil]; exact hw) ?_
    intro i q d hi again
    have hol : ordN.length = 19 := rfl
    have o4 := app_01 o3 (flat_01 (fun k => grp ((c19 R).getD k 0) 3) (fun k => grp_01 _ 3) (ordN.take i))
    have l4 := flatb_len (fun k => grp ((c19 R).getD k 0) 3) 3 (ordN.take i) (fun x _ => by rw [grp_len]; exact Nat.le_refl _)
    rw [List.length_take] at l4
    have l5 : (L3 ++ (ordN.take i).flatMap (fun k => grp ((c19 R).getD k 0) 3)).length ≤ L.length + 71 := by rw [List.length_append]; omega
    by_cases him : i < m
    · have gi := ordV_get (k := i) (by omega)
      have hok := ordN_lt ⟨i, by omega⟩
      simp only [] at hok
      have htk := flat_take (fun k => grp ((c19 R).getD k 0) 3) (l := ordN) (i := i) (by omega)
      have hgo : ordN[i]'(by omega) = ordN.getD i 0 := by rw [List.getD_eq_getElem?_getD, List.getElem?_eq_getElem (by omega)]; rfl
      rw [hgo] at htk
      generalize ordN.getD i 0 = k at gi hok htk
      have gk : (ints .u8 (c19 R))[k]? = some (.int .u8 ((c19 R).getD k 0)) := ints_get (by omega)
      have hbk := hb7 k hok
      have e1 : IntKind.u32.wrap ((c19 R).getD k 0) = (c19 R).getD k 0 := wu32 (by omega)
      repeat (first | (apply gJO; first | refine JO_v (V_loadC (tb := tb) rfl (rd2 gO) rfl rfl gi rfl) ?_ | refine JO_v (V_index (tb := tb) rfl rfl rfl rfl (Rd.sl (rd2 gO)) (by omega) (by (try simp only [tn, tna, tn1, tn2, tn3, tn4, tnd16, tnd8, Int.reduceToNat]); first | exact Nat.mul_one _ | exact rfl) rfl) ?_) | (apply gQO; first | refine QO_v rfl (V_loadC (tb := tb) rfl (rd2 gC) rfl rfl gk rfl) ?_ | refine QO_v rfl (V_index (tb := tb) rfl rfl rfl rfl (Rd.sl (rd2 gC)) (by omega) (by (try simp only [tn, tna, tn1, tn2, tn3, tn4, tnd16, tnd8, Int.reduceToNat]); first | exact Nat.mul_one _ | exact rfl) rfl) ?_ | refine QO_v rfl (oCv (V_conv (tb := tb) rfl rfl rfl e1 rfl)) ?_) | (first | (refine sx ?_; try intro _)))
      refine QO_call Tryz.call20 rfl rfl fun w hw => (WGroupT_c b _ q d _ 3 (by omega) hbk (by omega) o4 (by omega) w hw).mono ?_
      rintro e w' ⟨rfl, qe, de, hw'⟩
      refine ⟨_, rfl, _, hw', .inr rfl, ?_⟩
      clear hw' hw w w'
      repeat (first | (refine sx ?_; try intro _))
      refine JS_again3 again (i + 1) qe de (by omega) (by omega) (by repeat (first | exact trivial | refine ⟨rfl, ?_⟩ | refine ⟨lookI rfl (by omega), ?_⟩)) (fun w hw => ?_)
      rw [htk, ← List.append_assoc]
      exact hw
    obtain rfl : i = m := by omega
    clear again him
    generalize L3 ++ (ordN.take i).flatMap (fun k => grp ((c19 R).getD k 0) 3) = L4 at *
    repeat (first | (apply gJR; first | (refine sx ?_; try intro _)) | (apply gJO; first | (refine sx ?_; try intro _)) | apply JS_seq | apply JS_region | (apply gJS; refine JS_condF rfl ?_) | (apply gJS; refine JS_cond_F rfl (by omega) ?_) | (apply gJS; refine JS_exit rfl ?_))
    refine JS_block ?_
    refine JS_loop3 (fun (i : Nat) (q : Option Addr) (d : Nat) => [(0, .pointer (some ⟨b, 0, none⟩)), (11, .pointer (some ⟨b7, 0, none⟩)), (108, .slice qr R.length dr), (109, .int .i64 R.length), (110, .int .i64 i)])
      (fun i q d => wtA b (L4 ++ (R.take i).flatMap (rbits (c19 R))) q d (z :: tl) :: wrV (L4 ++ (R.take i).flatMap (rbits (c19 R))) q d :: G) (fun i _ _ => i ≤ R.length) (fun i _ _ => R.length - i) 0 q d (Nat.zero_le _) (by repeat (first | exact trivial | refine ⟨rfl, ?_⟩ | refine ⟨lookI rfl (by omega), ?_⟩))
      (fun w hw => by rw [List.take_zero, List.flatMap_nil, List.append_nil]; exact hw) ?_
    intro i q d hi again
    have o6 := app_01 o4 (flat_01 (rbits (c19 R)) (rbits_01 _) (R.take i))
    have hrb : ∀ r ∈ R, (rbits (c19 R) r).length ≤ 14 := fun r hr => by
      have h1 := c19_has R hRl r hr (hrx1 r hr).1
      have h2 := (hrx1 r hr).2.1
      unfold rbits
      rw [List.length_append, cw_len, grp_len]
      omega
    have l6 := flatb_len (rbits (c19 R)) 14 (R.take i) fun r hr => hrb r (List.mem_of_mem_take hr)
    rw [List.length_take] at l6
    have l7 : (L4 ++ (R.take i).flatMap (rbits (c19 R))).length ≤ L.length + 71 + 14000 := by rw [List.length_append]; omega
    by_cases hil : i < R.length
    · have hat := rv_at hil
      have htk := flat_take (rbits (c19 R)) hil
      have hbd := hrx1 _ (List.getElem_mem hil)
      have hhas := (c19_has R hRl _ (List.getElem_mem hil) hbd.1)
      have hrb1 := hrb _ (List.getElem_mem hil)
      obtain ⟨r, hr⟩ : ∃ r, R[i] = r := ⟨_, rfl⟩
      rw [hr] at hat hbd htk hhas hrb1
      obtain ⟨rs, rr, rb⟩ := r
      obtain ⟨k1, k2, k3⟩ := hbd
      obtain ⟨k4, k5⟩ := hhas
      simp only [] at hat k1 k2 k3 k4 k5
      have hrbe : rbits (c19 R) (rs, rr, rb) = cw (c19 R) rs ++ grp rr rb := rfl
      rw [hrbe] at htk hrb1
      rw [List.length_append] at hrb1
      have hpw : (2 : Nat) ^ rb ≤ 2 ^ 7 := Nat.pow_le_pow_right (by omega) k2
      have hpc : ((2 ^ rb : Nat) : Int) = 2 ^ rb := by simp
      have n1 : 0 ≤ (rr : Int) ∧ (rr : Int) < 2 ^ rb := by rw [← hpc]; omega
      have e1 : IntKind.u32.wrap (rr : Int) = (rr : Int) := wu32 (by omega)
      repeat ((fail_if_success refine gIdR 25 ?_); first | (apply gJO; first | refine JO_v (oL (V_loadCA (tb := tb) rfl (rd2 gR) rfl rfl rfl (by decide) hat rfl)) ?_ | refine JO_v (V_index (tb := tb) rfl rfl rfl rfl (Rd.sl (rd2 gR)) (by omega) (by (try simp only [tn, tna, tn1, tn2, tn3, tn4, tnd16, tnd8, Int.reduceToNat]); first | exact Nat.mul_one _ | exact rfl) rfl) ?_) | (first | (refine sx ?_; try intro _)))
      rename_i bt
      refine JS_H (H' := wtA b (L4 ++ (R.take i).flatMap (rbits (c19 R))) q d (z :: tl) :: wrV (L4 ++ (R.take i).flatMap (rbits (c19 R))) q d :: blk bt [.int .i64 rs, .int .i64 rr, .int .i64 rb] :: G) (fun w hw => hw.perm (by (repeat (first | exact List.Perm.refl _ | refine List.Perm.cons _ ?_ | refine (List.perm_middle (l₁ := [_])).trans (List.Perm.cons _ ?_) | refine (List.perm_middle (l₁ := [_, _])).trans (List.Perm.cons _ ?_) | refine (List.perm_middle (l₁ := [_, _, _])).trans (List.Perm.cons _ ?_) | refine (List.perm_middle (l₁ := [_, _, _, _])).trans (List.Perm.cons _ ?_) | refine (List.perm_middle (l₁ := [_, _, _, _, _])).trans (List.Perm.cons _ ?_) | refine (List.perm_middle (l₁ := [_, _, _, _, _, _])).trans (List.Perm.cons _ ?_) | refine (List.perm_middle (l₁ := [_, _, _, _, _, _, _])).trans (List.Perm.cons _ ?_) | refine (List.perm_middle (l₁ := [_, _, _, _, _, _, _, _])).trans (List.Perm.cons _ ?_))))) ?_
      repeat (first | (refine sx ?_; try intro _))
      refine QO_call Tryz.call22 rfl rfl fun w hw => (WriteT_c b7 b (c19 R) _ q d (gS.sub (by repeat (first | exact List.Sublist.refl _ | apply List.Sublist.cons))) rs _ k4 o6 (by omega) w hw).mono ?_
      rintro e w' ⟨rfl, qe, de, hw'⟩
      refine ⟨_, rfl, _, hw', .inr rfl, ?_⟩
      clear hw' hw w w'
      have o7 := app_01 o6 (cw_01 (c19 R) rs)
      repeat (first | (apply gQO; refine QO_v rfl (oCv (V_conv (tb := tb) rfl rfl rfl e1 rfl)) ?_) | (first | (refine sx ?_; try intro _)))
      refine QO_call Tryz.call20 rfl rfl fun w hw => (WGroupT_c b _ qe de _ rb (by omega) n1 (by omega) o7 (by rw [List.length_append, cw_len]; omega) w hw).mono ?_
      rintro e w' ⟨rfl, qf, df, hw'⟩
      refine ⟨_, rfl, _, hw', .inr rfl, ?_⟩
      clear hw' hw w w'
      repeat (first | (refine sx ?_; try intro _))
      refine JS_again3 again (i + 1) qf df (by omega) (by omega) (by repeat (first | exact trivial | refine ⟨rfl, ?_⟩ | refine ⟨lookI rfl (by omega), ?_⟩)) (fun w hw => ?_)
      rw [htk, ← List.append_assoc, ← List.append_assoc]
      exact St.sub (by repeat (first | exact List.Sublist.refl _ | apply List.Sublist.cons_cons | apply List.Sublist.cons)) hw
    obtain rfl : i = R.length := by omega
    clear again
    rw [List.take_length, ← hfin]
    repeat (first | (refine sx ?_; try intro _))
    refine JS_fin Tryz.func21 rfl rfl (vs := []) fun w hw => ⟨rfl, q, d, gH _ _ _ _ hw⟩
  have hm1 : m = (m - 1) + 1 := by omega
  by_cases h4 : 4 < m
  · obtain ⟨k, rfl⟩ : ∃ k, m = k + 1 := ⟨m - 1, by omega⟩
    have e1 : IntKind.i64.wrap (((k + 1 : Nat) : Int) - 1) = (k : Int) := (wi64 (by omega)).trans (by omega)
    have gord : nth ordV (0 + ((k : Nat) : Int).toNat * 1) = some (.int .i64 ((ordN.getD k 0 : Nat) : Int)) := by rw [nth_eq, Int.toNat_natCast, Nat.mul_one, Nat.zero_add]; exact ordV_get (by omega)
    have hok := ordN_lt ⟨k, by omega⟩
    simp only [] at hok
    have hstep : mny (c19 R) (k + 1) = if 4 < k + 1 ∧ (c19 R).getD (ordN.getD k 0) 0 = 0 then mny (c19 R) k else k + 1 := rfl
    generalize ordN.getD k 0 = o at gord hok hstep
    have gk : (ints .u8 (c19 R))[o]? = some (.int .u8 ((c19 R).getD o 0)) := ints_get (by omega)
    have hbo2 := b1 o
    by_cases h0 : (c19 R).getD o 0 = 0
    · rw [if_pos ⟨h4, h0⟩] at hstep
      rw [h0] at gk
      clear hmain
      repeat (first | (apply gJO; first | refine JO_v (V_sub rfl rfl e1 rfl) ?_ | refine JO_v (V_load (tb := tb) rfl hbo rfl rfl gord rfl) ?_ | refine JO_v (V_loadC (tb := tb) rfl hrC rfl rfl gk rfl) ?_ | refine JO_v (V_index (tb := tb) rfl rfl rfl rfl (Rd.sl hrC) (by omega) (by (try simp only [tn, tna, tn1, tn2, tn3, tn4, tnd16, tnd8, Int.reduceToNat]); first | exact Nat.mul_one _ | exact rfl) rfl) ?_) | (first | (refine sx ?_; try intro _)))
      exact JS_again1 again k ⟨by omega, by omega, by rw [← hmy, hstep]⟩ (by omega) (by repeat (first | exact trivial | refine ⟨rfl, ?_⟩ | refine ⟨lookI rfl (by omega), ?_⟩)) (fun w hw => hw)
    · rw [if_neg (fun h => h0 h.2)] at hstep
      clear again
      generalize (c19 R).getD o 0 = cv at gk h0 hbo2
      have hm := hmain (by rw [← hmy, hstep])
      repeat (first | exact JS_of_at (fn := Tryz.f21) (p := [.b, .b, .b, .b, .b, .b, .b, .b, .b]) (JS_ov (by repeat (first | exact trivial | refine ⟨rfl, ?_⟩ | refine ⟨lookI rfl (by omega), ?_⟩)) hm) rfl | (apply gJO; first | refine JO_v (V_sub rfl rfl e1 rfl) ?_ | refine JO_v (V_load (tb := tb) rfl hbo rfl rfl gord rfl) ?_ | refine JO_v (V_loadC (tb := tb) rfl hrC rfl rfl gk rfl) ?_ | refine JO_v (V_index (tb := tb) rfl rfl rfl rfl (Rd.sl hrC) (by omega) (by (try simp only [tn, tna, tn1, tn2, tn3, tn4, tnd16, tnd8, Int.reduceToNat]); first | exact Nat.mul_one _ | exact rfl) rfl) ?_) | (first | (refine sx ?_; try intro _)))
  · obtain rfl : m = 4 := by omega
    clear again
    have hm := hmain (by rw [← hmy]; simp [mny])
    repeat (first | exact JS_of_at (fn := Tryz.f21) (p := [.b, .b, .b, .b, .b, .b, .b, .b, .b]) (JS_ov (by repeat (first | exact trivial | refine ⟨rfl, ?_⟩ | refine ⟨lookI rfl (by omega), ?_⟩)) hm) rfl | (first | (refine sx ?_; try intro _)))
end
end Go.Proofs.YtbiocgenbgbfpaaGreat

namespace Go.Proofs.YtbiocgenbgbfpaaGreat
open Sx Go
set_option linter.unusedVariables false
set_option linter.unusedSimpArgs false
attribute [local irreducible] syA fc cds
/-! how often a text's symbols come, and their lengths (plain) -/
abbrev Tk := Int × Nat × Nat
def tsy1 (t : Tk) : Nat := ((splitR t).getD 0 (0, 0, 0)).1
def tsy2 (t : Tk) : Nat := ((splitR t).getD 1 (0, 0, 0)).1
theorem splitR_one {t : Tk} (h : t.2.2 = 0) : splitR t = [(t.1.toNat, 0, 0)] := by unfold splitR; rw [if_pos h]
theorem splitR_len (t : Tk) : (splitR t).length = if t.2.2 = 0 then 1 else 2 := by unfold splitR; split <;> rfl
theorem splitR_bd {t : Tk} (h : TOK t) : ∀ i, i < (splitR t).length → ((splitR t).getD i (0, 0, 0)).1 < (if i = 0 then 286 else 30) ∧ ((splitR t).getD i (0, 0, 0)).2.2 ≤ 13 ∧ ((splitR t).getD i (0, 0, 0)).2.1 < 2 ^ ((splitR t).getD i (0, 0, 0)).2.2 := by
  intro i hi
  obtain ⟨x, n, k⟩ := t
  rcases h with ⟨h1, h2, h3, h4⟩ | ⟨h1, h2, h3, h4, h5⟩
  · simp only [] at h1 h2 h3 h4
    rw [splitR_one h4] at hi ⊢
    obtain rfl : i = 0 := by simpa using hi
    show x.toNat < 286 ∧ 0 ≤ 13 ∧ 0 < 2 ^ 0
    omega
  · simp only [] at h1 h2 h3 h4 h5
    obtain ⟨s, nb, r, e1, a1, a2, a3, a4, a5, _⟩ := lenS_bd n (by omega) (by omega)
    obtain ⟨s', nb', r', e2, c1, c3, c4, c5, _⟩ := spanS_bd k (by omega) (by omega)
    obtain ⟨r, rfl⟩ := Int.eq_ofNat_of_zero_le a4
    obtain ⟨r', rfl⟩ := Int.eq_ofNat_of_zero_le c4
    have e : splitR (x, n, k) = [(s, r, nb), (s', r', nb')] := by
      unfold splitR
      simp only []
      rw [if_neg (by omega), e1, e2]
      simp only [Int.toNat_natCast]
    rw [e] at hi ⊢
    have p1 : ((2 ^ nb : Nat) : Int) = 2 ^ nb := by simp
    have p2 : ((2 ^ nb' : Nat) : Int) = 2 ^ nb' := by simp
    match i, hi with
    | 0, _ => exact ⟨by show s < 286; omega, by show nb ≤ 13; omega, by show r < 2 ^ nb; omega⟩
    | 1, _ => exact ⟨by show s' < 30; omega, c3, by show r' < 2 ^ nb'; omega⟩
    | i + 2, hi => exact absurd hi (by simp)
def cX (T : List Tk) (k : Nat) : Nat := T.countP fun t => tsy1 t == k
def cY (T : List Tk) (k : Nat) : Nat := T.countP fun t => (splitR t).length == 2 && tsy2 t == k
def wX (T : List Tk) : List Nat := (List.range 286).map fun k => cX T k + if k = 256 then 1 else 0
def wY (T : List Tk) : List Nat := (List.range 30).map fun k => cY T k
theorem cX_le (T : List Tk) (k : Nat) : cX T k ≤ T.length := List.countP_le_length
theorem cY_le (T : List Tk) (k : Nat) : cY T k ≤ T.length := List.countP_le_length
theorem wX_len (T : List Tk) : (wX T).length = 286 := by simp [wX]
theorem wY_len (T : List Tk) : (wY T).length = 30 := by simp [wY]
theorem wX_get (T : List Tk) {s : Nat} (h : s < 286) : (wX T).getD s 0 = cX T s + if s = 256 then 1 else 0 := by
  unfold wX
  rw [List.getD_eq_getElem?_getD, List.getElem?_map, List.getElem?_range h]; rfl
theorem wY_get (T : List Tk) {s : Nat} (h : s < 30) : (wY T).getD s 0 = cY T s := by
  unfold wY
  rw [List.getD_eq_getElem?_getD, List.getElem?_map, List.getElem?_range h]; rfl
theorem getD_lt64 {W : List Nat} {n : Nat} (hl : W.length = n) (h : ∀ s, s < n → W.getD s 0 ≤ 100001) (j : Nat) : W.getD j 0 < 18446744073709551616 := by
  rcases Nat.lt_or_ge j n with h' | h'
  · have := h j h'; omega
  · rw [List.getD_eq_getElem?_getD, List.getElem?_eq_none (by omega)]; decide
theorem wX_lt (T : List Tk) (hT : T.length ≤ 100000) : ∀ j, (wX T).getD j 0 < 18446744073709551616 := getD_lt64 (wX_len T) fun s hs => by
  rw [wX_get T hs]
  have := cX_le T s
  split <;> omega
theorem wY_lt (T : List Tk) (hT : T.length ≤ 100000) : ∀ j, (wY T).getD j 0 < 18446744073709551616 := getD_lt64 (wY_len T) fun s hs => by
  rw [wY_get T hs]
  have := cY_le T s
  omega
theorem askX (T : List Tk) (hT : T.length ≤ 100000) : AskOK (wX T) (15 : Nat) := by
  refine ⟨by rw [wX_len]; omega, by omega, by omega, ?_, ?_⟩
  · have := sum_map_le (fun k => cX T k + if k = 256 then 1 else 0) 100001 (fun s => by
      have h1 := cX_le T s
      show cX T s + (if s = 256 then 1 else 0) ≤ 100001
      split <;> omega) 286
    exact Nat.le_trans this (by omega)
  · rw [Pm.oneW_len]
    have := Pm.lvf_len_le (wX T) 0
    rw [wX_len] at this
    exact Nat.le_trans this (by decide)
theorem askY (T : List Tk) (hT : T.length ≤ 100000) : AskOK (wY T) (15 : Nat) := by
  refine ⟨by rw [wY_len]; omega, by omega, by omega, ?_, ?_⟩
  · have := sum_map_le (fun k => cY T k) 100001 (fun s => by
      have h1 := cY_le T s
      show cY T s ≤ 100001
      omega) 30
    exact Nat.le_trans this (by omega)
  · rw [Pm.oneW_len]
    have := Pm.lvf_len_le (wY T) 0
    rw [wY_len] at this
    exact Nat.le_trans this (by decide)
/-- lengths as numbers -/
def lln (W : List Nat) : List Nat := (List.range W.length).map fun s => Pm.LL W 15 s
theorem lln_len (W : List Nat) : (lln W).length = W.length := by simp [lln]
theorem lln_nats (W : List Nat) : nats (lln W) = tab W.length fun s => ((Pm.LL W 15 s : Nat) : Int) := nats_map _ _
theorem lln_get (W : List Nat) {s : Nat} (h : s < W.length) : (lln W).getD s 0 = Pm.LL W 15 s := by
  unfold lln
  rw [List.getD_eq_getElem?_getD, List.getElem?_map, List.getElem?_range h]; rfl
def pX (T : List Tk) : List Nat := cutN (lln (wX T)) 257
def pY (T : List Tk) : List Nat := cutN (lln (wY T)) 1
/-! what is cut off makes no difference -/
theorem tk_zeros : ∀ (Z : List Int), (∀ x ∈ Z, x = 0) → tk Z = 0
  | [], _ => rfl
  | x :: r, h => by
    have h0 := h x (by simp)
    have ih := tk_zeros r fun y hy => h y (by simp [hy])
    simp [tk, h0, ih]
theorem sm_zeros (Z : List Int) (h : ∀ x ∈ Z, x = 0) : sm Z = 0 := by
  unfold sm
  rw [List.countP_eq_zero]
  intro x hx
  rw [h x hx]; decide
theorem cn_zeros (A Z : List Int) (h : ∀ x ∈ Z, x = 0) : cn (A ++ Z) 1 = cn A 1 := by
  unfold cn
  rw [if_neg (by decide), if_neg (by decide), List.countP_append]
  have : Z.countP (fun x => x == ((1 : Nat) : Int)) = 0 := by
    rw [List.countP_eq_zero]
    intro x hx
    rw [h x hx]; decide
  rw [this, Nat.add_zero]
theorem cut_okl {B : List Nat} {least : Nat} (h1 : OKB (nats B)) (h2 : OKL (nats B)) : OKB (nats (cutN B least)) ∧ OKL (nats (cutN B least)) ∧ ∀ k, (nats (cutN B least)).getD k 0 = (nats B).getD k 0 := by
  have hz : ∀ x ∈ (nats B).drop (cutm B least B.length), x = 0 := fun x hx => by
    obtain ⟨j, hj, rfl⟩ := List.mem_iff_getElem.1 hx
    rw [List.length_drop, nats_len] at hj
    rw [List.getElem_drop]
    have := cutm_zero B least B.length (cutm B least B.length + j) (by omega) (by omega)
    have h3 := nats_getD B (cutm B least B.length + j)
    rw [this, List.getD_eq_getElem?_getD, List.getElem?_eq_getElem (by rw [nats_len]; omega)] at h3
    simpa using h3
  have he : nats (cutN B least) ++ (nats B).drop (cutm B least B.length) = nats B := by
    unfold cutN
    rw [nats_take, List.take_append_drop]
  have hg : ∀ k, (nats (cutN B least)).getD k 0 = (nats B).getD k 0 := fun k => by
    rw [← he, List.getD_eq_getElem?_getD, List.getD_eq_getElem?_getD]
    rcases Nat.lt_or_ge k (nats (cutN B least)).length with h | h
    · rw [List.getElem?_append_left h]
    · rw [List.getElem?_append_right h, List.getElem?_eq_none h]
      cases e : ((nats B).drop (cutm B least B.length))[k - (nats (cutN B least)).length]? with
      | none => rfl
      | some x => rw [hz x (List.mem_of_getElem? e)]; rfl
  refine ⟨fun j => by rw [hg]; exact h1 j, ⟨?_, fun j => by rw [hg]; exact h2.2.1 j, ?_⟩, hg⟩
  · have := congrArg List.length he
    rw [List.length_append] at this
    have := h2.1
    omega
  · have h3 := h2.2.2
    unfold FINE at h3 ⊢
    rw [← he, tk_app, tk_zeros _ hz, Int.add_zero, sm_app, sm_zeros _ hz, Nat.add_zero, cn_zeros _ _ hz] at h3
    exact h3
theorem cutN_len (B : List Nat) (least : Nat) : (cutN B least).length = cutm B least B.length := by
  unfold cutN
  rw [List.length_take]
  have := cutm_le B least B.length
  omega
theorem llset {W : List Nat} (hA : AskOK W (15 : Nat)) : OKB (nats (lln W)) ∧ OKL (nats (lln W)) ∧ ∀ s, s < W.length → Pm.LL W 15 s ≤ 15 ∧ (0 < Pm.LL W 15 s ↔ 0 < W.getD s 0) := by
  rw [lln_nats]
  exact LL_set hA
/-- a symbol that comes has a code -/
theorem cut_has {W : List Nat} {least : Nat} (hA : AskOK W (15 : Nat)) {k : Nat} (hk : k < W.length) (h0 : 0 < W.getD k 0) : HAS (nats (cutN (lln W) least)) k ((nats (cutN (lln W) least)).getD k 0).toNat ∧ ((nats (cutN (lln W) least)).getD k 0).toNat ≤ 15 := by
  obtain ⟨b1, b2, b3⟩ := llset hA
  obtain ⟨c1, c2, c3⟩ := cut_okl (least := least) b1 b2
  have h1 := b3 k hk
  have hg : (nats (cutN (lln W) least)).getD k 0 = ((Pm.LL W 15 k : Nat) : Int) := by rw [c3, nats_getD, lln_get W hk]
  have hlt : k < (nats (cutN (lln W) least)).length := by
    rcases Nat.lt_or_ge k (nats (cutN (lln W) least)).length with h | h
    · exact h
    · rw [List.getD_eq_getElem?_getD, List.getElem?_eq_none h] at hg
      have : ((Pm.LL W 15 k : Nat) : Int) = 0 := hg.symm
      have := h1.2.2 h0
      omega
  unfold HAS
  rw [Int.toNat_natCast, hg, Int.toNat_natCast]
  exact ⟨⟨by omega, by omega, h1.2.2 h0, rfl⟩, h1.1⟩
/-- a token's bits -/
def wrS (p q : List Int) (i : Nat) (r : Sq.Run) : List Int := (if i = 0 then cw p r.1 else cw q r.1) ++ grp r.2.1 r.2.2
def tkS (p q : List Int) (t : Tk) : List Int := (List.range (splitR t).length).flatMap fun i => wrS p q i ((splitR t).getD i (0, 0, 0))
/-- the bits of the described block -/
def dscL (B : List Int) : List Int :=
  grp 1 1 ++ grp 2 2 ++ descB (pX (toks B B.length 0)) (pY (toks B B.length 0)) ++ (toks B B.length 0).flatMap (tkS (nats (pX (toks B B.length 0))) (nats (pY (toks B B.length 0)))) ++ cw (nats (pX (toks B B.length 0))) 256
theorem wrS_01 (p q : List Int) (i : Nat) (r : Sq.Run) : ∀ j, (wrS p q i r).getD j 0 = 0 ∨ (wrS p q i r).getD j 0 = 1 := by
  unfold wrS
  refine app_01 ?_ (grp_01 _ _)
  split
  · exact cw_01 _ _
  · exact cw_01 _ _
theorem tkS_01 (p q : List Int) (t : Tk) : ∀ j, (tkS p q t).getD j 0 = 0 ∨ (tkS p q t).getD j 0 = 1 := flat_01 _ (fun i => wrS_01 p q i _) _
theorem range_succ_flat {α : Type} (f : Nat → List α) (n : Nat) : (List.range (n + 1)).flatMap f = (List.range n).flatMap f ++ f n := by
  rw [List.range_succ, List.flatMap_append]; simp
theorem descB_01 (X Y : List Nat) : ∀ j, (descB X Y).getD j 0 = 0 ∨ (descB X Y).getD j 0 = 1 := by
  unfold descB
  exact app_01 (app_01 (app_01 (app_01 (grp_01 _ _) (grp_01 _ _)) (grp_01 _ _)) (flat_01 _ (fun k => grp_01 _ 3) _)) (flat_01 _ (rbits_01 _) _)
theorem descB_len {X Y : List Nat} (hX : ∀ x ∈ X ++ Y, x < 16) (hl : (X ++ Y).length ≤ 1000) : (descB X Y).length ≤ 20000 := by
  have hrl := Sq.runs_len (X ++ Y) hX
  have hrx1 := (Sq.runs_ex (X ++ Y).length (X ++ Y) [] (Nat.le_refl _) hX).2.bd
  unfold descB
  simp only [List.length_append, grp_len]
  have l4 := flatb_len (fun k => grp ((c19 (Sq.runs (X ++ Y))).getD k 0) 3) 3 (ordN.take (mny (c19 (Sq.runs (X ++ Y))) 19)) (fun x _ => by rw [grp_len]; exact Nat.le_refl _)
  have l6 := flatb_len (rbits (c19 (Sq.runs (X ++ Y)))) 14 (Sq.runs (X ++ Y)) fun r hr => by
    have h1 := c19_has (Sq.runs (X ++ Y)) (by omega) r hr (hrx1 r hr).1
    have h2 := (hrx1 r hr).2.1
    unfold rbits
    rw [List.length_append, cw_len, grp_len]
    omega
  rw [List.length_take] at l4
  have hol : ordN.length = 19 := rfl
  omega
end Go.Proofs.YtbiocgenbgbfpaaGreat

namespace Sx
open Go
section
variable {P : Program} {n : Nat} {D : List Deferred} {w0 : World} {ov : Ov} {H : List Asn} {d : Option Nat} {T : Nat} {pos : String} {af : Array Edge} {g : Option (Nat × Bool)} {x y : Operand} {v : Value} {tb : Tb P}
theorem E_alloc {e : Nat} {ty : Ty} {sz by' : Nat} {cs : List Value} (hT : tlook tb.l e = some ⟨ty, sz, by', some cs⟩) (hd : dOk d n = true) : OpE (ι := Nat) P n D w0 ov H ⟨d, .alloc e, T, pos, af, g⟩ (fun b => .pointer (some ⟨b, 0, none⟩)) (fun b => blk b cs :: H) :=
  ⟨hd, fun a w ha hw => ⟨w.heap.size, w.alloc (.cells cs.toArray e), by
    obtain ⟨zv, hc, hz⟩ := Tb.run_zero w hT
    simp [execOp, Instr.alloc, newVar, newRow, cellsL_eq, hc, hz], hw.new cs e _ fun w' h' => blk_holds.2 ⟨rfl, e, h'⟩⟩⟩
theorem E_make {t e sz by' s1 b1 : Nat} {ty2 : Ty} {z1 : Option (List Value)} {z : List Value} {K1 K2 : IntKind} {m : Int} (hx : ev ov x = some (.int K1 m)) (hy : ev ov y = some (.int K2 m)) (h : tlook tb.l t = some ⟨.slice e, s1, b1, z1⟩) (h2 : tlook tb.l e = some ⟨ty2, sz, by', some z⟩) (hzl : Nat.beq z.length sz = true) (hsz : Nat.blt 0 sz = true)
    (hb : 0 ≤ m ∧ (by' : Int) * m ≤ 281474976710656 ∧ m ≤ 281474976710656) (hd : dOk d n = true) :
    OpE (ι := Addr) P n D w0 ov H ⟨d, .makeSlice t x y, T, pos, af, g⟩ (fun p => .slice (some p) m.toNat m.toNat) (fun p => vec e sz (.slice (some p) m.toNat m.toNat) m.toNat (rep m.toNat z) :: H) :=
  ⟨hd, fun a w ha hw => by
    have e1 := und_slice h
    obtain ⟨inf, zv, hi, hs1, hs2, hs3, hz⟩ := Tb.inf' h2
    have hsz' : 0 < sz := by rw [Nat.blt_eq] at hsz; exact hsz
    have hzl' := Nat.eq_of_beq_eq_true hzl
    have hr := run_make (P := P) w t e inf zv e1 hi hs3 K1 K2 m m hb.1 (Int.le_refl _) (by rw [hs2]; exact hb.2.1) (by omega)
    rw [cellsL_eq, hz, hs1] at hr
    have hmr := made_rep z (by omega) m.toNat
    rw [hzl'] at hmr
    rw [show madeCells z.toArray (m.toNat * sz) = (rep m.toNat z).toArray from by rw [← hmr]] at hr
    refine ⟨⟨w.heap.size, 0, none⟩, _, by simp only [execOp, ha.ev hx, ha.ev hy, Sem.run_bind, hr, Result.andThen_ok, Sem.run_pure], hw.new (rep m.toNat z) e _ fun w' h' => ?_⟩
    rw [vec_holds]
    refine ⟨by rw [length_rep, hzl'], .inr ⟨_, m.toNat, _, rfl, rfl, h', Nat.le_refl _, ?_, by simp [length_rep, hzl'], by rw [← hzl', ← length_rep]; simp⟩⟩
    unfold maxLen; omega⟩
end
end Sx
namespace Go.Proofs.YtbiocgenbgbfpaaGreat
open Sx Go
set_option linter.unusedVariables false
set_option linter.unusedSimpArgs false
attribute [local irreducible] syA fc tk cds grp cw pack descB rv tkv tkS wrS lln wX wY splitR
section
variable {w0 : World} {H : List Asn}
/-- what the described block ends with -/
def DscR (w0 : World) (H : List Asn) (D : List Int) (e : Ending) (w' : World) : Prop := ∃ q d, e = .returned (.slice q (pack D).length d) ∧ St w0 (vec 5 1 (.slice q (pack D).length d) (pack D).length (ints .u8 (pack D)) :: H) w'
def dscT (T : List Tk) : List Int := grp 1 1 ++ grp 2 2 ++ descB (pX T) (pY T) ++ T.flatMap (tkS (nats (pX T)) (nats (pY T))) ++ cw (nats (pX T)) 256
set_option maxRecDepth 10000 in
set_option maxHeartbeats 8000000 in
theorem Desc3_c (T : List Tk) (hT : T.length ≤ 100000) (hTok : ∀ t ∈ T, TOK t) (qt : Option Addr) (dt : Nat) (bw ba bb : Nat) (q : Option Addr) (d : Nat) (G : List Asn) (gT : Rd w0 G (.slice qt T.length dt) T.length (tkv T)) (gA : IsSet w0 G ba (nats (pX T))) (gB : IsSet w0 G bb (nats (pY T)))
    (gH : ∀ w a q d L, St w0 (a :: wtA bw L q d [ptr ba, ptr bb] :: wrV L q d :: G) w → St w0 (a :: H) w) (h2 : (grp 1 1 ++ grp 2 2 ++ descB (pX T) (pY T)).length ≤ 30000) :
    JS Tryz.prog 6 Tryz.f6.ntmps (DscR w0 H (dscT T)) [] w0 (todo Tryz.f6 [.b, .b, .b, .b, .b, .b, .b, .b, .b, .b, .b, .b]) [(3, .slice qt T.length dt), (12, ptr bw)]
      (wtA bw (grp 1 1 ++ grp 2 2 ++ descB (pX T) (pY T)) q d [ptr ba, ptr bb] :: wrV (grp 1 1 ++ grp 2 2 ++ descB (pX T) (pY T)) q d :: G) := by
  have hdsc : dscT T = grp 1 1 ++ grp 2 2 ++ descB (pX T) (pY T) ++ T.flatMap (tkS (nats (pX T)) (nats (pY T))) ++ cw (nats (pX T)) 256 := rfl
  have o0 : ∀ j, (grp 1 1 ++ grp 2 2 ++ descB (pX T) (pY T)).getD j 0 = 0 ∨ (grp 1 1 ++ grp 2 2 ++ descB (pX T) (pY T)).getD j 0 = 1 := app_01 (app_01 (grp_01 _ _) (grp_01 _ _)) (descB_01 _ _)
  generalize grp 1 1 ++ grp 2 2 ++ descB (pX T) (pY T) = L0 at *
  have hasX : ∀ t ∈ T, HAS (nats (pX T)) (tsy1 t) ((nats (pX T)).getD (tsy1 t) 0).toNat ∧ ((nats (pX T)).getD (tsy1 t) 0).toNat ≤ 15 := fun t ht => by
    have hb0 := (splitR_bd (hTok t ht) 0 (by rw [splitR_len]; split <;> omega)).1
    rw [if_pos rfl] at hb0
    have hb : tsy1 t < 286 := hb0
    refine cut_has (askX T hT) (by rw [wX_len]; exact hb) ?_
    rw [wX_get T hb]
    have : 0 < cX T (tsy1 t) := List.countP_pos_iff.2 ⟨t, ht, by simp⟩
    show 0 < cX T (tsy1 t) + _
    omega
  have hasY : ∀ t ∈ T, (splitR t).length = 2 → HAS (nats (pY T)) (tsy2 t) ((nats (pY T)).getD (tsy2 t) 0).toNat ∧ ((nats (pY T)).getD (tsy2 t) 0).toNat ≤ 15 := fun t ht h2 => by
    have hb0 := (splitR_bd (hTok t ht) 1 (by omega)).1
    rw [if_neg (by omega)] at hb0
    have hb : tsy2 t < 30 := hb0
    refine cut_has (askY T hT) (by rw [wY_len]; exact hb) ?_
    rw [wY_get T hb]
    exact List.countP_pos_iff.2 ⟨t, ht, by simp [h2, tsy2]⟩
  have hasE : HAS (nats (pX T)) (256 : Nat) ((nats (pX T)).getD 256 0).toNat ∧ ((nats (pX T)).getD 256 0).toNat ≤ 15 := cut_has (askX T hT) (by rw [wX_len]; omega) (by rw [wX_get T (by omega), if_pos rfl]; omega)
  have htl : ∀ t ∈ T, (tkS (nats (pX T)) (nats (pY T)) t).length ≤ 56 := fun t ht => by
    unfold tkS
    have := flatb_len (fun i => wrS (nats (pX T)) (nats (pY T)) i ((splitR t).getD i (0, 0, 0))) 28 (List.range (splitR t).length) fun i hi => by
      have hi' := List.mem_range.1 hi
      have hb := splitR_bd (hTok t ht) i hi'
      have hl := splitR_len t
      unfold wrS
      rw [List.length_append, grp_len]
      by_cases h0 : i = 0
      · subst h0
        have := (hasX t ht).2
        rw [if_pos rfl, cw_len]
        unfold tsy1 at this
        omega
      · have h1 : i = 1 := by split at hl <;> omega
        subst h1
        have := (hasY t ht (by split at hl <;> omega)).2
        rw [if_neg h0, cw_len]
        unfold tsy2 at this
        omega
    rw [List.length_range] at this
    have hl := splitR_len t
    split at hl <;> omega
  refine JS_at rfl ?_
  refine JS_seq ?_
  refine JS_draw [0] (by kernel_rfl) (by kernel_rfl) (by decide +kernel) ?_
  repeat (first | (apply gQO; refine QO_v rfl (V_buildA (tb := tb) rfl rfl rfl rfl rfl) ?_) | (first | (refine sx ?_; try intro _)))
  refine QO_e (E_alloc (tb := tb) rfl rfl) rfl (.inr fun b w hw => hw.drop) ?_
  intro bs
  repeat (first | (apply gJR; first | (refine sx ?_; try intro _)) | (apply gJO; first | (refine sx ?_; try intro _)) | (apply gQR; first | (refine sx ?_; try intro _)) | (apply gQO; first | (refine sx ?_; try intro _)) | apply JS_seq | apply JS_region)
  refine JS_block ?_
  have gBs : ∀ L q d, blk bs [ptr ba, ptr bb] ∈ wtA bw L q d [ptr ba, ptr bb] :: wrV L q d :: blk bs [ptr ba, ptr bb] :: G := fun L q d => List.Mem.tail _ (List.Mem.tail _ (List.Mem.head _))
  have gT2 : Rd w0 (blk bs [ptr ba, ptr bb] :: G) (.slice qt T.length dt) T.length (tkv T) := Rd_weak gT fun w hw => hw.drop
  have gA2 := gA.sub ((List.Sublist.refl G).cons (blk bs [ptr ba, ptr bb]))
  have gB2 := gB.sub ((List.Sublist.refl G).cons (blk bs [ptr ba, ptr bb]))
  have gH2 : ∀ w a q d L, St w0 (a :: wtA bw L q d [ptr ba, ptr bb] :: wrV L q d :: blk bs [ptr ba, ptr bb] :: G) w → St w0 (a :: H) w := fun w a q d L hw => gH w a q d L (St.sub (by repeat (first | exact List.Sublist.refl _ | apply List.Sublist.cons_cons | apply List.Sublist.cons)) hw)
  refine JS_H (H' := wtA bw L0 q d [ptr ba, ptr bb] :: wrV L0 q d :: blk bs [ptr ba, ptr bb] :: G) (fun w hw => hw.perm (by (repeat (first | exact List.Perm.refl _ | refine List.Perm.cons _ ?_ | refine (List.perm_middle (l₁ := [_])).trans (List.Perm.cons _ ?_) | refine (List.perm_middle (l₁ := [_, _])).trans (List.Perm.cons _ ?_) | refine (List.perm_middle (l₁ := [_, _, _])).trans (List.Perm.cons _ ?_) | refine (List.perm_middle (l₁ := [_, _, _, _])).trans (List.Perm.cons _ ?_) | refine (List.perm_middle (l₁ := [_, _, _, _, _])).trans (List.Perm.cons _ ?_) | refine (List.perm_middle (l₁ := [_, _, _, _, _, _])).trans (List.Perm.cons _ ?_) | refine (List.perm_middle (l₁ := [_, _, _, _, _, _, _])).trans (List.Perm.cons _ ?_) | refine (List.perm_middle (l₁ := [_, _, _, _, _, _, _, _])).trans (List.Perm.cons _ ?_))))) ?_
  have gBs2 : blk bs [ptr ba, ptr bb] ∈ blk bs [ptr ba, ptr bb] :: G := List.Mem.head _
  clear gBs gT gA gB gH
  generalize blk bs [ptr ba, ptr bb] :: G = G at *
  refine JS_loop3 (fun (i : Nat) (q : Option Addr) (d : Nat) => [(12, ptr bw), (13, ptr bs), (101, .slice qt T.length dt), (102, .int .i64 T.length), (103, .int .i64 i)])
    (fun i q d => wtA bw (L0 ++ (T.take i).flatMap (tkS (nats (pX T)) (nats (pY T)))) q d [ptr ba, ptr bb] :: wrV (L0 ++ (T.take i).flatMap (tkS (nats (pX T)) (nats (pY T)))) q d :: G) (fun i _ _ => i ≤ T.length) (fun i _ _ => T.length - i) 0 q d (Nat.zero_le _) (by repeat (first | exact trivial | refine ⟨rfl, ?_⟩ | refine ⟨lookI rfl (by omega), ?_⟩))
    (fun w hw => by rw [List.take_zero, List.flatMap_nil, List.append_nil]; exact hw) ?_
  intro i q d hi again
  have o1 := app_01 o0 (flat_01 (tkS (nats (pX T)) (nats (pY T))) (tkS_01 _ _) (T.take i))
  have l1 := flatb_len (tkS (nats (pX T)) (nats (pY T))) 56 (T.take i) fun t ht => htl t (List.mem_of_mem_take ht)
  rw [List.length_take] at l1
  have l2 : (L0 ++ (T.take i).flatMap (tkS (nats (pX T)) (nats (pY T)))).length ≤ 30000 + 5600000 := by rw [List.length_append]; omega
  by_cases hil : i < T.length
  · have hat := tkv_at hil
    have htk := flat_take (tkS (nats (pX T)) (nats (pY T))) hil
    have hti := hTok _ (List.getElem_mem hil)
    have hx := hasX _ (List.getElem_mem hil)
    have hy := hasY _ (List.getElem_mem hil)
    have hsb := splitR_bd hti
    have hsl := splitR_len T[i]
    obtain ⟨t, ht⟩ : ∃ t, T[i] = t := ⟨_, rfl⟩
    rw [ht] at hat htk hti hx hy hsb hsl
    generalize hL1 : L0 ++ (T.take i).flatMap (tkS (nats (pX T)) (nats (pY T))) = L1 at *
    have hsplit := fun {HH : List Asn} (w : World) (hw : St w0 HH w) => Split_c t hti w hw
    have htkS : tkS (nats (pX T)) (nats (pY T)) t = (List.range (splitR t).length).flatMap fun i => wrS (nats (pX T)) (nats (pY T)) i ((splitR t).getD i (0, 0, 0)) := by unfold tkS; rfl
    unfold tsy1 at hx
    unfold tsy2 at hy
    generalize splitR t = S at *
    repeat (first | (apply gJO; first | refine JO_v (oL (V_loadCA (tb := tb) rfl (rd2 gT2) rfl rfl rfl (by decide) hat rfl)) ?_ | refine JO_v (V_index (tb := tb) rfl rfl rfl rfl (Rd.sl (rd2 gT2)) (by omega) (by (try simp only [tn, tna, tn1, tn2, tn3, tn4, tnd16, tnd8, Int.reduceToNat]); first | exact Nat.mul_one _ | exact rfl) rfl) ?_) | (first | (refine sx ?_; try intro _)))
    rename_i bt
    refine JO_call Tryz.call16 rfl rfl fun w hw => (hsplit w hw).mono ?_
    rintro e w' ⟨qs, ds, rfl, hw'⟩
    refine ⟨_, rfl, _, hw', ?_⟩
    clear hw' hw w w' hsplit
    repeat (first | (apply gJR; first | (refine sx ?_; try intro _)) | (apply gJO; first | (refine sx ?_; try intro _)) | apply JS_seq | apply JS_region)
    refine JS_block ?_
    have hS : S.length ≤ 2 := by split at hsl <;> omega
    refine JS_loop3 (fun (j : Nat) (q : Option Addr) (d : Nat) => [(12, ptr bw), (13, ptr bs), (101, .slice qt T.length dt), (102, .int .i64 T.length), (103, .int .i64 i), (108, .slice qs S.length ds), (109, .int .i64 S.length), (110, .int .i64 j)])
      (fun j q d => wtA bw (L1 ++ (List.range j).flatMap fun i => wrS (nats (pX T)) (nats (pY T)) i (S.getD i (0, 0, 0))) q d [ptr ba, ptr bb] :: wrV (L1 ++ (List.range j).flatMap fun i => wrS (nats (pX T)) (nats (pY T)) i (S.getD i (0, 0, 0))) q d :: vec 48 3 (.slice qs S.length ds) S.length (rv S) :: G)
      (fun j _ _ => j ≤ S.length) (fun j _ _ => S.length - j) 0 q d (Nat.zero_le _) (by repeat (first | exact trivial | refine ⟨rfl, ?_⟩ | refine ⟨lookI rfl (by omega), ?_⟩))
      (fun w hw => by
        rw [List.range_zero, List.flatMap_nil, List.append_nil]
        exact St.sub (by repeat (first | exact List.Sublist.refl _ | apply List.Sublist.cons_cons | apply List.Sublist.cons)) (hw.perm (show List.Perm _ (wtA bw L1 q d [ptr ba, ptr bb] :: wrV L1 q d :: vec 48 3 (.slice qs S.length ds) S.length (rv S) :: blk bt [.int .u8 t.1, .int .i64 t.2.1, .int .i64 t.2.2] :: G) by (repeat (first | exact List.Perm.refl _ | refine List.Perm.cons _ ?_ | refine (List.perm_middle (l₁ := [_])).trans (List.Perm.cons _ ?_) | refine (List.perm_middle (l₁ := [_, _])).trans (List.Perm.cons _ ?_) | refine (List.perm_middle (l₁ := [_, _, _])).trans (List.Perm.cons _ ?_) | refine (List.perm_middle (l₁ := [_, _, _, _])).trans (List.Perm.cons _ ?_) | refine (List.perm_middle (l₁ := [_, _, _, _, _])).trans (List.Perm.cons _ ?_) | refine (List.perm_middle (l₁ := [_, _, _, _, _, _])).trans (List.Perm.cons _ ?_) | refine (List.perm_middle (l₁ := [_, _, _, _, _, _, _])).trans (List.Perm.cons _ ?_) | refine (List.perm_middle (l₁ := [_, _, _, _, _, _, _, _])).trans (List.Perm.cons _ ?_)))))) ?_
    intro j q d hj again2
    by_cases hjs : j < S.length
    · obtain ⟨k1, k2, k3⟩ := hsb j hjs
      have hat2 := rv_at hjs
      have hgj : S[j] = S.getD j (0, 0, 0) := by rw [List.getD_eq_getElem?_getD, List.getElem?_eq_getElem hjs]; rfl
      rw [hgj] at hat2
      obtain ⟨bj, Bj, n, q1, q2, q3, q4, q5⟩ : ∃ bj Bj n, nth [ptr ba, ptr bb] (0 + ((j : Nat) : Int).toNat * 1) = some (ptr bj) ∧ IsSet w0 G bj Bj ∧ HAS Bj ((S.getD j (0, 0, 0)).1 : Nat) n ∧ n ≤ 15 ∧ wrS (nats (pX T)) (nats (pY T)) j (S.getD j (0, 0, 0)) = cw Bj (S.getD j (0, 0, 0)).1 ++ grp (S.getD j (0, 0, 0)).2.1 (S.getD j (0, 0, 0)).2.2 := by
        by_cases h0 : j = 0
        · subst h0
          exact ⟨ba, nats (pX T), _, rfl, gA2, hx.1, hx.2, by unfold wrS; rw [if_pos rfl]⟩
        · obtain rfl : j = 1 := by omega
          obtain ⟨y1, y2⟩ := hy (by omega)
          exact ⟨bb, nats (pY T), _, rfl, gB2, y1, y2, by unfold wrS; rw [if_neg (by omega)]⟩
      have hrg := range_succ_flat (fun i => wrS (nats (pX T)) (nats (pY T)) i (S.getD i (0, 0, 0))) j
      rw [q5] at hrg
      have o2 := app_01 o1 (flat_01 (fun i => wrS (nats (pX T)) (nats (pY T)) i (S.getD i (0, 0, 0))) (fun i => wrS_01 _ _ i _) (List.range j))
      have l3 : ((List.range j).flatMap fun i => wrS (nats (pX T)) (nats (pY T)) i (S.getD i (0, 0, 0))).length ≤ 56 := by
        have e1 := htl t (by rw [← ht]; exact List.getElem_mem hil)
        rw [htkS, show S.length = j + (S.length - j) by omega, List.range_add, List.flatMap_append, List.length_append] at e1
        omega
      have l4 : (L1 ++ (List.range j).flatMap fun i => wrS (nats (pX T)) (nats (pY T)) i (S.getD i (0, 0, 0))).length ≤ 6000000 := by rw [List.length_append]; omega
      generalize hL2 : (L1 ++ (List.range j).flatMap fun i => wrS (nats (pX T)) (nats (pY T)) i (S.getD i (0, 0, 0))) = L2 at *
      obtain ⟨r, hr⟩ : ∃ r, S.getD j (0, 0, 0) = r := ⟨_, rfl⟩
      rw [hr] at hat2 k2 k3 q3 hrg
      obtain ⟨rs, rr, rb⟩ := r
      simp only [] at hat2 k2 k3 q3 hrg
      have hpw : (2 : Nat) ^ rb ≤ 2 ^ 13 := Nat.pow_le_pow_right (by omega) k2
      have hpc : ((2 ^ rb : Nat) : Int) = 2 ^ rb := by simp
      have n1 : 0 ≤ (rr : Int) ∧ (rr : Int) < 2 ^ rb := by rw [← hpc]; omega
      have e1 : IntKind.u32.wrap (rr : Int) = (rr : Int) := wu32 (by omega)
      have o3 := app_01 o2 (cw_01 Bj rs)
      obtain ⟨h1', h2', h3', h4'⟩ := q3
      have q3 : HAS Bj rs n := ⟨h1', h2', h3', h4'⟩
      have hcl : (cw Bj rs).length ≤ 15 := by rw [cw_len]; rw [Int.toNat_natCast] at h4'; rw [h4']; omega
      have gBs3 : blk bs [ptr ba, ptr bb] ∈ wtA bw L2 q d [ptr ba, ptr bb] :: wrV L2 q d :: vec 48 3 (.slice qs S.length ds) S.length (rv S) :: G := List.Mem.tail _ (List.Mem.tail _ (List.Mem.tail _ gBs2))
      repeat ((fail_if_success refine gIdR 29 ?_); first | (apply gJO; first | refine JO_v (oL (V_loadCA (tb := tb) rfl (vec_rd (e := 48) (by repeat (first | apply List.Mem.head | apply List.Mem.tail))) rfl rfl rfl (by decide) hat2 rfl)) ?_) | (first | (refine sx ?_; try intro _)))
      rename_i br
      refine JS_H (H' := wtA bw L2 q d [ptr ba, ptr bb] :: wrV L2 q d :: blk br [.int .i64 rs, .int .i64 rr, .int .i64 rb] :: vec 48 3 (.slice qs S.length ds) S.length (rv S) :: G) (fun w hw => hw.perm (by (repeat (first | exact List.Perm.refl _ | refine List.Perm.cons _ ?_ | refine (List.perm_middle (l₁ := [_])).trans (List.Perm.cons _ ?_) | refine (List.perm_middle (l₁ := [_, _])).trans (List.Perm.cons _ ?_) | refine (List.perm_middle (l₁ := [_, _, _])).trans (List.Perm.cons _ ?_) | refine (List.perm_middle (l₁ := [_, _, _, _])).trans (List.Perm.cons _ ?_) | refine (List.perm_middle (l₁ := [_, _, _, _, _])).trans (List.Perm.cons _ ?_) | refine (List.perm_middle (l₁ := [_, _, _, _, _, _])).trans (List.Perm.cons _ ?_) | refine (List.perm_middle (l₁ := [_, _, _, _, _, _, _])).trans (List.Perm.cons _ ?_) | refine (List.perm_middle (l₁ := [_, _, _, _, _, _, _, _])).trans (List.Perm.cons _ ?_))))) ?_
      have gBs4 : blk bs [ptr ba, ptr bb] ∈ wtA bw L2 q d [ptr ba, ptr bb] :: wrV L2 q d :: blk br [.int .i64 rs, .int .i64 rr, .int .i64 rb] :: vec 48 3 (.slice qs S.length ds) S.length (rv S) :: G := List.Mem.tail _ (List.Mem.tail _ (List.Mem.tail _ (List.Mem.tail _ gBs2)))
      repeat (first | (apply gQO; refine QO_v rfl (V_load (tb := tb) rfl gBs4 rfl rfl q1 rfl) ?_) | (first | (refine sx ?_; try intro _)))
      refine QO_call Tryz.call22 rfl rfl fun w hw => (WriteT_c bj bw Bj L2 q d (q2.sub (by repeat (first | exact List.Sublist.refl _ | apply List.Sublist.cons))) rs n q3 o2 (by omega) w hw).mono ?_
      rintro e w' ⟨rfl, qe, de, hw'⟩
      refine ⟨_, rfl, _, hw', .inr rfl, ?_⟩
      clear hw' hw w w'
      repeat (first | (apply gQO; refine QO_v rfl (oCv (V_conv (tb := tb) rfl rfl rfl e1 rfl)) ?_) | (first | (refine sx ?_; try intro _)))
      refine QO_call Tryz.call20 rfl rfl fun w hw => (WGroupT_c bw _ qe de _ rb (by omega) n1 (by omega) o3 (by rw [List.length_append]; omega) w hw).mono ?_
      rintro e w' ⟨rfl, qf, df, hw'⟩
      refine ⟨_, rfl, _, hw', .inr rfl, ?_⟩
      clear hw' hw w w'
      repeat (first | (refine sx ?_; try intro _))
      refine JS_again3 again2 (j + 1) qf df (by omega) (by omega) (by repeat (first | exact trivial | refine ⟨rfl, ?_⟩ | refine ⟨lookI rfl (by omega), ?_⟩)) (fun w hw => ?_)
      rw [hrg, ← List.append_assoc, hL2, ← List.append_assoc]
      exact St.sub (by repeat (first | exact List.Sublist.refl _ | apply List.Sublist.cons_cons | apply List.Sublist.cons)) hw
    obtain rfl : j = S.length := by omega
    clear again2
    rw [← htkS]
    repeat (first | (refine sx ?_; try intro _))
    refine JS_again3 again (i + 1) q d (by omega) (by omega) (by repeat (first | exact trivial | refine ⟨rfl, ?_⟩ | refine ⟨lookI rfl (by omega), ?_⟩)) (fun w hw => ?_)
    rw [htk, ← List.append_assoc, hL1]
    exact St.sub (by repeat (first | exact List.Sublist.refl _ | apply List.Sublist.cons_cons | apply List.Sublist.cons)) hw
  obtain rfl : i = T.length := by omega
  clear again
  rw [List.take_length] at o1 l2 ⊢
  have hbytes : dscT T = L0 ++ T.flatMap (tkS (nats (pX T)) (nats (pY T))) ++ cw (nats (pX T)) 256 := hdsc
  have hce : (cw (nats (pX T)) 256).length ≤ 15 := by rw [cw_len]; exact hasE.2
  generalize L0 ++ T.flatMap (tkS (nats (pX T)) (nats (pY T))) = L5 at *
  have o5 := app_01 o1 (cw_01 (nats (pX T)) 256)
  repeat (first | (refine sx ?_; try intro _))
  refine QO_call Tryz.call22 rfl rfl fun w hw => (WriteT_c ba bw (nats (pX T)) L5 q d gA2 256 _ hasE.1 o1 (by omega) w hw).mono ?_
  rintro e w' ⟨rfl, qe, de, hw'⟩
  refine ⟨_, rfl, _, hw', .inr rfl, ?_⟩
  clear hw' hw w w'
  rw [← hbytes] at o5 ⊢
  repeat (first | (refine sx ?_; try intro _))
  refine JO_call Tryz.call23 rfl rfl fun w hw => (WBytesT_c bw (pack (dscT T)).length (dscT T) qe de o5 (by rw [hbytes, List.length_append]; omega) (pack_len _).symm w hw).mono ?_
  rintro e w' ⟨q4, d4, rfl, hw'⟩
  refine ⟨_, rfl, _, hw', ?_⟩
  clear hw' hw w w'
  repeat (first | (refine sx ?_; try intro _))
  exact JS_ret Tryz.func6 rfl rfl fun w hw => ⟨q4, d4, rfl, gH2 _ _ _ _ _ hw⟩
end
end Go.Proofs.YtbiocgenbgbfpaaGreat

namespace Sx
open Go
section
variable {P : Program} {n : Nat} {D : List Deferred} {w0 : World} {ov : Ov} {H : List Asn} {d : Option Nat} {T : Nat} {pos : String} {af : Array Edge} {g : Option (Nat × Bool)} {x y : Operand} {v : Value} {tb : Tb P}
theorem V_cap {m : Nat} {base : Option Addr} {c t e s1 b1 : Nat} {z1 : Option (List Value)} (hx : ev ov x = some (.slice base m c)) (h : tlook tb.l t = some ⟨.slice e, s1, b1, z1⟩) (hd : dOk d n = true) : OpV P n D w0 ov H ⟨d, .call ⟨.builtin .cap, #[x], #[t]⟩, T, pos, af, g⟩ (.int .i64 (c : Int)) :=
  by
  unfold OpV
  exact ⟨hd, (fun a w ha _ => by
    simp [execOp, resolve, invoke, builtin, Builtin.cap_, ha.ev hx, run_underlying (und_slice h), goInt])⟩
/-- the nil slice made longer by zeros: a new row -/
theorem E_appZ {t tn e sz by' s1 b1 s2 b2 : Nat} {ty2 : Ty} {K : IntKind} {z1 z2 : Option (List Value)} {z : List Value} {m : Nat} (hx : ev ov x = some (.slice none 0 0)) (hy : ev ov y = some (.int K m)) (h : tlook tb.l t = some ⟨.slice e, s1, b1, z1⟩) (hn : tlook tb.l tn = some ⟨.int K, s2, b2, z2⟩) (h2 : tlook tb.l e = some ⟨ty2, sz, by', some z⟩) (hzl : Nat.beq z.length sz = true) (hsz : Nat.blt 0 sz = true)
    (hb : 0 < m ∧ m * by' ≤ 140737488355328 ∧ m ≤ 140737488355328) (hd : dOk d n = true) :
    OpE (ι := Addr × Nat) P n D w0 ov H ⟨d, .call ⟨.builtin .append, #[x, y], #[t, tn]⟩, T, pos, af, g⟩ (fun pc => .slice (some pc.1) m pc.2) (fun pc => vec e sz (.slice (some pc.1) 0 pc.2) 0 [] :: H) :=
  ⟨hd, fun A w ha hw => by
    obtain ⟨i, zv, hi, e1, e2, e3, e4⟩ := Tb.inf' h2
    have hsz' : 0 < sz := by rw [Nat.blt_eq] at hsz; exact hsz
    have hzl' := Nat.eq_of_beq_eq_true hzl
    have hr := Lib.run_append_nil_zeros (P := P) w t tn T e i zv K K (und_slice h) (und_int hn) hi e3 m hb.1 (by omega) (by omega) (by rw [e2]; omega)
    have hge := grownCap_ge w m 0 e
    have hle := grownCap_le_maxLen w m 0 e (by unfold maxLen; omega)
    have hzs : zv.cells.size = sz := by rw [cellsL_eq, e4]; simpa using hzl'
    obtain ⟨A', hA⟩ : ∃ A', Builtin.zeroCells zv.cells m ++ Builtin.zeroCells zv.cells (grownCap w m 0 e - m) = A' := ⟨_, rfl⟩
    have hAs : A'.size = grownCap w m 0 e * sz := by
      rw [← hA, Array.size_append, size_zeroCells, size_zeroCells, hzs, ← Nat.add_mul]
      congr 1; omega
    rw [hA, show A' = A'.toList.toArray by simp] at hr
    refine ⟨(⟨w.heap.size, 0, none⟩, grownCap w m 0 e), _, by simp only [execOp, resolve, invoke, builtin, Sem.run_bind, Sem.run_pure, Result.andThen_ok, List.map_toArray, List.map_cons, List.map_nil, ha.ev hx, ha.ev hy, hr], hw.drew.new A'.toList e _ fun w' h' => ?_⟩
    rw [vec_holds]
    exact ⟨by simp, .inr ⟨_, grownCap w m 0 e, _, rfl, rfl, h', by omega, hle, by simpa using hAs, by simp⟩⟩⟩
end
end Sx
namespace Go.Proofs.YtbiocgenbgbfpaaGreat
open Sx Go
set_option linter.unusedVariables false
set_option linter.unusedSimpArgs false
/-! ## slices.Concat -/
section
variable {w0 : World} {H : List Asn}
set_option maxRecDepth 10000 in
theorem Grow_c (m : Nat) (h1 : 0 < m) (h2 : m ≤ 100000000000) (w : World) (hw : St w0 H w) :
    Calls Tryz.prog 85 #[.slice none 0 0, .int .i64 m] w fun e w' => ∃ q d, e = .returned (.slice q 0 d) ∧ St w0 (vec 5 1 (.slice q 0 d) 0 [] :: H) w' := by
  refine enter (vs := [.slice none 0 0, .int .i64 m]) Tryz.func85 rfl rfl rfl hw ?_
  clear hw w
  repeat (first | (apply gJO; refine JO_v (V_cap (tb := tb) rfl rfl rfl) ?_) | (apply gJO; refine JO_v (V_slice (tb := tb) (lo := 0) (hi := 0) rfl rfl rfl rfl rfl (by rfl) (by rfl) (fun w hw => ⟨Nat.le_refl _, Nat.zero_le _⟩) rfl) ?_) | (apply gJO; refine JO_e (E_appZ (tb := tb) (m := m) rfl rfl rfl rfl rfl rfl rfl (by omega) rfl) ?_; intro _) | first | (refine sx ?_; try intro _))
  rename_i pc
  exact JS_ret Tryz.func85 rfl rfl fun w hw => ⟨some pc.1, pc.2, by rw [subB_0]; rfl, hw⟩
def cat (X : Nat → List Int) : Nat → List Int
  | 0 => []
  | i + 1 => cat X i ++ X i
theorem cat_le (X : Nat → List Int) (i : Nat) : ∀ k, i ≤ k → (cat X i).length ≤ (cat X k).length
  | 0, h => by obtain rfl : i = 0 := by omega
               exact Nat.le_refl _
  | k + 1, h => by
    rcases Nat.lt_or_ge i (k + 1) with h' | h'
    · have := cat_le X i k (by omega)
      rw [cat, List.length_append]; omega
    · obtain rfl : i = k + 1 := by omega
      exact Nat.le_refl _
set_option maxRecDepth 10000 in
set_option maxHeartbeats 1000000 in
theorem Concat_c (p : Option Addr) (c k : Nat) (V : List Value) (X : Nat → List Int) (q : Nat → Option Addr) (d : Nat → Nat) (hr : Rd w0 H (.slice p k c) k V) (hV : ∀ i, i < k → V[i]? = some (.slice (q i) (X i).length (d i))) (hX : ∀ i, i < k → Rd w0 H (.slice (q i) (X i).length (d i)) (X i).length (ints .u8 (X i)))
    (hpos : 0 < (cat X k).length) (hb : (cat X k).length ≤ 100000000) (hk : k ≤ 100000) (w : World) (hw : St w0 H w) :
    Calls Tryz.prog 41 #[.slice p k c] w fun e w' => ∃ q d, e = .returned (.slice q (cat X k).length d) ∧ St w0 (vec 5 1 (.slice q (cat X k).length d) (cat X k).length (ints .u8 (cat X k)) :: H) w' := by
  refine enter (vs := [.slice p k c]) Tryz.func41 rfl rfl rfl hw ?_
  clear hw w
  repeat (first | (refine sx ?_; try intro _))
  refine JS_loop1 (fun (i : Nat) => [(0, .slice p k c), (3, .int .i64 (cat X i).length), (9, .slice p k c), (10, .int .i64 k), (11, .int .i64 i)]) (fun _ => H) (fun i => i ≤ k) (fun i => k - i) 0 (Nat.zero_le _) (by repeat (first | exact trivial | refine ⟨rfl, ?_⟩ | refine ⟨lookI rfl (by omega), ?_⟩)) (fun w h => h) ?_
  intro i hi again
  by_cases hlt : i < k
  · have g := hV i hlt
    have g' : V[i * 1]? = some (.slice (q i) (X i).length (d i)) := by rw [Nat.mul_one]; exact g
    have hle := cat_le X (i + 1) k (by omega)
    have hcl : (cat X (i + 1)).length = (cat X i).length + (X i).length := by rw [cat, List.length_append]
    repeat (first | (apply gJO; first | refine JO_v (oL (V_loadC (tb := tb) rfl hr rfl rfl g rfl)) ?_ | refine JO_v (oL (V_loadC (tb := tb) rfl hr rfl rfl g' rfl)) ?_) | (first | (refine sx ?_; try intro _)))
    exact JS_again1 again (i + 1) (by omega) (by omega) (by rw [hcl]; exact (by repeat (first | exact trivial | refine ⟨rfl, ?_⟩ | refine ⟨lookI rfl (by omega), ?_⟩))) (fun w hw => hw)
  obtain rfl : i = k := by omega
  clear again
  repeat (first | (refine sx ?_; try intro _))
  refine JO_call Tryz.call85 rfl rfl fun w hw => (Grow_c (cat X i).length hpos (by omega) w hw).mono ?_
  rintro e w' ⟨q0, d0, rfl, hw'⟩
  refine ⟨_, rfl, _, hw', ?_⟩
  clear hw' hw w w'
  repeat (first | (refine sx ?_; try intro _))
  refine JS_loop3 (fun (j : Nat) (q1 : Option Addr) (d1 : Nat) => [(6, .slice q1 (cat X j).length d1), (25, .slice p i c), (26, .int .i64 i), (27, .int .i64 j)]) (fun j q1 d1 => vec 5 1 (.slice q1 (cat X j).length d1) (cat X j).length (ints .u8 (cat X j)) :: H) (fun j _ _ => j ≤ i) (fun j _ _ => i - j) 0 q0 d0 (Nat.zero_le _) (by repeat (first | exact trivial | refine ⟨rfl, ?_⟩ | refine ⟨lookI rfl (by omega), ?_⟩)) (fun w h => h) ?_
  intro j q1 d1 hj again
  by_cases hlt : j < i
  · have g := hV j hlt
    have g' : V[j * 1]? = some (.slice (q j) (X j).length (d j)) := by rw [Nat.mul_one]; exact g
    have hXj := hX j hlt
    have hle := cat_le X (j + 1) i (by omega)
    have hcl : (cat X (j + 1)).length = (cat X j).length + (X j).length := by rw [cat, List.length_append]
    repeat (first | (apply gJO; first | refine JO_v (oL (V_loadC (tb := tb) rfl (Rd_weak hr fun w hw => St.sub (by repeat (first | exact List.Sublist.refl _ | apply List.Sublist.cons_cons | apply List.Sublist.cons)) hw) rfl rfl g rfl)) ?_ | refine JO_v (oL (V_loadC (tb := tb) rfl (Rd_weak hr fun w hw => St.sub (by repeat (first | exact List.Sublist.refl _ | apply List.Sublist.cons_cons | apply List.Sublist.cons)) hw) rfl rfl g' rfl)) ?_ | (refine JO_app (tb := tb) rfl rfl rfl rfl rfl rfl (by repeat (first | exact Sel.here _ _ | apply Sel.there)) (by first | exact vec_rd (by repeat (first | apply List.Mem.head | apply List.Mem.tail)) | assumption | exact ArgRd.rd (by assumption) _ | (apply Rd_weak; assumption; intro _ hx; exact St.sub (by repeat (first | exact List.Sublist.refl _ | apply List.Sublist.cons_cons | apply List.Sublist.cons)) hx)) (by simp only [ints_len, List.length_cons, List.length_nil]; first | omega | rfl) (by first | exact ints_one | (repeat (first | exact trivial | refine ⟨rfl, ?_⟩))) (by omega) rfl ?_; intro _ _)) | (first | (refine sx ?_; try intro _)))
    exact JS_again3 again (j + 1) _ _ (by omega) (by omega) (by rw [hcl]; exact (by repeat (first | exact trivial | refine ⟨rfl, ?_⟩ | refine ⟨lookI rfl (by omega), ?_⟩))) (fun w hw => by rw [hcl, cat, ← ints_app]; exact St.sub (by repeat (first | exact List.Sublist.refl _ | apply List.Sublist.cons_cons | apply List.Sublist.cons)) hw)
  obtain rfl : j = i := by omega
  clear again
  repeat (first | (refine sx ?_; try intro _))
  exact JS_ret Tryz.func41 rfl rfl fun w hw => ⟨_, _, rfl, hw⟩
end
end Go.Proofs.YtbiocgenbgbfpaaGreat

namespace Go.Proofs.YtbiocgenbgbfpaaGreat
open Sx Go
set_option linter.unusedVariables false
set_option linter.unusedSimpArgs false
attribute [local irreducible] syA fc tk cds
theorem bval_take (c : Int) (n : Nat) (hc : 0 ≤ c ∧ c < 2 ^ n) : ∀ k, k ≤ n → bval (fun j => (bms c n).getD j 0) k = c / 2 ^ (n - k) := by
  intro k
  induction k with
  | zero => intro _; rw [Nat.sub_zero]; exact (Int.ediv_eq_zero_of_lt hc.1 hc.2).symm
  | succ k ih =>
    intro hk
    have h1 := ih (by omega)
    have h2 : (bms c n).getD k 0 = c / 2 ^ (n - 1 - k) % 2 := by simp [bms, List.getD_eq_getElem?_getD, show k < n by omega]
    rw [show n - k = (n - (k + 1)) + 1 by omega, div_step] at h1
    rw [show n - 1 - k = n - (k + 1) by omega] at h2
    show 2 * bval (fun j => (bms c n).getD j 0) k + (bms c n).getD k 0 = _
    omega
end Go.Proofs.YtbiocgenbgbfpaaGreat

namespace Go.Proofs.YtbiocgenbgbfpaaGreat
open Sx Go
set_option linter.unusedVariables false
set_option linter.unusedSimpArgs false
attribute [local irreducible] syA fc tk cds
/-! ## another limit -/
/-- steps under limits: one that goes on, goes on under each limit that has room, and fails under a lesser one -/
def PLg (f : Nat → Nat → List Int → Stp) : Prop := ∀ lim lim' a o a' o', f lim a o = .go a' o' → o.length ≤ o'.length ∧ (o'.length ≤ lim' → f lim' a o = .go a' o') ∧ (o.length ≤ lim' → lim' < o'.length → f lim' a o = .err 64)
def PLs (f : Nat → Nat → List Int → Stp) : Prop := ∀ lim lim' a o a' o', f lim a o = .stop a' o' → o.length ≤ o'.length ∧ (o'.length ≤ lim' → f lim' a o = .stop a' o') ∧ (o.length ≤ lim' → lim' < o'.length → f lim' a o = .err 64)
def PLr (g : Nat → Nat → List Int → Res) : Prop := ∀ lim lim' a o a' o', g lim a o = .ok a' o' → o.length ≤ o'.length ∧ (o'.length ≤ lim' → g lim' a o = .ok a' o') ∧ (o.length ≤ lim' → lim' < o'.length → g lim' a o = .err 64)
end Go.Proofs.YtbiocgenbgbfpaaGreat

namespace Go.Proofs.YtbiocgenbgbfpaaGreat
open Sx Go
set_option linter.unusedVariables false
set_option linter.unusedSimpArgs false
attribute [local irreducible] syA fc tk cds
/-! ## an error is told by a number that is not 0 -/
theorem RD_total (L : List Int) (b : Nat → Int) (left : Nat) : ∃ i u r, RD L b left i u r := by
  by_cases h : ∃ j, DEC L b left j
  · obtain ⟨j, hj⟩ := h
    obtain ⟨n, h1, h2, h3, h4⟩ := hj
    exact ⟨j, n, 0, .inl ⟨j, rfl, rfl, ⟨n, h1, h2, h3, h4⟩, h3⟩⟩
  · have hno : ∀ j, ¬ DEC L b left j := fun j hj => h ⟨j, hj⟩
    by_cases h1 : sm L = 0
    · exact ⟨0, 0, 62, .inr ⟨hno, rfl, .inl ⟨h1, rfl, rfl⟩⟩⟩
    · by_cases h2 : tk L = 32768
      · exact ⟨0, left, 20, .inr ⟨hno, rfl, .inr (.inl ⟨h1, h2, rfl, rfl⟩)⟩⟩
      · rcases Nat.eq_zero_or_pos left with h3 | h3
        · exact ⟨0, 0, 20, .inr ⟨hno, rfl, .inr (.inr ⟨h1, h2, .inl ⟨h3, rfl, rfl⟩⟩)⟩⟩
        · exact ⟨0, 1, 62, .inr ⟨hno, rfl, .inr (.inr ⟨h1, h2, .inr ⟨h3, rfl, rfl⟩⟩)⟩⟩
/-- what a symbol's reading tells -/
theorem symS_RD (bt : Nat → Int) (N : Nat) (L : List Int) (a : Nat) : ∃ i u r, RD L (fun j => bt (a + j)) (N - a) i u r ∧ symS bt N L a = if r = 0 then .ok i (a + u) else .err r := by
  have hex : ∃ x : Int × Nat × Int, RD L (fun j => bt (a + j)) (N - a) x.1 x.2.1 x.2.2 := by
    obtain ⟨i, u, r, h⟩ := RD_total L (fun j => bt (a + j)) (N - a)
    exact ⟨(i, u, r), h⟩
  refine ⟨hex.choose.1, hex.choose.2.1, hex.choose.2.2, hex.choose_spec, ?_⟩
  unfold symS
  rw [dif_pos hex]
theorem symS_ne {bt : Nat → Int} {N a : Nat} {L : List Int} {e : Int} (h : symS bt N L a = .err e) : e ≠ 0 := by
  obtain ⟨i, u, r, _, h2⟩ := symS_RD bt N L a
  rw [h2] at h
  split at h
  · cases h
  · rename_i hr
    simp only [Sy.err.injEq] at h
    rw [← h]; exact hr
theorem symS_gt {bt : Nat → Int} {N a a1 : Nat} {L : List Int} {i : Int} (h : symS bt N L a = .ok i a1) (ha : a ≤ N) : a < a1 ∧ a1 ≤ N ∧ 0 ≤ i ∧ i < L.length := by
  obtain ⟨i', u, r, h1, h2⟩ := symS_RD bt N L a
  rw [h2] at h
  split at h
  · rename_i hr
    subst hr
    simp only [Sy.ok.injEq] at h
    obtain ⟨rfl, rfl⟩ := h
    rcases h1 with ⟨j, rfl, _, ⟨n, hj, h0, hn, hle, _⟩, hu⟩ | ⟨_, _, h | h | ⟨_, _, h | h⟩⟩
    · rw [hu] at hn; omega
    all_goals omega
  · cases h
/-- an iteration that goes on and on, up to a bound, ends -/
theorem It_total {f : Nat → List Int → Stp} {N : Nat} (hf : ∀ a o a' o', a ≤ N → f a o = .go a' o' → a < a' ∧ a' ≤ N) : ∀ (a : Nat) (o : List Int), a ≤ N → ∃ r, It f a o r := by
  have key : ∀ m a o, N - a = m → a ≤ N → ∃ r, It f a o r := by
    intro m
    induction m using Nat.strongRecOn with
    | _ m ih =>
      intro a o hm ha
      cases h : f a o with
      | err e => exact ⟨_, .err h⟩
      | stop a' o' => exact ⟨_, .stop h⟩
      | go a' o' =>
        obtain ⟨h1, h2⟩ := hf a o a' o' ha h
        obtain ⟨r, hr⟩ := ih (N - a') (by omega) a' o' rfl h2
        exact ⟨r, .go h hr⟩
  exact fun a o ha => key _ a o rfl ha
theorem It_ne {f : Nat → List Int → Stp} (hf : ∀ a o e, f a o = .err e → e ≠ 0) {a : Nat} {o : List Int} {r : Res} (h : It f a o r) : ∀ e, r = .err e → e ≠ 0 := by
  induction h with
  | err h => intro e he; cases he; exact hf _ _ _ h
  | stop _ => intro e he; cases he
  | go _ _ ih => exact ih
theorem itF_ne {f : Nat → List Int → Stp} {N : Nat} (hf : ∀ a o a' o', a ≤ N → f a o = .go a' o' → a < a' ∧ a' ≤ N) (he : ∀ a o e, f a o = .err e → e ≠ 0) {a : Nat} {o : List Int} {e : Int} (ha : a ≤ N) (h : itF f a o = .err e) : e ≠ 0 := by
  obtain ⟨r, hr⟩ := It_total hf a o ha
  have := itF_of hr
  rw [h] at this
  exact It_ne he hr e this.symm
theorem blk2_gt {bt : Nat → Int} {N lim a a' : Nat} {D o o' : List Int} {len : Int} (h : blk2 bt N lim D o len a = .go a' o') (ha : a ≤ N) : a < a' ∧ a' ≤ N := by
  unfold blk2 at h
  split at h
  · cases h
  · rename_i d a2 hs
    have := symS_gt hs ha
    split at h
    · cases h
    · split at h
      · cases h
      · split at h
        · cases h
        · split at h
          · cases h
          · simp only [Stp.go.injEq] at h; omega
theorem blk2_ne {bt : Nat → Int} {N lim a : Nat} {D o : List Int} {len e : Int} (h : blk2 bt N lim D o len a = .err e) : e ≠ 0 := by
  unfold blk2 at h
  split at h
  · rename_i hs
    simp only [Stp.err.injEq] at h
    exact h ▸ symS_ne hs
  · split at h
    · simp only [Stp.err.injEq] at h; omega
    · split at h
      · simp only [Stp.err.injEq] at h; omega
      · split at h
        · simp only [Stp.err.injEq] at h; omega
        · split at h
          · simp only [Stp.err.injEq] at h; omega
          · cases h
theorem blkF_gt {bt : Nat → Int} {N lim a a' : Nat} {L D o o' : List Int} (ha : a ≤ N) (h : blkF bt N lim L D a o = .go a' o') : a < a' ∧ a' ≤ N := by
  unfold blkF at h
  split at h
  · cases h
  · rename_i i a1 hs
    have := symS_gt hs ha
    split at h
    · cases h
    · split at h
      · split at h
        · cases h
        · simp only [Stp.go.injEq] at h; omega
      · split at h
        · cases h
        · split at h
          · cases h
          · have := blk2_gt h (by omega); omega
theorem blkF_ne {bt : Nat → Int} {N lim a : Nat} {L D o : List Int} {e : Int} (h : blkF bt N lim L D a o = .err e) : e ≠ 0 := by
  unfold blkF at h
  split at h
  · rename_i hs
    simp only [Stp.err.injEq] at h
    exact h ▸ symS_ne hs
  · split at h
    · cases h
    · split at h
      · split at h
        · simp only [Stp.err.injEq] at h; omega
        · cases h
      · split at h
        · simp only [Stp.err.injEq] at h; omega
        · split at h
          · simp only [Stp.err.injEq] at h; omega
          · exact blk2_ne h
theorem lenP_ne {many : Nat} {l : List Int} {x t : Int} {a : Nat} {e : Int} (h : lenP many l x t a = .err e) : e ≠ 0 := by
  unfold lenP at h
  split at h
  · simp only [Stp.err.injEq] at h; omega
  · cases h
theorem lenP_go {many : Nat} {l l' : List Int} {x t : Int} {a a' : Nat} (h : lenP many l x t a = .go a' l') : a = a' := lenP_ge (.inl h)
theorem lenF_gt {bt : Nat → Int} {N a a' many : Nat} {C l l' : List Int} (ha : a ≤ N) (h : lenF bt N C many a l = .go a' l') : a < a' ∧ a' ≤ N := by
  unfold lenF at h
  split at h
  · cases h
  · split at h
    · cases h
    · rename_i i a1 hs
      have := symS_gt hs ha
      split at h
      · split at h
        · cases h
        · split at h
          · cases h
          · have := lenP_go h; omega
      · split at h
        · split at h
          · cases h
          · have := lenP_go h; omega
        · split at h
          · split at h
            · cases h
            · have := lenP_go h; omega
          · have := lenP_go h; omega
theorem lenF_ne {bt : Nat → Int} {N a many : Nat} {C l : List Int} {e : Int} (h : lenF bt N C many a l = .err e) : e ≠ 0 := by
  unfold lenF at h
  split at h
  · cases h
  · split at h
    · rename_i hs
      simp only [Stp.err.injEq] at h
      exact h ▸ symS_ne hs
    · split at h
      · split at h
        · simp only [Stp.err.injEq] at h; omega
        · split at h
          · simp only [Stp.err.injEq] at h; omega
          · exact lenP_ne h
      · split at h
        · split at h
          · simp only [Stp.err.injEq] at h; omega
          · exact lenP_ne h
        · split at h
          · split at h
            · simp only [Stp.err.injEq] at h; omega
            · exact lenP_ne h
          · exact lenP_ne h
theorem stoF_ne {bt : Nat → Int} {N lim a : Nat} {o : List Int} {e : Int} (h : stoF bt N lim a o = .err e) : e ≠ 0 := by
  unfold stoF at h
  repeat (split at h; (simp only [Res.err.injEq] at h; omega))
  cases h
theorem It_le {f : Nat → List Int → Stp} {N : Nat} (hg : ∀ a o a' o', a ≤ N → f a o = .go a' o' → a' ≤ N) (hs : ∀ a o a' o', a ≤ N → f a o = .stop a' o' → a' ≤ N) {a : Nat} {o : List Int} {r : Res} (h : It f a o r) : a ≤ N → ∀ a' o', r = .ok a' o' → a' ≤ N := by
  induction h with
  | err _ => intro _ a' o' h; cases h
  | stop h => intro ha a' o' h'; cases h'; exact hs _ _ _ _ ha h
  | go h _ ih => intro ha; exact ih (hg _ _ _ _ ha h)
theorem lenF_le {bt : Nat → Int} {N a a' many : Nat} {C l l' : List Int} (ha : a ≤ N) (h : lenF bt N C many a l = .stop a' l') : a' ≤ N := by
  have := lenF_ge (.inr h)
  unfold lenF at h
  split at h
  · simp only [Stp.stop.injEq] at h; omega
  · exfalso
    split at h
    · cases h
    · split at h
      · split at h
        · cases h
        · split at h
          · cases h
          · unfold lenP at h; split at h <;> cases h
      · split at h
        · split at h
          · cases h
          · unfold lenP at h; split at h <;> cases h
        · split at h
          · split at h
            · cases h
            · unfold lenP at h; split at h <;> cases h
          · unfold lenP at h; split at h <;> cases h
theorem itlen_le {bt : Nat → Int} {N many a a' : Nat} {C l l' : List Int} (ha : a ≤ N) (h : itF (lenF bt N C many) a l = .ok a' l') : a' ≤ N :=
  It_le (N := N) (fun _ _ _ _ ha h => (lenF_gt ha h).2) (fun _ _ _ _ => lenF_le) (itF_ok h) ha _ _ rfl
theorem itblk_ne {bt : Nat → Int} {N lim a : Nat} {L D o : List Int} {e : Int} (ha : a ≤ N) (h : itF (blkF bt N lim L D) a o = .err e) : e ≠ 0 :=
  itF_ne (N := N) (fun _ _ _ _ => blkF_gt) (fun _ _ _ => blkF_ne) ha h
theorem desF_ne {bt : Nat → Int} {N lim a : Nat} {o : List Int} {e : Int} (h : desF bt N lim a o = .err e) : e ≠ 0 := by
  unfold desF at h
  split at h
  · simp only [Res.err.injEq] at h; omega
  · split at h
    · simp only [Res.err.injEq] at h; omega
    · split at h
      · simp only [Res.err.injEq] at h; omega
      · unfold des1 at h
        split at h
        · simp only [Res.err.injEq] at h; omega
        · split at h
          · simp only [Res.err.injEq] at h; omega
          · split at h
            · simp only [Res.err.injEq] at h; omega
            · split at h
              · rename_i hl
                simp only [Res.err.injEq] at h
                exact h ▸ itF_ne (N := N) (fun _ _ _ _ => lenF_gt) (fun _ _ _ => lenF_ne) (by omega) hl
              · rename_i a1 l1 hl
                have ha1 := itlen_le (by omega) hl
                unfold des2 at h
                split at h
                · simp only [Res.err.injEq] at h; omega
                · split at h
                  · simp only [Res.err.injEq] at h; omega
                  · split at h
                    · simp only [Res.err.injEq] at h; omega
                    · exact itblk_ne ha1 h
theorem kndF_ne {bt : Nat → Int} {N lim a : Nat} {k : Int} {o : List Int} {e : Int} (ha : a ≤ N) (h : kndF bt N lim k a o = .err e) : e ≠ 0 := by
  unfold kndF at h
  split at h
  · exact stoF_ne h
  · split at h
    · exact itblk_ne ha h
    · split at h
      · exact desF_ne h
      · simp only [Res.err.injEq] at h; omega
theorem rdF_ne {bt : Nat → Int} {N lim a : Nat} {o : List Int} {e : Int} (h : rdF bt N lim a o = .err e) : e ≠ 0 := by
  unfold rdF at h
  split at h
  · simp only [Stp.err.injEq] at h; omega
  · split at h
    · simp only [Stp.err.injEq] at h; omega
    · split at h
      · rename_i hk
        simp only [Stp.err.injEq] at h
        exact h ▸ kndF_ne (by omega) hk
      · split at h <;> cases h
theorem ALLR_ne {B : List Int} {lim : Nat} {e : Int} (h : ALLR B lim (.err e)) : e ≠ 0 := It_ne (fun _ _ _ => rdF_ne) h e rfl
end Go.Proofs.YtbiocgenbgbfpaaGreat

namespace Go.Proofs.YtbiocgenbgbfpaaGreat
open Sx Go
set_option linter.unusedVariables false
set_option linter.unusedSimpArgs false
attribute [local irreducible] syA fc tk cds
/-! ## another stream with the same bits up to a place -/
theorem bval_cg {b b' : Nat → Int} : ∀ {n : Nat}, (∀ j, j < n → b j = b' j) → bval b n = bval b' n
  | 0, _ => rfl
  | n + 1, h => by simp only [bval]; rw [bval_cg (n := n) (fun j hj => h j (by omega)), h n (by omega)]
structure AG (bt bt' : Nat → Int) (N N' M : Nat) : Prop where
  eq : ∀ j, j < M → bt j = bt' j
  le : M ≤ N
  le' : M ≤ N'
  b : ∀ j, bt j = 0 ∨ bt j = 1
  b' : ∀ j, bt' j = 0 ∨ bt' j = 1
section
variable {bt bt' : Nat → Int} {N N' M : Nat}
theorem AG.nbt (h : AG bt bt' N N' M) {a c : Nat} (hc : a + c ≤ M) : nbt bt a c = nbt bt' a c := nbt_congr fun j hj => h.eq _ (by omega)
def AGg (M : Nat) (c : Prop) (f f' : Nat → List Int → Stp) : Prop := ∀ a o a' o', a ≤ M → f a o = .go a' o' → (a' ≤ M → f' a o = .go a' o') ∧ (c → M < a' → f' a o = .err 20)
def AGs (M : Nat) (c : Prop) (f f' : Nat → List Int → Stp) : Prop := ∀ a o a' o', a ≤ M → f a o = .stop a' o' → (a' ≤ M → f' a o = .stop a' o') ∧ (c → M < a' → f' a o = .err 20)
def AGr (M : Nat) (c : Prop) (f f' : Nat → List Int → Res) : Prop := ∀ a o a' o', a ≤ M → f a o = .ok a' o' → (a' ≤ M → f' a o = .ok a' o') ∧ (c → M < a' → f' a o = .err 20)
end
end Go.Proofs.YtbiocgenbgbfpaaGreat

set_option linter.unusedVariables false
set_option linter.unusedSimpArgs false
namespace Go.Proofs.YtbiocgenbgbfpaaGreat
open Sx Go
attribute [local irreducible] syA fc tk cds
/-! ## tokens' bits are read as the text -/
/-- from a place on stand these bits -/
def AtB (bt : Nat → Int) (a : Nat) (L : List Int) : Prop := ∀ j, j < L.length → bt (a + j) = L.getD j 0
theorem AtB.left {bt : Nat → Int} {a : Nat} {L M : List Int} (h : AtB bt a (L ++ M)) : AtB bt a L := fun j hj => by
  rw [h j (by rw [List.length_append]; omega), List.getD_eq_getElem?_getD, List.getElem?_append_left hj, ← List.getD_eq_getElem?_getD]
theorem AtB.right {bt : Nat → Int} {a : Nat} {L M : List Int} (h : AtB bt a (L ++ M)) : AtB bt (a + L.length) M := fun j hj => by
  rw [Nat.add_assoc, h (L.length + j) (by rw [List.length_append]; omega), List.getD_eq_getElem?_getD, List.getElem?_append_right (by omega), Nat.add_sub_cancel_left, ← List.getD_eq_getElem?_getD]
theorem sym_bits {bt : Nat → Int} {N a : Nat} {L : List Int} (hB : OKB L) (hk : OKL L) (hb : ∀ j, bt j = 0 ∨ bt j = 1) {i n : Nat} (hi : i < L.length) (h0 : 0 < n) (hn : L.getD i 0 = (n : Int)) (hN : a + n ≤ N) (h : AtB bt a (bms (cd L i) n)) : symS bt N L a = .ok i (a + n) := by
  have hc := cd_lt L hB hk i n hi h0 hn
  have hv : bval (fun j => bt (a + j)) n = cd L i := by
    rw [bval_cg (b' := fun j => (bms (cd L i) n).getD j 0) (fun j hj => h j (by rw [bms_ln]; exact hj)), bval_take (cd L i) n hc n (Nat.le_refl _), Nat.sub_self, Int.pow_zero, Int.ediv_one]
  have := symS_of (bt := bt) (N := N) (a := a) hB hk hb (i := i) (u := n) (r := 0) (.inl ⟨i, rfl, rfl, ⟨n, hi, h0, hn, by omega, hv⟩, hn⟩)
  rw [if_pos rfl] at this
  exact this
theorem nbt_at {bt : Nat → Int} {a k : Nat} {r : Int} (hr : 0 ≤ r ∧ r < 2 ^ k) (h : AtB bt a (grp r k)) : nbt bt a k = r := by
  rw [← bnum_nbt, num_congr (g := fun t => r / 2 ^ t % 2) k (fun t ht => by rw [h t (by rw [grp_len]; exact ht), grp_get ht]), bnum_bits, Int.emod_eq_of_lt hr.1 hr.2]
/-- the bytes are the same as those so far back -/
theorem sam_same (B : List Int) : ∀ (f i k j : Nat), j < sam B i k f → B.getD (i + j) 0 = B.getD (k + j) 0
  | 0, i, k, j, h => by rw [sam] at h; omega
  | f + 1, i, k, j, h => by
    rw [sam] at h
    split at h
    · rename_i hc
      cases j with
      | zero => exact hc.2
      | succ j =>
        have := sam_same B f (i + 1) (k + 1) j (by omega)
        rw [show i + (j + 1) = i + 1 + j by omega, show k + (j + 1) = k + 1 + j by omega]; exact this
    · omega
theorem bst_same (B : List Int) (at_ : Nat) : ∀ (i : Nat) (s : Nat × Nat), i ≤ at_ → (s.1 = 0 ∨ (s.1 = sam B (at_ - s.2) at_ 258 ∧ s.2 ≤ at_)) → (bst B at_ i s).1 = 0 ∨ ((bst B at_ i s).1 = sam B (at_ - (bst B at_ i s).2) at_ 258 ∧ (bst B at_ i s).2 ≤ at_)
  | 0, s, _, h => by rw [bst]; exact h
  | i + 1, s, hi, h => by
    rw [bst]
    split
    · exact h
    · refine bst_same B at_ i _ (by omega) ?_
      split
      · right
        refine ⟨?_, by show at_ - i ≤ at_; omega⟩
        show sam B i at_ 258 = sam B (at_ - (at_ - i)) at_ 258
        rw [show at_ - (at_ - i) = i by omega]
      · exact h
theorem tok_same {B : List Int} {at_ n d : Nat} {x : Int} (h : tok B at_ = (x, n, d)) : ∀ j, j < n → B.getD (at_ - d + j) 0 = B.getD (at_ + j) 0 := by
  intro j hj
  have hb := bst_same B at_ at_ (0, 0) (Nat.le_refl _) (.inl rfl)
  unfold tok at h
  split at h
  · have : n = 0 := (Prod.mk.inj (Prod.mk.inj h).2).1.symm
    omega
  · have h1 := (Prod.mk.inj (Prod.mk.inj h).2).1
    have h2 := (Prod.mk.inj (Prod.mk.inj h).2).2
    rw [h1, h2] at hb
    rcases hb with hb | hb
    · omega
    · exact sam_same B 258 (at_ - d) at_ j (by omega)
theorem cpy_take {B : List Int} {at_ d : Nat} (h1 : 1 ≤ d) (h2 : d ≤ at_) : ∀ n, at_ + n ≤ B.length → (∀ j, j < n → B.getD (at_ - d + j) 0 = B.getD (at_ + j) 0) → cpy (B.take at_) d n = B.take (at_ + n)
  | 0, _, _ => rfl
  | n + 1, hn, hs => by
    have ih := cpy_take h1 h2 n (by omega) (fun j hj => hs j (by omega))
    have hl : (B.take (at_ + n)).length = at_ + n := by rw [List.length_take]; omega
    rw [cpy, ih, hl, ← Nat.add_assoc, List.take_add_one, List.getElem?_eq_getElem (show at_ + n < B.length by omega)]
    have e := hs n (by omega)
    have g : (B.take (at_ + n)).getD (at_ + n - d) 0 = B.getD (at_ + n) 0 := by
      rw [List.getD_eq_getElem?_getD, List.getElem?_take, if_pos (by omega), ← List.getD_eq_getElem?_getD, ← e, show at_ + n - d = at_ - d + n by omega]
    rw [g, List.getD_eq_getElem?_getD, List.getElem?_eq_getElem (show at_ + n < B.length by omega)]
    rfl
/-- a token's bits, by any codes -/
def tkg (cl cs : Nat → List Int) (t : Int × Nat × Nat) : List Int :=
  if t.2.2 = 0 then cl t.1.toNat
  else cl (lenS t.2.1).1.toNat ++ grp (lenS t.2.1).2.2 (lenS t.2.1).2.1.toNat ++ cs (spanS t.2.2).1.toNat ++ grp (spanS t.2.2).2.2 (spanS t.2.2).2.1.toNat
/-- a token's symbols -/
def ts1 (t : Int × Nat × Nat) : Nat := if t.2.2 = 0 then t.1.toNat else (lenS t.2.1).1.toNat
def ts2 (t : Int × Nat × Nat) : Nat := (spanS t.2.2).1.toNat
theorem lbase_pos : ∀ j : Fin 29, 3 ≤ (lbase (257 + (j.val : Int))).1 := by decide +kernel
theorem lfar_pos : ∀ j : Fin 30, 1 ≤ (lfar (j.val : Int)).1 := by decide +kernel
/-- what is wanted of a set's codes -/
def CODED (bt : Nat → Int) (N : Nat) (L : List Int) (c : Nat → List Int) (k : Nat) : Prop := ∀ a, a + (c k).length ≤ N → AtB bt a (c k) → symS bt N L a = .ok k (a + (c k).length)
section
variable {bt : Nat → Int} {N lim : Nat} {L D : List Int} {cl cs : Nat → List Int} {B : List Int}
attribute [local irreducible] grp lenS spanS lbase lfar
theorem tok_step (hB : OKB B) {at_ a : Nat} (hat : at_ < B.length) (hlim : B.length ≤ lim) (h1 : CODED bt N L cl (ts1 (tok B at_))) (h2 : (tok B at_).2.2 ≠ 0 → CODED bt N D cs (ts2 (tok B at_))) (hN : a + (tkg cl cs (tok B at_)).length ≤ N) (hA : AtB bt a (tkg cl cs (tok B at_))) :
    blkF bt N lim L D a (B.take at_) = .go (a + (tkg cl cs (tok B at_)).length) (B.take (at_ + max 1 (tok B at_).2.1)) := by
  have hl : (B.take at_).length = at_ := by rw [List.length_take]; omega
  rcases tok_bd B at_ hat with h | ⟨n, d, h, g1, g2, g3, g4, g5, g6⟩
  · rw [h] at h1 hN hA ⊢
    have hb := hB at_
    obtain ⟨x, hx⟩ : ∃ x : Nat, B.getD at_ 0 = x := ⟨(B.getD at_ 0).toNat, by omega⟩
    rw [hx] at h1 hN hA ⊢
    have e1 : tkg cl cs ((x : Int), 0, 0) = cl x := by unfold tkg; rw [if_pos rfl]; rfl
    have e2 : ts1 ((x : Int), 0, 0) = x := by unfold ts1; rw [if_pos rfl]; rfl
    rw [e1] at hN hA ⊢
    rw [e2] at h1
    have hs := h1 a hN hA
    unfold blkF
    rw [hs]
    simp only []
    show (if (x : Int) = 256 then _ else _) = Stp.go _ (B.take (at_ + 1))
    rw [if_neg (by omega), if_pos (by omega), if_neg (by omega), List.take_add_one, List.getElem?_eq_getElem hat]
    rw [List.getD_eq_getElem?_getD, List.getElem?_eq_getElem hat, Option.getD_some] at hx
    rw [hx]
    rfl
  · have hsame := tok_same h
    rw [h] at h1 h2 hN hA ⊢
    obtain ⟨s, nb, r, e1, a1, a2, a3, a4, a5, a6⟩ := lenS_bd n (by omega) (by omega)
    obtain ⟨s', nb', r', e2, c1, c3, c4, c5, c6⟩ := spanS_bd d (by omega) (by omega)
    have a7 : 3 ≤ n - r := by
      have := lbase_pos ⟨s - 257, by omega⟩
      simp only [] at this
      rw [show (257 : Int) + ((s - 257 : Nat) : Int) = s by omega, a6] at this
      exact this
    have c7 : 1 ≤ d - r' := by
      have := lfar_pos ⟨s', by omega⟩
      simp only [] at this
      rw [c6] at this
      exact this
    have htb : tkg cl cs ((0 : Int), n, d) = cl s ++ grp r nb ++ cs s' ++ grp r' nb' := by
      unfold tkg
      simp only []
      rw [if_neg (by omega), e1, e2]
      simp only [Int.toNat_natCast]
    have ht1 : ts1 ((0 : Int), n, d) = s := by unfold ts1; simp only []; rw [if_neg (by omega), e1]; simp only [Int.toNat_natCast]
    have ht2 : ts2 ((0 : Int), n, d) = s' := by unfold ts2; simp only []; rw [e2]; simp only [Int.toNat_natCast]
    rw [htb] at hN hA ⊢
    rw [ht1] at h1
    rw [ht2] at h2
    simp only [List.length_append, grp_len] at hN ⊢
    have b1 := hA.left.left.left
    have b2 := hA.left.left.right
    have b3 := hA.left.right
    have b4 := hA.right
    simp only [List.length_append, grp_len, ← Nat.add_assoc] at b2 b3 b4
    have v1 := h1 a (by omega) b1
    have v2 := nbt_at ⟨a4, a5⟩ b2
    have v3 := h2 (by show d ≠ 0; omega) (a + (cl s).length + nb) (by omega) b3
    have v4 := nbt_at ⟨c4, c5⟩ b4
    unfold blkF
    rw [v1]
    simp only []
    rw [if_neg (by omega), if_neg (by omega), a6]
    simp only []
    rw [if_neg (by omega), Int.toNat_natCast, if_neg (by omega), v2]
    unfold blk2
    rw [v3]
    simp only []
    rw [c6]
    simp only []
    rw [if_neg (by omega), Int.toNat_natCast, if_neg (by omega), v4, hl, if_neg (by omega), if_neg (by omega), show (d : Int) - r' + r' = d by omega, show (n : Int) - r + r = n by omega, Int.toNat_natCast, Int.toNat_natCast, cpy_take g4 g5 n g3 hsame]
    rw [show max 1 n = n by omega]
    congr 1
    omega
theorem toks_It (hB : OKB B) (hlim : B.length ≤ lim) (h256 : CODED bt N L cl 256) : ∀ (f at_ a : Nat), B.length - at_ ≤ f → at_ ≤ B.length → (∀ t ∈ toks B f at_, CODED bt N L cl (ts1 t) ∧ (t.2.2 ≠ 0 → CODED bt N D cs (ts2 t))) →
    a + ((toks B f at_).flatMap (tkg cl cs) ++ cl 256).length ≤ N → AtB bt a ((toks B f at_).flatMap (tkg cl cs) ++ cl 256) → It (blkF bt N lim L D) a (B.take at_) (.ok (a + ((toks B f at_).flatMap (tkg cl cs) ++ cl 256).length) B) := by
  have hend : ∀ a, a + (cl 256).length ≤ N → AtB bt a (cl 256) → It (blkF bt N lim L D) a (B.take B.length) (.ok (a + (cl 256).length) B) := fun a hN hA => by
    rw [List.take_length]
    refine .stop ?_
    unfold blkF
    rw [h256 a hN hA]
    rfl
  intro f
  induction f with
  | zero =>
    intro at_ a hf hat hT hN hA
    obtain rfl : at_ = B.length := by omega
    rw [toks, List.flatMap_nil, List.nil_append] at hN hA ⊢
    exact hend a hN hA
  | succ f ih =>
    intro at_ a hf hat hT hN hA
    rw [toks] at hT hN hA ⊢
    by_cases h : at_ < B.length
    · rw [if_pos h] at hT hN hA ⊢
      rw [List.flatMap_cons, List.append_assoc] at hN hA ⊢
      have hT0 := hT (tok B at_) (by simp)
      rw [List.length_append] at hN ⊢
      have hs := tok_step hB h hlim hT0.1 hT0.2 (by omega) hA.left
      have hbd := tok_bd B at_ h
      have hle : at_ + max 1 (tok B at_).2.1 ≤ B.length := by
        rcases hbd with h' | ⟨n, d, h', g1, g2, g3, _⟩
        · rw [h']; show at_ + 1 ≤ _; omega
        · rw [h']; show at_ + max 1 n ≤ _; omega
      have hr := ih (at_ + max 1 (tok B at_).2.1) (a + (tkg cl cs (tok B at_)).length) (by omega) hle (fun t ht => hT t (by simp [ht])) (by omega) hA.right
      rw [Nat.add_assoc] at hr
      exact .go hs hr
    · rw [if_neg h] at hT hN hA ⊢
      obtain rfl : at_ = B.length := by omega
      rw [List.flatMap_nil, List.nil_append] at hN hA ⊢
      exact hend a hN hA
end
end Go.Proofs.YtbiocgenbgbfpaaGreat

set_option linter.unusedVariables false
set_option linter.unusedSimpArgs false
namespace Go.Proofs.YtbiocgenbgbfpaaGreat
open Sx Go
attribute [local irreducible] syA fc tk cds
theorem fx_coded {bt : Nat → Int} {N : Nat} (hb : ∀ j, bt j = 0 ∨ bt j = 1) (k : Nat) (hk : k < 288) : CODED bt N (tab 288 fixF) fxS k := by
  intro a hN hA
  obtain ⟨x, h1, h2, h3, _⟩ := fx_at k hk
  have hc : fxC.getD k 0 = cd fxB k := by
    unfold fxC
    rw [cds_get fxB fxB_okl.2.1 k (by rw [fxB_len]; exact hk), if_pos (by omega)]
  have e : fxS k = bms (cd fxB k) x := by unfold fxS; rw [h1, Int.toNat_natCast, hc]
  rw [e, bms_ln] at hN ⊢
  rw [e] at hA
  rw [fxB_eq]
  exact sym_bits fxB_okb fxB_okl hb (by rw [fxB_len]; exact hk) (by omega) h1 hN hA
theorem sp_coded {bt : Nat → Int} {N : Nat} (hb : ∀ j, bt j = 0 ∨ bt j = 1) (k : Nat) (hk : k < 32) : CODED bt N (List.replicate 32 5) spS k := by
  intro a hN hA
  obtain ⟨h1, _⟩ := sp_at k hk
  have hc : spC.getD k 0 = cd spB k := by
    unfold spC
    rw [cds_get spB spB_okl.2.1 k (by rw [spB_len]; exact hk), if_pos (by rw [h1]; decide)]
  have e : spS k = bms (cd spB k) 5 := by unfold spS; rw [hc]
  rw [e, bms_ln] at hN ⊢
  rw [e] at hA
  rw [spB_eq]
  exact sym_bits spB_okb spB_okl hb (by rw [spB_len]; exact hk) (by omega) h1 hN hA
theorem TOK_ts {t : Int × Nat × Nat} (h : TOK t) : ts1 t < 286 ∧ ts2 t < 30 := by
  have hz : (spanS ((0 : Nat) : Int)).1.toNat = 0 := by decide +kernel
  unfold ts1 ts2
  rcases h with ⟨h1, h2, h3, h4⟩ | ⟨h1, h2, h3, h4, h5⟩
  · rw [if_pos h4, h4, hz]; omega
  · rw [if_neg (by omega)]
    obtain ⟨s, b, r, e, a1, a2, a3, _⟩ := lenS_bd t.2.1 (by omega) (by omega)
    obtain ⟨s', b', r', e', a1', a3', _⟩ := spanS_bd t.2.2 (by omega) (by omega)
    rw [e, e']
    simp only [Int.toNat_natCast]
    omega
theorem pack_at (L S : List Int) (hL : ∀ j, L.getD j 0 = 0 ∨ L.getD j 0 = 1) : AtB (bitB (pack L ++ S) 0) 0 L := by
  intro j hj
  have h := pack_bit L hL 0 j
  unfold bitB at h ⊢
  rw [Nat.zero_add] at h ⊢
  rw [Nat.zero_add, List.getD_eq_getElem?_getD, List.getElem?_append_left (by rw [pack_len]; omega), ← List.getD_eq_getElem?_getD, h]
/-- a fixed block is read as the text, whatever stands behind -/
theorem ALLR_fix {B S : List Int} {lim : Nat} (hB : OKB B) (hl : B.length ≤ lim) : ALLR (pack (fixL B) ++ S) lim (.ok (fixL B).length B) := by
  have hb := bitB_01 (pack (fixL B) ++ S) 0
  have hA := pack_at (fixL B) S (fixL_01 B)
  have hlen : (fixL B).length ≤ 8 * (pack (fixL B) ++ S).length := by rw [List.length_append, pack_len]; omega
  unfold ALLR
  obtain ⟨N, hN⟩ : ∃ N, 8 * (pack (fixL B) ++ S).length = N := ⟨_, rfl⟩
  obtain ⟨bt, hbt⟩ : ∃ bt, bitB (pack (fixL B) ++ S) 0 = bt := ⟨_, rfl⟩
  rw [hN] at hlen ⊢
  rw [hbt] at hb hA ⊢
  have hfix : fixL B = grp 1 1 ++ (grp 1 2 ++ ((toks B B.length 0).flatMap (tkg fxS spS) ++ fxS 256)) := by
    unfold fixL; simp only [List.append_assoc]; rfl
  rw [hfix] at hA hlen ⊢
  have b1 := hA.left
  have b2 := hA.right.left
  have b3 := hA.right.right
  simp only [grp_len, Nat.zero_add] at b1 b2 b3
  have v1 := nbt_at (k := 1) ⟨by decide, by decide⟩ b1
  have v2 := nbt_at (k := 2) ⟨by decide, by decide⟩ b2
  obtain ⟨M, hM⟩ : ∃ M, (toks B B.length 0).flatMap (tkg fxS spS) ++ fxS 256 = M := ⟨_, rfl⟩
  rw [hM] at b3 hlen ⊢
  simp only [List.length_append, grp_len] at hlen ⊢
  have hIt := toks_It (bt := bt) (N := N) (L := tab 288 fixF) (D := List.replicate 32 5) (cl := fxS) (cs := spS) hB hl (fx_coded hb 256 (by omega)) B.length 0 3 (by omega) (by omega)
    (fun t ht => by have := TOK_ts (toks_TOK hB _ _ t ht); exact ⟨fx_coded hb _ (by omega), fun _ => sp_coded hb _ (by omega)⟩) (by rw [hM]; omega) (by rw [hM]; exact b3)
  rw [hM, List.take_zero] at hIt
  have hk : kndF bt N lim 1 (0 + 3) [] = .ok (3 + M.length) B := by
    unfold kndF
    rw [if_neg (by decide), if_pos rfl]
    exact itF_of hIt
  refine .stop ?_
  unfold rdF
  rw [if_neg (by omega), if_neg (by omega), show (0 : Nat) + 1 = 1 from rfl, v2, hk]
  simp only []
  rw [v1, if_neg (by decide)]
  congr 1
  omega
/-- the best stream is read as the text, whatever stands behind -/
theorem ALLR_best {B S : List Int} {lim : Nat} (hB : OKB B) (hS : OKB (sbs B ++ S)) (hl : B.length ≤ lim) : ∃ a, (a + 7) / 8 = (bestB B).length ∧ ALLR (bestB B ++ S) lim (.ok a B) := by
  unfold bestB
  split
  · exact ⟨_, by omega, ALLR_sbs hS hl⟩
  · exact ⟨_, (pack_len _).symm, ALLR_fix hB hl⟩
end Go.Proofs.YtbiocgenbgbfpaaGreat

namespace Go.Proofs.YtbiocgenbgbfpaaGreat
open Sx Go
set_option linter.unusedVariables false
set_option linter.unusedSimpArgs false
attribute [local irreducible] syA fc tk cds
/-! ## a described block is read as the text (plain) -/
theorem two_sm {L : List Int} {i j : Nat} (hij : i < j) (hj : j < L.length) (hi : 0 < L.getD i 0) (hj0 : 0 < L.getD j 0) : 2 ≤ sm L := by
  have e : sm L = sm (L.take j) + sm (L.drop j) := by
    unfold sm; rw [← List.countP_append, List.take_append_drop]
  have g1 : L.getD i 0 = L[i]'(by omega) := by rw [List.getD_eq_getElem?_getD, List.getElem?_eq_getElem (by omega)]; rfl
  have g2 : L.getD j 0 = L[j]'hj := by rw [List.getD_eq_getElem?_getD, List.getElem?_eq_getElem hj]; rfl
  have h1 : 0 < sm (L.take j) := List.countP_pos_iff.2 ⟨L[i]'(by omega), List.mem_iff_getElem.2 ⟨i, by rw [List.length_take]; omega, by rw [List.getElem_take]⟩, by rw [← g1]; simpa using hi⟩
  have h2 : 0 < sm (L.drop j) := List.countP_pos_iff.2 ⟨L[j]'hj, List.mem_iff_getElem.2 ⟨0, by rw [List.length_drop]; omega, by rw [List.getElem_drop]; rfl⟩, by rw [← g2]; simpa using hj0⟩
  omega
theorem c19_full {R : List Sq.Run} (hR : R.length ≤ 1000) {r : Sq.Run} (hr : r ∈ R) (h : r.1 < 18) : OKB (c19 R) ∧ OKL (c19 R) ∧ tk (c19 R) = 32768 ∧ ∀ k, (c19 R).getD k 0 < 8 := by
  have hA := ask19 R hR
  obtain ⟨b1, b2, b3⟩ := LL_set hA
  rw [w19_len] at b1 b2 b3
  have hg : ∀ k, k < 19 → (c19 R).getD k 0 = ((Pm.LL (w19 R) 7 k : Nat) : Int) := fun k hk => tab_get hk
  have hl : (c19 R).length = 19 := tab_len _ _
  have hp : 0 < (w19 R).getD r.1 0 := by
    rw [w19_get R (by omega), if_neg (by omega)]
    exact List.countP_pos_iff.2 ⟨r, hr, by simp⟩
  have hp2 : 0 < (w19 R).getD 18 0 := by
    rw [w19_get R (by omega), if_pos rfl]; omega
  have q1 := (b3 r.1 (by omega)).2.2 hp
  have q2 := (b3 18 (by omega)).2.2 hp2
  have h2 : 2 ≤ sm (c19 R) := two_sm h (by omega) (by rw [hg _ (by omega)]; omega) (by rw [hg _ (by omega)]; omega)
  refine ⟨b1, b2, ?_, fun k => ?_⟩
  · rcases b2.2.2 with h | h | h
    · exact h
    · have : sm (c19 R) = 0 := h
      omega
    · have : sm (c19 R) = 1 := h.1
      omega
  · rcases Nat.lt_or_ge k 19 with h | h
    · rw [hg k h]
      have := (b3 k h).1
      omega
    · rw [List.getD_eq_getElem?_getD, List.getElem?_eq_none (by omega)]; decide
theorem all18 : ∀ (R : List Sq.Run) (l : List Nat), (∀ r ∈ R, r.1 = 18) → (∀ x ∈ l, x = 0) → ∀ x ∈ R.foldl Sq.ex1 l, x = 0
  | [], l, _, h => h
  | r :: R, l, hR, h => by
    refine all18 R _ (fun r' h' => hR r' (by simp [h'])) ?_
    have e : r.1 = 18 := hR r (by simp)
    unfold Sq.ex1
    rw [if_neg (by omega), if_neg (by omega), if_pos e]
    intro x hx
    rcases List.mem_append.1 hx with h1 | h1
    · exact h x h1
    · exact List.eq_of_mem_replicate h1
theorem not18 {B : List Nat} (h : ∀ x ∈ B, x < 16) {j : Nat} (hj : B.getD j 0 ≠ 0) : ∃ r ∈ Sq.runs B, r.1 < 18 := by
  obtain ⟨h1, h2⟩ := Sq.runs_ex B.length B [] (Nat.le_refl _) h
  rw [List.nil_append] at h1
  by_cases hex : ∃ r ∈ Sq.runs B, r.1 ≠ 18
  · obtain ⟨r, hr, hn⟩ := hex
    have := (h2.bd r hr).1
    exact ⟨r, hr, by omega⟩
  · exfalso
    have ha := all18 (Sq.runs B) [] (fun r hr => Classical.byContradiction fun hn => hex ⟨r, hr, hn⟩) (by simp)
    rw [h1] at ha
    rcases Nat.lt_or_ge j B.length with hl | hl
    · have e : B.getD j 0 = B[j] := by rw [List.getD_eq_getElem?_getD, List.getElem?_eq_getElem hl]; rfl
      exact hj (e.trans (ha _ (List.getElem_mem hl)))
    · exact hj (by rw [List.getD_eq_getElem?_getD, List.getElem?_eq_none hl]; rfl)
theorem flat3_len (f : Nat → Int) : ∀ l : List Nat, (l.flatMap fun k => grp (f k) 3).length = 3 * l.length
  | [] => rfl
  | x :: l => by rw [List.flatMap_cons, List.length_append, grp_len, flat3_len f l, List.length_cons]; omega
theorem ordN_len : ordN.length = 19 := rfl
theorem ccl_get {bt : Nat → Int} {a : Nat} {C : List Int} (h7 : ∀ k, 0 ≤ C.getD k 0 ∧ C.getD k 0 < 8) : ∀ n, n ≤ 19 → AtB bt a ((ordN.take n).flatMap fun k => grp (C.getD k 0) 3) → ∀ k, k < 19 → (ccl bt a n).getD k 0 = if k ∈ ordN.take n then C.getD k 0 else 0
  | 0, _, _, k, hk => by
    rw [if_neg (by simp), ccl, List.getD_eq_getElem?_getD, List.getElem?_replicate]
    split <;> rfl
  | n + 1, hn, hA, k, hk => by
    have hlt : n < ordN.length := by rw [ordN_len]; omega
    rw [flat_take _ hlt] at hA
    have ih := ccl_get h7 n (by omega) hA.left k hk
    have hr := hA.right
    rw [flat3_len, List.length_take, ordN_len, show min n 19 = n by omega] at hr
    have hv := nbt_at (k := 3) (r := C.getD (ordN[n]'hlt) 0) ⟨(h7 _).1, (h7 _).2⟩ hr
    have ho : ordL.getD n 0 = ordN[n]'hlt := by
      rw [show ordL = ordN from rfl, List.getD_eq_getElem?_getD, List.getElem?_eq_getElem hlt]; rfl
    rw [ccl, ho, hv, List.getD_eq_getElem?_getD, List.getElem?_set, List.take_add_one, List.getElem?_eq_getElem hlt]
    by_cases h : ordN[n]'hlt = k
    · rw [if_pos h, if_pos (by rw [ccl_len, h]; exact hk), if_pos (by simp [h]), h]; rfl
    · rw [if_neg h, ← List.getD_eq_getElem?_getD, ih]
      have : k ∈ ordN.take n ++ (some (ordN[n]'hlt)).toList ↔ k ∈ ordN.take n := by
        rw [List.mem_append]
        constructor
        · rintro (h' | h')
          · exact h'
          · exact absurd (by simpa using h') fun e => h (Eq.symm e)
        · exact .inl
      simp only [this]
theorem mny_zero (C : List Int) : ∀ m j, mny C m ≤ j → j < m → C.getD (ordN.getD j 0) 0 = 0
  | 0, j, _, h => absurd h (by omega)
  | m + 1, j, h1, h2 => by
    rw [mny] at h1
    split at h1
    · rename_i h
      rcases Nat.lt_or_ge j m with h' | h'
      · exact mny_zero C m j h1 h'
      · obtain rfl : j = m := by omega
        exact h.2
    · omega
theorem ord_perm : ∀ k : Fin 19, ∃ m : Fin 19, ordN.getD m.val 0 = k.val := by decide
theorem ccl_eq {bt : Nat → Int} {a : Nat} {C : List Int} (hl : C.length = 19) (h7 : ∀ k, 0 ≤ C.getD k 0 ∧ C.getD k 0 < 8) (hA : AtB bt a ((ordN.take (mny C 19)).flatMap fun k => grp (C.getD k 0) 3)) : ccl bt a (mny C 19) = C := by
  have hm := mny_le C 19
  refine List.ext_getElem (by rw [ccl_len, hl]) fun k h1 h2 => ?_
  have hk : k < 19 := by omega
  have hg := ccl_get h7 (mny C 19) hm hA k hk
  have e1 : (ccl bt a (mny C 19)).getD k 0 = (ccl bt a (mny C 19))[k] := by rw [List.getD_eq_getElem?_getD, List.getElem?_eq_getElem h1]; rfl
  have e2 : C.getD k 0 = C[k] := by rw [List.getD_eq_getElem?_getD, List.getElem?_eq_getElem h2]; rfl
  rw [← e1, ← e2, hg]
  split
  · rfl
  · rename_i hno
    obtain ⟨m, hmk⟩ := ord_perm ⟨k, hk⟩
    simp only [] at hmk
    have hmo : m.val < ordN.length := m.isLt
    rcases Nat.lt_or_ge m.val (mny C 19) with h | h
    · exfalso
      refine hno (List.mem_iff_getElem.2 ⟨m.val, by rw [List.length_take, ordN_len]; omega, ?_⟩)
      rw [List.getElem_take]
      exact Eq.trans (by rw [List.getD_eq_getElem?_getD, List.getElem?_eq_getElem hmo]; rfl) hmk
    · rw [← hmk, mny_zero C 19 m.val h m.isLt]
theorem nats_app (A B : List Nat) : nats (A ++ B) = nats A ++ nats B := by simp [nats]
theorem nats_rep (n x : Nat) : nats (List.replicate n x) = List.replicate n ((x : Nat) : Int) := by simp [nats]
section
variable {bt : Nat → Int} {N : Nat} {C : List Int}
attribute [local irreducible] grp cw nats
theorem lenP_ok {many : Nat} {l : List Nat} {x t : Nat} {a : Nat} (h : l.length + t ≤ many) : lenP many (nats l) (x : Int) (t : Int) a = .go a (nats (l ++ List.replicate t x)) := by
  unfold lenP
  rw [nats_len, if_neg (by omega), Int.toNat_natCast, nats_app, nats_rep]
theorem lens_step {many : Nat} {l : List Nat} {r : Sq.Run} {a : Nat} (hok : Sq.okR l r) (hc : CODED bt N C (cw C) r.1) (hm : l.length < many) (hm2 : (Sq.ex1 l r).length ≤ many) (hN : a + (rbits C r).length ≤ N) (hA : AtB bt a (rbits C r)) :
    lenF bt N C many a (nats l) = .go (a + (rbits C r).length) (nats (Sq.ex1 l r)) := by
  obtain ⟨s, x, b⟩ := r
  unfold rbits at hN hA ⊢
  simp only [List.length_append, grp_len] at hN hc ⊢
  have h1 := hc a (by omega) hA.left
  have h2 := hA.right
  simp only [] at h1 h2
  unfold lenF
  rw [nats_len, if_neg (by omega), h1]
  simp only []
  unfold Sq.ex1 at hm2 ⊢
  simp only [] at hm2 ⊢
  rcases hok with ⟨e1, e2, e3, e4⟩ | ⟨e1, e2, e3⟩ | ⟨e1, e2, e3⟩ | ⟨e1, e2, e3⟩
  · simp only [] at e1 e2 e3
    subst e1 e2
    rw [if_pos rfl] at hm2 ⊢
    rw [List.length_append, List.length_replicate] at hm2
    have hl0 : l.length ≠ 0 := fun h => e4 (List.length_eq_zero_iff.1 h)
    have hv := nbt_at (k := 2) (r := ((x : Nat) : Int)) ⟨by omega, by omega⟩ h2
    rw [if_pos (show ((16 : Nat) : Int) = 16 from rfl), if_neg hl0, if_neg (by omega), hv, nats_getD, show (3 : Int) + ((x : Nat) : Int) = ((3 + x : Nat) : Int) by omega, lenP_ok hm2, Nat.add_assoc]
  · simp only [] at e1 e2 e3
    subst e1 e2
    rw [if_neg (show ¬ (17 : Nat) = 16 by decide), if_pos (show (17 : Nat) = 17 from rfl)] at hm2 ⊢
    rw [List.length_append, List.length_replicate] at hm2
    have hv := nbt_at (k := 3) (r := ((x : Nat) : Int)) ⟨by omega, by omega⟩ h2
    rw [if_neg (show ¬ ((17 : Nat) : Int) = 16 by decide), if_pos (show ((17 : Nat) : Int) = 17 from rfl), if_neg (by omega), hv, show (3 : Int) + ((x : Nat) : Int) = ((3 + x : Nat) : Int) by omega, show (0 : Int) = ((0 : Nat) : Int) from rfl, lenP_ok hm2, Nat.add_assoc]
  · simp only [] at e1 e2 e3
    subst e1 e2
    rw [if_neg (show ¬ (18 : Nat) = 16 by decide), if_neg (show ¬ (18 : Nat) = 17 by decide), if_pos (show (18 : Nat) = 18 from rfl)] at hm2 ⊢
    rw [List.length_append, List.length_replicate] at hm2
    have hv := nbt_at (k := 7) (r := ((x : Nat) : Int)) ⟨by omega, by omega⟩ h2
    rw [if_neg (show ¬ ((18 : Nat) : Int) = 16 by decide), if_neg (show ¬ ((18 : Nat) : Int) = 17 by decide), if_pos (show ((18 : Nat) : Int) = 18 from rfl), if_neg (by omega), hv, show (11 : Int) + ((x : Nat) : Int) = ((11 + x : Nat) : Int) by omega, show (0 : Int) = ((0 : Nat) : Int) from rfl, lenP_ok hm2, Nat.add_assoc]
  · simp only [] at e1 e2 e3
    subst e2 e3
    rw [if_neg (show ¬ s = 16 by omega), if_neg (show ¬ s = 17 by omega), if_neg (show ¬ s = 18 by omega)] at hm2 ⊢
    rw [if_neg (show ¬ ((s : Nat) : Int) = 16 by omega), if_neg (show ¬ ((s : Nat) : Int) = 17 by omega), if_neg (show ¬ ((s : Nat) : Int) = 18 by omega), show (1 : Int) = ((1 : Nat) : Int) from rfl, lenP_ok (by simpa using hm2), Nat.add_zero]
    rfl
theorem lens_It {many : Nat} : ∀ (R : List Sq.Run) (l : List Nat) (a : Nat), Sq.okRs l R → (∀ r ∈ R, CODED bt N C (cw C) r.1) → (R.foldl Sq.ex1 l).length = many → a + (R.flatMap (rbits C)).length ≤ N → AtB bt a (R.flatMap (rbits C)) → It (lenF bt N C many) a (nats l) (.ok (a + (R.flatMap (rbits C)).length) (nats (R.foldl Sq.ex1 l)))
  | [], l, a, _, _, hm, _, _ => .stop (by
      unfold lenF
      rw [nats_len, if_pos (by rw [← hm]; exact Nat.le_refl _)]; rfl)
  | r :: R, l, a, ⟨h1, h2⟩, hc, hm, hN, hA => by
    have g1 := Sq.fold_grow (r :: R) l
    have g2 := Sq.fold_grow R (Sq.ex1 l r)
    rw [List.foldl_cons] at g1 hm ⊢
    rw [List.flatMap_cons] at hN hA ⊢
    rw [List.length_append] at hN ⊢
    rw [List.length_cons] at g1
    have hs := lens_step (many := many) h1 (hc r (by simp)) (by omega) (by omega) (by omega) hA.left
    have ih := lens_It R (Sq.ex1 l r) (a + (rbits C r).length) h2 (fun r' h' => hc r' (by simp [h'])) hm (by omega) hA.right
    rw [Nat.add_assoc] at ih
    exact .go hs ih
end
theorem has_coded {bt : Nat → Int} {N : Nat} {L : List Int} (hB : OKB L) (hk : OKL L) (hb : ∀ j, bt j = 0 ∨ bt j = 1) {k : Nat} (h : HAS L (k : Int) (L.getD k 0).toNat) : CODED bt N L (cw L) k := by
  obtain ⟨h1, h2, h3, h4⟩ := h
  rw [Int.toNat_natCast] at h4
  intro a hN hA
  rw [cw_len] at hN ⊢
  unfold cw at hA
  exact sym_bits hB hk hb (by omega) h3 h4 hN hA
theorem tkS_eq (p q : List Int) {t : Tk} (h : TOK t) : tkS p q t = tkg (cw p) (cw q) t ∧ tsy1 t = ts1 t ∧ (t.2.2 ≠ 0 → tsy2 t = ts2 t ∧ (splitR t).length = 2) := by
  obtain ⟨x, n, k⟩ := t
  rcases h with ⟨h1, h2, h3, h4⟩ | ⟨h1, h2, h3, h4, h5⟩
  · simp only [] at h1 h2 h3 h4
    subst h4
    have e : splitR (x, n, 0) = [(x.toNat, 0, 0)] := splitR_one rfl
    refine ⟨?_, ?_, fun h => absurd rfl h⟩
    · unfold tkS tkg
      rw [e, if_pos rfl]
      show wrS p q 0 (x.toNat, 0, 0) ++ [] = _
      unfold wrS
      rw [if_pos rfl, List.append_nil]
      show cw p x.toNat ++ [] = _
      rw [List.append_nil]
    · unfold tsy1 ts1
      rw [e, if_pos rfl]; rfl
  · simp only [] at h1 h2 h3 h4 h5
    obtain ⟨s, nb, r, e1, a1, a2, a3, a4, a5, _⟩ := lenS_bd n (by omega) (by omega)
    obtain ⟨s', nb', r', e2, c1, c3, c4, c5, _⟩ := spanS_bd k (by omega) (by omega)
    obtain ⟨r, rfl⟩ := Int.eq_ofNat_of_zero_le a4
    obtain ⟨r', rfl⟩ := Int.eq_ofNat_of_zero_le c4
    have e : splitR (x, n, k) = [(s, r, nb), (s', r', nb')] := by
      unfold splitR
      simp only []
      rw [if_neg (by omega), e1, e2]
      simp only [Int.toNat_natCast]
    refine ⟨?_, ?_, fun _ => ⟨?_, by rw [e]; rfl⟩⟩
    · unfold tkS tkg
      rw [e]
      simp only []
      rw [if_neg (by omega), e1, e2]
      show wrS p q 0 (s, r, nb) ++ (wrS p q 1 (s', r', nb') ++ []) = _
      unfold wrS
      rw [if_pos rfl, if_neg (by decide), List.append_nil]
      simp only [Int.toNat_natCast, List.append_assoc]
    · unfold tsy1 ts1
      rw [e]
      simp only []
      rw [if_neg (by omega), e1, Int.toNat_natCast]; rfl
    · unfold tsy2 ts2
      rw [e]
      simp only []
      rw [e2, Int.toNat_natCast]; rfl
theorem flatMap_cg {α : Type} {f g : α → List Int} : ∀ {l : List α}, (∀ x ∈ l, f x = g x) → l.flatMap f = l.flatMap g
  | [], _ => rfl
  | x :: l, h => by rw [List.flatMap_cons, List.flatMap_cons, h x (by simp), flatMap_cg fun y hy => h y (by simp [hy])]
end Go.Proofs.YtbiocgenbgbfpaaGreat

namespace Go.Proofs.YtbiocgenbgbfpaaGreat
open Sx Go
set_option linter.unusedVariables false
set_option linter.unusedSimpArgs false
attribute [local irreducible] syA fc tk cds
section
attribute [local irreducible] grp cw nats ccl c19 mny Sq.runs ordN
theorem des_read {bt : Nat → Int} {N lim a : Nat} {X Y : List Nat} (o : List Int) (hX : 257 ≤ X.length ∧ X.length ≤ 286) (hY : 1 ≤ Y.length ∧ Y.length ≤ 30) (h16 : ∀ x ∈ X ++ Y, x < 16) (h256 : X.getD 256 0 ≠ 0) (oX : OKL (nats X)) (oY : OKL (nats Y)) (hb : ∀ j, bt j = 0 ∨ bt j = 1)
    (hN : a + (descB X Y).length ≤ N) (hA : AtB bt a (descB X Y)) : desF bt N lim a o = itF (blkF bt N lim (nats X) (nats Y)) (a + (descB X Y).length) o := by
  have hxy : (X ++ Y).length = X.length + Y.length := List.length_append
  have h256' : (X ++ Y).getD 256 0 = X.getD 256 0 := by
    rw [List.getD_eq_getElem?_getD, List.getElem?_append_left (by omega), ← List.getD_eq_getElem?_getD]
  obtain ⟨r0, hr0, hr18⟩ := not18 h16 (j := 256) (by rw [h256']; exact h256)
  have hrl := Sq.runs_len (X ++ Y) h16
  obtain ⟨hex, hok⟩ := Sq.runs_ex (X ++ Y).length (X ++ Y) [] (Nat.le_refl _) h16
  rw [List.nil_append] at hex
  obtain ⟨cB, cL, ctk, c7⟩ := c19_full (by omega) hr0 hr18
  have hcl : (c19 (Sq.runs (X ++ Y))).length = 19 := by unfold c19; exact tab_len _ _
  have hcd : ∀ r ∈ Sq.runs (X ++ Y), CODED bt N (c19 (Sq.runs (X ++ Y))) (cw (c19 (Sq.runs (X ++ Y)))) r.1 := fun r hr =>
    has_coded cB cL hb (c19_has _ (by omega) r hr (hok.bd r hr).1).1
  have m1 := mny_le (c19 (Sq.runs (X ++ Y))) 19
  have m2 := mny_ge (c19 (Sq.runs (X ++ Y))) 19 (by omega)
  unfold descB at hN hA ⊢
  have p1 := hA.left.left.left.left
  have p2 := hA.left.left.left.right
  have p3 := hA.left.left.right
  have p4 := hA.left.right
  have p5 := hA.right
  have hol : ordN.length = 19 := ordN_len
  simp only [List.length_append, grp_len, flat3_len, List.length_take, hol, ← Nat.add_assoc] at p2 p3 p4 p5 hN ⊢
  generalize hR : Sq.runs (X ++ Y) = R at *
  generalize hC : c19 R = C at *
  generalize hln : mny C 19 = ln at *
  rw [show min ln 19 = ln by omega] at p5 hN ⊢
  have v1 := nbt_at (k := 5) ⟨by omega, by omega⟩ p1
  have v2 := nbt_at (k := 5) ⟨by omega, by omega⟩ p2
  have v3 := nbt_at (k := 4) ⟨by omega, by omega⟩ p3
  have e1 : (((X.length - 257 : Nat) : Int) + 257).toNat = X.length := by omega
  have e2 : (((Y.length - 1 : Nat) : Int) + 1).toNat = Y.length := by omega
  have e3 : (((ln - 4 : Nat) : Int) + 4).toNat = ln := by omega
  have hcc : ccl bt (a + 5 + 5 + 4) ln = C := by
    have := ccl_eq (bt := bt) (a := a + 5 + 5 + 4) (C := C) hcl (fun k => ⟨by have := cB k; omega, c7 k⟩) (by rw [hln]; exact p4)
    rwa [hln] at this
  have hIt := lens_It (bt := bt) (N := N) (C := C) (many := X.length + Y.length) R [] (a + 5 + 5 + 4 + 3 * ln) hok hcd (by rw [hex, hxy]) (by omega) p5
  rw [hex] at hIt
  have e0 : nats ([] : List Nat) = [] := by unfold nats; rfl
  rw [e0] at hIt
  unfold desF
  rw [if_neg (by omega), if_neg (by omega), if_neg (by omega), v1, v2, show a + 10 = a + 5 + 5 by omega, v3, e1, e2, e3]
  unfold des1
  rw [if_neg (by omega), if_neg (by omega), show a + 14 = a + 5 + 5 + 4 by omega, hcc, if_neg (by
    rintro (h | h)
    · exact h cL
    · exact h ctk), itF_of hIt]
  simp only []
  unfold des2
  have t1 : (nats (X ++ Y)).take X.length = nats X := by rw [← nats_take, List.take_left]
  have t2 : (nats (X ++ Y)).drop X.length = nats Y := by
    rw [nats_app, List.drop_append_of_le_length (by rw [nats_len]; exact Nat.le_refl _), List.drop_of_length_le (by rw [nats_len]; exact Nat.le_refl _), List.nil_append]
  rw [if_neg (by rw [nats_getD, h256']; omega), t1, t2, if_neg (fun h => h oX), if_neg (fun h => h oY)]
end
section
attribute [local irreducible] grp cw nats descB tkS splitR pX pY
/-- a described block is read as the text, whatever stands behind -/
theorem ALLR_dsc {B S : List Int} {lim : Nat} (hB : OKB B) (hl : B.length ≤ lim) (h4 : B.length ≤ 100000) : (∀ j, (dscL B).getD j 0 = 0 ∨ (dscL B).getD j 0 = 1) ∧ ALLR (pack (dscL B) ++ S) lim (.ok (dscL B).length B) := by
  have hTok := toks_TOK hB B.length 0
  have hTl := toks_len (B := B) B.length 0
  have h01 : ∀ j, (dscL B).getD j 0 = 0 ∨ (dscL B).getD j 0 = 1 := by
    unfold dscL
    exact app_01 (app_01 (app_01 (app_01 (grp_01 _ _) (grp_01 _ _)) (descB_01 _ _)) (flat_01 _ (tkS_01 _ _) _)) (cw_01 _ _)
  refine ⟨h01, ?_⟩
  obtain ⟨T, hT⟩ : ∃ T, toks B B.length 0 = T := ⟨_, rfl⟩
  have hdsc : dscL B = grp 1 1 ++ (grp 2 2 ++ (descB (pX T) (pY T) ++ (T.flatMap (tkg (cw (nats (pX T))) (cw (nats (pY T)))) ++ cw (nats (pX T)) 256))) := by
    unfold dscL
    rw [hT] at hTok ⊢
    rw [flatMap_cg (fun t ht => (tkS_eq (nats (pX T)) (nats (pY T)) (hTok t ht)).1)]
    simp only [List.append_assoc]
  have hT1 : T.length ≤ 100000 := by rw [← hT]; omega
  have hb := bitB_01 (pack (dscL B) ++ S) 0
  have hA := pack_at (dscL B) S h01
  have hlen : (dscL B).length ≤ 8 * (pack (dscL B) ++ S).length := by rw [List.length_append, pack_len]; omega
  unfold ALLR
  obtain ⟨N, hN⟩ : ∃ N, 8 * (pack (dscL B) ++ S).length = N := ⟨_, rfl⟩
  obtain ⟨bt, hbt⟩ : ∃ bt, bitB (pack (dscL B) ++ S) 0 = bt := ⟨_, rfl⟩
  rw [hN] at hlen ⊢
  rw [hbt] at hb hA ⊢
  rw [hdsc] at hA hlen ⊢
  obtain ⟨x1, x2, x3⟩ := llset (askX T hT1)
  obtain ⟨y1, y2, y3⟩ := llset (askY T hT1)
  have cX' : OKB (nats (pX T)) ∧ OKL (nats (pX T)) := by unfold pX; exact ⟨(cut_okl x1 x2).1, (cut_okl x1 x2).2.1⟩
  have cY' : OKB (nats (pY T)) ∧ OKL (nats (pY T)) := by unfold pY; exact ⟨(cut_okl y1 y2).1, (cut_okl y1 y2).2.1⟩
  have lX : 257 ≤ (pX T).length ∧ (pX T).length ≤ 286 := by
    unfold pX
    rw [cutN_len, lln_len, wX_len]
    exact ⟨cutm_ge _ _ _ (by omega), cutm_le _ _ _⟩
  have lY : 1 ≤ (pY T).length ∧ (pY T).length ≤ 30 := by
    unfold pY
    rw [cutN_len, lln_len, wY_len]
    exact ⟨cutm_ge _ _ _ (by omega), cutm_le _ _ _⟩
  have h16 : ∀ x ∈ pX T ++ pY T, x < 16 := fun x hx => by
    rcases List.mem_append.1 hx with h | h
    · obtain ⟨j, hj, rfl⟩ := List.mem_iff_getElem.1 h
      have := cX'.2.2.1 j
      rw [nats_getD, List.getD_eq_getElem?_getD, List.getElem?_eq_getElem hj, Option.getD_some] at this
      omega
    · obtain ⟨j, hj, rfl⟩ := List.mem_iff_getElem.1 h
      have := cY'.2.2.1 j
      rw [nats_getD, List.getD_eq_getElem?_getD, List.getElem?_eq_getElem hj, Option.getD_some] at this
      omega
  have hasE : HAS (nats (pX T)) (256 : Nat) ((nats (pX T)).getD 256 0).toNat := by
    unfold pX
    exact (cut_has (askX T hT1) (by rw [wX_len]; omega) (by rw [wX_get T (by omega), if_pos rfl]; omega)).1
  have h256 : (pX T).getD 256 0 ≠ 0 := by
    obtain ⟨_, _, h3, h4⟩ := hasE
    rw [Int.toNat_natCast, nats_getD] at h4
    rw [nats_getD] at h3
    omega
  have b1 := hA.left
  have b2 := hA.right.left
  have b3 := hA.right.right.left
  have b4 := hA.right.right.right
  simp only [grp_len, Nat.zero_add] at b1 b2 b3 b4
  have v1 := nbt_at (k := 1) ⟨by decide, by decide⟩ b1
  have v2 := nbt_at (k := 2) ⟨by decide, by decide⟩ b2
  obtain ⟨M, hM⟩ : ∃ M, T.flatMap (tkg (cw (nats (pX T))) (cw (nats (pY T)))) ++ cw (nats (pX T)) 256 = M := ⟨_, rfl⟩
  rw [hM] at b4 hlen ⊢
  simp only [List.length_append, grp_len] at hlen ⊢
  have hdes := des_read (bt := bt) (N := N) (lim := lim) (a := 1 + 2) (X := pX T) (Y := pY T) [] lX lY h16 h256 cX'.2 cY'.2 hb (by omega) b3
  have hIt := toks_It (bt := bt) (N := N) (lim := lim) (L := nats (pX T)) (D := nats (pY T)) (cl := cw (nats (pX T))) (cs := cw (nats (pY T))) hB hl (has_coded cX'.1 cX'.2 hb hasE) B.length 0 (1 + 2 + (descB (pX T) (pY T)).length) (by omega) (by omega)
    (fun t ht => by
      have ht0 := hTok t ht
      rw [hT] at ht
      obtain ⟨_, k1, k2⟩ := tkS_eq (nats (pX T)) (nats (pY T)) ht0
      refine ⟨?_, fun hne => ?_⟩
      · have hb0 := (splitR_bd ht0 0 (by rw [splitR_len]; split <;> omega)).1
        rw [if_pos rfl] at hb0
        have hb1 : tsy1 t < 286 := hb0
        rw [← k1]
        refine has_coded cX'.1 cX'.2 hb ?_
        unfold pX
        refine (cut_has (askX T hT1) (by rw [wX_len]; exact hb1) ?_).1
        rw [wX_get T hb1]
        have : 0 < cX T (tsy1 t) := List.countP_pos_iff.2 ⟨t, ht, by simp⟩
        omega
      · obtain ⟨k3, k4⟩ := k2 hne
        have hb0 := (splitR_bd ht0 1 (by omega)).1
        rw [if_neg (by omega)] at hb0
        have hb1 : tsy2 t < 30 := hb0
        rw [← k3]
        refine has_coded cY'.1 cY'.2 hb ?_
        unfold pY
        refine (cut_has (askY T hT1) (by rw [wY_len]; exact hb1) ?_).1
        rw [wY_get T hb1]
        exact List.countP_pos_iff.2 ⟨t, ht, by simp [k4]⟩)
    (by rw [hT, hM]; omega) (by rw [hT, hM]; exact b4)
  rw [hT, hM, List.take_zero] at hIt
  have hk : kndF bt N lim 2 (0 + 3) [] = .ok (1 + 2 + (descB (pX T) (pY T)).length + M.length) B := by
    unfold kndF
    rw [if_neg (by decide), if_neg (by decide), if_pos rfl, show 0 + 3 = 1 + 2 from rfl, hdes]
    exact itF_of hIt
  refine .stop ?_
  unfold rdF
  rw [if_neg (by omega), if_neg (by omega), show (0 : Nat) + 1 = 1 from rfl, v2, hk]
  simp only []
  rw [v1, if_neg (by decide)]
  congr 1
  omega
end
end Go.Proofs.YtbiocgenbgbfpaaGreat

namespace Go.Proofs.YtbiocgenbgbfpaaGreat
open Sx Go
set_option linter.unusedVariables false
set_option linter.unusedSimpArgs false
attribute [local irreducible] syA fc tk cds grp cw pack descB rv tkv tkS wrS
section
variable {w0 : World} {H : List Asn}
theorem ll16 {W : List Nat} (hA : AskOK W (15 : Nat)) (least j : Nat) : (cutN (lln W) least).getD j 0 < 16 := by
  obtain ⟨b1, b2, b3⟩ := llset hA
  obtain ⟨c1, c2, c3⟩ := cut_okl (least := least) b1 b2
  have h := c2.2.1 j
  rw [nats_getD] at h
  omega
theorem mem16 {X Y : List Nat} (hX : ∀ j, X.getD j 0 < 16) (hY : ∀ j, Y.getD j 0 < 16) : ∀ x ∈ X ++ Y, x < 16 := fun x hx => by
  rcases List.mem_append.1 hx with h | h
  · obtain ⟨j, hj, rfl⟩ := List.mem_iff_getElem.1 h
    have := hX j
    rwa [List.getD_eq_getElem?_getD, List.getElem?_eq_getElem hj] at this
  · obtain ⟨j, hj, rfl⟩ := List.mem_iff_getElem.1 h
    have := hY j
    rwa [List.getD_eq_getElem?_getD, List.getElem?_eq_getElem hj] at this
theorem pX_len (T : List Tk) : 257 ≤ (pX T).length ∧ (pX T).length ≤ 286 := by
  unfold pX
  rw [cutN_len, lln_len, wX_len]
  exact ⟨cutm_ge _ _ _ (by omega), cutm_le _ _ _⟩
theorem pY_len (T : List Tk) : 1 ≤ (pY T).length ∧ (pY T).length ≤ 30 := by
  unfold pY
  rw [cutN_len, lln_len, wY_len]
  exact ⟨cutm_ge _ _ _ (by omega), cutm_le _ _ _⟩
set_option maxRecDepth 10000 in
set_option maxHeartbeats 8000000 in
theorem Desc2_c (T : List Tk) (hT : T.length ≤ 100000) (hTok : ∀ t ∈ T, TOK t) (qt : Option Addr) (dt : Nat) (px py : Option Addr) (cx cy : Nat) :
    JS Tryz.prog 6 Tryz.f6.ntmps (DscR w0 H (dscT T)) [] w0 (todo Tryz.f6 [.b, .b, .b, .b, .b]) [(3, .slice qt T.length dt), (4, .slice px 286 cx), (5, .slice py 30 cy)]
      (vec 38 1 (.slice px 286 cx) 286 (ints .u64 (nats (wX T))) :: vec 38 1 (.slice py 30 cy) 30 (ints .u64 (nats (wY T))) :: vec 44 3 (.slice qt T.length dt) T.length (tkv T) :: H) := by
  have aX := askX T hT
  have aY := askY T hT
  obtain ⟨b1, b2, b3⟩ := llset aX
  obtain ⟨c1, c2, c3⟩ := cut_okl (least := 257) b1 b2
  obtain ⟨b1', b2', b3'⟩ := llset aY
  obtain ⟨c1', c2', c3'⟩ := cut_okl (least := 1) b1' b2'
  have lX := pX_len T
  have lY := pY_len T
  have x16 : ∀ j, (pX T).getD j 0 < 16 := ll16 aX 257
  have y16 : ∀ j, (pY T).getD j 0 < 16 := ll16 aY 1
  have hdl := descB_len (mem16 x16 y16) (by rw [List.length_append]; omega)
  have eX : nats (lln (wX T)) = tab 286 fun s => ((Pm.LL (wX T) 15 s : Nat) : Int) := by rw [lln_nats, wX_len]
  have eY : nats (lln (wY T)) = tab 30 fun s => ((Pm.LL (wY T) 15 s : Nat) : Int) := by rw [lln_nats, wY_len]
  have nX := nats_len (pX T)
  have nY := nats_len (pY T)
  refine JS_at rfl ?_
  repeat (first | (refine sx ?_; try intro _))
  refine JO_call Tryz.call18 rfl rfl fun w hw => (SqBest_c px cx 286 (wX T) (vec_rd (List.Mem.head _)) (wX_len T) (wX_lt T hT) 15 aX w hw).mono ?_
  rintro e w' ⟨q1, d1, rfl, hw'⟩
  rw [← eX] at hw'
  refine ⟨_, rfl, _, hw', ?_⟩
  clear hw' hw w w'
  repeat (first | (refine sx ?_; try intro _))
  refine JO_call Tryz.call17 rfl rfl fun w hw => (SqCut_c q1 d1 286 (lln (wX T)) 257 (vec_rd (List.Mem.head _)) (by rw [lln_len, wX_len]) (by omega) (by omega) w hw).mono ?_
  rintro e w' ⟨qx, dx, rfl, hrx, hw'⟩
  rw [show cutN (lln (wX T)) 257 = pX T from rfl] at hrx ⊢
  refine ⟨_, rfl, _, hw', ?_⟩
  clear hw' hw w w'
  repeat (first | (refine sx ?_; try intro _))
  refine JO_call Tryz.call18 rfl rfl fun w hw => (SqBest_c py cy 30 (wY T) (vec_rd (List.Mem.tail _ (List.Mem.tail _ (List.Mem.head _)))) (wY_len T) (wY_lt T hT) 15 aY w hw).mono ?_
  rintro e w' ⟨q2, d2, rfl, hw'⟩
  rw [← eY] at hw'
  refine ⟨_, rfl, _, hw', ?_⟩
  clear hw' hw w w'
  repeat (first | (refine sx ?_; try intro _))
  refine JO_call Tryz.call17 rfl rfl fun w hw => (SqCut_c q2 d2 30 (lln (wY T)) 1 (vec_rd (List.Mem.head _)) (by rw [lln_len, wY_len]) (by omega) (by omega) w hw).mono ?_
  rintro e w' ⟨qy, dy, rfl, hry, hw'⟩
  rw [show cutN (lln (wY T)) 1 = pY T from rfl] at hry ⊢
  refine ⟨_, rfl, _, hw', ?_⟩
  clear hw' hw w w'
  have hrx2 := Rd_weak hrx fun w hw => hw.drop (a := vec 5 1 (.slice q2 30 d2) 30 (ints .u8 (nats (lln (wY T)))))
  have gT : Rd w0 (vec 5 1 (.slice q2 30 d2) 30 (ints .u8 (nats (lln (wY T)))) :: vec 5 1 (.slice q1 286 d1) 286 (ints .u8 (nats (lln (wX T)))) :: vec 38 1 (.slice px 286 cx) 286 (ints .u64 (nats (wX T))) :: vec 38 1 (.slice py 30 cy) 30 (ints .u64 (nats (wY T))) :: vec 44 3 (.slice qt T.length dt) T.length (tkv T) :: H)
    (.slice qt T.length dt) T.length (tkv T) := vec_rd (e := 44) (size := 3) (by repeat (first | apply List.Mem.head | apply List.Mem.tail))
  have hGH : H.Sublist (vec 5 1 (.slice q2 30 d2) 30 (ints .u8 (nats (lln (wY T)))) :: vec 5 1 (.slice q1 286 d1) 286 (ints .u8 (nats (lln (wX T)))) :: vec 38 1 (.slice px 286 cx) 286 (ints .u64 (nats (wX T))) :: vec 38 1 (.slice py 30 cy) 30 (ints .u64 (nats (wY T))) :: vec 44 3 (.slice qt T.length dt) T.length (tkv T) :: H) :=
    (((((List.Sublist.refl H).cons _).cons _).cons _).cons _).cons _
  clear hrx
  have hrx := hrx2
  clear hrx2
  generalize vec 5 1 (.slice q2 30 d2) 30 (ints .u8 (nats (lln (wY T)))) :: vec 5 1 (.slice q1 286 d1) 286 (ints .u8 (nats (lln (wX T)))) :: vec 38 1 (.slice px 286 cx) 286 (ints .u64 (nats (wX T))) :: vec 38 1 (.slice py 30 cy) 30 (ints .u64 (nats (wY T))) :: vec 44 3 (.slice qt T.length dt) T.length (tkv T) :: H = G at *
  have c1 : OKB (nats (pX T)) := c1
  have c2 : OKL (nats (pX T)) := c2
  have c1' : OKB (nats (pY T)) := c1'
  have c2' : OKL (nats (pY T)) := c2'
  repeat (first | (refine sx ?_; try intro _))
  rename_i bw
  refine JO_call Tryz.call19 rfl rfl fun w hw => (MakeS_c qx dx (pX T).length (nats (pX T)) (Rd_weak hrx fun w hw => hw.drop) nX c1 (by omega) (Rd.nil (Rd_weak hrx fun w hw => hw.drop) hw) w hw).mono ?_
  rintro e w' ⟨u, r, rfl, ⟨h, _⟩ | ⟨_, rfl, ba, a1, a2, a3, rfl, hsa, hw'⟩⟩
  · exact absurd c2 h.not
  refine ⟨_, rfl, _, hw', ?_⟩
  clear hw' hw w w'
  repeat (first | (refine sx ?_; try intro _))
  refine JO_call Tryz.call19 rfl rfl fun w hw => (MakeS_c qy dy (pY T).length (nats (pY T)) (Rd_weak hry fun w hw => St.sub (by repeat (first | exact List.Sublist.refl _ | apply List.Sublist.cons_cons | apply List.Sublist.cons)) hw) nY c1' (by omega) (Rd.nil (Rd_weak hry fun w hw => St.sub (by repeat (first | exact List.Sublist.refl _ | apply List.Sublist.cons_cons | apply List.Sublist.cons)) hw) hw) w hw).mono ?_
  rintro e w' ⟨u, r, rfl, ⟨h, _⟩ | ⟨_, rfl, bb, a4, a5, a6, rfl, hsb, hw'⟩⟩
  · exact absurd c2' h.not
  refine ⟨_, rfl, _, hw', ?_⟩
  clear hw' hw w w'
  repeat ((fail_if_success refine gIdR 19 ?_); first | (first | (refine sx ?_; try intro _)))
  refine JS_H (H' := wtA bw [] none 0 [ptr ba, ptr bb] :: wrV [] none 0 :: a4 :: a5 :: a6 :: a1 :: a2 :: a3 :: G) (fun w hw => by
    have h1 := St.nilvec (e := 5) (sz := 1) (base := none) hw
    show St w0 (blk bw [.slice none 0 0, .int .i64 0, ptr ba, ptr bb] :: vec 5 1 (.slice none 0 0) 0 (ints .u8 (pack [])) :: a4 :: a5 :: a6 :: a1 :: a2 :: a3 :: G) w
    have hp : pack [] = [] := by unfold pack; rfl
    rw [hp]
    exact h1.perm (by (repeat (first | exact List.Perm.refl _ | refine List.Perm.cons _ ?_ | refine (List.perm_middle (l₁ := [_])).trans (List.Perm.cons _ ?_) | refine (List.perm_middle (l₁ := [_, _])).trans (List.Perm.cons _ ?_) | refine (List.perm_middle (l₁ := [_, _, _])).trans (List.Perm.cons _ ?_) | refine (List.perm_middle (l₁ := [_, _, _, _])).trans (List.Perm.cons _ ?_) | refine (List.perm_middle (l₁ := [_, _, _, _, _])).trans (List.Perm.cons _ ?_) | refine (List.perm_middle (l₁ := [_, _, _, _, _, _])).trans (List.Perm.cons _ ?_) | refine (List.perm_middle (l₁ := [_, _, _, _, _, _, _])).trans (List.Perm.cons _ ?_) | refine (List.perm_middle (l₁ := [_, _, _, _, _, _, _, _])).trans (List.Perm.cons _ ?_))))) ?_
  have hsa2 : IsSet w0 (a4 :: a5 :: a6 :: a1 :: a2 :: a3 :: G) ba (nats (pX T)) := hsa.sub ((((((List.nil_sublist G).cons_cons a3).cons_cons a2).cons_cons a1).cons a6).cons a5 |>.cons a4)
  have hsb2 : IsSet w0 (a4 :: a5 :: a6 :: a1 :: a2 :: a3 :: G) bb (nats (pY T)) := hsb.sub (((List.nil_sublist _).cons_cons a6).cons_cons a5 |>.cons_cons a4)
  have gT2 : Rd w0 (a4 :: a5 :: a6 :: a1 :: a2 :: a3 :: G) (.slice qt T.length dt) T.length (tkv T) := Rd_weak gT fun w hw => St.sub (by repeat (first | exact List.Sublist.refl _ | apply List.Sublist.cons_cons | apply List.Sublist.cons)) hw
  have hrx2 : Rd w0 (a4 :: a5 :: a6 :: a1 :: a2 :: a3 :: G) (.slice qx (pX T).length dx) (pX T).length (ints .u8 (nats (pX T))) := Rd_weak hrx fun w hw => St.sub (by repeat (first | exact List.Sublist.refl _ | apply List.Sublist.cons_cons | apply List.Sublist.cons)) hw
  have hry2 : Rd w0 (a4 :: a5 :: a6 :: a1 :: a2 :: a3 :: G) (.slice qy (pY T).length dy) (pY T).length (ints .u8 (nats (pY T))) := Rd_weak hry fun w hw => St.sub (by repeat (first | exact List.Sublist.refl _ | apply List.Sublist.cons_cons | apply List.Sublist.cons)) hw
  have hGH2 : H.Sublist (a4 :: a5 :: a6 :: a1 :: a2 :: a3 :: G) := (((((hGH.cons a3).cons a2).cons a1).cons a6).cons a5).cons a4
  clear hrx hry hsa hsb gT hGH
  generalize a4 :: a5 :: a6 :: a1 :: a2 :: a3 :: G = G2 at *
  have o0 := nil_01'
  have o1 := app_01 o0 (grp_01 1 1)
  have l1 : (([] : List Int) ++ grp 1 1).length = 1 := by rw [List.nil_append, grp_len]
  have o2 := app_01 o1 (grp_01 2 2)
  have l2 : (([] : List Int) ++ grp 1 1 ++ grp 2 2).length = 3 := by rw [List.length_append, l1, grp_len]
  repeat (first | (refine sx ?_; try intro _))
  refine JO_call Tryz.call20 rfl rfl fun w hw => (WGroupT_c bw [] none 0 1 1 (by omega) ⟨by decide, by decide⟩ (by decide) o0 (by simp) w hw).mono ?_
  rintro e w' ⟨rfl, qa, da, hw'⟩
  refine ⟨_, rfl, _, hw', ?_⟩
  clear hw' hw w w'
  repeat (first | (refine sx ?_; try intro _))
  refine JO_call Tryz.call20 rfl rfl fun w hw => (WGroupT_c bw _ qa da 2 2 (by omega) ⟨by decide, by decide⟩ (by decide) o1 (by omega) w hw).mono ?_
  rintro e w' ⟨rfl, qb, db, hw'⟩
  refine ⟨_, rfl, _, hw', ?_⟩
  clear hw' hw w w'
  repeat (first | (refine sx ?_; try intro _))
  refine JO_call Tryz.call21 rfl rfl fun w hw => (Describe_c bw _ qb db qx qy dx dy (pX T).length (pY T).length (pX T) (pY T) hrx2 hry2 rfl rfl lX lY x16 y16 o2 (by omega) w hw).mono ?_
  rintro e w' ⟨rfl, qc, dc, hw'⟩
  rw [List.nil_append] at hw'
  refine ⟨_, rfl, _, hw', ?_⟩
  clear hw' hw w w'
  have hlen3 : (grp 1 1 ++ grp 2 2 ++ descB (pX T) (pY T)).length ≤ 30000 := by
    rw [List.length_append, List.length_append, grp_len, grp_len]; omega
  have h3 := Desc3_c (w0 := w0) (H := H) T hT hTok qt dt bw ba bb qc dc G2 gT2 hsa2 hsb2 (fun w a q d L hw => St.sub ((hGH2.cons _).cons _ |>.cons_cons a) hw) hlen3
  repeat (first | exact JS_of_at (fn := Tryz.f6) (p := [.b, .b, .b, .b, .b, .b, .b, .b, .b, .b, .b, .b]) (JS_ov (by repeat (first | exact trivial | refine ⟨rfl, ?_⟩ | refine ⟨lookI rfl (by omega), ?_⟩)) h3) rfl | (first | (refine sx ?_; try intro _)))
end
end Go.Proofs.YtbiocgenbgbfpaaGreat
