import Derived.WalkKit
import Derived.ProofKit
import Derived.OpenShut
import Derived.ChangeSlices
import Derived.Test.YtakgoflfcgofdaaH2
set_option linter.unusedVariables false
set_option linter.unusedSimpArgs false
namespace Go.Proofs.Ytakgoflfcgofdaa
open Sx Go
theorem kzero (w : World) : (zeroValue 108).run Try.prog w = .ok (.slice none 0 0) w := by
  have h : (Try.prog.info? 108).bind (·.zero) = some (.slice none 0 0) := by kernel_rfl
  obtain ⟨x, h1, h2⟩ := Option.bind_eq_some_iff.1 h
  simp [zeroValue, typeInfo, h1, h2]
theorem ints_i64 (l : List Nat) (j : Nat) (h : j < l.length) : (ints .i64 (l.map Int.ofNat))[j]? = some (.int .i64 (l.getD j 0 : Nat)) := by
  unfold ints
  rw [List.getElem?_map, List.getElem?_map, List.getElem?_eq_getElem h]
  simp [List.getD_eq_getElem?_getD, h]
theorem drop3 (B : List Int) (i : Nat) (h : i + 3 ≤ B.length) : ((ints .u8 B).drop (i * 1)).take 3 = [.int .u8 (k3 B i).1, .int .u8 (k3 B i).2.1, .int .u8 (k3 B i).2.2] := by
  unfold k3
  have e : B.drop i = B.getD i 0 :: B.getD (i + 1) 0 :: B.getD (i + 2) 0 :: B.drop (i + 3) := by
    rw [List.drop_eq_getElem_cons (by omega), List.drop_eq_getElem_cons (by omega), List.drop_eq_getElem_cons (by omega)]
    simp [List.getD_eq_getElem?_getD, List.getElem?_eq_getElem (show i < B.length by omega), List.getElem?_eq_getElem (show i + 1 < B.length by omega), List.getElem?_eq_getElem (show i + 2 < B.length by omega)]
  unfold ints
  rw [Nat.mul_one, ← List.map_drop, e]
  rfl
/-- the byte of a token's cells -/
def tkx (B : List Int) (at_ n : Nat) : Int := if n = 0 then B.getD at_ 0 else 0
section
variable {w0 : World} {H : List Asn}
attribute [local irreducible] pst plc sam
set_option maxRecDepth 10000 in
set_option maxHeartbeats 4000000 in
/-- the places, from the newest on -/
theorem Best_t {R : Ending → World → Prop} (bp bt br : Nat) (u : Value) (p : Option Addr) (c m : Nat) (B : List Int) (i : Nat) (L : List Nat) (q : Option Addr) (dd : Nat)
    (hr : Rd w0 H (.slice p m c) m (ints .u8 B)) (hb : blk bp [.slice p m c, u] ∈ H) (hm : B.length = m) (hl : Rd w0 H (.slice q L.length dd) L.length (ints .i64 (L.map Int.ofNat))) (hi : i < m) (hL : ∀ j, j < L.length → L.getD j 0 < i) (h4 : m ≤ 100000) (hLl : L.length ≤ 100000)
    (hR : ∀ w s, s = pst B i L.reverse (0, 0) → (s = (0, 0) ∨ 0 < s.1) → St w0 H w → R (.returned (.agg #[.int .u8 (tkx B i s.1), .int .i64 s.1, .int .i64 s.2])) w) :
    JS Try.prog 68 Try.f68.ntmps R [] w0 (todo Try.f68 [.b, .b, .b, .b, .a]) [(0, .pointer (some ⟨bp, 0, none⟩)), (1, .int .i64 i), (4, .pointer (some ⟨br, 0, none⟩)), (5, .pointer (some ⟨bt, 0, none⟩)), (6, .slice q L.length dd)]
      (blk bt [.int .u8 (B.getD i 0), .int .i64 0, .int .i64 0] :: blk br [.int .u8 0, .int .i64 0, .int .i64 0] :: H) := by
  refine JS_at rfl ?_
  repeat (first | (refine sx ?_; try intro _))
  refine JS_loop3 (fun (k n d : Nat) => [(0, .pointer (some ⟨bp, 0, none⟩)), (1, .int .i64 i), (4, .pointer (some ⟨br, 0, none⟩)), (5, .pointer (some ⟨bt, 0, none⟩)), (6, .slice q L.length dd), (7, .int .i64 (k - 1 : Int))])
    (fun k n d => blk bt [.int .u8 (tkx B i n), .int .i64 n, .int .i64 d] :: blk br [.int .u8 0, .int .i64 0, .int .i64 0] :: H)
    (fun k n d => k ≤ L.length ∧ n ≠ 258 ∧ ((n, d) = (0, 0) ∨ 0 < n) ∧ pst B i L.reverse (0, 0) = pst B i (L.take k).reverse (n, d)) (fun k _ _ => k) L.length 0 0 ⟨Nat.le_refl _, by omega, .inl rfl, by rw [List.take_length]⟩ (by repeat (first | exact trivial | refine ⟨rfl, ?_⟩ | refine ⟨lookI rfl (by omega), ?_⟩)) (fun w h => by rw [show tkx B i 0 = B.getD i 0 from rfl]; exact h) ?_
  intro k n d ⟨hk, hn, hnd, he⟩ again
  have hfinal : ∀ (n d : Nat), pst B i L.reverse (0, 0) = (n, d) → ((n, d) = (0, 0) ∨ 0 < n) → ∀ w, St w0 (blk bt [.int .u8 (tkx B i n), .int .i64 n, .int .i64 d] :: blk br [.int .u8 (tkx B i n), .int .i64 n, .int .i64 d] :: H) w → R (.returned (.agg #[.int .u8 (tkx B i n), .int .i64 n, .int .i64 d])) w :=
    fun n d h1 h2 w hw => hR w (n, d) h1.symm h2 hw.drop.drop
  cases k with
  | zero =>
    clear again
    rw [show ((0 : Nat) : Int) - 1 = -1 from rfl]
    have hf := hfinal n d (by rw [he]; unfold pst; rfl) hnd
    repeat (first | (refine sx ?_; try intro _))
    refine JS_retC (tb := tb) (vs := [.agg #[.int .u8 (tkx B i n), .int .i64 n, .int .i64 d]]) Try.func68 rfl (by first | exact ResV.agg (tb := tb) rfl (by repeat (first | apply List.Mem.head | apply List.Mem.tail)) rfl rfl rfl ResV.nil | exact ResV.agg (tb := tb) rfl (by repeat (first | apply List.Mem.head | apply List.Mem.tail)) rfl rfl rfl (ResV.tmp rfl ResV.nil) | exact ResV.agg (tb := tb) rfl (by repeat (first | apply List.Mem.head | apply List.Mem.tail)) rfl rfl rfl (ResV.tmp rfl (ResV.tmp rfl ResV.nil)) | exact ResV.one (tb := tb) rfl (by repeat (first | apply List.Mem.head | apply List.Mem.tail)) rfl rfl rfl ResV.nil | exact ResV.one (tb := tb) rfl (by repeat (first | apply List.Mem.head | apply List.Mem.tail)) rfl rfl rfl (ResV.tmp rfl ResV.nil) | exact ResV.one (tb := tb) rfl (by repeat (first | apply List.Mem.head | apply List.Mem.tail)) rfl rfl rfl (ResV.one (tb := tb) rfl (by repeat (first | apply List.Mem.head | apply List.Mem.tail)) rfl rfl rfl ResV.nil) | exact ResV.tmp rfl (ResV.agg (tb := tb) rfl (by repeat (first | apply List.Mem.head | apply List.Mem.tail)) rfl rfl rfl ResV.nil) | exact ResV.tmp rfl (ResV.one (tb := tb) rfl (by repeat (first | apply List.Mem.head | apply List.Mem.tail)) rfl rfl rfl ResV.nil)) hf
  | succ k =>
    rw [show ((k + 1 : Nat) : Int) - 1 = (k : Int) by omega]
    have gL := ints_i64 L k (by omega)
    have hjl := hL k (by omega)
    obtain ⟨j, hj⟩ : ∃ j, L.getD k 0 = j := ⟨_, rfl⟩
    rw [hj] at gL hjl
    have htk : (L.take (k + 1)).reverse = j :: (L.take k).reverse := by
      rw [List.take_add_one, List.reverse_append, List.getElem?_eq_getElem (by omega)]
      rw [List.getD_eq_getElem?_getD, List.getElem?_eq_getElem (by omega)] at hj
      simp only [Option.getD_some] at hj
      rw [hj]; rfl
    rw [htk] at he
    by_cases hfar : 32768 < i - j
    · clear again
      have hf := hfinal n d (by rw [he]; unfold pst; rw [if_pos hfar]) hnd
      repeat (first | (apply gJO; refine JO_v (oL (V_loadC (tb := tb) rfl (Rd_weak hl fun w hw => St.sub (by repeat (first | exact List.Sublist.refl _ | apply List.Sublist.cons_cons | apply List.Sublist.cons)) hw) rfl rfl gL rfl)) ?_) | (first | (refine sx ?_; try intro _)))
      refine JS_retC (tb := tb) (vs := [.agg #[.int .u8 (tkx B i n), .int .i64 n, .int .i64 d]]) Try.func68 rfl (by first | exact ResV.agg (tb := tb) rfl (by repeat (first | apply List.Mem.head | apply List.Mem.tail)) rfl rfl rfl ResV.nil | exact ResV.agg (tb := tb) rfl (by repeat (first | apply List.Mem.head | apply List.Mem.tail)) rfl rfl rfl (ResV.tmp rfl ResV.nil) | exact ResV.agg (tb := tb) rfl (by repeat (first | apply List.Mem.head | apply List.Mem.tail)) rfl rfl rfl (ResV.tmp rfl (ResV.tmp rfl ResV.nil)) | exact ResV.one (tb := tb) rfl (by repeat (first | apply List.Mem.head | apply List.Mem.tail)) rfl rfl rfl ResV.nil | exact ResV.one (tb := tb) rfl (by repeat (first | apply List.Mem.head | apply List.Mem.tail)) rfl rfl rfl (ResV.tmp rfl ResV.nil) | exact ResV.one (tb := tb) rfl (by repeat (first | apply List.Mem.head | apply List.Mem.tail)) rfl rfl rfl (ResV.one (tb := tb) rfl (by repeat (first | apply List.Mem.head | apply List.Mem.tail)) rfl rfl rfl ResV.nil) | exact ResV.tmp rfl (ResV.agg (tb := tb) rfl (by repeat (first | apply List.Mem.head | apply List.Mem.tail)) rfl rfl rfl ResV.nil) | exact ResV.tmp rfl (ResV.one (tb := tb) rfl (by repeat (first | apply List.Mem.head | apply List.Mem.tail)) rfl rfl rfl ResV.nil)) hf
    · have hs := sam_le B 258 j i
      repeat (first | (apply gJO; refine JO_v (oL (V_loadC (tb := tb) rfl (Rd_weak hl fun w hw => St.sub (by repeat (first | exact List.Sublist.refl _ | apply List.Sublist.cons_cons | apply List.Sublist.cons)) hw) rfl rfl gL rfl)) ?_) | (first | (refine sx ?_; try intro _)))
      refine JO_call Try.call92 rfl rfl fun w hw => (Same_c bp u p c m B (Rd_weak hr fun w hw => St.sub (by repeat (first | exact List.Sublist.refl _ | apply List.Sublist.cons_cons | apply List.Sublist.cons)) hw) (List.Mem.tail _ (List.Mem.tail _ hb)) hm j i hjl (by omega) (by omega) w hw).mono ?_
      rintro e w' ⟨rfl, hw'⟩
      refine ⟨_, rfl, _, hw', ?_⟩
      clear hw' hw w w'
      have hpst : pst B i (j :: (L.take k).reverse) (n, d) = if (if n < sam B j i 258 then (sam B j i 258, i - j) else (n, d)).1 = 258 then (if n < sam B j i 258 then (sam B j i 258, i - j) else (n, d)) else pst B i (L.take k).reverse (if n < sam B j i 258 then (sam B j i 258, i - j) else (n, d)) := by
        rw [pst.eq_def]; simp only []; rw [if_neg hfar]
      rw [hpst] at he
      clear hpst htk
      obtain ⟨s, hse⟩ : ∃ s, sam B j i 258 = s := ⟨_, rfl⟩
      rw [hse] at he hs ⊢
      have hij : ((i : Int) - (j : Int)) = ((i - j : Nat) : Int) := by omega
      by_cases hlt : n < s
      · rw [if_pos hlt] at he
        have hx0 : tkx B i s = 0 := by unfold tkx; rw [if_neg (by omega)]
        repeat (first | (apply gJO; refine JO_v (oL (V_loadC (tb := tb) rfl (Rd_weak hl fun w hw => St.sub (by repeat (first | exact List.Sublist.refl _ | apply List.Sublist.cons_cons | apply List.Sublist.cons)) hw) rfl rfl gL rfl)) ?_) | (first | (refine sx ?_; try intro _)))
        rw [hij, show (Value.int .u8 0) = .int .u8 (tkx B i s) by rw [hx0]]
        by_cases h258 : s = 258
        · rw [if_pos h258] at he
          have hf := hfinal s (i - j) he (.inr (by omega))
          clear again
          repeat (first | (refine sx ?_; try intro _))
          refine JS_retC (tb := tb) (vs := [.agg #[.int .u8 (tkx B i s), .int .i64 s, .int .i64 (i - j : Nat)]]) Try.func68 rfl (by first | exact ResV.agg (tb := tb) rfl (by repeat (first | apply List.Mem.head | apply List.Mem.tail)) rfl rfl rfl ResV.nil | exact ResV.agg (tb := tb) rfl (by repeat (first | apply List.Mem.head | apply List.Mem.tail)) rfl rfl rfl (ResV.tmp rfl ResV.nil) | exact ResV.agg (tb := tb) rfl (by repeat (first | apply List.Mem.head | apply List.Mem.tail)) rfl rfl rfl (ResV.tmp rfl (ResV.tmp rfl ResV.nil)) | exact ResV.one (tb := tb) rfl (by repeat (first | apply List.Mem.head | apply List.Mem.tail)) rfl rfl rfl ResV.nil | exact ResV.one (tb := tb) rfl (by repeat (first | apply List.Mem.head | apply List.Mem.tail)) rfl rfl rfl (ResV.tmp rfl ResV.nil) | exact ResV.one (tb := tb) rfl (by repeat (first | apply List.Mem.head | apply List.Mem.tail)) rfl rfl rfl (ResV.one (tb := tb) rfl (by repeat (first | apply List.Mem.head | apply List.Mem.tail)) rfl rfl rfl ResV.nil) | exact ResV.tmp rfl (ResV.agg (tb := tb) rfl (by repeat (first | apply List.Mem.head | apply List.Mem.tail)) rfl rfl rfl ResV.nil) | exact ResV.tmp rfl (ResV.one (tb := tb) rfl (by repeat (first | apply List.Mem.head | apply List.Mem.tail)) rfl rfl rfl ResV.nil)) hf
        · rw [if_neg h258] at he
          repeat (first | (refine sx ?_; try intro _))
          exact JS_again3 again k s (i - j) ⟨by omega, h258, .inr (by omega), he⟩ (by omega) (by repeat (first | exact trivial | refine ⟨rfl, ?_⟩ | refine ⟨lookI rfl (by omega), ?_⟩)) (fun w hw => by rw [hx0] at hw ⊢; exact hw)
      · rw [if_neg hlt] at he
        rw [if_neg hn] at he
        repeat (first | (refine sx ?_; try intro _))
        exact JS_again3 again k n d ⟨by omega, hn, hnd, he⟩ (by omega) (by repeat (first | exact trivial | refine ⟨rfl, ?_⟩ | refine ⟨lookI rfl (by omega), ?_⟩)) (fun w hw => hw)
attribute [local irreducible] tok k3
theorem kk3 {B : List Int} (hB : OKB B) (i : Nat) : isKey Try.prog 124 (kv (k3 B i)) := by
  unfold k3
  exact kv_key (hB i) (hB (i + 1)) (hB (i + 2))
theorem tok_pst {B : List Int} {i : Nat} (h3 : i + 3 ≤ B.length) {s : Nat × Nat} (hs : s = pst B i (plc B i (k3 B i)).reverse (0, 0)) (h0 : s = (0, 0) ∨ 0 < s.1) : tok B i = (tkx B i s.1, s.1, s.2) := by
  rw [tok_far B i h3, ← hs]
  unfold tkx
  rcases h0 with rfl | h0
  · rfl
  · rw [if_neg (fun h => by rw [h] at h0; simp at h0), if_neg (by omega)]
theorem plc_getD {B : List Int} {i : Nat} {x : K3} : ∀ j, j < (plc B i x).length → (plc B i x).getD j 0 < i := fun j hj => by
  rw [List.getD_eq_getElem?_getD, List.getElem?_eq_getElem hj]
  exact plc_lt (List.getElem_mem hj)
theorem plc_len {B : List Int} {i : Nat} {x : K3} : (plc B i x).length ≤ i := by
  have := List.length_filter_le (fun i => decide (i + 3 ≤ B.length ∧ k3 B i = x)) (List.range i)
  rw [List.length_range] at this
  unfold plc; exact this
theorem Rd_nil : Rd w0 H (.slice none 0 0) 0 [] := by
  unfold Rd
  exact fun w hw => ⟨⟨_, _, rfl, fun _ => rfl, Nat.le_refl _⟩, fun j v hv => by simp at hv⟩
/-- one entry's slice taken out -/
abbrev plO (bp bm : Nat) (p : Option Addr) (c m : Nat) (es : List MapEntry) (A C : List PX) (x : PX) (clock : Nat) (H : List Asn) : List Asn := vx x :: blk bp [.slice p m c, .map (some bm)] :: mapL bm es clock :: bigA (A.map vx ++ C.map vx) :: H
theorem plA_out0 {bp bm : Nat} {p : Option Addr} {c m : Nat} {X A C : List PX} {x : PX} {clock : Nat} (hAC : X = A ++ x :: C) {w : World} (h : St w0 (plA bp bm p c m X clock H) w) : St w0 (plO bp bm p c m (X.map Prod.fst) A C x clock H) w := by
  have hbig : X.map vx = A.map vx ++ vx x :: C.map vx := by rw [hAC, List.map_append, List.map_cons]
  unfold plA at h
  rw [hbig] at h
  have h1 := (h.perm (List.perm_middle (l₁ := [_, _]))).big_out
  exact h1.perm (List.Perm.cons _ (List.perm_middle (l₁ := [_, _])).symm)
theorem plA_in {bp bm : Nat} {p : Option Addr} {c m : Nat} {X A C : List PX} {x : PX} {clock : Nat} (hAC : X = A ++ x :: C) {w : World} (h : St w0 (plO bp bm p c m (X.map Prod.fst) A C x clock H) w) : St w0 (plA bp bm p c m X clock H) w := by
  have hbig : X.map vx = A.map vx ++ vx x :: C.map vx := by rw [hAC, List.map_append, List.map_cons]
  unfold plA
  rw [hbig]
  have h1 : St w0 (vx x :: bigA (A.map vx ++ C.map vx) :: ([blk bp [.slice p m c, .map (some bm)], mapL bm (X.map Prod.fst) clock] ++ H)) w := h.perm (List.Perm.cons _ (List.perm_middle (l₁ := [_, _])))
  exact h1.big_in.perm (List.perm_middle (l₁ := [_, _])).symm
theorem plA_out {a1 a2 : Asn} {bp bm : Nat} {p : Option Addr} {c m : Nat} {X A C : List PX} {x : PX} {clock : Nat} (hAC : X = A ++ x :: C) {w : World} (h : St w0 (a1 :: a2 :: plA bp bm p c m X clock H) w) : St w0 (a1 :: a2 :: plO bp bm p c m (X.map Prod.fst) A C x clock H) w := by
  have h1 : St w0 (plA bp bm p c m X clock (a1 :: a2 :: H)) w := h.perm ((List.perm_append_comm (l₁ := [a1, a2]) (l₂ := [_, _, _])).append_right H)
  exact (plA_out0 hAC h1).perm ((List.perm_append_comm (l₁ := [_, _, _, _]) (l₂ := [a1, a2])).append_right H)
set_option maxRecDepth 10000 in
set_option maxHeartbeats 4000000 in
/-- the token at a place -/
theorem Best_c (bp bm : Nat) (p : Option Addr) (c m : Nat) (X : List PX) (clock : Nat) (B : List Int) (i : Nat) (hr : Rd w0 H (.slice p m c) m (ints .u8 B)) (hm : B.length = m) (hB : OKB B) (hX : PI B i X clock) (hi : i < m) (h4 : m ≤ 100000) (w : World) (hw : St w0 (plA bp bm p c m X clock H) w) :
    Calls Try.prog 68 #[.pointer (some ⟨bp, 0, none⟩), .int .i64 i] w fun e w' => e = .returned (.agg #[.int .u8 (tok B i).1, .int .i64 (tok B i).2.1, .int .i64 (tok B i).2.2]) ∧ St w0 (plA bp bm p c m X clock H) w' := by
  refine enter (vs := [.pointer (some ⟨bp, 0, none⟩), .int .i64 i]) Try.func68 rfl rfl rfl hw ?_
  have gB : (ints .u8 B)[i]? = some (.int .u8 (B.getD i 0)) := ints_get (by omega)
  have hmc : m ≤ c := (hr.lcap hw.drop.drop.drop).1
  clear hw w
  by_cases h3 : m < i + 3
  · rw [tok_near B i (by omega)]
    repeat (first | (apply gJO; refine JO_v (oL (V_loadC (tb := tb) rfl (Rd_weak hr fun w hw => St.sub (by repeat (first | exact List.Sublist.refl _ | apply List.Sublist.cons_cons | apply List.Sublist.cons)) hw) rfl rfl gB rfl)) ?_) | (first | (refine sx ?_; try intro _)))
    refine JS_retC (tb := tb) (vs := [.agg #[.int .u8 (B.getD i 0), .int .i64 0, .int .i64 0]]) Try.func68 rfl (by first | exact ResV.agg (tb := tb) rfl (by repeat (first | apply List.Mem.head | apply List.Mem.tail)) rfl rfl rfl ResV.nil | exact ResV.agg (tb := tb) rfl (by repeat (first | apply List.Mem.head | apply List.Mem.tail)) rfl rfl rfl (ResV.tmp rfl ResV.nil) | exact ResV.agg (tb := tb) rfl (by repeat (first | apply List.Mem.head | apply List.Mem.tail)) rfl rfl rfl (ResV.tmp rfl (ResV.tmp rfl ResV.nil)) | exact ResV.one (tb := tb) rfl (by repeat (first | apply List.Mem.head | apply List.Mem.tail)) rfl rfl rfl ResV.nil | exact ResV.one (tb := tb) rfl (by repeat (first | apply List.Mem.head | apply List.Mem.tail)) rfl rfl rfl (ResV.tmp rfl ResV.nil) | exact ResV.one (tb := tb) rfl (by repeat (first | apply List.Mem.head | apply List.Mem.tail)) rfl rfl rfl (ResV.one (tb := tb) rfl (by repeat (first | apply List.Mem.head | apply List.Mem.tail)) rfl rfl rfl ResV.nil) | exact ResV.tmp rfl (ResV.agg (tb := tb) rfl (by repeat (first | apply List.Mem.head | apply List.Mem.tail)) rfl rfl rfl ResV.nil) | exact ResV.tmp rfl (ResV.one (tb := tb) rfl (by repeat (first | apply List.Mem.head | apply List.Mem.tail)) rfl rfl rfl ResV.nil)) ?_
    intro w hw
    exact ⟨rfl, hw.drop.drop⟩
  · have hd3 := drop3 B i (by omega)
    have hkey := kk3 hB i
    repeat (first | (apply gJO; refine JO_v (oL (V_loadC (tb := tb) rfl (Rd_weak hr fun w hw => St.sub (by repeat (first | exact List.Sublist.refl _ | apply List.Sublist.cons_cons | apply List.Sublist.cons)) hw) rfl rfl gB rfl)) ?_) | (apply gJS; apply JS_seq) | (apply gJS; apply JS_region) | (apply gJS; refine JS_cond_F rfl (by omega) ?_) | (apply gJS; apply JS_skip) | (apply gJS; apply JS_block) | (apply gJO; first | (refine sx ?_; try intro _)) | (apply gJR; first | (refine sx ?_; try intro _)))
    by_cases hf : ∃ x ∈ X, x.1.key = kv (k3 B i)
    · obtain ⟨x, hx, hxk⟩ := hf
      obtain ⟨i', _, _, hk', hp', q, dd, hv⟩ := hX.key x hx
      have : k3 B i' = k3 B i := kv_inj (hk'.symm.trans hxk)
      rw [this] at hp'
      rw [hp'] at hv
      have hxm : x.1 ∈ X.map Prod.fst := List.mem_map.2 ⟨x, hx, rfl⟩
      obtain ⟨A, C, hAC⟩ := List.append_of_mem hx
      have hrx : Rd w0 (plO bp bm p c m (X.map Prod.fst) A C x clock H) (.slice q (plc B i (k3 B i)).length dd) (plc B i (k3 B i)).length (ints .i64 ((plc B i (k3 B i)).map Int.ofNat)) := by
        have := vec_rd (w0 := w0) (H := plO bp bm p c m (X.map Prod.fst) A C x clock H) (v := x.1.val) (n := x.2.length) (cs := ints .i64 (x.2.map Int.ofNat)) (e := 3) (size := 1) (List.Mem.head _)
        rw [hv, hp'] at this
        exact this
      repeat (first | (apply gQO; refine QO_v rfl (V_loadSub (tb := tb) (lo := i) (q := 3) rfl (Rd_weak hr fun w hw => St.sub (by repeat (first | exact List.Sublist.refl _ | apply List.Sublist.cons_cons | apply List.Sublist.cons)) hw) rfl rfl (by omega) rfl (by decide) rfl hd3 rfl) ?_) | (apply gQO; refine QO_v rfl (V_slice (tb := tb) (lo := i) (hi := i + 3) rfl rfl rfl rfl rfl rfl (by omega) (fun w hw => ⟨by omega, by omega⟩) rfl) ?_) | (apply gQO; refine QO_v rfl (V_arrayAt (tb := tb) rfl rfl (by omega) rfl) ?_) | (apply gQO; refine QO_e (OpE_ofV (V_lookupT (tb := tb) kkt rfl rfl rfl (by repeat (first | apply List.Mem.head | apply List.Mem.tail)) hX.ok hxm hxk rfl)) rfl (.inr fun _ w hw => hw) ?_; intro _) | (apply hIx 5) | (first | (refine sx ?_; try intro _)))
      refine Hold.go ?_
      rw [hv]
      refine JS_H (fun w hw => plA_out hAC hw) ?_
      exact JS_of_at (fn := Try.f68) (p := [.b, .b, .b, .b, .a]) (JS_ov (by repeat (first | exact trivial | refine ⟨rfl, ?_⟩ | refine ⟨lookI rfl (by omega), ?_⟩)) (Best_t bp _ _ _ p c m B i (plc B i (k3 B i)) q dd (Rd_weak hr fun w hw => St.sub (by repeat (first | exact List.Sublist.refl _ | apply List.Sublist.cons_cons | apply List.Sublist.cons)) hw) (by repeat (first | apply List.Mem.head | apply List.Mem.tail)) hm hrx hi plc_getD h4 (Nat.le_trans plc_len (by omega)) fun w s h1 h2 hw => ⟨by rw [tok_pst (by omega) h1 h2], plA_in hAC hw⟩)) rfl
    · have hnil : plc B i (k3 B i) = [] := by
        cases hp : plc B i (k3 B i) with
        | nil => rfl
        | cons j r =>
          have hj : j ∈ plc B i (k3 B i) := by rw [hp]; simp
          have hlt := plc_lt hj
          have hjk : j + 3 ≤ B.length ∧ k3 B j = k3 B i := by
            have : j ∈ (List.range i).filter fun i' => decide (i' + 3 ≤ B.length ∧ k3 B i' = k3 B i) := by unfold plc at hj; exact hj
            simpa using (List.mem_filter.1 this).2
          obtain ⟨x, hx, hxk⟩ := hX.all j hlt hjk.1
          exact absurd ⟨x, hx, by rw [hxk, hjk.2]⟩ hf
      have hmiss : ∀ e ∈ X.map Prod.fst, e.key ≠ kv (k3 B i) := fun e he hk => by
        obtain ⟨x, hx, rfl⟩ := List.mem_map.1 he
        exact hf ⟨x, hx, hk⟩
      have hrn : Rd w0 (plA bp bm p c m X clock H) (.slice none ([] : List Nat).length 0) ([] : List Nat).length (ints .i64 (([] : List Nat).map Int.ofNat)) := Rd_nil
      repeat (first | (apply gQO; refine QO_v rfl (V_loadSub (tb := tb) (lo := i) (q := 3) rfl (Rd_weak hr fun w hw => St.sub (by repeat (first | exact List.Sublist.refl _ | apply List.Sublist.cons_cons | apply List.Sublist.cons)) hw) rfl rfl (by omega) rfl (by decide) rfl hd3 rfl) ?_) | (apply gQO; refine QO_v rfl (V_slice (tb := tb) (lo := i) (hi := i + 3) rfl rfl rfl rfl rfl rfl (by omega) (fun w hw => ⟨by omega, by omega⟩) rfl) ?_) | (apply gQO; refine QO_v rfl (V_arrayAt (tb := tb) rfl rfl (by omega) rfl) ?_) | (apply gQO; refine QO_e (OpE_ofV (V_lookupF (tb := tb) kkt rfl rfl rfl (by repeat (first | apply List.Mem.head | apply List.Mem.tail)) hX.ok hkey hmiss kzero rfl)) rfl (.inr fun _ w hw => hw) ?_; intro _) | (apply hIx 5) | (first | (refine sx ?_; try intro _)))
      refine Hold.go ?_
      exact JS_of_at (fn := Try.f68) (p := [.b, .b, .b, .b, .a]) (JS_ov (by repeat (first | exact trivial | refine ⟨rfl, ?_⟩ | refine ⟨lookI rfl (by omega), ?_⟩)) (Best_t bp _ _ _ p c m B i [] none 0 (Rd_weak hr fun w hw => St.sub (by repeat (first | exact List.Sublist.refl _ | apply List.Sublist.cons_cons | apply List.Sublist.cons)) hw) (by repeat (first | apply List.Mem.head | apply List.Mem.tail)) hm hrn hi (fun j hj => absurd hj (by simp)) h4 (by simp) fun w s h1 h2 hw => ⟨by rw [tok_pst (by omega) (by rw [hnil]; exact h1) h2], hw⟩)) rfl
end
end Go.Proofs.Ytakgoflfcgofdaa

set_option linter.unusedVariables false
set_option linter.unusedSimpArgs false
namespace Go.Proofs.Ytakgoflfcgofdaa
open Sx Go
section
variable {w0 : World} {H : List Asn}
attribute [local irreducible] pst plc sam k3
theorem plc_id {B : List Int} {i : Nat} {x : K3} (h : k3 B i ≠ x) : plc B (i + 1) x = plc B i x := by rw [plc_s, if_neg (fun h' => h h'.2)]
theorem PI.near {B : List Int} {i : Nat} {X : List PX} {clock : Nat} (h : PI B i X clock) (h3 : B.length < i + 3) : PI B (i + 1) X clock := by
  refine ⟨h.ok, fun x hx => ?_, fun j hj hj3 => h.all j (by omega) hj3⟩
  obtain ⟨i', h1, h2, h3', h4, h5⟩ := h.key x hx
  exact ⟨i', h1, by omega, h3', by rw [h4, plc_s, if_neg (by omega)], h5⟩
theorem PI.more {B : List Int} {i : Nat} {A C : List PX} {x : PX} {clock : Nat} (h : PI B i (A ++ x :: C) clock) (h3 : i + 3 ≤ B.length) (hk : x.1.key = kv (k3 B i)) (p : Option Addr) (c : Nat) :
    PI B (i + 1) (A ++ ({ x.1 with val := .slice p (x.2.length + 1) c }, x.2 ++ [i]) :: C) clock := by
  have hother : ∀ y ∈ A ++ C, ∃ j, j + 3 ≤ B.length ∧ j < i + 1 ∧ y.1.key = kv (k3 B j) ∧ y.2 = plc B (i + 1) (k3 B j) ∧ ∃ q d, y.1.val = .slice q y.2.length d := fun y hy => by
    have hyX : y ∈ A ++ x :: C := by
      rcases List.mem_append.1 hy with hy | hy
      · exact List.mem_append_left _ hy
      · exact List.mem_append_right _ (List.mem_cons_of_mem _ hy)
    obtain ⟨j, h1, h2, h4, h5, h6⟩ := h.key y hyX
    have hne : y.1.key ≠ x.1.key := by
      have hn := h.ok.nodup
      rw [List.map_map, List.map_append, List.map_cons] at hn
      have hn2 := (List.perm_middle.nodup_iff).1 hn
      rw [List.nodup_cons, ← List.map_append] at hn2
      exact fun e => hn2.1 (List.mem_map.2 ⟨y, hy, e⟩)
    exact ⟨j, h1, by omega, h4, by rw [h5, plc_id (fun e => hne (by rw [h4, hk, e]))], h6⟩
  refine ⟨?_, fun y hy => ?_, fun j hj hj3 => ?_⟩
  · have := h.ok
    rw [List.map_append, List.map_cons] at this ⊢
    exact this.setv _
  · rcases List.mem_append.1 hy with hy | hy
    · exact hother y (List.mem_append_left _ hy)
    · rcases List.mem_cons.1 hy with rfl | hy
      · obtain ⟨j, h1, h2, h4, h5, h6⟩ := h.key x (by simp)
        refine ⟨i, h3, by omega, hk, ?_, p, c, ?_⟩
        · have : k3 B j = k3 B i := kv_inj (h4.symm.trans hk)
          show x.2 ++ [i] = _
          rw [plc_s, if_pos ⟨h3, rfl⟩, h5, this]
        · simp
      · exact hother y (List.mem_append_right _ hy)
  · rcases Nat.lt_or_ge j i with hji | hji
    · obtain ⟨y, hy, hyk⟩ := h.all j hji hj3
      rcases List.mem_append.1 hy with hy | hy
      · exact ⟨y, List.mem_append_left _ hy, hyk⟩
      · rcases List.mem_cons.1 hy with rfl | hy
        · exact ⟨_, List.mem_append_right _ (List.mem_cons_self ..), hyk⟩
        · exact ⟨y, List.mem_append_right _ (List.mem_cons_of_mem _ hy), hyk⟩
    · obtain rfl : j = i := by omega
      exact ⟨_, List.mem_append_right _ (List.mem_cons_self ..), hk⟩
theorem PI.new {B : List Int} {i : Nat} {X : List PX} {clock : Nat} (h : PI B i X clock) (hB : OKB B) (h3 : i + 3 ≤ B.length) (hn : ¬ ∃ x ∈ X, x.1.key = kv (k3 B i)) (hp : plc B i (k3 B i) = []) (p : Option Addr) (c : Nat) :
    PI B (i + 1) (X ++ (⟨kv (k3 B i), .slice p 1 c, clock⟩, [i]) :: []) (clock + 1) := by
  refine ⟨?_, fun y hy => ?_, fun j hj hj3 => ?_⟩
  · rw [List.map_append, List.map_cons, List.map_nil]
    refine h.ok.push (kk3 hB i) fun e he hk => ?_
    obtain ⟨x, hx, rfl⟩ := List.mem_map.1 he
    exact hn ⟨x, hx, hk⟩
  · rcases List.mem_append.1 hy with hy | hy
    · obtain ⟨j, h1, h2, h4, h5, h6⟩ := h.key y hy
      exact ⟨j, h1, by omega, h4, by rw [h5, plc_id (fun e => hn ⟨y, hy, by rw [h4, e]⟩)], h6⟩
    · simp at hy
      subst hy
      exact ⟨i, h3, by omega, rfl, by rw [plc_s, if_pos ⟨h3, rfl⟩, hp]; rfl, p, c, rfl⟩
  · rcases Nat.lt_or_ge j i with hji | hji
    · obtain ⟨y, hy, hyk⟩ := h.all j hji hj3
      exact ⟨y, List.mem_append_left _ hy, hyk⟩
    · obtain rfl : j = i := by omega
      exact ⟨_, List.mem_append_right _ (List.mem_cons_self ..), rfl⟩
theorem plc_nil {B : List Int} {i : Nat} {X : List PX} {clock : Nat} (hX : PI B i X clock) (hf : ¬ ∃ x ∈ X, x.1.key = kv (k3 B i)) : plc B i (k3 B i) = [] := by
  cases hp : plc B i (k3 B i) with
  | nil => rfl
  | cons j r =>
    have hj : j ∈ plc B i (k3 B i) := by rw [hp]; simp
    have hlt := plc_lt hj
    have hjk : j + 3 ≤ B.length ∧ k3 B j = k3 B i := by
      have : j ∈ (List.range i).filter fun i' => decide (i' + 3 ≤ B.length ∧ k3 B i' = k3 B i) := by unfold plc at hj; exact hj
      simpa using (List.mem_filter.1 this).2
    obtain ⟨x, hx, hxk⟩ := hX.all j hlt hjk.1
    exact absurd ⟨x, hx, by rw [hxk, hjk.2]⟩ hf
set_option maxRecDepth 10000 in
set_option maxHeartbeats 4000000 in
/-- a place is noted -/
theorem Note_c (bp bm : Nat) (p : Option Addr) (c m : Nat) (X : List PX) (clock : Nat) (B : List Int) (i : Nat) (hr : Rd w0 H (.slice p m c) m (ints .u8 B)) (hm : B.length = m) (hB : OKB B) (hX : PI B i X clock) (hi : i < m) (h4 : m ≤ 100000) (w : World) (hw : St w0 (plA bp bm p c m X clock H) w) :
    Calls Try.prog 69 #[.pointer (some ⟨bp, 0, none⟩), .int .i64 i] w fun e w' => e = .returned (.tuple #[]) ∧ ∃ X clock, PI B (i + 1) X clock ∧ St w0 (plA bp bm p c m X clock H) w' := by
  refine enter (vs := [.pointer (some ⟨bp, 0, none⟩), .int .i64 i]) Try.func69 rfl rfl rfl hw ?_
  have hmc : m ≤ c := (hr.lcap hw.drop.drop.drop).1
  clear hw w
  by_cases h3 : m < i + 3
  · repeat (first | (refine sx ?_; try intro _))
    refine JS_fin Try.func69 rfl rfl (vs := []) ?_
    intro w hw
    exact ⟨rfl, X, clock, hX.near (by omega), hw⟩
  · have hd3 := drop3 B i (by omega)
    have hkey := kk3 hB i
    repeat (first | (apply gJO; refine JO_v (V_loadSub (tb := tb) (lo := i) (q := 3) rfl (Rd_weak hr fun w hw => St.sub (by repeat (first | exact List.Sublist.refl _ | apply List.Sublist.cons_cons | apply List.Sublist.cons)) hw) rfl rfl (by omega) rfl (by decide) rfl hd3 rfl) ?_) | (apply gJO; refine JO_v (V_slice (tb := tb) (lo := i) (hi := i + 3) rfl rfl rfl rfl rfl rfl (by omega) (fun w hw => ⟨by omega, by omega⟩) rfl) ?_) | (apply gJO; refine JO_v (V_arrayAt (tb := tb) rfl rfl (by omega) rfl) ?_) | (apply hIx' 2) | (first | (refine sx ?_; try intro _)))
    refine Hold.go ?_
    rename_i b4
    by_cases hf : ∃ x ∈ X, x.1.key = kv (k3 B i)
    · obtain ⟨x, hx, hxk⟩ := hf
      obtain ⟨i', _, _, hk', hp', q, dd, hv⟩ := hX.key x hx
      obtain ⟨A, C, hAC⟩ := List.append_of_mem hx
      have hX2 : X.map Prod.fst = A.map Prod.fst ++ x.1 :: C.map Prod.fst := by rw [hAC, List.map_append, List.map_cons]
      have hok := hX.ok
      rw [hX2] at hok
      have hvx : vx x = vec 3 1 (.slice q x.2.length dd) x.2.length (ints .i64 (x.2.map Int.ofNat)) := by unfold vx; rw [hv]
      have hln : x.2.length ≤ i := by rw [hp']; exact plc_len
      refine JS_H (H' := blk b4 [.int .u8 (k3 B i).1, .int .u8 (k3 B i).2.1, .int .u8 (k3 B i).2.2] :: vec 3 1 (.slice q x.2.length dd) x.2.length (ints .i64 (x.2.map Int.ofNat)) :: blk bp [.slice p m c, .map (some bm)] :: mapL bm (A.map Prod.fst ++ x.1 :: C.map Prod.fst) clock :: bigA (A.map vx ++ C.map vx) :: H) (fun w hw => by
        rw [← hX2, ← hvx]
        exact (plA_out0 hAC (hw.perm ((List.perm_append_comm (l₁ := [_]) (l₂ := [_, _, _])).append_right H))).perm ((List.perm_append_comm (l₁ := [_, _, _, _]) (l₂ := [_])).append_right H)) ?_
      have hxm : x.1 ∈ A.map Prod.fst ++ x.1 :: C.map Prod.fst := by simp
      obtain ⟨l, hl⟩ : ∃ l, x.2 = l := ⟨_, rfl⟩
      rw [hl] at hln hv ⊢
      refine JS_order [0, 1, 2, 3, 4, 5, 6, 7, 8, 10, 9, 11] [4, 0] (Picks.cons rfl (Picks.cons rfl (Picks.cons rfl (Picks.cons rfl (Picks.cons rfl (Picks.cons rfl (Picks.cons rfl (Picks.cons rfl (Picks.cons rfl (Picks.cons rfl (Picks.cons rfl (Picks.cons rfl (Picks.nil))))))))))))) (by kernel_rfl) (by kernel_rfl) rfl (by decide +kernel) ?_
      repeat (first | (apply gQO; (refine QO_e (E_buildSlice (tb := tb) rfl rfl rfl rfl rfl rfl rfl rfl rfl) rfl (.inr fun _ _ hw => St.sub (by repeat (first | exact List.Sublist.refl _ | apply List.Sublist.cons_cons | apply List.Sublist.cons)) hw) ?_; intro _)) | (apply gQO; refine QO_e (E_entryT (tb := tb) kkt rfl rfl rfl (by repeat (first | apply List.Mem.head | apply List.Mem.tail)) hok hxm hxk rfl) rfl (.inr fun _ w hw => hw) ?_; intro _) | (apply gQO; (refine QO_e (E_appendB (tb := tb) rfl rfl rfl rfl rfl rfl (by repeat (first | exact Sel.here _ _ | apply Sel.there)) (by first | exact vec_rd (by repeat (first | apply List.Mem.head | apply List.Mem.tail)) | assumption | exact ArgRd.rd (by assumption) _ | (apply Rd_weak; assumption; intro _ hx; exact St.sub (by repeat (first | exact List.Sublist.refl _ | apply List.Sublist.cons_cons | apply List.Sublist.cons)) hx)) (by simp only [ints_len, List.length_cons, List.length_nil]; first | omega | rfl) (by first | exact ints_one | (repeat (first | exact trivial | refine ⟨rfl, ?_⟩))) (by omega) (by omega) rfl) rfl (.inr fun _ _ hw => vecB_back (by repeat (first | exact Sel.here _ _ | apply Sel.there)) hw) ?_; intro _)) | (apply gQO; refine QO_k rfl (K_entryStore rfl rfl rfl (by repeat (first | exact Sel.here _ _ | apply Sel.there)) hok rfl) rfl ?_) | (first | (refine sx ?_; try intro _)))
      rw [hv]
      repeat (first | (apply gQO; (refine QO_e (E_appendB (tb := tb) rfl rfl rfl rfl rfl rfl (by repeat (first | exact Sel.here _ _ | apply Sel.there)) (by first | exact vec_rd (by repeat (first | apply List.Mem.head | apply List.Mem.tail)) | assumption | exact ArgRd.rd (by assumption) _ | (apply Rd_weak; assumption; intro _ hx; exact St.sub (by repeat (first | exact List.Sublist.refl _ | apply List.Sublist.cons_cons | apply List.Sublist.cons)) hx)) (by simp only [ints_len, List.length_cons, List.length_nil]; first | omega | rfl) (by first | exact ints_one | (repeat (first | exact trivial | refine ⟨rfl, ?_⟩))) (by omega) (by omega) rfl) rfl (.inr fun _ _ hw => vecB_back (by repeat (first | exact Sel.here _ _ | apply Sel.there)) hw) ?_; intro _)) | (apply gQO; refine QO_k rfl (K_entryStore rfl rfl rfl (by repeat (first | exact Sel.here _ _ | apply Sel.there)) hok rfl) rfl ?_) | (first | (refine sx ?_; try intro _)))
      rename_i pc
      refine JS_fin Try.func69 rfl rfl (vs := []) ?_
      intro w hw
      have hmore := (by rw [← hAC]; exact hX : PI B i (A ++ x :: C) clock).more (by omega) hxk pc.1 pc.2
      rw [hl] at hmore
      refine ⟨rfl, _, _, hmore, plA_in rfl ?_⟩
      rw [List.map_append, List.map_cons]
      have hv2 : vx ({ x.1 with val := .slice pc.1 (l.length + 1) pc.2 }, l ++ [i]) = vec 3 1 (.slice pc.1 (l.length + 1) pc.2) (l.length + 1) (ints .i64 (l.map Int.ofNat) ++ [.int .i64 i]) := by
        unfold vx
        simp only [List.map_append, List.map_cons, List.map_nil, List.length_append, List.length_cons, List.length_nil]
        rw [← ints_app]
        rfl
      unfold plO
      rw [hv2]
      exact vecB_fwd (Sel.here _ _) (hw.drop.drop)
    · have hnil := plc_nil hX hf
      have hmiss : ∀ e ∈ X.map Prod.fst, e.key ≠ kv (k3 B i) := fun e he hk => by
        obtain ⟨x, hx, rfl⟩ := List.mem_map.1 he
        exact hf ⟨x, hx, hk⟩
      have hok : MOk Try.prog 124 (X.map Prod.fst ++ (⟨kv (k3 B i), .slice none 0 0, clock⟩ : MapEntry) :: []) (clock + 1) := hX.ok.push hkey hmiss
      refine JS_H (H' := vec 3 1 (.slice none 0 0) 0 [] :: blk b4 [.int .u8 (k3 B i).1, .int .u8 (k3 B i).2.1, .int .u8 (k3 B i).2.2] :: plA bp bm p c m X clock H) (fun w hw => St.nilvec hw) ?_
      refine JS_order [0, 1, 2, 3, 4, 5, 6, 7, 8, 10, 9, 11] [4, 0] (Picks.cons rfl (Picks.cons rfl (Picks.cons rfl (Picks.cons rfl (Picks.cons rfl (Picks.cons rfl (Picks.cons rfl (Picks.cons rfl (Picks.cons rfl (Picks.cons rfl (Picks.cons rfl (Picks.cons rfl (Picks.nil))))))))))))) (by kernel_rfl) (by kernel_rfl) rfl (by decide +kernel) ?_
      repeat (first | (apply gQO; (refine QO_e (E_buildSlice (tb := tb) rfl rfl rfl rfl rfl rfl rfl rfl rfl) rfl (.inr fun _ _ hw => St.sub (by repeat (first | exact List.Sublist.refl _ | apply List.Sublist.cons_cons | apply List.Sublist.cons)) hw) ?_; intro _)) | (apply gQO; refine QO_e (E_entryF (tb := tb) kkt rfl rfl rfl (by repeat (first | exact Sel.here _ _ | apply Sel.there)) hX.ok hkey hmiss kzero rfl) rfl (.inl rfl) ?_; intro _) | (apply gQO; (refine QO_e (E_appendB (tb := tb) rfl rfl rfl rfl rfl rfl (by repeat (first | exact Sel.here _ _ | apply Sel.there)) (by first | exact vec_rd (by repeat (first | apply List.Mem.head | apply List.Mem.tail)) | assumption | exact ArgRd.rd (by assumption) _ | (apply Rd_weak; assumption; intro _ hx; exact St.sub (by repeat (first | exact List.Sublist.refl _ | apply List.Sublist.cons_cons | apply List.Sublist.cons)) hx)) (by simp only [ints_len, List.length_cons, List.length_nil]; first | omega | rfl) (by first | exact ints_one | (repeat (first | exact trivial | refine ⟨rfl, ?_⟩))) (by omega) (by omega) rfl) rfl (.inr fun _ _ hw => vecB_back (by repeat (first | exact Sel.here _ _ | apply Sel.there)) hw) ?_; intro _)) | (apply gQO; refine QO_k rfl (K_entryStore rfl rfl rfl (by repeat (first | exact Sel.here _ _ | apply Sel.there)) hok rfl) rfl ?_) | (first | (refine sx ?_; try intro _)))
      rename_i pc
      refine JS_fin Try.func69 rfl rfl (vs := []) ?_
      intro w hw
      refine ⟨rfl, _, _, hX.new hB (by omega) hf hnil pc.1 pc.2, plA_in rfl ?_⟩
      rw [List.map_append, List.map_cons]
      have hv2 : vx (⟨kv (k3 B i), .slice pc.1 1 pc.2, clock⟩, [i]) = vec 3 1 (.slice pc.1 (0 + 1) pc.2) (0 + 1) ([] ++ [.int .i64 i]) := by
        unfold vx; rfl
      unfold plO
      rw [hv2, List.map_nil, List.map_nil, List.append_nil]
      exact St.sub (by repeat (first | exact List.Sublist.refl _ | apply List.Sublist.cons_cons | apply List.Sublist.cons)) (vecB_fwd (Sel.there _ _ _ _ (Sel.here _ _)) hw)
end
end Go.Proofs.Ytakgoflfcgofdaa

set_option linter.unusedVariables false
set_option linter.unusedSimpArgs false
namespace Go.Proofs.Ytakgoflfcgofdaa
open Sx Go
section
variable {w0 : World} {H : List Asn}
attribute [local irreducible] pst plc sam k3 tok toks tkv
theorem toks_s {B : List Int} {i : Nat} (h : i < B.length) : toks B (B.length - i) i = tok B i :: toks B (B.length - (i + max 1 (tok B i).2.1)) (i + max 1 (tok B i).2.1) := by
  obtain ⟨f, hf⟩ : ∃ f, B.length - i = f + 1 := ⟨B.length - i - 1, by omega⟩
  rw [hf]
  have e : toks B (f + 1) i = tok B i :: toks B f (i + max 1 (tok B i).2.1) := by rw [toks.eq_def]; simp only []; rw [if_pos h]
  rw [e, toks_fuel B f (B.length - (i + max 1 (tok B i).2.1)) _ (by omega) (by omega)]
theorem toks_end {B : List Int} : toks B (B.length - B.length) B.length = [] := by
  rw [Nat.sub_self]; unfold toks; rfl
theorem toks_len {B : List Int} : ∀ f i, (toks B f i).length ≤ f
  | 0, i => by unfold toks; simp
  | f + 1, i => by
    unfold toks
    split
    · have := toks_len (B := B) f (i + max 1 (tok B i).2.1); simp; omega
    · simp
set_option maxRecDepth 10000 in
set_option maxHeartbeats 4000000 in
/-- all tokens of a text -/
theorem Find_c (p : Option Addr) (c m : Nat) (B : List Int) (hr : Rd w0 H (.slice p m c) m (ints .u8 B)) (hm : B.length = m) (hB : OKB B) (h4 : m ≤ 100000) (w : World) (hw : St w0 H w) :
    Calls Try.prog 36 #[.slice p m c] w fun e w' => ∃ q d, e = .returned (.slice q (toks B m 0).length d) ∧ St w0 (vec 60 3 (.slice q (toks B m 0).length d) (toks B m 0).length (tkv (toks B m 0)) :: H) w' := by
  have hmc : m ≤ c := (hr.lcap hw).1
  refine enter (vs := [.slice p m c]) Try.func36 rfl rfl rfl hw ?_
  clear hw w
  repeat (first | (apply gJO; apply kMm; refine JO_makeMap rfl ?_; intro _) | (first | (refine sx ?_; try intro _)))
  rename_i bm bp
  refine JS_loop6 (fun (i : Nat) (X : List PX) (clock : Nat) (q : Option Addr) (d : Nat) (L : List (Int × Nat × Nat)) => [(0, .slice p m c), (3, .pointer (some ⟨bp, 0, none⟩)), (4, .slice q L.length d), (5, .int .i64 i)])
    (fun i X clock q d L => vec 60 3 (.slice q L.length d) L.length (tkv L) :: plA bp bm p c m X clock H) (fun i X clock q d L => i ≤ m ∧ PI B i X clock ∧ L.length ≤ i ∧ toks B m 0 = L ++ toks B (m - i) i) (fun i _ _ _ _ _ => m - i) 0 [] 0 none 0 [] ⟨Nat.zero_le _, PI.nil B 0, Nat.le_refl _, by rw [Nat.sub_zero, List.nil_append]⟩ (by repeat (first | exact trivial | refine ⟨rfl, ?_⟩ | refine ⟨lookI rfl (by omega), ?_⟩))
    (fun w h => by
      have h1 := St.big_nil h
      have h2 := h1.perm (List.perm_append_comm (l₁ := [_]) (l₂ := [_, _]) |>.append_right H)
      have : tkv [] = [] := by unfold tkv; rfl
      rw [this]
      exact St.nilvec h2) ?_
  intro i X clock q d L ⟨hi, hX, hLl, hL⟩ again
  by_cases him : i < m
  · have hts := toks_s (B := B) (i := i) (by omega)
    have hbd := tok_bd B i (by omega)
    repeat (first | (refine sx ?_; try intro _))
    refine JO_call Try.call68 rfl rfl fun w hw => (Best_c (H := vec 60 3 (.slice q L.length d) L.length (tkv L) :: H) bp bm p c m X clock B i (Rd_weak hr fun w hw => St.sub (by repeat (first | exact List.Sublist.refl _ | apply List.Sublist.cons_cons | apply List.Sublist.cons)) hw) hm hB hX him h4 w (hw.perm (List.perm_append_comm (l₁ := [_]) (l₂ := [_, _, _]) |>.append_right H))).mono ?_
    rintro e w' ⟨rfl, hw'⟩
    refine ⟨_, rfl, vec 60 3 (.slice q L.length d) L.length (tkv L) :: plA bp bm p c m X clock H, hw'.perm (List.perm_append_comm (l₁ := [_, _, _]) (l₂ := [_]) |>.append_right H), ?_⟩
    clear hw' hw w w'
    rw [hm] at hts
    obtain ⟨⟨x, n, k⟩, ht⟩ : ∃ t, tok B i = t := ⟨_, rfl⟩
    rw [ht] at hts hbd ⊢
    simp only [] at hts ⊢
    have hn258 : i + max 1 n ≤ m := by
      rcases hbd with h | ⟨n', d', h, _⟩
      · have : n = 0 := (Prod.mk.inj (Prod.mk.inj h).2).1
        omega
      · have : n = n' := (Prod.mk.inj (Prod.mk.inj h).2).1
        omega
    clear hbd
    have hmx : max (1 : Int) (n : Int) = ((max 1 n : Nat) : Int) := by omega
    have htv := tkv_app L (x, n, k)
    have hll : (L ++ [(x, n, k)]).length = L.length + 1 := by simp
    repeat (first | (apply gJO; (refine JO_app (tb := tb) rfl rfl rfl rfl rfl rfl (by repeat (first | exact Sel.here _ _ | apply Sel.there)) (by first | exact vec_rd (by repeat (first | apply List.Mem.head | apply List.Mem.tail)) | assumption | exact ArgRd.rd (by assumption) _ | (apply Rd_weak; assumption; intro _ hx; exact St.sub (by repeat (first | exact List.Sublist.refl _ | apply List.Sublist.cons_cons | apply List.Sublist.cons)) hx)) (by simp only [ints_len, List.length_cons, List.length_nil]; first | omega | rfl) (by first | exact ints_one | (repeat (first | exact trivial | refine ⟨rfl, ?_⟩))) (by omega) rfl ?_; intro _ _)) | (apply gJO; refine JO_v (oc_max (V_max rfl rfl hmx rfl)) ?_) | (apply gJO; refine JO_v (V_max rfl rfl hmx rfl) ?_) | (first | (refine sx ?_; try intro _)))
    rename_i bt ps q2 d2
    refine JS_loop3 (fun (j : Nat) (X : List PX) (clock : Nat) => [(0, .slice p m c), (3, .pointer (some ⟨bp, 0, none⟩)), (4, .slice q2 (L.length + 1) d2), (5, .int .i64 ((i + j : Nat) : Int)), (24, .int .i64 ((max 1 n : Nat) : Int)), (25, .int .i64 j)])
      (fun j X clock => plA bp bm p c m X clock (vec 60 3 (.slice q2 (L ++ [(x, n, k)]).length d2) (L ++ [(x, n, k)]).length (tkv (L ++ [(x, n, k)])) :: H)) (fun j X clock => j ≤ max 1 n ∧ PI B (i + j) X clock) (fun j _ _ => max 1 n - j) 0 X clock ⟨Nat.zero_le _, hX⟩ (by repeat (first | exact trivial | refine ⟨rfl, ?_⟩ | refine ⟨lookI rfl (by omega), ?_⟩))
      (fun w hw => by
        rw [htv, hll]
        have h1 := (fun h => St.sub (H' := vec 60 3 (.slice q2 (L.length + 1) d2) (L.length + 1) (tkv L ++ [.int .u8 x, .int .i64 n, .int .i64 k]) :: plA bp bm p c m X clock H) ((List.Sublist.refl _).cons _ |>.cons _) h) hw
        exact h1.perm (List.perm_append_comm (l₁ := [_]) (l₂ := [_, _, _]) |>.append_right H)) ?_
    intro j X2 clock2 ⟨hj, hX2⟩ again2
    by_cases hjn : j < max 1 n
    · repeat (first | (refine sx ?_; try intro _))
      refine JO_call Try.call69 rfl rfl fun w hw => (Note_c bp bm p c m X2 clock2 B (i + j) (Rd_weak hr fun w hw => St.sub (by repeat (first | exact List.Sublist.refl _ | apply List.Sublist.cons_cons | apply List.Sublist.cons)) hw) hm hB hX2 (by omega) h4 w hw).mono ?_
      rintro e w' ⟨rfl, X3, clock3, hX3, hw'⟩
      refine ⟨_, rfl, _, hw', ?_⟩
      clear hw' hw w w'
      repeat (first | (refine sx ?_; try intro _))
      exact JS_again3 again2 (j + 1) X3 clock3 ⟨by omega, hX3⟩ (by omega) (by repeat (first | exact trivial | refine ⟨rfl, ?_⟩ | refine ⟨lookI rfl (by omega), ?_⟩)) (fun w hw => hw)
    · obtain rfl : j = max 1 n := by omega
      clear again2
      repeat (first | (refine sx ?_; try intro _))
      exact JS_again6 again (i + max 1 n) X2 clock2 q2 d2 (L ++ [(x, n, k)]) ⟨hn258, hX2, by rw [hll]; omega, by rw [hL, hts, List.append_assoc]; rfl⟩ (by omega) (by rw [hll]; exact (by repeat (first | exact trivial | refine ⟨rfl, ?_⟩ | refine ⟨lookI rfl (by omega), ?_⟩))) (fun w hw => hw.perm (List.perm_append_comm (l₁ := [_, _, _]) (l₂ := [_]) |>.append_right H))
  · obtain rfl : i = m := by omega
    clear again
    have hend : toks B i 0 = L := by rw [hL, ← hm, toks_end, List.append_nil]
    rw [hend]
    repeat (first | (refine sx ?_; try intro _))
    refine JS_ret Try.func36 rfl rfl fun w hw => ⟨q, d, rfl, St.sub (by repeat (first | exact List.Sublist.refl _ | apply List.Sublist.cons_cons | apply List.Sublist.cons)) hw⟩
end
end Go.Proofs.Ytakgoflfcgofdaa

set_option linter.unusedVariables false
set_option linter.unusedSimpArgs false
namespace Go.Proofs.Ytakgoflfcgofdaa
open Sx Go
/-! lengths' and distances' symbols: bounds -/
theorem pk_next (f : Int → Int × Int) (a n : Int) : ∀ k : Nat, ∀ i : Nat, i < k → pk f a n k < a + i → n < (f (a + i)).1
  | 0, i, h, _ => absurd h (by omega)
  | k + 1, i, h, hp => by
    unfold pk at hp
    split at hp
    · omega
    · rename_i hn
      rcases Nat.lt_or_ge i k with hik | hik
      · exact pk_next f a n k i hik hp
      · obtain rfl : i = k := by omega
        omega
theorem lbase_next : ∀ j : Fin 28, (lbase (257 + (j.val : Int) + 1)).1 ≤ (lbase (257 + (j.val : Int))).1 + 2 ^ (lbase (257 + (j.val : Int))).2.toNat := by decide +kernel
theorem lfar_next : ∀ j : Fin 29, (lfar (0 + (j.val : Int) + 1)).1 ≤ (lfar (0 + (j.val : Int))).1 + 2 ^ (lfar (0 + (j.val : Int))).2.toNat := by decide +kernel
theorem lbase_tab : ∀ j : Fin 29, 0 ≤ (lbase (257 + (j.val : Int))).2 ∧ (lbase (257 + (j.val : Int))).2 ≤ 5 ∧ (j.val = 28 → lbase (257 + (j.val : Int)) = (258, 0)) := by decide +kernel
theorem lfar_tab : ∀ j : Fin 30, 0 ≤ (lfar (0 + (j.val : Int))).2 ∧ (lfar (0 + (j.val : Int))).2 ≤ 13 ∧ (j.val = 29 → lfar (0 + (j.val : Int)) = (24577, 13)) := by decide +kernel
theorem lenS_bd (n : Int) (h3 : 3 ≤ n) (h258 : n ≤ 258) : ∃ s b : Nat, ∃ r : Int, lenS n = ((s : Int), (b : Int), r) ∧ 257 ≤ s ∧ s ≤ 285 ∧ b ≤ 5 ∧ 0 ≤ r ∧ r < 2 ^ b ∧ lbase s = (n - r, (b : Int)) := by
  have e := grt_pk lbase 257 n (by show (3 : Int) ≤ n; omega) 28
  have hb := pk_bd lbase 257 n 29
  have hle := pk_le lbase 257 n (by show (3 : Int) ≤ n; omega) 29
  have hnx := pk_next lbase 257 n 29
  unfold lenS
  rw [if_neg (by omega), e]
  obtain ⟨x, hx⟩ : ∃ x, pk lbase 257 n 29 = x := ⟨_, rfl⟩
  rw [hx] at hb hle hnx
  rw [show pk lbase 257 n (28 + 1) = x from hx]
  obtain ⟨j, rfl⟩ : ∃ j : Nat, x = 257 + (j : Int) := ⟨(x - 257).toNat, by omega⟩
  have hj : j < 29 := by omega
  obtain ⟨t1, t2, t3⟩ := lbase_tab ⟨j, hj⟩
  simp only [] at t1 t2 t3
  refine ⟨257 + j, (lbase (257 + (j : Int))).2.toNat, n - (lbase (257 + (j : Int))).1, ?_, by omega, by omega, by omega, by omega, ?_, ?_⟩
  · rw [Int.toNat_of_nonneg t1]; rfl
  · rcases Nat.lt_or_ge j 28 with h | h
    · have h1 := hnx (j + 1) (by omega) (by omega)
      have h2 := lbase_next ⟨j, h⟩
      simp only [] at h2
      have e2 : (257 : Int) + ((j + 1 : Nat) : Int) = 257 + (j : Int) + 1 := by omega
      rw [e2] at h1
      omega
    · rw [t3 (by omega)]; show n - 258 < 2 ^ 0; omega
  · rw [Int.toNat_of_nonneg t1, show (((257 + j : Nat) : Int)) = 257 + (j : Int) by omega]
    have : n - (n - (lbase (257 + (j : Int))).1) = (lbase (257 + (j : Int))).1 := by omega
    rw [this]
theorem spanS_bd (n : Int) (h1 : 1 ≤ n) (h32 : n ≤ 32768) : ∃ s b : Nat, ∃ r : Int, spanS n = ((s : Int), (b : Int), r) ∧ s ≤ 29 ∧ b ≤ 13 ∧ 0 ≤ r ∧ r < 2 ^ b ∧ lfar s = (n - r, (b : Int)) := by
  have e := grt_pk lfar 0 n (by show (1 : Int) ≤ n; omega) 29
  have hb := pk_bd lfar 0 n 30
  have hle := pk_le lfar 0 n (by show (1 : Int) ≤ n; omega) 30
  have hnx := pk_next lfar 0 n 30
  unfold spanS
  rw [if_neg (by omega), e]
  obtain ⟨x, hx⟩ : ∃ x, pk lfar 0 n 30 = x := ⟨_, rfl⟩
  rw [hx] at hb hle hnx
  rw [show pk lfar 0 n (29 + 1) = x from hx]
  obtain ⟨j, rfl⟩ : ∃ j : Nat, x = 0 + (j : Int) := ⟨x.toNat, by omega⟩
  have hj : j < 30 := by omega
  obtain ⟨t1, t2, t3⟩ := lfar_tab ⟨j, hj⟩
  simp only [] at t1 t2 t3
  refine ⟨j, (lfar (0 + (j : Int))).2.toNat, n - (lfar (0 + (j : Int))).1, ?_, by omega, by omega, by omega, ?_, ?_⟩
  · rw [Int.toNat_of_nonneg t1, Int.zero_add]
  · rcases Nat.lt_or_ge j 29 with h | h
    · have h1 := hnx (j + 1) (by omega) (by omega)
      have h2 := lfar_next ⟨j, h⟩
      simp only [] at h2
      have e2 : (0 : Int) + ((j + 1 : Nat) : Int) = 0 + (j : Int) + 1 := by omega
      rw [e2] at h1
      omega
    · rw [t3 (by omega)]; show n - 24577 < 2 ^ 13; omega
  · rw [Int.toNat_of_nonneg t1, Int.zero_add]
    have : n - (n - (lfar (j : Int)).1) = (lfar (j : Int)).1 := by omega
    rw [this]
/-- a token's bits -/
def tkb (t : Int × Nat × Nat) : List Int :=
  if t.2.2 = 0 then fxS t.1.toNat
  else fxS (lenS t.2.1).1.toNat ++ grp (lenS t.2.1).2.2 (lenS t.2.1).2.1.toNat ++ spS (spanS t.2.2).1.toNat ++ grp (spanS t.2.2).2.2 (spanS t.2.2).2.1.toNat
/-- a token as it may be -/
def TOK (t : Int × Nat × Nat) : Prop := (0 ≤ t.1 ∧ t.1 < 256 ∧ t.2.1 = 0 ∧ t.2.2 = 0) ∨ (t.1 = 0 ∧ 3 ≤ t.2.1 ∧ t.2.1 ≤ 258 ∧ 1 ≤ t.2.2 ∧ t.2.2 ≤ 32768)
theorem bms_ln (x : Int) (k : Nat) : (bms x k).length = k := by unfold bms; rw [List.length_map, List.length_range]
theorem bms_01' (x : Int) (k j : Nat) : (bms x k).getD j 0 = 0 ∨ (bms x k).getD j 0 = 1 := bms_01 x k j
theorem fxS_01 (k j : Nat) : (fxS k).getD j 0 = 0 ∨ (fxS k).getD j 0 = 1 := bms_01 _ _ j
theorem spS_01 (k j : Nat) : (spS k).getD j 0 = 0 ∨ (spS k).getD j 0 = 1 := bms_01 _ _ j
theorem spS_len (k : Nat) : (spS k).length = 5 := bms_ln _ _
theorem tkb_01 (t : Int × Nat × Nat) (j : Nat) : (tkb t).getD j 0 = 0 ∨ (tkb t).getD j 0 = 1 := by
  unfold tkb
  split
  · exact fxS_01 _ j
  · exact app_01 (app_01 (app_01 (fxS_01 _) (grp_01 _ _)) (spS_01 _)) (grp_01 _ _) j
theorem tkb_len {t : Int × Nat × Nat} (h : TOK t) : (tkb t).length ≤ 32 := by
  unfold tkb
  rcases h with ⟨h1, h2, h3, h4⟩ | ⟨h1, h2, h3, h4, h5⟩
  · rw [if_pos h4]
    have := fxS_len t.1.toNat (by omega); omega
  · rw [if_neg (by omega)]
    obtain ⟨s, b, r, e, a1, a2, a3, _⟩ := lenS_bd t.2.1 (by omega) (by omega)
    obtain ⟨s', b', r', e', a1', a3', _⟩ := spanS_bd t.2.2 (by omega) (by omega)
    rw [e, e']
    have := fxS_len s (by omega)
    simp only [List.length_append, Int.toNat_natCast, grp_len, spS_len]
    omega
section
attribute [local irreducible] grp fxS spS lenS spanS
variable {w0 : World} {H : List Asn} {b : Nat} {L : List Int} {q : Option Addr} {d : Nat} {pl ps pa pb : Option Addr} {cl cs ca cb : Nat}
set_option maxRecDepth 10000 in
set_option maxHeartbeats 4000000 in
/-- a token is written -/
theorem Tok_c (t : Int × Nat × Nat) (ht : TOK t) (hL : ∀ j, L.getD j 0 = 0 ∨ L.getD j 0 = 1) (hl : L.length ≤ 70368744177000) (w : World) (hw : St w0 (fwL b L q d pl ps pa pb cl cs ca cb H) w) :
    Calls Try.prog 37 #[.pointer (some ⟨b, 0, none⟩), .agg #[.int .u8 t.1, .int .i64 t.2.1, .int .i64 t.2.2]] w fun e w' => e = .returned (.tuple #[]) ∧ ∃ q d, St w0 (fwL b (L ++ tkb t) q d pl ps pa pb cl cs ca cb H) w' := by
  have hlen := tkb_len ht
  obtain ⟨x, n, k⟩ := t
  rcases ht with ⟨h1, h2, h3, h4⟩ | ⟨h1, h2, h3, h4, h5⟩
  · simp only [] at h1 h2 h3 h4
    subst h3; subst h4
    obtain ⟨x', rfl⟩ : ∃ x' : Nat, x = x' := ⟨x.toNat, by omega⟩
    exact Tok0_c x' (by omega) hL (by omega) w hw
  · simp only [] at h1 h2 h3 h4 h5 hlen ⊢
    obtain ⟨s, nb, r, e1, a1, a2, a3, a4, a5, _⟩ := lenS_bd n (by omega) (by omega)
    obtain ⟨s', nb', r', e2, c1, c3, c4, c5, _⟩ := spanS_bd k (by omega) (by omega)
    have htk : tkb (x, n, k) = fxS s ++ grp r nb ++ spS s' ++ grp r' nb' := by
      unfold tkb
      simp only []
      rw [if_neg (by omega), e1, e2]
      simp only [Int.toNat_natCast]
    rw [htk] at hlen ⊢
    simp only [List.length_append] at hlen
    have p5 : ∀ k : Fin 14, (2 : Int) ^ k.val ≤ 8192 := by decide
    have q1 := p5 ⟨nb, by omega⟩
    have q2 := p5 ⟨nb', by omega⟩
    simp only [] at q1 q2
    have f1 : nb ≤ 32 := by omega
    have f2 : r < 4294967296 := by omega
    have f3 : (L ++ fxS s).length ≤ 70368744177600 := by rw [List.length_append]; omega
    have f4 := app_01 hL (fxS_01 s)
    have f5 := app_01 f4 (grp_01 r nb)
    have f6 : (L ++ fxS s ++ grp r nb).length ≤ 70368744177600 := by rw [List.length_append, List.length_append]; omega
    have f7 := app_01 f5 (spS_01 s')
    have f8 : (L ++ fxS s ++ grp r nb ++ spS s').length ≤ 70368744177600 := by rw [List.length_append, List.length_append, List.length_append]; omega
    have f9 : nb' ≤ 32 := by omega
    have f10 : r' < 4294967296 := by omega
    have f11 : s < 288 := by omega
    have f12 : s' < 32 := by omega
    have f13 : L.length ≤ 70368744177600 := by omega
    refine enter (vs := [.pointer (some ⟨b, 0, none⟩), .agg #[.int .u8 x, .int .i64 n, .int .i64 k]]) Try.func37 rfl rfl rfl hw ?_
    clear hw w
    repeat (first | apply hIx 3 | (first | (refine sx ?_; try intro _)))
    refine Hold.go ?_
    rename_i bx
    refine JS_H (H' := fwL b L q d pl ps pa pb cl cs ca cb (blk bx [.int .u8 x, .int .i64 n, .int .i64 k] :: H)) (fun w hw => hw.perm (by (repeat (first | exact List.Perm.refl _ | refine List.Perm.cons _ ?_ | refine (List.perm_middle (l₁ := [_])).trans (List.Perm.cons _ ?_) | refine (List.perm_middle (l₁ := [_, _])).trans (List.Perm.cons _ ?_) | refine (List.perm_middle (l₁ := [_, _, _])).trans (List.Perm.cons _ ?_) | refine (List.perm_middle (l₁ := [_, _, _, _])).trans (List.Perm.cons _ ?_) | refine (List.perm_middle (l₁ := [_, _, _, _, _])).trans (List.Perm.cons _ ?_) | refine (List.perm_middle (l₁ := [_, _, _, _, _, _])).trans (List.Perm.cons _ ?_) | refine (List.perm_middle (l₁ := [_, _, _, _, _, _, _])).trans (List.Perm.cons _ ?_) | refine (List.perm_middle (l₁ := [_, _, _, _, _, _, _, _])).trans (List.Perm.cons _ ?_))))) ?_
    repeat (first | (refine sx ?_; try intro _))
    refine JO_call Try.call21 rfl rfl fun w hw => (Length_c n w hw).mono ?_
    rintro e w' ⟨rfl, hw'⟩
    rw [e1]; dsimp only
    refine ⟨_, rfl, _, hw', ?_⟩
    clear hw' hw w w'
    repeat (first | (refine sx ?_; try intro _))
    refine JO_call Try.call38 rfl rfl fun w hw => (FLit_c (H := blk bx [.int .u8 x, .int .i64 n, .int .i64 k] :: H) s f11 hL f13 w hw).mono ?_
    rintro e w' ⟨rfl, q2, d2, hw'⟩
    refine ⟨_, rfl, _, hw', ?_⟩
    clear hw' hw w w'
    repeat (first | (refine sx ?_; try intro _))
    refine JO_call Try.call35 rfl rfl fun w hw => (WGroupT_c b (L ++ fxS s) q2 d2 r nb f1 ⟨a4, a5⟩ f2 f4 f3 w hw).mono ?_
    rintro e w' ⟨rfl, q3, d3, hw'⟩
    refine ⟨_, rfl, _, hw', ?_⟩
    clear hw' hw w w'
    repeat (first | (refine sx ?_; try intro _))
    refine JO_call Try.call23 rfl rfl fun w hw => (Span_c k w hw).mono ?_
    rintro e w' ⟨rfl, hw'⟩
    rw [e2]; dsimp only
    refine ⟨_, rfl, _, hw', ?_⟩
    clear hw' hw w w'
    repeat (first | (refine sx ?_; try intro _))
    refine JO_call Try.call70 rfl rfl fun w hw => (FSpan_c (L := L ++ fxS s ++ grp r nb) (q := q3) (d := d3) (H := blk bx [.int .u8 x, .int .i64 n, .int .i64 k] :: H) s' f12 f5 f6 w hw).mono ?_
    rintro e w' ⟨rfl, q4, d4, hw'⟩
    refine ⟨_, rfl, _, hw', ?_⟩
    clear hw' hw w w'
    repeat (first | (refine sx ?_; try intro _))
    refine JO_call Try.call35 rfl rfl fun w hw => (WGroupT_c b (L ++ fxS s ++ grp r nb ++ spS s') q4 d4 r' nb' f9 ⟨c4, c5⟩ f10 f7 f8 w hw).mono ?_
    rintro e w' ⟨rfl, q5, d5, hw'⟩
    refine ⟨_, rfl, _, hw', ?_⟩
    clear hw' hw w w'
    repeat (first | (refine sx ?_; try intro _))
    refine JS_fin Try.func37 rfl rfl (vs := []) ?_
    intro w hw
    refine ⟨rfl, q5, d5, ?_⟩
    have : L ++ (fxS s ++ grp r nb ++ spS s' ++ grp r' nb') = L ++ fxS s ++ grp r nb ++ spS s' ++ grp r' nb' := by simp only [List.append_assoc]
    rw [this]
    exact St.sub (by repeat (first | exact List.Sublist.refl _ | apply List.Sublist.cons_cons | apply List.Sublist.cons)) hw
end
end Go.Proofs.Ytakgoflfcgofdaa

set_option linter.unusedVariables false
set_option linter.unusedSimpArgs false
namespace Go.Proofs.Ytakgoflfcgofdaa
open Sx Go
/-- the bits of a fixed block -/
def fixL (B : List Int) : List Int := grp 1 1 ++ grp 1 2 ++ (toks B B.length 0).flatMap tkb ++ fxS 256
theorem tok_TOK {B : List Int} (hB : OKB B) (i : Nat) (hi : i < B.length) : TOK (tok B i) := by
  rcases tok_bd B i hi with h | ⟨n, d, h, h1, h2, h3, h4, h5, h6⟩
  · rw [h]; exact .inl ⟨(hB i).1, (hB i).2, rfl, rfl⟩
  · rw [h]; exact .inr ⟨rfl, h1, h2, h4, h6⟩
theorem toks_TOK {B : List Int} (hB : OKB B) : ∀ f i, ∀ t ∈ toks B f i, TOK t
  | 0, i, t, h => by rw [toks] at h; simp at h
  | f + 1, i, t, h => by
    rw [toks] at h
    split at h
    · rename_i hi
      rcases List.mem_cons.1 h with rfl | h
      · exact tok_TOK hB i hi
      · exact toks_TOK hB f _ t h
    · simp at h
theorem tkbs_len {l : List (Int × Nat × Nat)} (h : ∀ t ∈ l, TOK t) : (l.flatMap tkb).length ≤ 32 * l.length := by
  induction l with
  | nil => simp
  | cons t l ih =>
    rw [List.flatMap_cons, List.length_append, List.length_cons]
    have := tkb_len (h t (by simp))
    have := ih fun t ht => h t (by simp [ht])
    omega
theorem tkbs_01 : ∀ (l : List (Int × Nat × Nat)) (j : Nat), (l.flatMap tkb).getD j 0 = 0 ∨ (l.flatMap tkb).getD j 0 = 1
  | [], j => .inl (by simp)
  | t :: l, j => by rw [List.flatMap_cons]; exact app_01 (tkb_01 t) (tkbs_01 l) j
theorem tkbs_take {l : List (Int × Nat × Nat)} {i : Nat} (h : i < l.length) : (l.take (i + 1)).flatMap tkb = (l.take i).flatMap tkb ++ tkb (l[i]'h) := by
  rw [List.take_add_one, List.getElem?_eq_getElem h, List.flatMap_append]; simp
theorem tkv_at {l : List (Int × Nat × Nat)} {i : Nat} (h : i < l.length) : ((tkv l).drop (i * 3)).take 3 = [.int .u8 (l[i]'h).1, .int .i64 (l[i]'h).2.1, .int .i64 (l[i]'h).2.2] := by
  have e : l = l.take i ++ l[i] :: l.drop (i + 1) := by rw [List.getElem_cons_drop, List.take_append_drop]
  have e2 : tkv l = tkv (l.take i) ++ ([.int .u8 (l[i]'h).1, .int .i64 (l[i]'h).2.1, .int .i64 (l[i]'h).2.2] ++ tkv (l.drop (i + 1))) := by
    conv => lhs; rw [e]
    unfold tkv
    rw [List.flatMap_append, List.flatMap_cons]
  rw [e2, List.drop_append_of_le_length (by rw [tkv_len, List.length_take]; omega), List.drop_of_length_le (by rw [tkv_len, List.length_take]; omega)]
  rfl
theorem nil_01' (j : Nat) : ([] : List Int).getD j 0 = 0 ∨ ([] : List Int).getD j 0 = 1 := .inl (by simp)
theorem fixL_01 (B : List Int) (j : Nat) : (fixL B).getD j 0 = 0 ∨ (fixL B).getD j 0 = 1 :=
  app_01 (app_01 (app_01 (grp_01 1 1) (grp_01 1 2)) (tkbs_01 _)) (fxS_01 256) j
theorem fixL_len {B : List Int} (hB : OKB B) : (fixL B).length ≤ 32 * B.length + 12 := by
  unfold fixL
  have h1 := tkbs_len (toks_TOK hB B.length 0)
  have h2 := toks_len (B := B) B.length 0
  have h3 := fxS_len 256 (by omega)
  simp only [List.length_append, grp_len]
  omega
theorem fxB_okb : OKB fxB := by unfold fxB; exact fix_okb
theorem fxB_okl : OKL fxB := by unfold fxB; exact fix_okl
theorem spB_okb : OKB spB := by unfold spB; exact spans_okb
theorem spB_okl : OKL spB := by unfold spB; exact spans_okl
theorem fxB_eq : tab 288 fixF = fxB := by unfold fxB; rfl
theorem spB_eq : List.replicate 32 5 = spB := by unfold spB; rfl
theorem fxC_eq : cds fxB 16 0 = fxC := by unfold fxC; rfl
theorem spC_eq : cds spB 16 0 = spC := by unfold spC; rfl
section
attribute [local irreducible] grp fxS spS lenS spanS toks tkv tkb cds pack
variable {w0 : World} {H : List Asn}
set_option maxRecDepth 10000 in
set_option maxHeartbeats 4000000 in
/-- the fixed block of a text -/
theorem DFixed_c (p : Option Addr) (c m : Nat) (B : List Int) (hr : Rd w0 H (.slice p m c) m (ints .u8 B)) (hm : B.length = m) (hB : OKB B) (h4 : m ≤ 100000) (w : World) (hw : St w0 H w) :
    Calls Try.prog 15 #[.slice p m c] w fun e w' => ∃ q d, e = .returned (.slice q (pack (fixL B)).length d) ∧ St w0 (vec 5 1 (.slice q (pack (fixL B)).length d) (pack (fixL B)).length (ints .u8 (pack (fixL B))) :: H) w' := by
  refine enter (vs := [.slice p m c]) Try.func15 rfl rfl rfl hw ?_
  clear hw w
  repeat (first | (refine sx ?_; try intro _))
  refine JO_call Try.call32 rfl rfl fun w hw => (Fixed_c w hw).mono ?_
  rintro e w' ⟨pl, cl, rfl, hw'⟩
  rw [fxB_eq] at hw'
  refine ⟨_, rfl, _, hw', ?_⟩
  clear hw' hw w w'
  repeat (first | (refine sx ?_; try intro _))
  refine JO_call Try.call33 rfl rfl fun w hw => (Spans_c w hw).mono ?_
  rintro e w' ⟨ps, cs, rfl, hw'⟩
  rw [spB_eq] at hw'
  refine ⟨_, rfl, _, hw', ?_⟩
  clear hw' hw w w'
  repeat (first | apply hIx 2 | (first | (refine sx ?_; try intro _)))
  refine Hold.go ?_
  rename_i b
  refine JS_H (H' := blk b [.slice none 0 0, .int .i64 0, .slice pl 288 cl, .slice ps 32 cs, .slice none 0 0, .slice none 0 0] :: vec 5 1 (.slice ps 32 cs) 32 (ints .u8 spB) :: vec 5 1 (.slice pl 288 cl) 288 (ints .u8 fxB) :: H) (fun w hw => hw) ?_
  refine JS_seq ?_
  refine JS_order [0, 1, 2, 3, 4, 5, 7, 8, 9, 10, 6, 11, 12, 13, 14, 15, 16, 17] [3, 0] (Picks.cons rfl (Picks.cons rfl (Picks.cons rfl (Picks.cons rfl (Picks.cons rfl (Picks.cons rfl (Picks.cons rfl (Picks.cons rfl (Picks.cons rfl (Picks.cons rfl (Picks.cons rfl (Picks.cons rfl (Picks.cons rfl (Picks.cons rfl (Picks.cons rfl (Picks.cons rfl (Picks.cons rfl (Picks.cons rfl (Picks.nil))))))))))))))))))) (by kernel_rfl) (by kernel_rfl) rfl (by decide +kernel) ?_
  repeat (first | (refine sx ?_; try intro _))
  refine QO_call Try.call34 rfl rfl fun w hw => (FCodes_c pl cl 288 fxB (vec_rd (e := 5) (size := 1) (by repeat (first | apply List.Mem.head | apply List.Mem.tail))) fxB_len fxB_okb fxB_okl (Rd.nil (vec_rd (e := 5) (size := 1) (n := 288) (cs := ints .u8 fxB) (by repeat (first | apply List.Mem.head | apply List.Mem.tail))) hw) w hw).mono ?_
  rintro e w' ⟨pa, ca, rfl, hw'⟩
  rw [fxC_eq] at hw'
  refine ⟨_, rfl, _, hw', .inl fun w hw => St.sub (by repeat (first | exact List.Sublist.refl _ | apply List.Sublist.cons_cons | apply List.Sublist.cons)) hw, ?_⟩
  clear hw' hw w w'
  repeat (first | (refine sx ?_; try intro _))
  refine QO_call Try.call34 rfl rfl fun w hw => (FCodes_c ps cs 32 spB (vec_rd (e := 5) (size := 1) (by repeat (first | apply List.Mem.head | apply List.Mem.tail))) spB_len spB_okb spB_okl (Rd.nil (vec_rd (e := 5) (size := 1) (n := 32) (cs := ints .u8 spB) (by repeat (first | apply List.Mem.head | apply List.Mem.tail))) hw) w hw).mono ?_
  rintro e w' ⟨pb, cb, rfl, hw'⟩
  rw [spC_eq] at hw'
  refine ⟨_, rfl, _, hw', .inl fun w hw => St.sub (by repeat (first | exact List.Sublist.refl _ | apply List.Sublist.cons_cons | apply List.Sublist.cons)) hw, ?_⟩
  clear hw' hw w w'
  repeat (first | apply hIx 3 | (first | (refine sx ?_; try intro _)))
  refine Hold.go ?_
  refine JS_H (H' := fwL b [] none 0 pl ps pa pb cl cs ca cb H) (fun w hw => by
    have h1 := St.nilvec (e := 5) (sz := 1) (base := none) hw
    show St w0 (blk b [.slice none 0 0, .int .i64 0, .slice pl 288 cl, .slice ps 32 cs, .slice pa 288 ca, .slice pb 32 cb] :: vec 5 1 (.slice none 0 0) 0 (ints .u8 (pack [])) :: vec 5 1 (.slice pl 288 cl) 288 (ints .u8 fxB) :: vec 5 1 (.slice ps 32 cs) 32 (ints .u8 spB) ::
      vec 46 1 (.slice pa 288 ca) 288 (ints .u32 fxC) :: vec 46 1 (.slice pb 32 cb) 32 (ints .u32 spC) :: H) w
    have hp : pack [] = [] := by unfold pack; rfl
    rw [hp]
    exact h1.perm (by (repeat (first | exact List.Perm.refl _ | refine List.Perm.cons _ ?_ | refine (List.perm_middle (l₁ := [_])).trans (List.Perm.cons _ ?_) | refine (List.perm_middle (l₁ := [_, _])).trans (List.Perm.cons _ ?_) | refine (List.perm_middle (l₁ := [_, _, _])).trans (List.Perm.cons _ ?_) | refine (List.perm_middle (l₁ := [_, _, _, _])).trans (List.Perm.cons _ ?_) | refine (List.perm_middle (l₁ := [_, _, _, _, _])).trans (List.Perm.cons _ ?_) | refine (List.perm_middle (l₁ := [_, _, _, _, _, _])).trans (List.Perm.cons _ ?_) | refine (List.perm_middle (l₁ := [_, _, _, _, _, _, _])).trans (List.Perm.cons _ ?_) | refine (List.perm_middle (l₁ := [_, _, _, _, _, _, _, _])).trans (List.Perm.cons _ ?_))))) ?_
  repeat (first | (refine sx ?_; try intro _))
  refine JO_call Try.call35 rfl rfl fun w hw => (WGroupT_c b [] none 0 1 1 (by omega) ⟨by decide, by decide⟩ (by decide) nil_01' (by simp) w hw).mono ?_
  rintro e w' ⟨rfl, q1, d1, hw'⟩
  refine ⟨_, rfl, _, hw', ?_⟩
  clear hw' hw w w'
  repeat (first | (refine sx ?_; try intro _))
  have o1 := app_01 nil_01' (grp_01 1 1)
  have l1 : (([] : List Int) ++ grp 1 1).length = 1 := by rw [List.nil_append, grp_len]
  refine JO_call Try.call35 rfl rfl fun w hw => (WGroupT_c b _ q1 d1 1 2 (by omega) ⟨by decide, by decide⟩ (by decide) o1 (by rw [l1]; omega) w hw).mono ?_
  rintro e w' ⟨rfl, q2, d2, hw'⟩
  rw [show ([] : List Int) ++ grp 1 1 ++ grp 1 2 = grp 1 1 ++ grp 1 2 by rw [List.nil_append]] at hw'
  refine ⟨_, rfl, _, hw', ?_⟩
  clear hw' hw w w' o1 l1
  repeat (first | (refine sx ?_; try intro _))
  refine JO_call Try.call36 rfl rfl fun w hw => (Find_c p c m B (Rd_weak hr fun w hw => St.sub (by repeat (first | exact List.Sublist.refl _ | apply List.Sublist.cons_cons | apply List.Sublist.cons)) hw) hm hB h4 w hw).mono ?_
  rintro e w' ⟨qt, dt, rfl, hw'⟩
  have hT := toks_TOK hB m 0
  have hTl := toks_len (B := B) m 0
  have hfix : fixL B = grp 1 1 ++ grp 1 2 ++ (toks B m 0).flatMap tkb ++ fxS 256 := by unfold fixL; rw [hm]
  obtain ⟨l, hl⟩ : ∃ l, toks B m 0 = l := ⟨_, rfl⟩
  rw [hl] at hT hTl hfix hw' ⊢
  refine ⟨_, rfl, _, hw', ?_⟩
  clear hw' hw w w'
  repeat (first | (refine sx ?_; try intro _))
  have h0 : grp 1 1 ++ grp 1 2 ++ (l.take 0).flatMap tkb = grp 1 1 ++ grp 1 2 := by rw [List.take_zero, List.flatMap_nil, List.append_nil]
  refine JS_loop3 (fun (i : Nat) (q : Option Addr) (d : Nat) => [(0, .slice p m c), (3, .pointer (some ⟨b, 0, none⟩)), (35, .slice qt l.length dt), (36, .int .i64 l.length), (37, .int .i64 i)])
    (fun i q d => fwL b (grp 1 1 ++ grp 1 2 ++ (l.take i).flatMap tkb) q d pl ps pa pb cl cs ca cb (vec 60 3 (.slice qt l.length dt) l.length (tkv l) :: H)) (fun i _ _ => i ≤ l.length) (fun i _ _ => l.length - i) 0 q2 d2 (Nat.zero_le _) (by repeat (first | exact trivial | refine ⟨rfl, ?_⟩ | refine ⟨lookI rfl (by omega), ?_⟩))
    (fun w hw => by rw [h0]; exact hw.perm (by (repeat (first | exact List.Perm.refl _ | refine List.Perm.cons _ ?_ | refine (List.perm_middle (l₁ := [_])).trans (List.Perm.cons _ ?_) | refine (List.perm_middle (l₁ := [_, _])).trans (List.Perm.cons _ ?_) | refine (List.perm_middle (l₁ := [_, _, _])).trans (List.Perm.cons _ ?_) | refine (List.perm_middle (l₁ := [_, _, _, _])).trans (List.Perm.cons _ ?_) | refine (List.perm_middle (l₁ := [_, _, _, _, _])).trans (List.Perm.cons _ ?_) | refine (List.perm_middle (l₁ := [_, _, _, _, _, _])).trans (List.Perm.cons _ ?_) | refine (List.perm_middle (l₁ := [_, _, _, _, _, _, _])).trans (List.Perm.cons _ ?_) | refine (List.perm_middle (l₁ := [_, _, _, _, _, _, _, _])).trans (List.Perm.cons _ ?_))))) ?_
  intro i q d hi again
  have o3 := app_01 (app_01 (grp_01 1 1) (grp_01 1 2)) (tkbs_01 (l.take i))
  have hl3 : (grp 1 1 ++ grp 1 2 ++ (l.take i).flatMap tkb).length ≤ 32 * l.length + 3 := by
    have := tkbs_len (l := l.take i) fun t ht => hT t (List.mem_of_mem_take ht)
    rw [List.length_take] at this
    simp only [List.length_append, grp_len]
    omega
  by_cases hil : i < l.length
  · have hat := tkv_at hil
    have htk := tkbs_take hil
    have hTi := hT _ (List.getElem_mem hil)
    obtain ⟨t, ht⟩ : ∃ t, l[i] = t := ⟨_, rfl⟩
    rw [ht] at hat htk hTi
    repeat (first | (apply gJO; refine JO_v (oL (V_loadCA (tb := tb) rfl (vec_rd (by repeat (first | apply List.Mem.head | apply List.Mem.tail))) rfl rfl rfl (by decide) hat rfl)) ?_) | (first | (refine sx ?_; try intro _)))
    rename_i bt
    have e8 : (.agg [.int .u8 t.1, .int .i64 t.2.1, .int .i64 t.2.2].toArray : Value) = .agg #[.int .u8 t.1, .int .i64 t.2.1, .int .i64 t.2.2] := rfl
    have hlx : (grp 1 1 ++ grp 1 2 ++ (l.take i).flatMap tkb).length ≤ 70368744177000 := by omega
    refine JO_call Try.call37 rfl rfl fun w hw => (Tok_c (H := blk bt [.int .u8 t.1, .int .i64 t.2.1, .int .i64 t.2.2] :: vec 60 3 (.slice qt l.length dt) l.length (tkv l) :: H) (L := grp 1 1 ++ grp 1 2 ++ (l.take i).flatMap tkb) (q := q) (d := d) t hTi o3 hlx w (hw.perm (by (repeat (first | exact List.Perm.refl _ | refine List.Perm.cons _ ?_ | refine (List.perm_middle (l₁ := [_])).trans (List.Perm.cons _ ?_) | refine (List.perm_middle (l₁ := [_, _])).trans (List.Perm.cons _ ?_) | refine (List.perm_middle (l₁ := [_, _, _])).trans (List.Perm.cons _ ?_) | refine (List.perm_middle (l₁ := [_, _, _, _])).trans (List.Perm.cons _ ?_) | refine (List.perm_middle (l₁ := [_, _, _, _, _])).trans (List.Perm.cons _ ?_) | refine (List.perm_middle (l₁ := [_, _, _, _, _, _])).trans (List.Perm.cons _ ?_) | refine (List.perm_middle (l₁ := [_, _, _, _, _, _, _])).trans (List.Perm.cons _ ?_) | refine (List.perm_middle (l₁ := [_, _, _, _, _, _, _, _])).trans (List.Perm.cons _ ?_)))))).mono ?_
    rintro e w' ⟨rfl, q3, d3, hw'⟩
    refine ⟨_, rfl, _, hw', ?_⟩
    clear hw' hw w w'
    repeat (first | (refine sx ?_; try intro _))
    refine JS_again3 again (i + 1) q3 d3 (by omega) (by omega) (by repeat (first | exact trivial | refine ⟨rfl, ?_⟩ | refine ⟨lookI rfl (by omega), ?_⟩)) (fun w hw => ?_)
    rw [htk, ← List.append_assoc]
    exact St.sub (by repeat (first | exact List.Sublist.refl _ | apply List.Sublist.cons_cons | apply List.Sublist.cons)) hw
  · obtain rfl : i = l.length := by omega
    clear again
    rw [List.take_length] at o3 hl3 ⊢
    have hl9 := fxS_len 256 (by omega)
    have hlx : (grp 1 1 ++ grp 1 2 ++ l.flatMap tkb).length ≤ 70368744177600 := by omega
    repeat (first | (refine sx ?_; try intro _))
    refine JO_call Try.call38 rfl rfl fun w hw => (FLit_c (H := vec 60 3 (.slice qt l.length dt) l.length (tkv l) :: H) (L := grp 1 1 ++ grp 1 2 ++ l.flatMap tkb) (q := q) (d := d) 256 (by omega) o3 hlx w hw).mono ?_
    rintro e w' ⟨rfl, q3, d3, hw'⟩
    rw [← hfix] at hw'
    refine ⟨_, rfl, _, hw', ?_⟩
    clear hw' hw w w'
    repeat (first | (refine sx ?_; try intro _))
    have o4 := fixL_01 B
    have hl4 : (fixL B).length ≤ 70368744177664 := by rw [hfix, List.length_append]; omega
    refine JO_call Try.call39 rfl rfl fun w hw => (WBytesT_c b (pack (fixL B)).length (fixL B) q3 d3 o4 hl4 (pack_len _).symm w hw).mono ?_
    rintro e w' ⟨q4, d4, rfl, hw'⟩
    refine ⟨_, rfl, _, hw', ?_⟩
    clear hw' hw w w'
    repeat (first | (refine sx ?_; try intro _))
    refine JS_ret Try.func15 rfl rfl fun w hw => ⟨q4, d4, rfl, St.sub (by repeat (first | exact List.Sublist.refl _ | apply List.Sublist.cons_cons | apply List.Sublist.cons)) hw⟩
end
end Go.Proofs.Ytakgoflfcgofdaa

set_option linter.unusedVariables false
set_option linter.unusedSimpArgs false
namespace Go.Proofs.Ytakgoflfcgofdaa
open Sx Go
theorem xor16_u32 {a : Int} (h : 0 ≤ a ∧ a < 65536) : IntKind.u32.wrap ((BitVec.ofInt IntKind.u32.bits a ^^^ BitVec.ofInt IntKind.u32.bits 65535).toNat) = 65535 - a := by
  rw [xor_nat .u32 ⟨h.1, Int.lt_trans h.2 (by decide)⟩ ⟨by omega, by decide⟩, show (65535 : Int).toNat = 65535 from rfl, xor16 (by omega)]
  exact (wu32 (by omega)).trans (by omega)
/-- what is read of a slice's part: the beginning, the rest -/
theorem Rd_take {w0 : World} {H : List Asn} {p : Option Addr} {m c n : Nat} {X : List Int} (h : Rd w0 H (.slice p m c) m (ints .u8 X)) (hm : X.length = m) (hn : n ≤ m) : Rd w0 H (.slice (subB p 0 c 1) (n - 0) (c - 0)) n (ints .u8 (X.take n)) := by
  have := Rd_sub (lo := 0) (hi := n) (sz := 1) h (Nat.zero_le _) hn
  rw [Nat.zero_mul, List.drop_zero, Nat.sub_zero, Nat.mul_one] at this
  rw [Nat.sub_zero]
  unfold ints at this ⊢
  rw [List.map_take]
  exact this
theorem Rd_drop {w0 : World} {H : List Asn} {p : Option Addr} {m c n : Nat} {X : List Int} (h : Rd w0 H (.slice p m c) m (ints .u8 X)) (hm : X.length = m) (hn : n ≤ m) : Rd w0 H (.slice (subB p n c 1) (m - n) (c - n)) (m - n) (ints .u8 (X.drop n)) := by
  have := Rd_sub (lo := n) (hi := m) (sz := 1) h hn (Nat.le_refl _)
  rw [Nat.mul_one, Nat.mul_one, List.take_of_length_le (by simp [ints, hm])] at this
  unfold ints at this ⊢
  rw [List.map_drop]
  exact this
theorem OKB_take {X : List Int} (h : OKB X) (n : Nat) : OKB (X.take n) := fun j => by
  rw [List.getD_eq_getElem?_getD, List.getElem?_take]
  split
  · have := h j; rwa [List.getD_eq_getElem?_getD] at this
  · decide
theorem OKB_drop {X : List Int} (h : OKB X) (n : Nat) : OKB (X.drop n) := fun j => by
  rw [List.getD_eq_getElem?_getD, List.getElem?_drop, ← List.getD_eq_getElem?_getD]
  exact h _
section
attribute [local irreducible] pack grp padL txtL sbs hd5
variable {w0 : World} {H : List Asn}
set_option maxRecDepth 10000 in
set_option maxHeartbeats 4000000 in
/-- a text in stored blocks -/
theorem DStored_c (p : Option Addr) (c m : Nat) (B : List Int) (hr : Rd w0 H (.slice p m c) m (ints .u8 B)) (hm : B.length = m) (hB : OKB B) (h4 : m ≤ 100000) (w : World) (hw : St w0 H w) :
    Calls Try.prog 17 #[.slice p m c] w fun e w' => ∃ q d, e = .returned (.slice q (sbs B).length d) ∧ St w0 (vec 5 1 (.slice q (sbs B).length d) (sbs B).length (ints .u8 (sbs B)) :: H) w' := by
  refine enter (vs := [.slice p m c]) Try.func17 rfl rfl rfl hw ?_
  clear hw w
  repeat (first | (refine sx ?_; try intro _))
  rename_i b
  have hp0 : pack [] = [] := by unfold pack; rfl
  refine JS_loop6 (fun (p : Option Addr) (c : Nat) (X L : List Int) (q : Option Addr) (d : Nat) => [(0, .slice p X.length c), (3, .pointer (some ⟨b, 0, none⟩))]) (fun p c X L q d => wrA b L q d :: wrV L q d :: H)
    (fun p c X L q d => Rd w0 H (.slice p X.length c) X.length (ints .u8 X) ∧ OKB X ∧ 8 ∣ L.length ∧ (∀ j, L.getD j 0 = 0 ∨ L.getD j 0 = 1) ∧ L.length + 16 * X.length ≤ 1600000 ∧ pack L ++ sbs X = sbs B) (fun _ _ X _ _ _ => X.length) p c B [] none 0
    ⟨by rw [hm]; exact hr, hB, ⟨0, rfl⟩, fun j => .inl (by simp), by simp; omega, by rw [hp0, List.nil_append]⟩ (by rw [hm]; exact (by repeat (first | exact trivial | refine ⟨rfl, ?_⟩ | refine ⟨lookI rfl (by omega), ?_⟩))) (fun w h => by
    have := St.nilvec (e := 5) (sz := 1) (base := none) h
    show St w0 (blk b [.slice none 0 0, .int .i64 0] :: vec 5 1 (.slice none 0 0) 0 (ints .u8 (pack [])) :: H) w
    rw [hp0]
    exact this.perm (List.Perm.swap _ _ _)) ?_
  intro p c X L q d ⟨hrX, hX, hL8, hL, hLl, hall⟩ again
  obtain ⟨x, hx⟩ : ∃ x, X.length = x := ⟨_, rfl⟩
  rw [hx] at hrX hLl
  simp only [hx] at again ⊢
  obtain ⟨n, hn⟩ : ∃ n, min x 65535 = n := ⟨_, rfl⟩
  have hmin : min (x : Int) 65535 = n := by omega
  obtain ⟨a, ha⟩ := hL8
  have hp16 : (2 : Int) ^ 16 = 65536 := by decide
  have hxor := xor16_u32 (a := (n : Int)) ⟨by omega, by omega⟩
  have key : ∀ la : Int, la = 0 ∨ la = 1 → ∃ L1 L2 L3 L4 L5 : List Int, L1 = L ++ grp la 1 ∧ L2 = L1 ++ grp 0 2 ∧ L3 = padL L2 ∧ L4 = L3 ++ grp n 16 ∧ L5 = L4 ++ grp (65535 - n) 16 ∧ L1.length = L.length + 1 ∧ L2.length = L.length + 3 ∧ L3.length = L.length + 8 ∧ L4.length = L.length + 24 ∧ L5.length = L.length + 40 ∧
      (∀ j, L1.getD j 0 = 0 ∨ L1.getD j 0 = 1) ∧ (∀ j, L2.getD j 0 = 0 ∨ L2.getD j 0 = 1) ∧ (∀ j, L3.getD j 0 = 0 ∨ L3.getD j 0 = 1) ∧ (∀ j, L4.getD j 0 = 0 ∨ L4.getD j 0 = 1) ∧ (∀ j, L5.getD j 0 = 0 ∨ L5.getD j 0 = 1) ∧
      pack (txtL L5 (X.take n)) = pack L ++ (hd5 la n ++ X.take n) ∧ (txtL L5 (X.take n)).length = L.length + 40 + 8 * n ∧ (∀ j, (txtL L5 (X.take n)).getD j 0 = 0 ∨ (txtL L5 (X.take n)).getD j 0 = 1) := by
    intro la hla
    have g1 := app_01 hL (grp_01 la 1)
    have g2 := app_01 g1 (grp_01 0 2)
    have g3 := padL_01 g2
    have g4 := app_01 g3 (grp_01 n 16)
    have g5 := app_01 g4 (grp_01 (65535 - n) 16)
    have k1 : (L ++ grp la 1).length = L.length + 1 := by rw [List.length_append, grp_len]
    have k2 : (L ++ grp la 1 ++ grp 0 2).length = L.length + 3 := by rw [List.length_append, k1, grp_len]
    have k3 : (padL (L ++ grp la 1 ++ grp 0 2)).length = L.length + 8 := by rw [padL_len, k2]; omega
    have k4 : (padL (L ++ grp la 1 ++ grp 0 2) ++ grp n 16).length = L.length + 24 := by rw [List.length_append, k3, grp_len]
    have k5 : (padL (L ++ grp la 1 ++ grp 0 2) ++ grp n 16 ++ grp (65535 - n) 16).length = L.length + 40 := by rw [List.length_append, k4, grp_len]
    refine ⟨_, _, _, _, _, rfl, rfl, rfl, rfl, rfl, k1, k2, k3, k4, k5, g1, g2, g3, g4, g5, sto_pack (OKB_take hX n) ⟨a, ha⟩ hla ⟨by omega, by omega⟩, ?_, txtL_01 g5⟩
    rw [txtL_len, k5, List.length_take]; omega
  have hcX : ∀ w, St w0 H w → x ≤ c := fun w hw => (hrX.lcap hw).1
  by_cases hlast : x ≤ 65535
  case' pos =>
    obtain ⟨L1, L2, L3, L4, L5, d1, d2, d3, d4, d5, k1, k2, k3, k4, k5, g1, g2, g3, g4, g5, hpk, hlen, hg⟩ := key 1 (.inr rfl)
  case' neg =>
    obtain ⟨L1, L2, L3, L4, L5, d1, d2, d3, d4, d5, k1, k2, k3, k4, k5, g1, g2, g3, g4, g5, hpk, hlen, hg⟩ := key 0 (.inl rfl)
  all_goals
    clear key
    repeat (first | (apply gJO; refine JO_v (oc_min (V_min rfl rfl hmin rfl)) ?_) | first | (refine sx ?_; try intro _))
    refine JO_call Try.call35 rfl rfl fun w hw => (WGroup_c b L q d _ 1 (by omega) ⟨by decide, by decide⟩ (by decide) hL (by omega) w hw).mono ?_
    rintro e w' ⟨rfl, q1, e1, hw'⟩
    rw [← d1] at hw'
    refine ⟨_, rfl, _, hw', ?_⟩
    clear hw' hw w w'
    repeat (first | (refine sx ?_; try intro _))
    refine JO_call Try.call35 rfl rfl fun w hw => (WGroup_c b L1 q1 e1 0 2 (by omega) ⟨by decide, by decide⟩ (by decide) g1 (by omega) w hw).mono ?_
    rintro e w' ⟨rfl, q2, e2, hw'⟩
    rw [← d2] at hw'
    refine ⟨_, rfl, _, hw', ?_⟩
    clear hw' hw w w'
    repeat (first | (refine sx ?_; try intro _))
    refine JO_call Try.call46 rfl rfl fun w hw => (WAlign_c b L2 q2 e2 (by omega) w hw).mono ?_
    rintro e w' ⟨rfl, hw'⟩
    rw [← d3] at hw'
    refine ⟨_, rfl, _, hw', ?_⟩
    clear hw' hw w w'
    repeat (first | (refine sx ?_; try intro _))
    refine JO_call Try.call35 rfl rfl fun w hw => (WGroup_c b L3 q2 e2 n 16 (by omega) ⟨by omega, by rw [hp16]; omega⟩ (by omega) g3 (by omega) w hw).mono ?_
    rintro e w' ⟨rfl, q3, e3, hw'⟩
    rw [← d4] at hw'
    refine ⟨_, rfl, _, hw', ?_⟩
    clear hw' hw w w'
    repeat (first | (apply gJO; refine JO_v (V_xor rfl rfl hxor rfl) ?_) | first | (refine sx ?_; try intro _))
    refine JO_call Try.call35 rfl rfl fun w hw => (WGroup_c b L4 q3 e3 (65535 - n) 16 (by omega) ⟨by omega, by rw [hp16]; omega⟩ (by omega) g4 (by omega) w hw).mono ?_
    rintro e w' ⟨rfl, q4, e4, hw'⟩
    rw [← d5] at hw'
    refine ⟨_, rfl, _, hw', ?_⟩
    clear hw' hw w w'
    repeat (first | (apply gJO; refine JO_v (V_slice (tb := tb) (lo := 0) (hi := n) rfl rfl rfl rfl rfl (by rfl) (by rfl) (fun w hw => ⟨by omega, Nat.le_trans (by omega) (hcX w hw.drop.drop)⟩) rfl) ?_) | first | (refine sx ?_; try intro _))
    refine JO_call Try.call47 rfl rfl fun w hw => (WText2_c b L5 q4 e4 (subB p 0 c 1) (c - 0) n (X.take n) (Rd_weak (Rd_take hrX hx (by omega)) fun w hw => St.sub (by repeat (first | exact List.Sublist.refl _ | apply List.Sublist.cons_cons | apply List.Sublist.cons)) hw) (by rw [List.length_take]; omega) (OKB_take hX n) (by omega) (by omega) w hw).mono ?_
    rintro e w' ⟨rfl, q5, e5, hw'⟩
    obtain ⟨L6, d6⟩ : ∃ L6, txtL L5 (X.take n) = L6 := ⟨_, rfl⟩
    rw [d6] at hw' hpk hlen hg
    refine ⟨_, rfl, _, hw', ?_⟩
    clear hw' hw w w'
    repeat (first | (apply gJO; refine JO_v (V_slice (tb := tb) (lo := n) (hi := x) rfl rfl rfl rfl rfl (by rfl) (by rfl) (fun w hw => ⟨by omega, hcX w hw.drop.drop⟩) rfl) ?_) | first | (refine sx ?_; try intro _))
  case pos =>
    have hnx : n = x := by omega
    have hfin : pack L6 = sbs B := by
      rw [hpk, List.take_of_length_le (by omega), hnx, ← hx, ← sbs_1 (by omega), hall]
    have hpl := pack_len L6
    refine JO_call Try.call39 rfl rfl fun w hw => (WBytes_c b (pack L6).length L6 q5 e5 hg (by omega) hpl.symm w hw).mono ?_
    rw [hfin]
    rintro e w' ⟨q6, d6, rfl, hw'⟩
    refine ⟨_, rfl, _, hw', ?_⟩
    clear hw' hw w w'
    repeat (first | (refine sx ?_; try intro _))
    exact JS_ret Try.func17 rfl rfl fun w hw => ⟨q6, d6, rfl, St.sub (by repeat (first | exact List.Sublist.refl _ | apply List.Sublist.cons_cons | apply List.Sublist.cons)) hw⟩
  case neg =>
    have hnx : n = 65535 := by omega
    have hxd : (X.drop n).length = x - n := by rw [List.length_drop, hx]
    have hfin : pack L6 ++ sbs (X.drop n) = sbs B := by
      rw [hpk, ← hall, sbs_2 (X := X) (by omega), hnx]
      simp only [List.append_assoc]
      rfl
    repeat (first | (refine sx ?_; try intro _))
    refine JS_again6 again (subB p n c 1) (c - n) (X.drop n) L6 q5 e5 ⟨by rw [hxd]; exact Rd_drop hrX hx (by omega), OKB_drop hX n, ⟨a + 5 + n, by omega⟩, hg, by rw [hxd]; omega, hfin⟩ (by rw [hxd]; omega) (by rw [hxd]; exact (by repeat (first | exact trivial | refine ⟨rfl, ?_⟩ | refine ⟨lookI rfl (by omega), ?_⟩))) (fun w hw => hw)
end
end Go.Proofs.Ytakgoflfcgofdaa

set_option linter.unusedVariables false
set_option linter.unusedSimpArgs false
namespace Go.Proofs.Ytakgoflfcgofdaa
open Sx Go
section
attribute [local irreducible] sbs
variable {w0 : World} {H : List Asn}
set_option maxRecDepth 10000 in
set_option maxHeartbeats 4000000 in
/-- the reference's stored blocks -/
theorem RStored_c (p : Option Addr) (c m : Nat) (B : List Int) (hr : Rd w0 H (.slice p m c) m (ints .u8 B)) (hm : B.length = m) (hB : OKB B) (h4 : m ≤ 100000) (w : World) (hw : St w0 H w) :
    Calls Try.prog 18 #[.slice p m c] w fun e w' => ∃ q d, e = .returned (.slice q (sbs B).length d) ∧ St w0 (vec 5 1 (.slice q (sbs B).length d) (sbs B).length (ints .u8 (sbs B)) :: H) w' := by
  have hcm : m ≤ c := (hr.lcap hw).1
  refine enter (vs := [.slice p m c]) Try.func18 rfl rfl rfl hw ?_
  clear hw w
  repeat (first | (refine sx ?_; try intro _))
  refine JS_loop4 (fun (at_ : Nat) (O : List Int) (q : Option Addr) (d : Nat) => [(0, .slice p m c), (3, .slice q O.length d), (4, .int .i64 at_)]) (fun at_ O q d => vec 5 1 (.slice q O.length d) O.length (ints .u8 O) :: H)
    (fun at_ O q d => at_ ≤ m ∧ O.length ≤ 5 * at_ ∧ O ++ sbs (B.drop at_) = sbs B) (fun at_ _ _ _ => m - at_) 0 [] none 0 ⟨by omega, by simp, by simp⟩ (by repeat (first | exact trivial | refine ⟨rfl, ?_⟩ | refine ⟨lookI rfl (by omega), ?_⟩)) (fun w h => St.nilvec h) ?_
  intro at_ O q d ⟨ha, hO, hall⟩ again
  obtain ⟨n, hn⟩ : ∃ n, min (m - at_) 65535 = n := ⟨_, rfl⟩
  have hmin : min ((m : Int) - (at_ : Int)) 65535 = n := by omega
  obtain ⟨o, ho⟩ : ∃ o, O.length = o := ⟨_, rfl⟩
  rw [ho] at hO ⊢
  have hdl : (B.drop at_).length = m - at_ := by rw [List.length_drop, hm]
  have hrow : Rd w0 H (.slice (subB p at_ c 1) (at_ + n - at_) (c - at_)) (at_ + n - at_) (ints .u8 ((B.drop at_).take n)) := by
    have := Rd_sub (lo := at_) (hi := at_ + n) (sz := 1) hr (by omega) (by omega)
    rw [Nat.mul_one, Nat.mul_one] at this
    unfold ints at this ⊢
    rw [List.map_take, List.map_drop]
    rwa [Nat.add_sub_cancel_left] at this ⊢
  have hrl : ((B.drop at_).take n).length = n := by rw [List.length_take]; omega
  have hb1 : ((n : Int) % 256 + 0) % 256 = (n : Int) % 256 := by omega
  by_cases hlast : at_ + n = m
  case' pos =>
    have hnn : (B.drop at_).length = n := by omega
    have hcase : sbs (B.drop at_) = hd5 1 n ++ (B.drop at_).take n := by rw [sbs_1 (by omega), hnn, List.take_of_length_le (by omega)]
  case' neg =>
    have hnn : n = 65535 := by omega
    have hcase : sbs (B.drop at_) = hd5 0 n ++ (B.drop at_).take n ++ sbs (B.drop (at_ + n)) := by rw [sbs_2 (by omega), hnn, List.drop_drop]; rfl
  all_goals
    repeat (first | (apply gJO; refine JO_v (oc_min (V_min rfl rfl hmin rfl)) ?_) | (apply gJO; refine JO_v (V_slice (tb := tb) (lo := at_) (hi := at_ + n) rfl rfl rfl rfl rfl rfl (by omega) (fun w hw => ⟨by omega, by omega⟩) rfl) ?_) | (apply gJO; (refine JO_app (tb := tb) rfl rfl rfl rfl rfl rfl (by repeat (first | exact Sel.here _ _ | apply Sel.there)) (by first | exact vec_rd (by repeat (first | apply List.Mem.head | apply List.Mem.tail)) | assumption | exact ArgRd.rd (by assumption) _ | (apply Rd_weak; assumption; intro _ hx; exact St.sub (by repeat (first | exact List.Sublist.refl _ | apply List.Sublist.cons_cons | apply List.Sublist.cons)) hx)) (by simp only [ints_len, List.length_cons, List.length_nil]; first | omega | rfl) (by first | exact ints_one | (repeat (first | exact trivial | refine ⟨rfl, ?_⟩))) (by omega) rfl ?_; intro _ _)) | first | (refine sx ?_; try intro _))
  case pos =>
    rename_i ps q2 d2 q3 d3
    have hI : ∀ Y : List Int, ints .u8 O ++ (.int .u8 1 :: .int .u8 ((n : Int) % 256) :: .int .u8 ((n : Int) / 256) :: .int .u8 (255 - (n : Int) % 256) :: .int .u8 (255 - (n : Int) / 256) :: [].append (rep 0 [.int .u8 0])) ++ ints .u8 Y = ints .u8 (O ++ (hd5 1 n ++ Y)) := fun Y => by
      unfold ints hd5; simp [rep]
    have hfin : O ++ (hd5 1 n ++ (B.drop at_).take n) = sbs B := by rw [← hcase, hall]
    have hlen : (sbs B).length = o + 5 + (at_ + n - at_) := by
      rw [← hfin]; simp only [List.length_append, hrl, ho]; unfold hd5; simp; omega
    refine JS_ret Try.func18 rfl rfl fun w hw => ⟨q3, d3, by rw [hlen]; rfl, ?_⟩
    rw [hI, hfin] at hw
    rw [hlen]
    exact St.sub (by repeat (first | exact List.Sublist.refl _ | apply List.Sublist.cons_cons | apply List.Sublist.cons)) hw
  case neg =>
    rename_i ps q2 d2 q3 d3
    have hI : ∀ Y : List Int, ints .u8 O ++ (.int .u8 0 :: .int .u8 ((n : Int) % 256) :: .int .u8 ((n : Int) / 256) :: .int .u8 (255 - (n : Int) % 256) :: .int .u8 (255 - (n : Int) / 256) :: [].append (rep 0 [.int .u8 0])) ++ ints .u8 Y = ints .u8 (O ++ (hd5 0 n ++ Y)) := fun Y => by
      unfold ints hd5; simp [rep]
    have hlen : (O ++ (hd5 0 n ++ (B.drop at_).take n)).length = o + 5 + (at_ + n - at_) := by
      simp only [List.length_append, hrl, ho]; unfold hd5; simp; omega
    refine JS_again4 again (at_ + n) (O ++ (hd5 0 n ++ (B.drop at_).take n)) q3 d3 ⟨by omega, by rw [hlen]; omega, by rw [← hall, hcase]; simp only [List.append_assoc]⟩ (by omega) (by rw [hlen]; exact (by repeat (first | exact trivial | refine ⟨rfl, ?_⟩ | refine ⟨lookI rfl (by omega), ?_⟩))) (fun w hw => ?_)
    rw [hI] at hw
    rw [hlen]
    exact St.sub (by repeat (first | exact List.Sublist.refl _ | apply List.Sublist.cons_cons | apply List.Sublist.cons)) hw
end
end Go.Proofs.Ytakgoflfcgofdaa

set_option linter.unusedVariables false
set_option linter.unusedSimpArgs false
namespace Sx
open Go
/-! a slice's cells that a string shares: they are read, never written -/
def RoIn (e size : Nat) (v : Value) (n : Nat) (cs : List Value) (w : World) (fp : List Nat) : Prop :=
  cs.length = n * size ∧ ∃ g cap cur fr, v = .slice (some ⟨g, 0, none⟩) n cap ∧ fp = [g] ∧ w.heap[g]? = some (.cells cur e fr) ∧ n ≤ cap ∧ cur.size = cap * size ∧ cur.toList.take (n * size) = cs
@[irreducible] def roV (e size : Nat) (v : Value) (n : Nat) (cs : List Value) : Asn where
  holds := RoIn e size v n cs
  frame w w' fp h hk := by
    obtain ⟨h1, g, cap, cur, fr, h3, rfl, h4, h5⟩ := h
    exact ⟨h1, g, cap, cur, fr, h3, rfl, by rw [hk g (by simp)]; exact h4, h5⟩
  live w fp h b hb := by
    obtain ⟨h1, g, cap, cur, fr, h3, rfl, h4, h5⟩ := h
    simp at hb; subst hb; exact (Array.getElem?_eq_some_iff.1 h4).1
theorem roV_holds {e size v n cs w fp} : (roV e size v n cs).holds w fp ↔ RoIn e size v n cs w fp := by unfold roV; exact Iff.rfl
theorem roV_rd {w0 H e size v n cs} (h : roV e size v n cs ∈ H) : Rd w0 H v n cs := by
  unfold Rd
  intro w hw
  obtain ⟨f, hf⟩ := hw.mem h
  rw [roV_holds] at hf
  obtain ⟨h1, g, cap, cur, fr, rfl, rfl, hg, hn, hs, ht⟩ := hf
  refine ⟨⟨_, cap, rfl, (fun h => nomatch h), hn⟩, fun j u hu => ⟨⟨g, j, none⟩, by simp [cellPtr_eq, add_blk], ?_⟩⟩
  have hc : w.cell? ⟨g, j, none⟩ = cur[j]? := by simp [World.cell?, hg]
  rw [hc]
  rw [← ht, List.getElem?_take] at hu
  split at hu
  · simpa using hu
  · cases hu
theorem E_convSl {P : Program} {n : Nat} {D : List Deferred} {w0 : World} {ov : Ov} {H : List Asn} {d : Option Nat} {T : Nat} {pos : String} {af : Array Edge} {g : Option (Nat × Bool)} {x : Operand} {tb : Tb P} {T1 e s1 b1 s2 b2 m : Nat} {z1 z2 : Option (List Value)} {u : Value} {cs : List Value} {F : Asn → List Asn}
    (hx : ev ov x = some u) (h1 : tlook tb.l T1 = some ⟨.slice e, s1, b1, z1⟩) (h2 : tlook tb.l e = some ⟨.int .u8, s2, b2, z2⟩) (hu : Sel H (vec e 1 u m cs) F) (hm : 0 < m) (hd : dOk d n = true) :
    OpE (ι := Unit) P n D w0 ov H ⟨d, .convert T1 T1 x, T, pos, af, g⟩ (fun _ => u) (fun _ => F (roV e 1 u m cs)) := by
  unfold OpE
  refine ⟨hd, fun A w ha hw => ?_⟩
  obtain ⟨fp, hfp⟩ := hw.mem hu.mem
  rw [vec_holds] at hfp
  rcases hfp.2 with ⟨base, rfl, rfl, _⟩ | ⟨gb, cap, cur, rfl, _, hg, hn, hcm, hsz, ht⟩
  · omega
  · have hlt := (Array.getElem?_eq_some_iff.1 hg).1
    have hsh : w.shape? gb = some (e, cur.size) := by simp [World.shape?, hg]
    refine ⟨(), w.freeze ⟨gb, cur.size, none⟩ 1, ?_, ?_⟩
    · simp [execOp, ha.ev hx, convert, run_underlying (und_slice h1), run_underlying (und_int h2), markStringish, shape, freeze, Sem.run, hsh]
    · have hheap : (w.freeze ⟨gb, cur.size, none⟩ 1).heap[gb]? = some (.cells cur e (cur.size, cur.size + 1)) := by
        simp [World.freeze, Array.getElem?_modify, hg]
      refine hw.upd (hu.upd _) (by simp [World.freeze]) (by simp [World.freeze]) (by simp [World.freeze]) (by simp [World.freeze]) fun f1 hf1 => ?_
      rw [vec_holds] at hf1
      rcases hf1.2 with ⟨base, hb, _⟩ | ⟨g', cap', cur', hv', hfq, hg', _⟩
      · simp at hb; omega
      · simp at hv'
        obtain ⟨rfl, rfl⟩ := hv'
        subst hfq
        refine ⟨fun b hb hne => ?_, [gb], by simp, by simp, roV_holds.2 ⟨hfp.1, gb, cap, cur, _, rfl, rfl, hheap, hn, hsz, ht⟩⟩
        have : gb ≠ b := fun h => hne (by simp [h])
        simp [World.freeze, Array.getElem?_modify, this]
end Sx

set_option linter.unusedVariables false
set_option linter.unusedSimpArgs false
namespace Go.Proofs.Ytakgoflfcgofdaa
open Sx Go
/-- the shorter one of both -/
def bestB (B : List Int) : List Int := if (sbs B).length < (pack (fixL B)).length then sbs B else pack (fixL B)
theorem ex_fix : pack (fixL [97]) = [75, 4, 0] := by decide +kernel
theorem ex_sto : sbs [97] = [1, 1, 0, 254, 255, 97] := by decide +kernel
theorem ex_best : bestB [] = [3, 0] := by decide +kernel
theorem ex_len : lenS 11 = (265, 1, 0) := by decide +kernel
theorem ex_span : spanS 7 = (5, 1, 0) := by decide +kernel
section
attribute [local irreducible] sbs pack fixL
variable {w0 : World} {H : List Asn}
set_option maxRecDepth 10000 in
theorem DBest_c (p : Option Addr) (c m : Nat) (B : List Int) (hr : Rd w0 H (.slice p m c) m (ints .u8 B)) (hm : B.length = m) (hB : OKB B) (h4 : m ≤ 100000) (w : World) (hw : St w0 H w) :
    Calls Try.prog 19 #[.slice p m c] w fun e w' => ∃ q d, e = .returned (.slice q (bestB B).length d) ∧ St w0 (vec 5 1 (.slice q (bestB B).length d) (bestB B).length (ints .u8 (bestB B)) :: H) w' := by
  refine enter (vs := [.slice p m c]) Try.func19 rfl rfl rfl hw ?_
  clear hw w
  repeat (first | (refine sx ?_; try intro _))
  refine JO_call Try.call15 rfl rfl fun w hw => (DFixed_c p c m B hr hm hB h4 w hw).mono ?_
  rintro e w' ⟨q1, d1, rfl, hw'⟩
  refine ⟨_, rfl, _, hw', ?_⟩
  clear hw' hw w w'
  repeat (first | (refine sx ?_; try intro _))
  refine JO_call Try.call17 rfl rfl fun w hw => (DStored_c p c m B (Rd_weak hr fun w hw => St.sub (by repeat (first | exact List.Sublist.refl _ | apply List.Sublist.cons_cons | apply List.Sublist.cons)) hw) hm hB h4 w hw).mono ?_
  rintro e w' ⟨q2, d2, rfl, hw'⟩
  refine ⟨_, rfl, _, hw', ?_⟩
  clear hw' hw w w'
  unfold bestB
  by_cases hlt : (sbs B).length < (pack (fixL B)).length
  · rw [if_pos hlt]
    repeat (first | (refine sx ?_; try intro _))
    exact JS_ret Try.func19 rfl rfl fun w hw => ⟨q2, d2, rfl, St.sub (by repeat (first | exact List.Sublist.refl _ | apply List.Sublist.cons_cons | apply List.Sublist.cons)) hw⟩
  · rw [if_neg hlt]
    repeat (first | (refine sx ?_; try intro _))
    exact JS_ret Try.func19 rfl rfl fun w hw => ⟨q1, d1, rfl, St.sub (by repeat (first | exact List.Sublist.refl _ | apply List.Sublist.cons_cons | apply List.Sublist.cons)) hw⟩
set_option maxRecDepth 10000 in
theorem alive8_c (w : World) (hw : St w0 H w) : Calls Try.prog 13 #[] w fun e w' => e = .returned (.bool true) ∧ St w0 H w' := by
  refine enter (vs := []) Try.func13 rfl rfl rfl hw ?_
  clear hw w
  repeat (first | (refine sx ?_; try intro _))
  refine JO_call Try.call21 rfl rfl fun w hw => (Length_c 11 w hw).mono ?_
  rw [ex_len]
  rintro e w' ⟨rfl, hw'⟩
  refine ⟨_, rfl, _, hw', ?_⟩
  clear hw' hw w w'
  repeat (first | (refine sx ?_; try intro _))
  refine JO_call Try.call23 rfl rfl fun w hw => (Span_c 7 w hw).mono ?_
  rw [ex_span]
  rintro e w' ⟨rfl, hw'⟩
  refine ⟨_, rfl, _, hw', ?_⟩
  clear hw' hw w w'
  repeat (first | (refine sx ?_; try intro _))
  refine JO_e (E_convSl (tb := tb) rfl rfl rfl (by repeat (first | exact Sel.here _ _ | apply Sel.there)) (by decide) rfl) ?_
  intro cu
  repeat (first | (refine sx ?_; try intro _))
  rename_i p1
  refine JO_call Try.call15 rfl rfl fun w hw => (DFixed_c (some p1) 1 1 [97] (roV_rd (by repeat (first | apply List.Mem.head | apply List.Mem.tail))) rfl (okb_small (by decide)) (by omega) w hw).mono ?_
  rw [ex_fix]
  rintro e w' ⟨q1, d1, rfl, hw'⟩
  refine ⟨_, rfl, _, hw', ?_⟩
  clear hw' hw w w'
  repeat (first | (apply gJO; refine JO_v (V_eqStr1 (s := bstr [75, 4, 0]) rfl rfl rfl) ?_) | first | (refine sx ?_; try intro _))
  refine JO_e (E_convSl (tb := tb) rfl rfl rfl (by repeat (first | exact Sel.here _ _ | apply Sel.there)) (by decide) rfl) ?_
  intro cu
  repeat (first | (refine sx ?_; try intro _))
  rename_i p2
  refine JO_call Try.call17 rfl rfl fun w hw => (DStored_c (some p2) 1 1 [97] (roV_rd (by repeat (first | apply List.Mem.head | apply List.Mem.tail))) rfl (okb_small (by decide)) (by omega) w hw).mono ?_
  rw [ex_sto]
  rintro e w' ⟨q2, d2, rfl, hw'⟩
  refine ⟨_, rfl, _, hw', ?_⟩
  clear hw' hw w w'
  repeat (first | (apply gJO; refine JO_v (V_eqStr1 (s := bstr [1, 1, 0, 254, 255, 97]) rfl rfl rfl) ?_) | first | (refine sx ?_; try intro _))
  refine JO_call Try.call19 rfl rfl fun w hw => (DBest_c none 0 0 [] nil_rd rfl (okb_small (by decide)) (by omega) w hw).mono ?_
  rw [ex_best]
  rintro e w' ⟨q3, d3, rfl, hw'⟩
  refine ⟨_, rfl, _, hw', ?_⟩
  clear hw' hw w w'
  repeat (first | (apply gJO; refine JO_v (V_eqStr1 (s := bstr [3, 0]) rfl rfl rfl) ?_) | first | (refine sx ?_; try intro _))
  exact JS_ret Try.func13 rfl rfl fun w hw => ⟨rfl, St.sub (by repeat (first | exact List.Sublist.refl _ | apply List.Sublist.cons_cons | apply List.Sublist.cons)) hw⟩
end
end Go.Proofs.Ytakgoflfcgofdaa

set_option linter.unusedVariables false
set_option linter.unusedSimpArgs false
namespace Go.Proofs.Ytakgoflfcgofdaa
open Sx Go
/-! ## the stream of one byte that is repeated: how long it is -/
theorem rep_getD (n i : Nat) : (List.replicate n (0 : Int)).getD i 0 = 0 := by
  rw [List.getD_eq_getElem?_getD, List.getElem?_replicate]; split <;> rfl
theorem sam_rep (n i k : Nat) : ∀ f, sam (List.replicate n 0) i k f = min f (n - k)
  | 0 => by rw [sam]; omega
  | f + 1 => by
    rw [sam, rep_getD, rep_getD, List.length_replicate]
    by_cases h : k < n
    · rw [if_pos ⟨h, rfl⟩, sam_rep n (i + 1) (k + 1) f]; omega
    · rw [if_neg (fun h' => h h'.1)]; omega
theorem bst_rep (n at_ : Nat) : ∀ (i : Nat) (s : Nat × Nat), s.1 = min 258 (n - at_) → bst (List.replicate n 0) at_ i s = s
  | 0, s, _ => rfl
  | i + 1, s, h => by
    rw [bst, sam_rep, if_neg (show ¬ s.1 < min 258 (n - at_) by omega), bst_rep n at_ i s h]
    split <;> rfl
theorem tok_rep (n at_ : Nat) (h1 : 1 ≤ at_) (hn : at_ < n) : tok (List.replicate n 0) at_ = if min 258 (n - at_) < 3 then (0, 0, 0) else (0, min 258 (n - at_), 1) := by
  obtain ⟨i, rfl⟩ : ∃ i, at_ = i + 1 := ⟨at_ - 1, by omega⟩
  have hb : bst (List.replicate n 0) (i + 1) (i + 1) (0, 0) = (min 258 (n - (i + 1)), 1) := by
    rw [bst, if_neg (by omega), sam_rep, if_pos (show 0 < min 258 (n - (i + 1)) by omega), Nat.add_sub_cancel_left, bst_rep n (i + 1) i _ rfl]
  unfold tok
  rw [hb, rep_getD]
theorem len_258 : (tkb (0, 258, 1)).length = 13 := by decide +kernel
theorem len_lit0 : (tkb (0, 0, 0)).length = 8 := by decide +kernel
theorem len_more : ∀ k : Fin 258, 3 ≤ k.val → (tkb (0, k.val, 1)).length ≤ 18 := by decide +kernel
theorem toks_rep (n : Nat) : ∀ (f at_ : Nat), 1 ≤ at_ → ((toks (List.replicate n 0) f at_).flatMap tkb).length ≤ 13 * ((n - at_) / 258) + 18
  | 0, at_, _ => by rw [toks]; simp
  | f + 1, at_, h1 => by
    rw [toks, List.length_replicate]
    by_cases h : at_ < n
    · rw [if_pos h, tok_rep n at_ h1 h, List.flatMap_cons, List.length_append]
      by_cases h3 : min 258 (n - at_) < 3
      · rw [if_pos h3, len_lit0]
        have hfin : ((toks (List.replicate n 0) f (at_ + max 1 ((0 : Int), 0, 0).2.1)).flatMap tkb).length ≤ 8 := by
          show ((toks (List.replicate n 0) f (at_ + 1)).flatMap tkb).length ≤ 8
          cases f with
          | zero => rw [toks]; simp
          | succ f =>
            rw [toks, List.length_replicate]
            by_cases h' : at_ + 1 < n
            · rw [if_pos h', tok_rep n (at_ + 1) (by omega) h', if_pos (by omega), List.flatMap_cons, List.length_append, len_lit0]
              have : (toks (List.replicate n 0) f (at_ + 1 + max 1 ((0 : Int), 0, 0).2.1)) = [] := by
                show toks (List.replicate n 0) f (at_ + 1 + 1) = []
                cases f with
                | zero => rw [toks]
                | succ f => rw [toks, List.length_replicate, if_neg (by omega)]
              rw [this]; simp
            · rw [if_neg h']; simp
        omega
      · rw [if_neg h3]
        by_cases h258 : 258 ≤ n - at_
        · rw [show min 258 (n - at_) = 258 by omega, len_258]
          have := toks_rep n f (at_ + 258) (by omega)
          show 13 + ((toks (List.replicate n 0) f (at_ + 258)).flatMap tkb).length ≤ _
          omega
        · obtain ⟨k, hk⟩ : ∃ k, n - at_ = k := ⟨_, rfl⟩
          rw [show min 258 (n - at_) = k by omega]
          have hl := len_more ⟨k, by omega⟩ (show 3 ≤ k by omega)
          simp only [] at hl
          have hz : toks (List.replicate n 0) f (at_ + max 1 ((0 : Int), k, 1).2.1) = [] := by
            show toks (List.replicate n 0) f (at_ + max 1 k) = []
            cases f with
            | zero => rw [toks]
            | succ f => rw [toks, List.length_replicate, if_neg (by omega)]
          rw [hz]
          simp
          omega
    · rw [if_neg h]; simp
theorem tok_rep0 (n : Nat) : tok (List.replicate n 0) 0 = (0, 0, 0) := by
  unfold tok
  rw [bst, if_pos (by decide), rep_getD]
theorem fix_rep (n : Nat) : (fixL (List.replicate n 0)).length ≤ 3 + 8 + 13 * (n / 258) + 18 + 9 := by
  unfold fixL
  have h3 := fxS_len 256 (by omega)
  simp only [List.length_append, grp_len]
  have : ((toks (List.replicate n 0) (List.replicate n (0 : Int)).length 0).flatMap tkb).length ≤ 8 + 13 * (n / 258) + 18 := by
    rw [List.length_replicate]
    cases n with
    | zero => rw [toks]; simp
    | succ n =>
      rw [toks, List.length_replicate, if_pos (by omega), tok_rep0, List.flatMap_cons, List.length_append, len_lit0]
      have := toks_rep (n + 1) n (0 + max 1 ((0 : Int), 0, 0).2.1) (by show 1 ≤ 0 + 1; omega)
      have e : (0 + max 1 ((0 : Int), 0, 0).2.1) = 1 := rfl
      rw [e] at this ⊢
      omega
  omega
theorem best_rep (n : Nat) (h : n ≤ 4000) : (bestB (List.replicate n 0)).length ≤ 6 + n / 80 := by
  have h1 := fix_rep n
  have h2 : (bestB (List.replicate n 0)).length ≤ (pack (fixL (List.replicate n 0))).length := by
    unfold bestB; split <;> omega
  rw [pack_len] at h2
  omega
theorem best_le (B : List Int) (h : B.length ≤ 2000) : (bestB B).length ≤ B.length + 5 ∧ (bestB B).length ≤ (pack (fixL B)).length ∧ (bestB B).length ≤ (sbs B).length := by
  have hl := sb_len (B.length + 1) B (by omega)
  rw [if_pos (by omega)] at hl
  have hs : (sbs B).length = B.length + 5 := by unfold sbs; omega
  unfold bestB
  split <;> omega
section
attribute [local irreducible] sbs pack fixL bestB
variable {w0 : World} {H : List Asn}
set_option maxRecDepth 10000 in
set_option maxHeartbeats 4000000 in
theorem DeflateShort_c (p : Option Addr) (c m : Nat) (B : List Int) (n : Int) (hr : Rd w0 H (.slice p m c) m (ints .u8 B)) (hm : B.length = m) (hB : OKB B) (hmx : m ≤ 140737488351232) (hn : 0 ≤ n ∧ n < 65536) (w : World) (hw : St w0 H w) :
    Calls Try.prog 4 #[.slice p m c, .int .u16 n] w fun e w' => e = .returned (.bool true) ∧ St w0 H w' := by
  refine enter (vs := [.slice p m c, .int .u16 n]) Try.func4 rfl rfl rfl hw ?_
  clear hw w
  repeat (first | (refine sx ?_; try intro _))
  refine JO_call Try.call13 rfl rfl fun w hw => (alive8_c w hw).mono ?_
  rintro e w' ⟨rfl, hw'⟩
  refine ⟨_, rfl, _, hw', ?_⟩
  clear hw' hw w w'
  by_cases hbig : 2000 < m
  · repeat (first | (refine sx ?_; try intro _))
    exact JS_ret Try.func4 rfl rfl fun w hw => ⟨rfl, hw⟩
  · obtain ⟨b1, b2, b3⟩ := best_le B (by omega)
    repeat (first | (refine sx ?_; try intro _))
    refine JO_call Try.call19 rfl rfl fun w hw => (DBest_c p c m B hr hm hB (by omega) w hw).mono ?_
    rintro e w' ⟨q1, d1, rfl, hw'⟩
    refine ⟨_, rfl, _, hw', ?_⟩
    clear hw' hw w w'
    obtain ⟨k, hk⟩ : ∃ k : Nat, n % 4000 = (k : Int) := ⟨(n % 4000).toNat, by omega⟩
    have hwk : IntKind.i64.wrap (n % 4000) = (k : Int) := by rw [hk]; exact wi64 (by omega)
    have hkx : k < 4000 := by omega
    have b4 := best_rep k (by omega)
    repeat (first | apply hIx 7 | (apply gJO; refine JO_v (oCv (V_conv (tb := tb) rfl rfl rfl hwk rfl)) ?_) | (first | (refine sx ?_; try intro _)))
    refine Hold.go ?_
    rename_i p1
    rw [Int.toNat_natCast, ints_rep]
    repeat (first | (refine sx ?_; try intro _))
    refine JO_call Try.call15 rfl rfl fun w hw => (DFixed_c p c m B (Rd_weak hr fun w hw => St.sub (by repeat (first | exact List.Sublist.refl _ | apply List.Sublist.cons_cons | apply List.Sublist.cons)) hw) hm hB (by omega) w hw).mono ?_
    rintro e w' ⟨q2, d2, rfl, hw'⟩
    refine ⟨_, rfl, _, hw', ?_⟩
    clear hw' hw w w'
    repeat (first | (refine sx ?_; try intro _))
    refine JO_call Try.call17 rfl rfl fun w hw => (DStored_c p c m B (Rd_weak hr fun w hw => St.sub (by repeat (first | exact List.Sublist.refl _ | apply List.Sublist.cons_cons | apply List.Sublist.cons)) hw) hm hB (by omega) w hw).mono ?_
    rintro e w' ⟨q3, d3, rfl, hw'⟩
    refine ⟨_, rfl, _, hw', ?_⟩
    clear hw' hw w w'
    repeat (first | (refine sx ?_; try intro _))
    refine JO_call Try.call19 rfl rfl fun w hw => (DBest_c (some p1) k k (List.replicate k 0) (vec_rd (by repeat (first | apply List.Mem.head | apply List.Mem.tail))) (List.length_replicate) (fun j => by rw [rep_getD]; decide) (by omega) w hw).mono ?_
    rintro e w' ⟨q4, d4, rfl, hw'⟩
    refine ⟨_, rfl, _, hw', ?_⟩
    clear hw' hw w w'
    repeat (first | (refine sx ?_; try intro _))
    exact JS_ret Try.func4 rfl rfl fun w hw => ⟨rfl, St.sub (by repeat (first | exact List.Sublist.refl _ | apply List.Sublist.cons_cons | apply List.Sublist.cons)) hw⟩
end
theorem DeflateShort_l (p : Option Addr) (c m : Nat) (B : List Int) (n : Int) (w0 : World) (ha : ArgRd w0 (.slice p m c) m (ints .u8 B)) (hm : B.length = m) (hO : OKB B ∧ (p = none → m = 0) ∧ m ≤ 140737488351232) (hn : 0 ≤ n ∧ n < 65536) :
    Calls Try.prog 4 #[.slice p m c, .int .u16 n] w0 fun e w' => e = .returned (.bool true) ∧ RowKit.Below w0.heap.size w0 w' :=
  (DeflateShort_c (w0 := w0) (H := []) p c m B n (ha.rd _) hm hO.1 hO.2.2 hn w0 (St.start w0)).mono fun e w' h => ⟨h.1, h.2.grown⟩
end Go.Proofs.Ytakgoflfcgofdaa

namespace Go.Proofs.Ytakgoflfcgofdaa
open Sx Go Go.ChangeShapes Go.WideShapes
set_option linter.unusedVariables false
set_option linter.unusedSimpArgs false
theorem cell_lt {w : World} {a : Addr} {v : Value} (h : w.cell? a = some v) : a.block < w.heap.size := by
  rcases Nat.lt_or_ge a.block w.heap.size with h1 | h1
  · exact h1
  · simp [World.cell?, Array.getElem?_eq_none h1] at h
theorem wf64 {a : Int} (h : (Lit.int .i64 a).wf = true) : -9223372036854775808 ≤ a ∧ a < 9223372036854775808 := by
  simp only [Lit.wf, Bool.and_eq_true, decide_eq_true_eq] at h
  have h1 : IntKind.i64.min = -9223372036854775808 := by decide
  have h2 : IntKind.i64.max = 9223372036854775808 - 1 := by decide
  omega
theorem wfu64 {a : Int} (h : (Lit.int .u64 a).wf = true) : 0 ≤ a ∧ a < 18446744073709551616 := by
  simp only [Lit.wf, Bool.and_eq_true, decide_eq_true_eq] at h
  have h1 : IntKind.u64.min = 0 := by decide
  have h2 : IntKind.u64.max = 18446744073709551616 - 1 := by decide
  omega
theorem argRd_mk {w0 : World} {u : Value} {m : Nat} {cs : List Value} (h1 : isSl u m) (h2 : ∀ j v, cs[j]? = some v → ∃ a, cellPtr u j = .pointer (some a) ∧ a.block < w0.heap.size ∧ w0.cell? a = some v) : ArgRd w0 u m cs := by
  unfold ArgRd; exact ⟨h1, h2⟩
def iv : Value → Int
  | .int _ n => n
  | _ => 0
theorem wfu8 {a : Int} (h : (Lit.int .u8 a).wf = true) : 0 ≤ a ∧ a < 256 := by
  simp only [Lit.wf, Bool.and_eq_true, decide_eq_true_eq] at h
  have h1 : IntKind.u8.min = 0 := by decide
  have h2 : IntKind.u8.max = 256 - 1 := by decide
  omega
end Go.Proofs.Ytakgoflfcgofdaa

namespace Go.Proofs.Ytakgoflfcgofdaa
open Sx Go Go.ChangeShapes Go.WideShapes
set_option linter.unusedVariables false
set_option linter.unusedSimpArgs false
theorem cells5 : Try.prog.cellsOf 5 = 1 := by kernel_rfl
set_option maxRecDepth 100000 in
/-- a slice of bytes that came in -/
theorem open_bytes {H : Type} {enc : TypeId × Value → H} {W : World} {base : Nat} {v : Value} {d : DataW H} {p : List MemPlace} (hval : Value.okWide Try.prog W .any base 22 v) (h : DataW.Trod enc Try.prog W 0 (fun _ => true) true 22 v d p) :
    ∃ (b : Option Addr) (c m : Nat) (B : List Int), v = .slice b m c ∧ ArgRd W (.slice b m c) m (ints .u8 B) ∧ B.length = m ∧ (OKB B ∧ (b = none → m = 0)) ∧ (m = 0 ∨ ∃ E S, d = .slice E S ∧ E.length = m) := by
  obtain ⟨b, m, c, rfl⟩ := okWide_slice Try.underlying22 hval
  obtain ⟨fuel, hf⟩ := h
  rcases open_ints Try.underlying22 Try.underlying5 cells5 hf with ⟨hcs, _⟩ | ⟨a, len', cap', zs, hcs, _, hl, hm, hz, hx, hcell, hwz⟩
  · simp [Value.cells] at hcs
    obtain ⟨rfl, rfl, rfl⟩ := hcs
    exact ⟨none, 0, 0, [], rfl, argRd_mk ⟨none, 0, rfl, fun _ => rfl, Nat.le_refl _⟩ (fun j v h => by simp [ints] at h), rfl, ⟨fun j => by simp, fun _ => rfl⟩, .inl rfl⟩
  · simp [Value.cells] at hcs
    obtain ⟨rfl, rfl, rfl⟩ := hcs
    simp only [if_true] at hz
    refine ⟨some a, c, m, zs.take m, rfl, argRd_mk ⟨some a, c, rfl, (fun h => by cases h), hl⟩ (fun j v hv => ?_), by simp; omega, ⟨fun j => ?_, fun h => (by cases h)⟩, .inr ⟨_, _, congrArg Prod.fst hx, by simp [lits]; omega⟩⟩
    · have hj : j < m := by
        have := (List.getElem?_eq_some_iff.1 hv).1
        simp [ints] at this; omega
      have e : (ints .u8 (zs.take m))[j]? = some (.int .u8 (zs.getD j 0)) := by
        have := ints_get (K := .u8) (l := zs.take m) (j := j) (by simp; omega)
        rw [this]
        congr 2
        simp [List.getD_eq_getElem?_getD, List.getElem?_take, hj]
      rw [e] at hv
      obtain rfl := Option.some.inj hv
      exact ⟨a.add j, cellPtr_eq a m c j, by simpa using cell_lt (hcell j (by omega)), hcell j (by omega)⟩
    · rcases Nat.lt_or_ge j m with hj | hj
      · have : (zs.take m).getD j 0 = zs[j]'(by omega) := by simp [List.getD_eq_getElem?_getD, List.getElem?_take, hj, show j < zs.length by omega]
        rw [this]
        exact wfu8 (hwz _ (List.getElem_mem _))
      · have : (zs.take m).getD j 0 = 0 := by
          rw [List.getD_eq_getElem?_getD, List.getElem?_eq_none (by simp; omega)]; rfl
        rw [this]; decide
end Go.Proofs.Ytakgoflfcgofdaa

set_option linter.unusedVariables false
set_option linter.unusedSimpArgs false
namespace Go.Proofs.Ytakgoflfcgofdaa
open Sx Go
/-! ## the reference's tokens -/
section
variable {w0 : World} {H : List Asn}
set_option maxRecDepth 10000 in
set_option maxHeartbeats 2000000 in
theorem RSame_c (p : Option Addr) (c m : Nat) (B : List Int) (hr : Rd w0 H (.slice p m c) m (ints .u8 B)) (hm : B.length = m) (i k : Nat) (hik : i < k) (hk : k ≤ m) (h4 : m ≤ 100000) (w : World) (hw : St w0 H w) :
    Calls Try.prog 73 #[.slice p m c, .int .i64 i, .int .i64 k] w fun e w' => e = .returned (.int .i64 (sam B i k 258)) ∧ St w0 H w' := by
  refine enter (vs := [.slice p m c, .int .i64 i, .int .i64 k]) Try.func73 rfl rfl rfl hw ?_
  repeat (first | (refine sx ?_; try intro _))
  refine JS_loop1 (fun (n : Nat) => [(0, .slice p m c), (1, .int .i64 i), (2, .int .i64 k), (7, .int .i64 n)]) (fun _ => H) (fun n => n ≤ 258 ∧ k + n ≤ m ∧ sam B i k 258 = n + sam B (i + n) (k + n) (258 - n)) (fun n => 258 - n) 0 ⟨by omega, by omega, by simp⟩ (by repeat (first | exact trivial | refine ⟨rfl, ?_⟩ | refine ⟨lookI rfl (by omega), ?_⟩)) (fun _ h => h) ?_
  intro n ⟨hn, hkn, he⟩ again
  by_cases h258 : n = 258
  case' pos =>
    clear again
    repeat (first | (refine sx ?_; try intro _))
    have hfin : sam B i k 258 = n := by rw [he, h258]; rfl
  case' neg =>
    by_cases hkm : k + n = m
    case' pos =>
      clear again
      repeat (first | (refine sx ?_; try intro _))
      have hfin : sam B i k 258 = n := by
        rw [he, show 258 - n = (257 - n) + 1 by omega, sam, if_neg (by omega)]; rfl
    case' neg =>
      have g1 : (ints .u8 B)[i + n]? = some (.int .u8 (B.getD (i + n) 0)) := ints_get (by omega)
      have g2 : (ints .u8 B)[k + n]? = some (.int .u8 (B.getD (k + n) 0)) := ints_get (by omega)
      by_cases heq : B.getD (i + n) 0 = B.getD (k + n) 0
      case' neg =>
        clear again
        repeat (first | (apply gQO; refine QO_v rfl (oL (V_loadC (tb := tb) rfl hr rfl rfl g1 rfl)) ?_) | (apply gQO; refine QO_v rfl (oL (V_loadC (tb := tb) rfl hr rfl rfl g2 rfl)) ?_) | (first | (refine sx ?_; try intro _)))
        have hfin : sam B i k 258 = n := by
          rw [he, show 258 - n = (257 - n) + 1 by omega, sam, if_neg (fun h => heq h.2)]; rfl
      case' pos =>
        repeat (first | (apply gQO; refine QO_v rfl (oL (V_loadC (tb := tb) rfl hr rfl rfl g1 rfl)) ?_) | (apply gQO; refine QO_v rfl (oL (V_loadC (tb := tb) rfl hr rfl rfl g2 rfl)) ?_) | (first | (refine sx ?_; try intro _)))
        exact JS_again1 again (n + 1) ⟨by omega, by omega, by rw [he, show 258 - n = (258 - (n + 1)) + 1 by omega, sam, if_pos ⟨by omega, heq⟩, show i + n + 1 = i + (n + 1) by omega, show k + n + 1 = k + (n + 1) by omega]; omega⟩ (by omega) (by repeat (first | exact trivial | refine ⟨rfl, ?_⟩ | refine ⟨lookI rfl (by omega), ?_⟩)) (fun w hw => hw)
  all_goals
    refine JS_ret Try.func73 rfl rfl fun w hw => ⟨?_, hw⟩
    rw [hfin]
    rfl
attribute [local irreducible] sam bst tok toks tkv
theorem bst_s (B : List Int) (at_ i : Nat) (s : Nat × Nat) : bst B at_ (i + 1) s = if 32768 < at_ - i then s else bst B at_ i (if s.1 < sam B i at_ 258 then (sam B i at_ 258, at_ - i) else s) := by
  rw [bst.eq_def]
theorem bst_0 (B : List Int) (at_ : Nat) (s : Nat × Nat) : bst B at_ 0 s = s := by unfold bst; rfl
set_option maxRecDepth 10000 in
set_option maxHeartbeats 4000000 in
/-- all tokens of a text -/
theorem RFind_c (p : Option Addr) (c m : Nat) (B : List Int) (hr : Rd w0 H (.slice p m c) m (ints .u8 B)) (hm : B.length = m) (hB : OKB B) (h4 : m ≤ 100000) (w : World) (hw : St w0 H w) :
    Calls Try.prog 42 #[.slice p m c] w fun e w' => ∃ q d, e = .returned (.slice q (toks B m 0).length d) ∧ St w0 (vec 60 3 (.slice q (toks B m 0).length d) (toks B m 0).length (tkv (toks B m 0)) :: H) w' := by
  refine enter (vs := [.slice p m c]) Try.func42 rfl rfl rfl hw ?_
  clear hw w
  have htv0 : tkv [] = [] := by unfold tkv; rfl
  repeat (first | (refine sx ?_; try intro _))
  refine JS_loop4 (fun (i : Nat) (q : Option Addr) (d : Nat) (L : List (Int × Nat × Nat)) => [(0, .slice p m c), (3, .slice q L.length d), (4, .int .i64 i)])
    (fun i q d L => vec 60 3 (.slice q L.length d) L.length (tkv L) :: H) (fun i q d L => i ≤ m ∧ L.length ≤ i ∧ toks B m 0 = L ++ toks B (m - i) i) (fun i _ _ _ => m - i) 0 none 0 [] ⟨Nat.zero_le _, Nat.le_refl _, by rw [Nat.sub_zero, List.nil_append]⟩ (by repeat (first | exact trivial | refine ⟨rfl, ?_⟩ | refine ⟨lookI rfl (by omega), ?_⟩))
    (fun w h => by rw [htv0]; exact St.nilvec h) ?_
  intro i q d L ⟨hi, hLl, hL⟩ again
  by_cases him : i < m
  · have hts := toks_s (B := B) (i := i) (by omega)
    have hbd := tok_bd B i (by omega)
    have hB1 := bst_bd B i (by omega)
    have gB : (ints .u8 B)[i]? = some (.int .u8 (B.getD i 0)) := ints_get (by omega)
    repeat (first | (refine sx ?_; try intro _))
    refine JS_loop3 (fun (k n e : Nat) => [(0, .slice p m c), (3, .slice q L.length d), (4, .int .i64 i), (5, .int .i64 n), (6, .int .i64 e), (7, .int .i64 (k - 1 : Int))]) (fun k n e => vec 60 3 (.slice q L.length d) L.length (tkv L) :: H)
      (fun k n e => k ≤ i ∧ (n ≤ 258 ∧ e ≤ i) ∧ bst B i i (0, 0) = bst B i k (n, e)) (fun k _ _ => k) i 0 0 ⟨Nat.le_refl _, ⟨by omega, by omega⟩, rfl⟩ (by repeat (first | exact trivial | refine ⟨rfl, ?_⟩ | refine ⟨lookI rfl (by omega), ?_⟩)) (fun w h => h) ?_
    intro k n e ⟨hk, hne, hbst⟩ again2
    by_cases hstop : k = 0 ∨ (0 < k ∧ 32768 < i - (k - 1))
    case' pos =>
      have hn : bst B i i (0, 0) = (n, e) := by
        rw [hbst]
        rcases hstop with rfl | ⟨h0, h⟩
        · exact bst_0 B i _
        · obtain ⟨k', rfl⟩ : ∃ k', k = k' + 1 := ⟨k - 1, by omega⟩
          rw [bst_s, if_pos (by rw [Nat.add_sub_cancel] at h; exact h)]
      clear again2
      have htok : tok B i = if n < 3 then (B.getD i 0, 0, 0) else (0, n, e) := by unfold tok; rw [hn]
      have hn258 := tok_bd B i (by omega)
      by_cases hn3 : n < 3
      case' pos =>
        rw [if_pos hn3] at htok
        rw [htok] at hts
        have htv := tkv_app L (B.getD i 0, 0, 0)
        have hll : (L ++ [(B.getD i 0, 0, 0)]).length = L.length + 1 := by simp
        have hts2 : toks B (m - i) i = (B.getD i 0, 0, 0) :: toks B (m - (i + 1)) (i + 1) := by rw [← hm]; exact hts
      case' neg =>
        rw [if_neg hn3] at htok
        rw [htok] at hts hn258
        have htv := tkv_app L (0, n, e)
        have hll : (L ++ [((0 : Int), n, e)]).length = L.length + 1 := by simp
        have hmx : max 1 n = n := by omega
        have hts2 : toks B (m - i) i = (0, n, e) :: toks B (m - (i + n)) (i + n) := by rw [← hm, hts]; show _ :: toks B (B.length - (i + max 1 n)) (i + max 1 n) = _; rw [hmx]
        have hin : i + n ≤ m := by
          rcases hn258 with h | ⟨n', d', h, h1, h2, h3, _⟩
          · have : n = 0 := (Prod.mk.inj (Prod.mk.inj h).2).1
            omega
          · have : n = n' := (Prod.mk.inj (Prod.mk.inj h).2).1
            omega
      all_goals
        clear hn258 hbd hB1 hts
        rcases hstop with hk0 | hk0
      all_goals
        repeat (first | (apply gJO; refine JO_v (oL (V_loadC (tb := tb) rfl (Rd_weak hr fun w hw => St.sub (by repeat (first | exact List.Sublist.refl _ | apply List.Sublist.cons_cons | apply List.Sublist.cons)) hw) rfl rfl gB rfl)) ?_) | (apply gJO; (refine JO_app (tb := tb) rfl rfl rfl rfl rfl rfl (by repeat (first | exact Sel.here _ _ | apply Sel.there)) (by first | exact vec_rd (by repeat (first | apply List.Mem.head | apply List.Mem.tail)) | assumption | exact ArgRd.rd (by assumption) _ | (apply Rd_weak; assumption; intro _ hx; exact St.sub (by repeat (first | exact List.Sublist.refl _ | apply List.Sublist.cons_cons | apply List.Sublist.cons)) hx)) (by simp only [ints_len, List.length_cons, List.length_nil]; first | omega | rfl) (by first | exact ints_one | (repeat (first | exact trivial | refine ⟨rfl, ?_⟩))) (by omega) rfl ?_; intro _ _)) | (first | (refine sx ?_; try intro _)))
        rename_i ps q2 d2
        first | exact JS_again4 again (i + 1) q2 d2 (L ++ [(B.getD i 0, 0, 0)]) ⟨by omega, by rw [hll]; omega, by rw [hL, hts2, List.append_assoc]; rfl⟩ (by omega) (by rw [hll]; exact (by repeat (first | exact trivial | refine ⟨rfl, ?_⟩ | refine ⟨lookI rfl (by omega), ?_⟩))) (fun w hw => by rw [htv, hll]; exact St.sub (by repeat (first | exact List.Sublist.refl _ | apply List.Sublist.cons_cons | apply List.Sublist.cons)) hw) | exact JS_again4 again (i + n) q2 d2 (L ++ [(0, n, e)]) ⟨by omega, by rw [hll]; omega, by rw [hL, hts2, List.append_assoc]; rfl⟩ (by omega) (by rw [hll]; exact (by repeat (first | exact trivial | refine ⟨rfl, ?_⟩ | refine ⟨lookI rfl (by omega), ?_⟩))) (fun w hw => by rw [htv, hll]; exact St.sub (by repeat (first | exact List.Sublist.refl _ | apply List.Sublist.cons_cons | apply List.Sublist.cons)) hw)
    case' neg =>
      obtain ⟨k', rfl⟩ : ∃ k', k = k' + 1 := ⟨k - 1, by omega⟩
      rw [Nat.add_sub_cancel] at hstop
      rw [show (((k' + 1 : Nat) : Int) - 1) = (k' : Int) by omega]
      rw [bst_s, if_neg (by omega)] at hbst
      have hs := sam_le B 258 k' i
      repeat (first | (refine sx ?_; try intro _))
      refine JO_call Try.call73 rfl rfl fun w hw => (RSame_c p c m B (Rd_weak hr fun w hw => St.sub (by repeat (first | exact List.Sublist.refl _ | apply List.Sublist.cons_cons | apply List.Sublist.cons)) hw) hm k' i (by omega) (by omega) h4 w hw).mono ?_
      rintro e w' ⟨rfl, hw'⟩
      refine ⟨_, rfl, _, hw', ?_⟩
      clear hw' hw w w'
      obtain ⟨s, hse⟩ : ∃ s, sam B k' i 258 = s := ⟨_, rfl⟩
      rw [hse] at hbst hs ⊢
      by_cases hlt : n < s
      · rw [if_pos hlt] at hbst
        have hij : ((i : Int) - (k' : Int)) = ((i - k' : Nat) : Int) := by omega
        repeat (first | (refine sx ?_; try intro _))
        rw [hij]
        repeat (first | (refine sx ?_; try intro _))
        exact JS_again3 again2 k' s (i - k') ⟨by omega, ⟨hs, by omega⟩, hbst⟩ (by omega) (by repeat (first | exact trivial | refine ⟨rfl, ?_⟩ | refine ⟨lookI rfl (by omega), ?_⟩)) (fun w hw => hw)
      · rw [if_neg hlt] at hbst
        repeat (first | (refine sx ?_; try intro _))
        exact JS_again3 again2 k' n e ⟨by omega, hne, hbst⟩ (by omega) (by repeat (first | exact trivial | refine ⟨rfl, ?_⟩ | refine ⟨lookI rfl (by omega), ?_⟩)) (fun w hw => hw)
  · obtain rfl : i = m := by omega
    clear again
    have hend : toks B i 0 = L := by rw [hL, ← hm, toks_end, List.append_nil]
    rw [hend]
    repeat (first | (refine sx ?_; try intro _))
    refine JS_ret Try.func42 rfl rfl fun w hw => ⟨q, d, rfl, St.sub (by repeat (first | exact List.Sublist.refl _ | apply List.Sublist.cons_cons | apply List.Sublist.cons)) hw⟩
end
end Go.Proofs.Ytakgoflfcgofdaa

namespace Go.Proofs.Ytakgoflfcgofdaa
open Sx Go
set_option linter.unusedVariables false
set_option linter.unusedSimpArgs false
attribute [local irreducible] syA fc tk cds
/-! ## the reference -/
section
variable {w0 : World} {H : List Asn}
theorem RUp_c (a : Nat) (ha : a ≤ 4611686018427387904) (w : World) (hw : St w0 H w) :
    Calls Try.prog 83 #[.int .i64 a] w fun e w' => e = .returned (.int .i64 (upto8 a : Nat)) ∧ St w0 H w' := by
  refine enter (vs := [.int .i64 a]) Try.func83 rfl rfl rfl hw ?_
  repeat (first | (apply gJR; first | (refine sx ?_; try intro _)) | (apply gJO; first | (refine sx ?_; try intro _)) | apply JS_seq | apply JS_region)
  refine JS_block ?_
  refine JS_loop1 (fun (x : Nat) => [(0, .int .i64 x)]) (fun _ => H) (fun x => x ≤ upto8 a ∧ upto8 x = upto8 a) (fun x => upto8 a - x) a ⟨by unfold upto8; omega, rfl⟩ (by repeat (first | exact trivial | refine ⟨rfl, ?_⟩ | refine ⟨lookI rfl (by omega), ?_⟩)) (fun _ h => h) ?_
  intro x ⟨hx, hxu⟩ again
  have hu : upto8 a ≤ a + 7 := by unfold upto8; omega
  by_cases h : x % 8 = 0
  · clear again
    have hxe : upto8 x = x := by unfold upto8; omega
    repeat (first | (refine sx ?_; try intro _))
    refine JS_ret Try.func83 rfl rfl fun w hw => ⟨?_, hw⟩
    rw [← hxu, hxe]; rfl
  · have hxe : upto8 (x + 1) = upto8 x ∧ x + 1 ≤ upto8 x := by unfold upto8; omega
    repeat (first | (refine sx ?_; try intro _))
    exact JS_again1 again (x + 1) ⟨by omega, by omega⟩ (by omega) (by repeat (first | exact trivial | refine ⟨rfl, ?_⟩ | refine ⟨lookI rfl (by omega), ?_⟩)) (fun w hw => hw)
theorem nbt_low (bt : Nat → Int) (a : Nat) : ∀ c, nbt bt a (c + 1) = bt a + 2 * nbt bt (a + 1) c
  | 0 => by simp [nbt]
  | c + 1 => by
    have ih := nbt_low bt a c
    rw [nbt, ih, nbt, show a + 1 + c = a + (c + 1) by omega, Int.pow_succ, ← Int.mul_assoc, Int.mul_add]
    omega
theorem pw31 (i : Nat) (h : i ≤ 31) : (1 : Int) ≤ 2 ^ i ∧ (2 : Int) ^ i ≤ 2147483648 := by
  have : ∀ k : Fin 32, (1 : Int) ≤ 2 ^ k.val ∧ (2 : Int) ^ k.val ≤ 2147483648 := by decide
  exact this ⟨i, by omega⟩
set_option maxHeartbeats 1000000 in
theorem RNum_c (p : Option Addr) (c k : Nat) (X : List Int) (hr : Rd w0 H (.slice p k c) k (ints .u8 X)) (hX : X.length = k) (h01 : ∀ j, X.getD j 0 = 0 ∨ X.getD j 0 = 1) (hk : k ≤ 31) (w : World) (hw : St w0 H w) :
    Calls Try.prog 74 #[.slice p k c] w fun e w' => e = .returned (.int .u32 (nbt (fun j => X.getD j 0) 0 k)) ∧ St w0 H w' := by
  refine enter (vs := [.slice p k c]) Try.func74 rfl rfl rfl hw ?_
  repeat (first | (apply gJR; first | (refine sx ?_; try intro _)) | (apply gJO; first | (refine sx ?_; try intro _)) | apply JS_seq | apply JS_region)
  refine JS_block ?_
  refine JS_loop1 (fun (r : Nat) => [(0, .slice p k c), (3, .int .u32 (nbt (fun j => X.getD j 0) r (k - r))), (4, .int .i64 ((r : Int) - 1))]) (fun _ => H) (fun r => r ≤ k) (fun r => r) k (Nat.le_refl _) (by rw [Nat.sub_self]; exact ⟨rfl, rfl, rfl, trivial⟩) (fun _ h => h) ?_
  intro r hrk again
  by_cases h0 : r = 0
  · subst h0
    clear again
    repeat (first | (refine sx ?_; try intro _))
    exact JS_ret Try.func74 rfl rfl fun w hw => ⟨rfl, hw⟩
  · obtain ⟨s, rfl⟩ : ∃ s, r = s + 1 := ⟨r - 1, by omega⟩
    have hlo := nbt_low (fun j => X.getD j 0) s (k - (s + 1))
    rw [show k - (s + 1) + 1 = k - s by omega] at hlo
    obtain ⟨b0, b1⟩ := nbt_bd (fun j => X.getD j 0) h01 (s + 1) (k - (s + 1))
    obtain ⟨q0, q1⟩ := pw31 (k - (s + 1)) (by omega)
    have hpw : (2 : Int) ^ (k - (s + 1)) ≤ 1073741824 := by
      have : ∀ k : Fin 31, (2 : Int) ^ k.val ≤ 1073741824 := by decide
      exact this ⟨k - (s + 1), by omega⟩
    have gi : (ints .u8 X)[s]? = some (.int .u8 (X.getD s 0)) := ints_get (by omega)
    have hs01 := h01 s
    try simp only at hlo
    have es : (((s + 1 : Nat) : Int) - 1) = s := by omega
    simp only [es]
    generalize nbt (fun j => X.getD j 0) (s + 1) (k - (s + 1)) = v at *
    generalize X.getD s 0 = y at *
    repeat (first | (apply gJO; refine JO_v (V_loadC (tb := tb) rfl hr rfl rfl gi rfl) ?_) | (first | (refine sx ?_; try intro _)))
    refine JS_again1 again s (by omega) (by omega) ?_ (fun w hw => hw)
    refine ⟨rfl, ?_, rfl, trivial⟩
    exact lookI rfl (by rw [hlo]; omega)
/-- the reference's memory -/
abbrev strL (bs : Nat) (q : Option Addr) (d m : Nat) (B : List Int) (lim : Int) (a : Nat) (po : Option Addr) (co : Nat) (o : List Int) (E : Int) (H : List Asn) : List Asn :=
  blk bs [.slice q (8 * m) d, .int .i64 a, .slice po o.length co, .int .i64 lim, .int .i64 E] :: vec 5 1 (.slice po o.length co) o.length (ints .u8 o) :: vec 5 1 (.slice q (8 * m) d) (8 * m) (ints .u8 (bitsL B m)) :: H
variable {bs : Nat} {q : Option Addr} {d m : Nat} {B : List Int} {lim : Nat} {po : Option Addr} {co : Nat} {o : List Int}
/-- an error is told, if none was yet -/
theorem RFail_c (x : Int) (a : Nat) (E : Int) (w : World) (hw : St w0 (strL bs q d m B lim a po co o E H) w) :
    Calls Try.prog 85 #[.pointer (some ⟨bs, 0, none⟩), .int .i64 x] w fun e w' => e = .returned (.tuple #[]) ∧ St w0 (strL bs q d m B lim a po co o (if E = 0 then x else E) H) w' := by
  refine enter (vs := [.pointer (some ⟨bs, 0, none⟩), .int .i64 x]) Try.func85 rfl rfl rfl hw ?_
  by_cases h : E = 0
  · rw [if_pos h]
    repeat (first | (refine sx ?_; try intro _))
    exact JS_fin Try.func85 rfl rfl fun w hw => ⟨rfl, hw⟩
  · rw [if_neg h]
    repeat (first | (refine sx ?_; try intro _))
    exact JS_fin Try.func85 rfl rfl fun w hw => ⟨rfl, hw⟩
/-- a group behind an error -/
theorem RGrpE_c (c : Int) (a : Nat) (E : Int) (hE : E ≠ 0) (w : World) (hw : St w0 (strL bs q d m B lim a po co o E H) w) :
    Calls Try.prog 59 #[.pointer (some ⟨bs, 0, none⟩), .int .i64 c] w fun e w' => e = .returned (.int .i64 0) ∧ St w0 (strL bs q d m B lim a po co o E H) w' := by
  refine enter (vs := [.pointer (some ⟨bs, 0, none⟩), .int .i64 c]) Try.func59 rfl rfl rfl hw ?_
  repeat (first | (refine sx ?_; try intro _))
  exact JS_ret Try.func59 rfl rfl fun w hw => ⟨rfl, hw⟩
set_option maxHeartbeats 1000000 in
/-- a group -/
theorem RGrp4_c (hK : InfK m B lim) (a c : Nat) (hc : c ≤ 16) (ha : a ≤ 8 * m) (hm2 : m ≤ 17592186044410) (w : World) (hw : St w0 (strL bs q d m B lim a po co o 0 H) w) :
    Calls Try.prog 59 #[.pointer (some ⟨bs, 0, none⟩), .int .i64 c] w fun e w' => (8 * m < a + c ∧ e = .returned (.int .i64 0) ∧ St w0 (strL bs q d m B lim a po co o 20 H) w') ∨
      (a + c ≤ 8 * m ∧ e = .returned (.int .i64 (nbt (bitB B 0) a c)) ∧ St w0 (strL bs q d m B lim (a + c) po co o 0 H) w') := by
  refine enter (vs := [.pointer (some ⟨bs, 0, none⟩), .int .i64 c]) Try.func59 rfl rfl rfl hw ?_
  have hbl := bitsL_len B m
  by_cases h : 8 * m < a + c
  · repeat (first | (refine sx ?_; try intro _))
    exact JS_ret Try.func59 rfl rfl fun w hw => .inl ⟨h, rfl, hw⟩
  have hcap : ∀ w, St w0 (strL bs q d m B lim a po co o 0 H) w → a + c ≤ d := fun w hw => by
    have := (Rd.lcap (vec_rd (e := 5) (size := 1) (v := .slice q (8 * m) d) (n := 8 * m) (cs := ints .u8 (bitsL B m)) (by repeat (first | apply List.Mem.head | apply List.Mem.tail))) hw).1; omega
  repeat (first | (apply gJR; first | (refine sx ?_; try intro _)) | (apply gJO; first | (refine sx ?_; try intro _)) | (apply gQR; first | (refine sx ?_; try intro _)) | (apply gQO; first | refine QO_v rfl (V_slice (tb := tb) (lo := a) (hi := a + c) rfl rfl rfl rfl rfl (by rfl) (by rfl) (fun w hw => ⟨by omega, hcap w hw⟩) rfl) ?_ | first | (refine sx ?_; try intro _)) | (apply gJS; first | (refine sx ?_; try intro _)))
  have e1 : a + c - a = c := by omega
  simp only [e1]
  have hrs := Rd_sub (lo := a) (hi := a + c) (sz := 1) (vec_rd (w0 := w0) (H := strL bs q d m B lim a po co o 0 H) (e := 5) (size := 1) (v := .slice q (8 * m) d) (n := 8 * m) (cs := ints .u8 (bitsL B m)) (by repeat (first | apply List.Mem.head | apply List.Mem.tail))) (by omega) (by omega)
  simp only [e1, Nat.mul_one, ints_drop, ints_take] at hrs
  have hget : ∀ j, j < c → (((bitsL B m).drop a).take c).getD j 0 = bitB B 0 (a + j) := fun j hj => by
    rw [List.getD_eq_getElem?_getD, List.getElem?_take, if_pos hj, List.getElem?_drop, ← List.getD_eq_getElem?_getD]
    exact bitsL_get B m (a + j) (by omega)
  have h01 : ∀ j, (((bitsL B m).drop a).take c).getD j 0 = 0 ∨ (((bitsL B m).drop a).take c).getD j 0 = 1 := fun j => by
    by_cases hj : j < c
    · rw [hget j hj]; exact bitB_01 _ _ _
    · left; rw [List.getD_eq_getElem?_getD, List.getElem?_eq_none (by rw [List.length_take, List.length_drop]; omega)]; rfl
  have hnum : nbt (fun j => (((bitsL B m).drop a).take c).getD j 0) 0 c = nbt (bitB B 0) a c := nbt_congr (fun j hj => by rw [Nat.zero_add]; exact hget j hj)
  refine QO_call Try.call74 rfl rfl fun w hw => (RNum_c _ _ c _ hrs (by rw [List.length_take, List.length_drop]; omega) h01 (by omega) w hw).mono ?_
  rintro e w' ⟨rfl, hw'⟩
  rw [hnum]
  refine ⟨_, rfl, _, hw', .inl fun w hw => hw, ?_⟩
  clear hw' hw w w' hrs
  obtain ⟨b0, b1⟩ := nbt_bd (bitB B 0) (bitB_01 B 0) a c
  have hp := (pw16 c hc).2
  generalize nbt (bitB B 0) a c = v at *
  repeat (first | (refine sx ?_; try intro _))
  exact JS_ret Try.func59 rfl rfl fun w hw => .inr ⟨by omega, rfl, hw⟩
end
end Go.Proofs.Ytakgoflfcgofdaa

set_option linter.unusedVariables false
set_option linter.unusedSimpArgs false
namespace Go.Proofs.Ytakgoflfcgofdaa
open Sx Go
theorem bnum_cut (f : Nat → Int) : ∀ (k d : Nat), (∀ t, k ≤ t → f t = 0) → bnum f (k + d) = bnum f k
  | k, 0, _ => rfl
  | k, d + 1, h => by
    rw [← Nat.add_assoc, bnum, bnum_cut f k d h, h (k + d) (by omega)]; simp
theorem byteAt_cut (L : List Int) (j k : Nat) (hk : k = min L.length (8 * j + 8) - 8 * j) (hj : 8 * j ≤ L.length) : nbt (fun t => ((L.drop (8 * j)).take k).getD t 0) 0 k = byteAt L j := by
  have e : ∀ t, t < k → ((L.drop (8 * j)).take k).getD (0 + t) 0 = L.getD (8 * j + t) 0 := fun t ht => by
    rw [Nat.zero_add, List.getD_eq_getElem?_getD, List.getElem?_take, if_pos ht, List.getElem?_drop, ← List.getD_eq_getElem?_getD]
  rw [← bnum_nbt, num_congr k e]
  unfold byteAt
  have h8 : k ≤ 8 := by omega
  rcases Nat.lt_or_ge k 8 with h | h
  · have hz : ∀ t, k ≤ t → L.getD (8 * j + t) 0 = 0 := fun t ht => by
      rw [List.getD_eq_getElem?_getD, List.getElem?_eq_none (by omega)]; rfl
    rw [← bnum_cut (fun t => L.getD (8 * j + t) 0) k (8 - k) hz, show k + (8 - k) = 8 by omega]
  · rw [show k = 8 by omega]
section
attribute [local irreducible] byteAt
variable {w0 : World} {H : List Asn}
set_option maxRecDepth 10000 in
set_option maxHeartbeats 2000000 in
theorem RBytes_c (p : Option Addr) (c m : Nat) (L : List Int) (hr : Rd w0 H (.slice p m c) m (ints .u8 L)) (hm : L.length = m) (hL : ∀ j, L.getD j 0 = 0 ∨ L.getD j 0 = 1) (h4 : m ≤ 100000000) (w : World) (hw : St w0 H w) :
    Calls Try.prog 45 #[.slice p m c] w fun e w' => ∃ q d, e = .returned (.slice q (pack L).length d) ∧ St w0 (vec 5 1 (.slice q (pack L).length d) (pack L).length (ints .u8 (pack L)) :: H) w' := by
  have hmc : m ≤ c := (hr.lcap hw).1
  refine enter (vs := [.slice p m c]) Try.func45 rfl rfl rfl hw ?_
  clear hw w
  repeat (first | (refine sx ?_; try intro _))
  refine JS_loop3 (fun (j : Nat) (q : Option Addr) (d : Nat) => [(0, .slice p m c), (3, .slice q j d), (4, .int .i64 ((8 * j : Nat) : Int))]) (fun j q d => vec 5 1 (.slice q j d) j (ints .u8 (tab j (byteAt L))) :: H) (fun j q d => j ≤ (m + 7) / 8) (fun j _ _ => (m + 7) / 8 - j) 0 none 0 (by omega) (by repeat (first | exact trivial | refine ⟨rfl, ?_⟩ | refine ⟨lookI rfl (by omega), ?_⟩)) (fun w h => St.nilvec h) ?_
  intro j q d hj again
  by_cases hjm : 8 * j < m
  · obtain ⟨k, hk⟩ : ∃ k, min m (8 * j + 8) = 8 * j + k := ⟨min m (8 * j + 8) - 8 * j, by omega⟩
    have hmin : min (m : Int) (((8 * j : Nat) : Int) + 8) = ((8 * j + k : Nat) : Int) := by omega
    have hrow : Rd w0 H (.slice (subB p (8 * j) c 1) (8 * j + k - 8 * j) (c - 8 * j)) (8 * j + k - 8 * j) (ints .u8 ((L.drop (8 * j)).take k)) := by
      have := Rd_sub (lo := 8 * j) (hi := 8 * j + k) (sz := 1) hr (by omega) (by omega)
      rw [Nat.mul_one, Nat.mul_one] at this
      unfold ints at this ⊢
      rw [List.map_take, List.map_drop]
      rwa [Nat.add_sub_cancel_left] at this ⊢
    rw [Nat.add_sub_cancel_left] at hrow
    have hby := byteAt_cut L j k (by omega) (by omega)
    have hbd := byteAt_bd L hL j
    have hX01 : ∀ t, ((L.drop (8 * j)).take k).getD t 0 = 0 ∨ ((L.drop (8 * j)).take k).getD t 0 = 1 := fun t => by
      rw [List.getD_eq_getElem?_getD, List.getElem?_take]
      split
      · rw [List.getElem?_drop, ← List.getD_eq_getElem?_getD]; exact hL _
      · exact .inl rfl
    have hXl : ((L.drop (8 * j)).take k).length = k := by rw [List.length_take, List.length_drop]; omega
    repeat (first | (apply gJO; refine JO_v (oc_min (V_min rfl rfl hmin rfl)) ?_) | (apply gJO; refine JO_v (V_slice (tb := tb) (lo := 8 * j) (hi := 8 * j + k) rfl rfl rfl rfl rfl rfl rfl (fun w hw => ⟨by omega, by omega⟩) rfl) ?_) | first | (refine sx ?_; try intro _))
    rw [Nat.add_sub_cancel_left]
    have htl : (tab j (byteAt L)).length = j := tab_len _ _
    refine JO_call Try.call74 rfl rfl fun w hw => (RNum_c (subB p (8 * j) c 1) (c - 8 * j) k ((L.drop (8 * j)).take k) (Rd_weak hrow fun w hw => St.sub (by repeat (first | exact List.Sublist.refl _ | apply List.Sublist.cons_cons | apply List.Sublist.cons)) hw) hXl hX01 (by omega) w hw).mono ?_
    rw [hby]
    rintro e w' ⟨rfl, hw'⟩
    refine ⟨_, rfl, _, hw', ?_⟩
    clear hw' hw w w'
    repeat (first | (apply gJO; (refine JO_app (tb := tb) rfl rfl rfl rfl rfl rfl (by repeat (first | exact Sel.here _ _ | apply Sel.there)) (by first | exact vec_rd (by repeat (first | apply List.Mem.head | apply List.Mem.tail)) | assumption | exact ArgRd.rd (by assumption) _ | (apply Rd_weak; assumption; intro _ hx; exact St.sub (by repeat (first | exact List.Sublist.refl _ | apply List.Sublist.cons_cons | apply List.Sublist.cons)) hx)) (by simp only [ints_len, List.length_cons, List.length_nil]; first | omega | rfl) (by first | exact ints_one | (repeat (first | exact trivial | refine ⟨rfl, ?_⟩))) (by omega) rfl ?_; intro _ _)) | (first | (refine sx ?_; try intro _)))
    rename_i ps q2 d2
    rw [show ((8 * j : Nat) : Int) + 8 = ((8 * (j + 1) : Nat) : Int) by omega]
    exact JS_again3 again (j + 1) q2 d2 (by omega) (by omega) (by repeat (first | exact trivial | refine ⟨rfl, ?_⟩ | refine ⟨lookI rfl (by omega), ?_⟩)) (fun w hw => by rw [tab_succ, ← ints_app]; exact St.sub (by repeat (first | exact List.Sublist.refl _ | apply List.Sublist.cons_cons | apply List.Sublist.cons)) hw)
  · clear again
    have hjf : j = (m + 7) / 8 := by omega
    have hpk : tab j (byteAt L) = pack L := by unfold pack; rw [hm, hjf]
    have hpl : (pack L).length = j := by rw [pack_len, hm, hjf]
    rw [hpk, hpl]
    repeat (first | (refine sx ?_; try intro _))
    refine JS_ret Try.func45 rfl rfl fun w hw => ⟨q, d, rfl, hw⟩
end
end Go.Proofs.Ytakgoflfcgofdaa

set_option linter.unusedVariables false
set_option linter.unusedSimpArgs false
namespace Go.Proofs.Ytakgoflfcgofdaa
open Sx Go
theorem fx_bits (k : Nat) (hk : k < 288) : ∃ x : Nat, fxB.getD k 0 = x ∧ 7 ≤ x ∧ x ≤ 9 ∧ 0 ≤ fxC.getD k 0 ∧ fxC.getD k 0 < 2 ^ x ∧ fxC.getD k 0 < 4294967296 ∧ fxS k = bms (fxC.getD k 0) x := by
  obtain ⟨x, h1, h2, h3, h4, h5⟩ := fx_at k hk
  have : ∀ k : Fin 10, (2 : Int) ^ k.val ≤ 512 := by decide
  have := this ⟨x, by omega⟩
  simp only [] at this
  exact ⟨x, h1, h2, h3, h4, h5, by omega, by unfold fxS; rw [h1, Int.toNat_natCast]⟩
theorem spC_id : ∀ k : Fin 32, spC.getD k.val 0 = k.val := by decide +kernel
theorem sp_bits (k : Nat) (hk : k < 32) : spS k = bms k 5 := by
  unfold spS; rw [spC_id ⟨k, hk⟩]
theorem grp_3 : grp 1 1 ++ grp 1 2 = [1, 1, 0] := by decide +kernel
theorem tkv_get {l : List (Int × Nat × Nat)} {i : Nat} (h : i < l.length) : (tkv l)[i * 3 + 0]? = some (.int .u8 (l[i]'h).1) ∧ (tkv l)[i * 3 + 1]? = some (.int .i64 (l[i]'h).2.1) ∧ (tkv l)[i * 3 + 2]? = some (.int .i64 (l[i]'h).2.2) := by
  have ha := tkv_at h
  have hg : ∀ j, j < 3 → (tkv l)[i * 3 + j]? = ([.int .u8 (l[i]'h).1, .int .i64 (l[i]'h).2.1, .int .i64 (l[i]'h).2.2] : List Value)[j]? := fun j hj => by
    rw [← ha, List.getElem?_take, if_pos hj, List.getElem?_drop]
  exact ⟨hg 0 (by omega), hg 1 (by omega), hg 2 (by omega)⟩
section
attribute [local irreducible] grp bms fxS spS lenS spanS toks tkv tkb cds pack
variable {w0 : World} {H : List Asn}
set_option maxRecDepth 10000 in
set_option maxHeartbeats 4000000 in
/-- the reference's fixed block -/
theorem RFixed8_c (p : Option Addr) (c m : Nat) (B : List Int) (hr : Rd w0 H (.slice p m c) m (ints .u8 B)) (hm : B.length = m) (hB : OKB B) (h4 : m ≤ 100000) (w : World) (hw : St w0 H w) :
    Calls Try.prog 16 #[.slice p m c] w fun e w' => ∃ q d, e = .returned (.slice q (pack (fixL B)).length d) ∧ St w0 (vec 5 1 (.slice q (pack (fixL B)).length d) (pack (fixL B)).length (ints .u8 (pack (fixL B))) :: H) w' := by
  refine enter (vs := [.slice p m c]) Try.func16 rfl rfl rfl hw ?_
  clear hw w
  repeat (first | (refine sx ?_; try intro _))
  refine JO_call Try.call40 rfl rfl fun w hw => (RFixed_c w hw).mono ?_
  rintro e w' ⟨pl, cl, rfl, hw'⟩
  rw [fxB_eq] at hw'
  refine ⟨_, rfl, _, hw', ?_⟩
  clear hw' hw w w'
  repeat (first | (refine sx ?_; try intro _))
  refine JO_call Try.call41 rfl rfl fun w hw => (RCodes_c pl cl 288 fxB (vec_rd (e := 5) (size := 1) (by repeat (first | apply List.Mem.head | apply List.Mem.tail))) fxB_len fxB_okb (by omega) w hw).mono ?_
  rw [fxC_eq]
  rintro e w' ⟨pa, ca, rfl, hw'⟩
  refine ⟨_, rfl, _, hw', ?_⟩
  clear hw' hw w w'
  repeat (first | (refine sx ?_; try intro _))
  refine JO_call Try.call42 rfl rfl fun w hw => (RFind_c p c m B (Rd_weak hr fun w hw => St.sub (by repeat (first | exact List.Sublist.refl _ | apply List.Sublist.cons_cons | apply List.Sublist.cons)) hw) hm hB h4 w hw).mono ?_
  rintro e w' ⟨qt, dt, rfl, hw'⟩
  have hT := toks_TOK hB m 0
  have hTl := toks_len (B := B) m 0
  have hfix : fixL B = grp 1 1 ++ grp 1 2 ++ (toks B m 0).flatMap tkb ++ fxS 256 := by unfold fixL; rw [hm]
  obtain ⟨l, hl⟩ : ∃ l, toks B m 0 = l := ⟨_, rfl⟩
  rw [hl] at hT hTl hfix hw' ⊢
  refine ⟨_, rfl, _, hw', ?_⟩
  clear hw' hw w w'
  repeat (first | (refine sx ?_; try intro _))
  rename_i p3
  have h0 : grp 1 1 ++ grp 1 2 ++ (l.take 0).flatMap tkb = [1, 1, 0] := by rw [List.take_zero, List.flatMap_nil, List.append_nil, grp_3]
  refine JS_loop4 (fun (i : Nat) (O : List Int) (q : Option Addr) (d : Nat) => [(0, .slice p m c), (3, .slice pl 288 cl), (4, .slice pa 288 ca), (5, .slice q O.length d), (6, .slice qt l.length dt), (7, .int .i64 i)])
    (fun i O q d => vec 5 1 (.slice q O.length d) O.length (ints .u8 O) :: vec 60 3 (.slice qt l.length dt) l.length (tkv l) :: vec 46 1 (.slice pa 288 ca) 288 (ints .u32 fxC) :: vec 5 1 (.slice pl 288 cl) 288 (ints .u8 fxB) :: H)
    (fun i O q d => i ≤ l.length ∧ O = grp 1 1 ++ grp 1 2 ++ (l.take i).flatMap tkb ∧ O.length ≤ 32 * i + 3) (fun i _ _ _ => l.length - i) 0 [1, 1, 0] (some p3) 3 ⟨Nat.zero_le _, h0.symm, by simp⟩ (by repeat (first | exact trivial | refine ⟨rfl, ?_⟩ | refine ⟨lookI rfl (by omega), ?_⟩)) (fun w hw => hw.perm (by (repeat (first | exact List.Perm.refl _ | refine List.Perm.cons _ ?_ | refine (List.perm_middle (l₁ := [_])).trans (List.Perm.cons _ ?_) | refine (List.perm_middle (l₁ := [_, _])).trans (List.Perm.cons _ ?_) | refine (List.perm_middle (l₁ := [_, _, _])).trans (List.Perm.cons _ ?_) | refine (List.perm_middle (l₁ := [_, _, _, _])).trans (List.Perm.cons _ ?_) | refine (List.perm_middle (l₁ := [_, _, _, _, _])).trans (List.Perm.cons _ ?_) | refine (List.perm_middle (l₁ := [_, _, _, _, _, _])).trans (List.Perm.cons _ ?_) | refine (List.perm_middle (l₁ := [_, _, _, _, _, _, _])).trans (List.Perm.cons _ ?_) | refine (List.perm_middle (l₁ := [_, _, _, _, _, _, _, _])).trans (List.Perm.cons _ ?_))))) ?_
  intro i O q d ⟨hi, hO, hOl⟩ again
  by_cases hil : i < l.length
  · obtain ⟨g0, g1, g2⟩ := tkv_get hil
    have htk := tkbs_take hil
    have hTi := hT _ (List.getElem_mem hil)
    obtain ⟨t, ht⟩ : ∃ t, l[i] = t := ⟨_, rfl⟩
    rw [ht] at g0 g1 g2 htk hTi
    have hO2 : O ++ tkb t = grp 1 1 ++ grp 1 2 ++ (l.take (i + 1)).flatMap tkb := by rw [htk, hO, List.append_assoc]
    have htl := tkb_len hTi
    have hO3 : (O ++ tkb t).length ≤ 32 * (i + 1) + 3 := by rw [List.length_append]; omega
    obtain ⟨x, n, k⟩ := t
    obtain ⟨o, ho⟩ : ∃ o, O.length = o := ⟨_, rfl⟩
    rw [ho] at hOl ⊢
    simp only [] at g0 g1 g2
    rcases hTi with ⟨h1, h2, h3, h5⟩ | ⟨h1, h2, h3, h5, h6⟩
    · simp only [] at h1 h2 h3 h5
      subst h3; subst h5
      obtain ⟨x', rfl⟩ : ∃ x' : Nat, x = x' := ⟨x.toNat, by omega⟩
      obtain ⟨xl, f1, f2, f3, f4, f5, f6, f7⟩ := fx_bits x' (by omega)
      have gC : (ints .u32 fxC)[x']? = some (.int .u32 (fxC.getD x' 0)) := ints_get (by rw [fxC_len]; omega)
      have gL : (ints .u8 fxB)[x']? = some (.int .u8 xl) := by rw [← f1]; exact ints_get (by rw [fxB_len]; omega)
      have htb : tkb ((x' : Int), 0, 0) = bms (fxC.getD x' 0) xl := by unfold tkb; rw [if_pos rfl, ← f7]; rfl
      rw [htb] at hO2 hO3
      have hbl := bms_ln (fxC.getD x' 0) xl
      repeat (first | (apply gJO; refine JO_v (oL (V_loadC (tb := tb) rfl (vec_rd (e := 60) (size := 3) (by repeat (first | apply List.Mem.head | apply List.Mem.tail))) rfl rfl g2 rfl)) ?_) | (apply gQO; refine QO_v rfl (oL (V_loadC (tb := tb) rfl (vec_rd (e := 60) (size := 3) (by repeat (first | apply List.Mem.head | apply List.Mem.tail))) rfl rfl g0 rfl)) ?_) | (apply gQO; refine QO_v rfl (oL (V_loadC (tb := tb) rfl (vec_rd (e := 46) (size := 1) (by repeat (first | apply List.Mem.head | apply List.Mem.tail))) rfl rfl gC rfl)) ?_) | (apply gQO; refine QO_v rfl (oL (V_loadC (tb := tb) rfl (vec_rd (e := 5) (size := 1) (n := 288) (by repeat (first | apply List.Mem.head | apply List.Mem.tail))) rfl rfl gL rfl)) ?_) | (first | (refine sx ?_; try intro _)))
      refine QO_call Try.call43 rfl rfl fun w hw => (Bits5_c (fxC.getD x' 0) xl ⟨f4, f6⟩ (by omega) w hw).mono ?_
      rintro e w' ⟨qb, db, rfl, hw'⟩
      refine ⟨_, rfl, _, hw', .inl fun w hw => St.sub (by repeat (first | exact List.Sublist.refl _ | apply List.Sublist.cons_cons | apply List.Sublist.cons)) hw, ?_⟩
      clear hw' hw w w'
      repeat (first | (apply gQO; (refine QO_e (E_appendB (tb := tb) rfl rfl rfl rfl rfl rfl (by repeat (first | exact Sel.here _ _ | apply Sel.there)) (by first | exact vec_rd (by repeat (first | apply List.Mem.head | apply List.Mem.tail)) | assumption | exact ArgRd.rd (by assumption) _ | (apply Rd_weak; assumption; intro _ hx; exact St.sub (by repeat (first | exact List.Sublist.refl _ | apply List.Sublist.cons_cons | apply List.Sublist.cons)) hx)) (by simp only [ints_len, List.length_cons, List.length_nil]; first | omega | rfl) (by first | exact ints_one | (repeat (first | exact trivial | refine ⟨rfl, ?_⟩))) (by omega) (by omega) rfl) rfl (.inr fun _ _ hw => vecB_back (by repeat (first | exact Sel.here _ _ | apply Sel.there)) hw) ?_; intro _)) | (first | (refine sx ?_; try intro _)))
      rename_i pc
      have hlq : (O ++ bms (fxC.getD x' 0) xl).length = o + xl := by rw [List.length_append, ho, hbl]
      exact JS_again4 again (i + 1) (O ++ bms (fxC.getD x' 0) xl) pc.1 pc.2 ⟨by omega, hO2, hO3⟩ (by omega) (by rw [hlq]; exact (by repeat (first | exact trivial | refine ⟨rfl, ?_⟩ | refine ⟨lookI rfl (by omega), ?_⟩))) (fun w hw => by rw [hlq, ← ints_app]; exact St.sub (by repeat (first | exact List.Sublist.refl _ | apply List.Sublist.cons_cons | apply List.Sublist.cons)) (vecB_fwd (Sel.there _ _ _ _ (Sel.here _ _)) hw))
    · simp only [] at h1 h2 h3 h5 h6
      obtain ⟨s, nb, r, e1, a1, a2, a3, a4, a5, _⟩ := lenS_bd n (by omega) (by omega)
      obtain ⟨s', nb', r', e2, c1, c3, c4, c5, _⟩ := spanS_bd k (by omega) (by omega)
      have htb : tkb (x, n, k) = fxS s ++ grp r nb ++ spS s' ++ grp r' nb' := by
        unfold tkb
        simp only []
        rw [if_neg (by omega), e1, e2]
        simp only [Int.toNat_natCast]
      obtain ⟨xl, f1, f2, f3, f4, f5, f6, f7⟩ := fx_bits s (by omega)
      have hs5 := sp_bits s' (by omega)
      rw [htb, f7, hs5] at hO2 hO3
      have gC : (ints .u32 fxC)[s]? = some (.int .u32 (fxC.getD s 0)) := ints_get (by rw [fxC_len]; omega)
      have gL : (ints .u8 fxB)[s]? = some (.int .u8 xl) := by rw [← f1]; exact ints_get (by rw [fxB_len]; omega)
      have p5 : ∀ k : Fin 14, (2 : Int) ^ k.val ≤ 8192 := by decide
      have q1 := p5 ⟨nb, by omega⟩
      have q2 := p5 ⟨nb', by omega⟩
      simp only [] at q1 q2
      have hbl := bms_ln (fxC.getD s 0) xl
      have hgl := grp_len r nb
      have hbl2 := bms_ln s' 5
      have hgl2 := grp_len r' nb'
      have r1 : r < 4294967296 := by omega
      have r2 : r' < 4294967296 := by omega
      repeat (first | (apply gJO; refine JO_v (oL (V_loadC (tb := tb) rfl (vec_rd (e := 60) (size := 3) (by repeat (first | apply List.Mem.head | apply List.Mem.tail))) rfl rfl g2 rfl)) ?_) | (apply gJO; refine JO_v (oL (V_loadC (tb := tb) rfl (vec_rd (e := 60) (size := 3) (by repeat (first | apply List.Mem.head | apply List.Mem.tail))) rfl rfl g1 rfl)) ?_) | (first | (refine sx ?_; try intro _)))
      refine JO_call Try.call22 rfl rfl fun w hw => (RLength_c n (by omega) w hw).mono ?_
      rw [e1]
      dsimp only
      rintro e w' ⟨rfl, hw'⟩
      refine ⟨_, rfl, _, hw', ?_⟩
      clear hw' hw w w'
      repeat (first | (apply gQO; refine QO_v rfl (oL (V_loadC (tb := tb) rfl (vec_rd (e := 46) (size := 1) (by repeat (first | apply List.Mem.head | apply List.Mem.tail))) rfl rfl gC rfl)) ?_) | (apply gQO; refine QO_v rfl (oL (V_loadC (tb := tb) rfl (vec_rd (e := 5) (size := 1) (n := 288) (by repeat (first | apply List.Mem.head | apply List.Mem.tail))) rfl rfl gL rfl)) ?_) | (first | (refine sx ?_; try intro _)))
      refine QO_call Try.call43 rfl rfl fun w hw => (Bits5_c (fxC.getD s 0) xl ⟨f4, f6⟩ (by omega) w hw).mono ?_
      rintro e w' ⟨qb, db, rfl, hw'⟩
      refine ⟨_, rfl, _, hw', .inl fun w hw => St.sub (by repeat (first | exact List.Sublist.refl _ | apply List.Sublist.cons_cons | apply List.Sublist.cons)) hw, ?_⟩
      clear hw' hw w w'
      repeat (first | apply hIx 12 | (apply gQO; (refine QO_e (E_appendB (tb := tb) rfl rfl rfl rfl rfl rfl (by repeat (first | exact Sel.here _ _ | apply Sel.there)) (by first | exact vec_rd (by repeat (first | apply List.Mem.head | apply List.Mem.tail)) | assumption | exact ArgRd.rd (by assumption) _ | (apply Rd_weak; assumption; intro _ hx; exact St.sub (by repeat (first | exact List.Sublist.refl _ | apply List.Sublist.cons_cons | apply List.Sublist.cons)) hx)) (by simp only [ints_len, List.length_cons, List.length_nil]; first | omega | rfl) (by first | exact ints_one | (repeat (first | exact trivial | refine ⟨rfl, ?_⟩))) (by omega) (by omega) rfl) rfl (.inr fun _ _ hw => vecB_back (by repeat (first | exact Sel.here _ _ | apply Sel.there)) hw) ?_; intro _)) | (first | (refine sx ?_; try intro _)))
      refine Hold.go ?_
      rename_i pc
      refine JS_H (fun w hw => vecB_fwd (Sel.there _ _ _ _ (Sel.here _ _)) hw) ?_
      rw [ints_app]
      have l1 : (O ++ bms (fxC.getD s 0) xl).length = o + xl := by rw [List.length_append, ho, hbl]
      repeat (first | (refine sx ?_; try intro _))
      refine JO_call Try.call44 rfl rfl fun w hw => (Group4_c r nb ⟨a4, r1⟩ (by omega) (by omega) w hw).mono ?_
      rintro e w' ⟨qg, dg, rfl, hw'⟩
      refine ⟨_, rfl, _, hw', ?_⟩
      clear hw' hw w w'
      repeat (first | (apply gJO; (refine JO_app (tb := tb) rfl rfl rfl rfl rfl rfl (by repeat (first | exact Sel.here _ _ | apply Sel.there)) (by first | exact vec_rd (by repeat (first | apply List.Mem.head | apply List.Mem.tail)) | assumption | exact ArgRd.rd (by assumption) _ | (apply Rd_weak; assumption; intro _ hx; exact St.sub (by repeat (first | exact List.Sublist.refl _ | apply List.Sublist.cons_cons | apply List.Sublist.cons)) hx)) (by simp only [ints_len, List.length_cons, List.length_nil]; first | omega | rfl) (by first | exact ints_one | (repeat (first | exact trivial | refine ⟨rfl, ?_⟩))) (by omega) rfl ?_; intro _ _)) | (apply gJO; refine JO_v (oL (V_loadC (tb := tb) rfl (vec_rd (e := 60) (size := 3) (by repeat (first | apply List.Mem.head | apply List.Mem.tail))) rfl rfl g2 rfl)) ?_) | (first | (refine sx ?_; try intro _)))
      rename_i qh dh
      rw [ints_app]
      have l2 : (O ++ bms (fxC.getD s 0) xl ++ grp r nb).length = o + xl + nb := by rw [List.length_append, l1, hgl]
      refine JO_call Try.call24 rfl rfl fun w hw => (RSpan_c k (by omega) w hw).mono ?_
      rw [e2]
      dsimp only
      rintro e w' ⟨rfl, hw'⟩
      refine ⟨_, rfl, _, hw', ?_⟩
      clear hw' hw w w'
      repeat (first | (refine sx ?_; try intro _))
      refine JO_call Try.call43 rfl rfl fun w hw => (Bits5_c s' 5 (by omega) (by omega) w hw).mono ?_
      rintro e w' ⟨qi, di, rfl, hw'⟩
      refine ⟨_, rfl, _, hw', ?_⟩
      clear hw' hw w w'
      repeat (first | (apply gJO; (refine JO_app (tb := tb) rfl rfl rfl rfl rfl rfl (by repeat (first | exact Sel.here _ _ | apply Sel.there)) (by first | exact vec_rd (by repeat (first | apply List.Mem.head | apply List.Mem.tail)) | assumption | exact ArgRd.rd (by assumption) _ | (apply Rd_weak; assumption; intro _ hx; exact St.sub (by repeat (first | exact List.Sublist.refl _ | apply List.Sublist.cons_cons | apply List.Sublist.cons)) hx)) (by simp only [ints_len, List.length_cons, List.length_nil]; first | omega | rfl) (by first | exact ints_one | (repeat (first | exact trivial | refine ⟨rfl, ?_⟩))) (by omega) rfl ?_; intro _ _)) | (first | (refine sx ?_; try intro _)))
      rename_i qj dj
      rw [ints_app]
      have l3 : (O ++ bms (fxC.getD s 0) xl ++ grp r nb ++ bms s' 5).length = o + xl + nb + 5 := by rw [List.length_append, l2, hbl2]
      refine JO_call Try.call44 rfl rfl fun w hw => (Group4_c r' nb' ⟨c4, r2⟩ (by omega) (by omega) w hw).mono ?_
      rintro e w' ⟨qk, dk, rfl, hw'⟩
      refine ⟨_, rfl, _, hw', ?_⟩
      clear hw' hw w w'
      repeat (first | (apply gJO; (refine JO_app (tb := tb) rfl rfl rfl rfl rfl rfl (by repeat (first | exact Sel.here _ _ | apply Sel.there)) (by first | exact vec_rd (by repeat (first | apply List.Mem.head | apply List.Mem.tail)) | assumption | exact ArgRd.rd (by assumption) _ | (apply Rd_weak; assumption; intro _ hx; exact St.sub (by repeat (first | exact List.Sublist.refl _ | apply List.Sublist.cons_cons | apply List.Sublist.cons)) hx)) (by simp only [ints_len, List.length_cons, List.length_nil]; first | omega | rfl) (by first | exact ints_one | (repeat (first | exact trivial | refine ⟨rfl, ?_⟩))) (by omega) rfl ?_; intro _ _)) | (first | (refine sx ?_; try intro _)))
      rename_i qm dm
      rw [ints_app]
      have l4 : (O ++ bms (fxC.getD s 0) xl ++ grp r nb ++ bms s' 5 ++ grp r' nb').length = o + xl + nb + 5 + nb' := by rw [List.length_append, l3, hgl2]
      have ea : O ++ (bms (fxC.getD s 0) xl ++ grp r nb ++ bms s' 5 ++ grp r' nb') = O ++ bms (fxC.getD s 0) xl ++ grp r nb ++ bms s' 5 ++ grp r' nb' := by simp only [List.append_assoc]
      rw [ea] at hO2 hO3
      exact JS_again4 again (i + 1) (O ++ bms (fxC.getD s 0) xl ++ grp r nb ++ bms s' 5 ++ grp r' nb') qm dm ⟨by omega, hO2, hO3⟩ (by omega) (by rw [l4]; exact (by repeat (first | exact trivial | refine ⟨rfl, ?_⟩ | refine ⟨lookI rfl (by omega), ?_⟩))) (fun w hw => by rw [l4]; exact St.sub (by repeat (first | exact List.Sublist.refl _ | apply List.Sublist.cons_cons | apply List.Sublist.cons)) hw)
  · obtain rfl : i = l.length := by omega
    clear again
    rw [List.take_length] at hO
    obtain ⟨xl, f1, f2, f3, f4, f5, f6, f7⟩ := fx_bits 256 (by omega)
    have gC : (ints .u32 fxC)[256]? = some (.int .u32 (fxC.getD 256 0)) := ints_get (by rw [fxC_len]; omega)
    have gL : (ints .u8 fxB)[256]? = some (.int .u8 xl) := by rw [← f1]; exact ints_get (by rw [fxB_len]; omega)
    have hbl := bms_ln (fxC.getD 256 0) xl
    have hO2 : O ++ bms (fxC.getD 256 0) xl = fixL B := by rw [← f7, hO, hfix]
    obtain ⟨o, ho⟩ : ∃ o, O.length = o := ⟨_, rfl⟩
    rw [ho] at hOl ⊢
    have hln : (fixL B).length = o + xl := by rw [← hO2, List.length_append, ho, hbl]
    repeat (first | (apply gQO; refine QO_v rfl (oL (V_loadC (tb := tb) rfl (vec_rd (e := 46) (size := 1) (by repeat (first | apply List.Mem.head | apply List.Mem.tail))) rfl rfl gC rfl)) ?_) | (apply gQO; refine QO_v rfl (oL (V_loadC (tb := tb) rfl (vec_rd (e := 5) (size := 1) (n := 288) (by repeat (first | apply List.Mem.head | apply List.Mem.tail))) rfl rfl gL rfl)) ?_) | (first | (refine sx ?_; try intro _)))
    refine QO_call Try.call43 rfl rfl fun w hw => (Bits5_c (fxC.getD 256 0) xl ⟨f4, f6⟩ (by omega) w hw).mono ?_
    rintro e w' ⟨qb, db, rfl, hw'⟩
    refine ⟨_, rfl, _, hw', .inl fun w hw => St.sub (by repeat (first | exact List.Sublist.refl _ | apply List.Sublist.cons_cons | apply List.Sublist.cons)) hw, ?_⟩
    clear hw' hw w w'
    repeat (first | apply hIx 17 | (apply gQO; (refine QO_e (E_appendB (tb := tb) rfl rfl rfl rfl rfl rfl (by repeat (first | exact Sel.here _ _ | apply Sel.there)) (by first | exact vec_rd (by repeat (first | apply List.Mem.head | apply List.Mem.tail)) | assumption | exact ArgRd.rd (by assumption) _ | (apply Rd_weak; assumption; intro _ hx; exact St.sub (by repeat (first | exact List.Sublist.refl _ | apply List.Sublist.cons_cons | apply List.Sublist.cons)) hx)) (by simp only [ints_len, List.length_cons, List.length_nil]; first | omega | rfl) (by first | exact ints_one | (repeat (first | exact trivial | refine ⟨rfl, ?_⟩))) (by omega) (by omega) rfl) rfl (.inr fun _ _ hw => vecB_back (by repeat (first | exact Sel.here _ _ | apply Sel.there)) hw) ?_; intro _)) | (first | (refine sx ?_; try intro _)))
    refine Hold.go ?_
    rename_i pc
    refine JS_H (fun w hw => vecB_fwd (Sel.there _ _ _ _ (Sel.here _ _)) hw) ?_
    rw [ints_app, hO2]
    repeat (first | (refine sx ?_; try intro _))
    refine JO_call Try.call45 rfl rfl fun w hw => (RBytes_c pc.1 pc.2 (o + xl) (fixL B) (vec_rd (by repeat (first | apply List.Mem.head | apply List.Mem.tail))) hln (fixL_01 B) (by omega) w hw).mono ?_
    rintro e w' ⟨q4, d4, rfl, hw'⟩
    refine ⟨_, rfl, _, hw', ?_⟩
    clear hw' hw w w'
    repeat (first | (refine sx ?_; try intro _))
    refine JS_ret Try.func16 rfl rfl fun w hw => ⟨q4, d4, rfl, St.sub (by repeat (first | exact List.Sublist.refl _ | apply List.Sublist.cons_cons | apply List.Sublist.cons)) hw⟩
end
end Go.Proofs.Ytakgoflfcgofdaa

set_option linter.unusedVariables false
set_option linter.unusedSimpArgs false
namespace Go.Proofs.Ytakgoflfcgofdaa
open Sx Go
/-- a text of at most 300 bytes -/
def txt (B : List Int) (wide : Bool) : List Int := (B.take 300).map fun x => if wide then x else x % 3
theorem txt_okb {B : List Int} (hB : OKB B) (wide : Bool) : OKB (txt B wide) := fun j => by
  unfold txt
  rw [List.getD_eq_getElem?_getD, List.getElem?_map]
  cases h : (B.take 300)[j]? with
  | none => simp
  | some x =>
    have hx : B[j]? = some x := by
      rw [List.getElem?_take] at h
      split at h
      · exact h
      · cases h
    have := hB j
    rw [List.getD_eq_getElem?_getD, hx, Option.getD_some] at this
    rw [Option.map_some, Option.getD_some]
    split <;> omega
theorem txt_len (B : List Int) (wide : Bool) : (txt B wide).length ≤ 300 := by
  unfold txt; rw [List.length_map, List.length_take]; omega
theorem pack_okb' (L : List Int) (hL : ∀ j, L.getD j 0 = 0 ∨ L.getD j 0 = 1) : OKB (pack L) := fun j => by
  unfold pack tab
  rw [List.getD_eq_getElem?_getD, List.getElem?_map]
  rcases Nat.lt_or_ge j ((L.length + 7) / 8) with h | h
  · rw [List.getElem?_range h]; exact byteAt_bd L hL j
  · rw [List.getElem?_eq_none (by simpa using h)]; simp
section
variable {w0 : World} {H : List Asn}
set_option maxRecDepth 10000 in
set_option maxHeartbeats 2000000 in
theorem Text8_c (p : Option Addr) (c m : Nat) (B : List Int) (wide : Bool) (hr : Rd w0 H (.slice p m c) m (ints .u8 B)) (hm : B.length = m) (hB : OKB B) (hmx : m ≤ 140737488351232) (w : World) (hw : St w0 H w) :
    Calls Try.prog 14 #[.slice p m c, .bool wide] w fun e w' => ∃ q d, e = .returned (.slice q (txt B wide).length d) ∧ St w0 (vec 5 1 (.slice q (txt B wide).length d) (txt B wide).length (ints .u8 (txt B wide)) :: H) w' := by
  refine enter (vs := [.slice p m c, .bool wide]) Try.func14 rfl rfl rfl hw ?_
  clear hw w
  repeat (first | (refine sx ?_; try intro _))
  refine JS_loop3 (fun (i : Nat) (q : Option Addr) (d : Nat) => [(0, .slice p m c), (1, .bool wide), (5, .slice q i d), (6, .int .i64 i)]) (fun i q d => vec 5 1 (.slice q i d) i (ints .u8 ((B.take i).map fun x => if wide then x else x % 3)) :: H) (fun i q d => i ≤ m ∧ i ≤ 300) (fun i _ _ => m - i) 0 none 0 ⟨Nat.zero_le _, by omega⟩ (by repeat (first | exact trivial | refine ⟨rfl, ?_⟩ | refine ⟨lookI rfl (by omega), ?_⟩)) (fun w h => St.nilvec h) ?_
  intro i q d ⟨hi, hi3⟩ again
  by_cases hstop : i < m ∧ i < 300
  · have gB : (ints .u8 B)[i]? = some (.int .u8 (B.getD i 0)) := ints_get (by omega)
    have hb := hB i
    have hgi : B[i]? = some (B.getD i 0) := by rw [List.getD_eq_getElem?_getD, List.getElem?_eq_getElem (by omega)]; rfl
    obtain ⟨x, hx⟩ : ∃ x, B.getD i 0 = x := ⟨_, rfl⟩
    rw [hx] at gB hb hgi
    have htl : ((B.take i).map fun x => if wide then x else x % 3).length = i := by rw [List.length_map, List.length_take]; omega
    have hts : ((B.take (i + 1)).map fun x => if wide then x else x % 3) = ((B.take i).map fun x => if wide then x else x % 3) ++ [if wide then x else x % 3] := by
      rw [List.take_add_one, hgi, List.map_append]; rfl
    cases wide
    all_goals
      repeat (first | (apply gJO; refine JO_v (oL (V_loadC (tb := tb) rfl (Rd_weak hr fun w hw => St.sub (by repeat (first | exact List.Sublist.refl _ | apply List.Sublist.cons_cons | apply List.Sublist.cons)) hw) rfl rfl gB rfl)) ?_) | (apply gJO; (refine JO_app (tb := tb) rfl rfl rfl rfl rfl rfl (by repeat (first | exact Sel.here _ _ | apply Sel.there)) (by first | exact vec_rd (by repeat (first | apply List.Mem.head | apply List.Mem.tail)) | assumption | exact ArgRd.rd (by assumption) _ | (apply Rd_weak; assumption; intro _ hx; exact St.sub (by repeat (first | exact List.Sublist.refl _ | apply List.Sublist.cons_cons | apply List.Sublist.cons)) hx)) (by simp only [ints_len, List.length_cons, List.length_nil]; first | omega | rfl) (by first | exact ints_one | (repeat (first | exact trivial | refine ⟨rfl, ?_⟩))) (by omega) rfl ?_; intro _ _)) | (first | (refine sx ?_; try intro _)))
      rename_i ps q2 d2
      exact JS_again3 again (i + 1) q2 d2 ⟨by omega, by omega⟩ (by omega) (by repeat (first | exact trivial | refine ⟨rfl, ?_⟩ | refine ⟨lookI rfl (by omega), ?_⟩)) (fun w hw => by rw [hts, ← ints_app]; exact St.sub (by repeat (first | exact List.Sublist.refl _ | apply List.Sublist.cons_cons | apply List.Sublist.cons)) hw)
  · clear again
    have hfin : ((B.take i).map fun x => if wide then x else x % 3) = txt B wide := by
      unfold txt
      rcases (show i = m ∨ i = 300 by omega) with h | h
      · rw [List.take_of_length_le (by omega), List.take_of_length_le (by omega)]
      · rw [h]
    have hlf : (txt B wide).length = i := by rw [← hfin, List.length_map, List.length_take]; omega
    rw [hlf, hfin]
    rcases (show i = m ∨ (i < m ∧ i = 300) by omega) with h | ⟨h, h'⟩
    all_goals
      repeat (first | (refine sx ?_; try intro _))
      refine JS_ret Try.func14 rfl rfl fun w hw => ⟨q, d, rfl, hw⟩
attribute [local irreducible] sbs pack fixL bestB txt
set_option maxRecDepth 10000 in
theorem RBest_c (p : Option Addr) (c m : Nat) (B : List Int) (hr : Rd w0 H (.slice p m c) m (ints .u8 B)) (hm : B.length = m) (hB : OKB B) (h4 : m ≤ 100000) (w : World) (hw : St w0 H w) :
    Calls Try.prog 20 #[.slice p m c] w fun e w' => ∃ q d, e = .returned (.slice q (bestB B).length d) ∧ St w0 (vec 5 1 (.slice q (bestB B).length d) (bestB B).length (ints .u8 (bestB B)) :: H) w' := by
  refine enter (vs := [.slice p m c]) Try.func20 rfl rfl rfl hw ?_
  clear hw w
  repeat (first | (refine sx ?_; try intro _))
  refine JO_call Try.call16 rfl rfl fun w hw => (RFixed8_c p c m B hr hm hB h4 w hw).mono ?_
  rintro e w' ⟨q1, d1, rfl, hw'⟩
  refine ⟨_, rfl, _, hw', ?_⟩
  clear hw' hw w w'
  repeat (first | (refine sx ?_; try intro _))
  refine JO_call Try.call18 rfl rfl fun w hw => (RStored_c p c m B (Rd_weak hr fun w hw => St.sub (by repeat (first | exact List.Sublist.refl _ | apply List.Sublist.cons_cons | apply List.Sublist.cons)) hw) hm hB h4 w hw).mono ?_
  rintro e w' ⟨q2, d2, rfl, hw'⟩
  refine ⟨_, rfl, _, hw', ?_⟩
  clear hw' hw w w'
  unfold bestB
  by_cases hlt : (sbs B).length < (pack (fixL B)).length
  · rw [if_pos hlt]
    repeat (first | (refine sx ?_; try intro _))
    exact JS_ret Try.func20 rfl rfl fun w hw => ⟨q2, d2, rfl, St.sub (by repeat (first | exact List.Sublist.refl _ | apply List.Sublist.cons_cons | apply List.Sublist.cons)) hw⟩
  · rw [if_neg hlt]
    repeat (first | (refine sx ?_; try intro _))
    exact JS_ret Try.func20 rfl rfl fun w hw => ⟨q1, d1, rfl, St.sub (by repeat (first | exact List.Sublist.refl _ | apply List.Sublist.cons_cons | apply List.Sublist.cons)) hw⟩
set_option maxRecDepth 10000 in
set_option maxHeartbeats 4000000 in
theorem DeflateWrites_c (p : Option Addr) (c m : Nat) (B : List Int) (wide : Bool) (hr : Rd w0 H (.slice p m c) m (ints .u8 B)) (hm : B.length = m) (hB : OKB B) (hmx : m ≤ 140737488351232) (w : World) (hw : St w0 H w) :
    Calls Try.prog 3 #[.slice p m c, .bool wide] w fun e w' => e = .returned (.bool true) ∧ St w0 H w' := by
  refine enter (vs := [.slice p m c, .bool wide]) Try.func3 rfl rfl rfl hw ?_
  clear hw w
  repeat (first | (refine sx ?_; try intro _))
  refine JO_call Try.call13 rfl rfl fun w hw => (alive8_c w hw).mono ?_
  rintro e w' ⟨rfl, hw'⟩
  refine ⟨_, rfl, _, hw', ?_⟩
  clear hw' hw w w'
  repeat (first | (refine sx ?_; try intro _))
  refine JO_call Try.call14 rfl rfl fun w hw => (Text8_c p c m B wide hr hm hB hmx w hw).mono ?_
  have hX := txt_okb hB wide
  have hXl := txt_len B wide
  obtain ⟨X, hXe⟩ : ∃ X, txt B wide = X := ⟨_, rfl⟩
  rw [hXe] at hX hXl ⊢
  rintro e w' ⟨qx, dx, rfl, hw'⟩
  refine ⟨_, rfl, _, hw', ?_⟩
  clear hw' hw w w'
  have o1 := pack_okb' (fixL X) (fixL_01 X)
  have o2 := sbs_okb hX
  have o3 : OKB (bestB X) := by unfold bestB; split <;> assumption
  repeat (first | apply hIx 4 | first | (refine sx ?_; try intro _))
  refine Hold.go ?_
  refine JS_seq ?_
  refine JS_order [0, 3, 1, 2, 4, 5, 6, 7, 8, 11, 9, 10, 12, 13, 14, 15, 16, 17, 20, 18, 19, 21, 22, 23, 24, 25] [] (Picks.cons rfl (Picks.cons rfl (Picks.cons rfl (Picks.cons rfl (Picks.cons rfl (Picks.cons rfl (Picks.cons rfl (Picks.cons rfl (Picks.cons rfl (Picks.cons rfl (Picks.cons rfl (Picks.cons rfl (Picks.cons rfl (Picks.cons rfl (Picks.cons rfl (Picks.cons rfl (Picks.cons rfl (Picks.cons rfl (Picks.cons rfl (Picks.cons rfl (Picks.cons rfl (Picks.cons rfl (Picks.cons rfl (Picks.cons rfl (Picks.cons rfl (Picks.cons rfl (Picks.nil))))))))))))))))))))))))))) (by kernel_rfl) (by kernel_rfl) rfl (by decide +kernel) ?_
  repeat (first | (refine sx ?_; try intro _))
  refine QO_call Try.call15 rfl rfl fun w hw => (DFixed_c qx dx X.length X (vec_rd (by repeat (first | apply List.Mem.head | apply List.Mem.tail))) rfl hX (by omega) w hw).mono ?_
  rintro e w' ⟨q1, d1, rfl, hw'⟩
  refine ⟨_, rfl, _, hw', .inl fun w hw => St.sub (by repeat (first | exact List.Sublist.refl _ | apply List.Sublist.cons_cons | apply List.Sublist.cons)) hw, ?_⟩
  clear hw' hw w w'
  repeat (first | (refine sx ?_; try intro _))
  refine QO_call Try.call16 rfl rfl fun w hw => (RFixed8_c qx dx X.length X (vec_rd (by repeat (first | apply List.Mem.head | apply List.Mem.tail))) rfl hX (by omega) w hw).mono ?_
  rintro e w' ⟨q2, d2, rfl, hw'⟩
  refine ⟨_, rfl, _, hw', .inl fun w hw => St.sub (by repeat (first | exact List.Sublist.refl _ | apply List.Sublist.cons_cons | apply List.Sublist.cons)) hw, ?_⟩
  clear hw' hw w w'
  repeat (first | (apply gQO; refine QO_v rfl (V_eqStr1 (s := bstr (pack (fixL X))) rfl rfl rfl) ?_) | first | (refine sx ?_; try intro _))
  refine QO_call Try.call17 rfl rfl fun w hw => (DStored_c qx dx X.length X (vec_rd (by repeat (first | apply List.Mem.head | apply List.Mem.tail))) rfl hX (by omega) w hw).mono ?_
  rintro e w' ⟨q3, d3, rfl, hw'⟩
  refine ⟨_, rfl, _, hw', .inl fun w hw => St.sub (by repeat (first | exact List.Sublist.refl _ | apply List.Sublist.cons_cons | apply List.Sublist.cons)) hw, ?_⟩
  clear hw' hw w w'
  repeat (first | (refine sx ?_; try intro _))
  refine QO_call Try.call18 rfl rfl fun w hw => (RStored_c qx dx X.length X (vec_rd (by repeat (first | apply List.Mem.head | apply List.Mem.tail))) rfl hX (by omega) w hw).mono ?_
  rintro e w' ⟨q4, d4, rfl, hw'⟩
  refine ⟨_, rfl, _, hw', .inl fun w hw => St.sub (by repeat (first | exact List.Sublist.refl _ | apply List.Sublist.cons_cons | apply List.Sublist.cons)) hw, ?_⟩
  clear hw' hw w w'
  repeat (first | (apply gQO; refine QO_v rfl (V_eqStr1 (s := bstr (sbs X)) rfl rfl rfl) ?_) | first | (refine sx ?_; try intro _))
  refine QO_call Try.call19 rfl rfl fun w hw => (DBest_c qx dx X.length X (vec_rd (by repeat (first | apply List.Mem.head | apply List.Mem.tail))) rfl hX (by omega) w hw).mono ?_
  rintro e w' ⟨q5, d5, rfl, hw'⟩
  refine ⟨_, rfl, _, hw', .inl fun w hw => St.sub (by repeat (first | exact List.Sublist.refl _ | apply List.Sublist.cons_cons | apply List.Sublist.cons)) hw, ?_⟩
  clear hw' hw w w'
  repeat (first | (refine sx ?_; try intro _))
  refine QO_call Try.call20 rfl rfl fun w hw => (RBest_c qx dx X.length X (vec_rd (by repeat (first | apply List.Mem.head | apply List.Mem.tail))) rfl hX (by omega) w hw).mono ?_
  rintro e w' ⟨q6, d6, rfl, hw'⟩
  refine ⟨_, rfl, _, hw', .inl fun w hw => St.sub (by repeat (first | exact List.Sublist.refl _ | apply List.Sublist.cons_cons | apply List.Sublist.cons)) hw, ?_⟩
  clear hw' hw w w'
  repeat (first | (apply gQO; refine QO_v rfl (V_eqStr1 (s := bstr (bestB X)) rfl rfl rfl) ?_) | first | (refine sx ?_; try intro _))
  exact JS_ret Try.func3 rfl rfl fun w hw => ⟨rfl, St.sub (by repeat (first | exact List.Sublist.refl _ | apply List.Sublist.cons_cons | apply List.Sublist.cons)) hw⟩
end
theorem DeflateWrites_l (p : Option Addr) (c m : Nat) (B : List Int) (wide : Bool) (w0 : World) (ha : ArgRd w0 (.slice p m c) m (ints .u8 B)) (hm : B.length = m) (hO : OKB B ∧ (p = none → m = 0) ∧ m ≤ 140737488351232) :
    Calls Try.prog 3 #[.slice p m c, .bool wide] w0 fun e w' => e = .returned (.bool true) ∧ RowKit.Below w0.heap.size w0 w' :=
  (DeflateWrites_c (w0 := w0) (H := []) p c m B wide (ha.rd _) hm hO.1 hO.2.2 w0 (St.start w0)).mono fun e w' h => ⟨h.1, h.2.grown⟩
end Go.Proofs.Ytakgoflfcgofdaa

namespace Go.Proofs.Ytakgoflfcgofdaa
open Sx Go
set_option linter.unusedVariables false
set_option linter.unusedSimpArgs false
attribute [local irreducible] syA fc tk cds
theorem bval_take (c : Int) (n : Nat) (hc : 0 ≤ c ∧ c < 2 ^ n) : ∀ k, k ≤ n → bval (fun j => (bms c n).getD j 0) k = c / 2 ^ (n - k) := by
  intro k
  induction k with
  | zero => intro _; rw [Nat.sub_zero]; exact (Int.ediv_eq_zero_of_lt hc.1 hc.2).symm
  | succ k ih =>
    intro hk
    have h1 := ih (by omega)
    have h2 : (bms c n).getD k 0 = c / 2 ^ (n - 1 - k) % 2 := by simp [bms, List.getD_eq_getElem?_getD, show k < n by omega]
    rw [show n - k = (n - (k + 1)) + 1 by omega, div_step] at h1
    rw [show n - 1 - k = n - (k + 1) by omega] at h2
    show 2 * bval (fun j => (bms c n).getD j 0) k + (bms c n).getD k 0 = _
    omega
theorem apart (B : List Int) (hB : OKB B) (hk : OKL B) (i k ni nk : Nat) (hi : i < B.length) (hkl : k < B.length) (h0 : 0 < ni) (h1 : ni ≤ nk) (hni : B.getD i 0 = (ni : Int)) (hnk : B.getD k 0 = (nk : Int)) (hik : i ≠ k) : ¬ cd B k / 2 ^ (nk - ni) = cd B i := by
  intro h
  have hc := cd_lt B hB hk k nk hkl (by omega) hnk
  have hb : ∀ j, (bms (cd B k) nk).getD j 0 = 0 ∨ (bms (cd B k) nk).getD j 0 = 1 := by
    intro j
    unfold bms
    rcases Nat.lt_or_ge j nk with h | h
    · simp only [List.getD_eq_getElem?_getD, List.getElem?_map, List.getElem?_range h, Option.map_some, Option.getD_some]; omega
    · rw [List.getD_eq_getElem?_getD, List.getElem?_eq_none (by simp; omega)]; exact .inl rfl
  refine hik (DEC_one B hB hk.2.1 hk.2.2 (fun j => (bms (cd B k) nk).getD j 0) hb nk i k ⟨ni, hi, h0, hni, h1, ?_⟩ ⟨nk, hkl, by omega, hnk, Nat.le_refl _, ?_⟩)
  · rw [bval_take _ _ hc ni h1]; exact h
  · rw [bval_take _ _ hc nk (Nat.le_refl _), Nat.sub_self, Int.pow_zero, Int.ediv_one]
theorem full_dec (B : List Int) (hB : OKB B) (hk : OKL B) (ht : tk B = 32768) (b : Nat → Int) (hb : ∀ j, b j = 0 ∨ b j = 1) (left : Nat) (hl : 15 ≤ left) : ∃ j, DEC B b left j := by
  have key : ∀ k, k ≤ 15 → (∃ j, DEC B b left j) ∨ fc B k + cn B k ≤ bval b k := by
    intro k
    induction k with
    | zero => intro _; right; rw [fc_zero]; simp [cn, bval]
    | succ k ih =>
      intro hk15
      rcases ih (by omega) with h | h
      · exact .inl h
      · by_cases hlt : bval b (k + 1) < fc B (k + 1) + cn B (k + 1)
        · left
          have hge : fc B (k + 1) ≤ bval b (k + 1) := by
            have := hb k
            have := fc_succ B k
            have : bval b (k + 1) = 2 * bval b k + b k := rfl
            omega
          obtain ⟨kk, hkk⟩ := Int.eq_ofNat_of_zero_le (show 0 ≤ bval b (k + 1) - fc B (k + 1) by omega)
          obtain ⟨i, g1, g2, g3, g4, g5⟩ := sym_at B hB hk.2.1 hk.2.2 (k + 1) (by omega) hk15 kk (by omega)
          exact ⟨i, k + 1, g3, by omega, g4, by omega, by omega⟩
        · exact .inr (by omega)
  rcases key 15 (Nat.le_refl _) with h | h
  · exact h
  · have h1 := fc_tk B hB hk.2.1 B.length (Nat.le_refl _)
    rw [List.take_length] at h1
    have := (bval_lt b hb 15).2
    have h2 : (2 : Int) ^ 15 = 32768 := by decide
    omega
end Go.Proofs.Ytakgoflfcgofdaa

namespace Go.Proofs.Ytakgoflfcgofdaa
open Sx Go
set_option linter.unusedVariables false
set_option linter.unusedSimpArgs false
attribute [local irreducible] syA fc tk cds
/-! ## another limit -/
/-- steps under limits: one that goes on, goes on under each limit that has room, and fails under a lesser one -/
def PLg (f : Nat → Nat → List Int → Stp) : Prop := ∀ lim lim' a o a' o', f lim a o = .go a' o' → o.length ≤ o'.length ∧ (o'.length ≤ lim' → f lim' a o = .go a' o') ∧ (o.length ≤ lim' → lim' < o'.length → f lim' a o = .err 64)
def PLs (f : Nat → Nat → List Int → Stp) : Prop := ∀ lim lim' a o a' o', f lim a o = .stop a' o' → o.length ≤ o'.length ∧ (o'.length ≤ lim' → f lim' a o = .stop a' o') ∧ (o.length ≤ lim' → lim' < o'.length → f lim' a o = .err 64)
def PLr (g : Nat → Nat → List Int → Res) : Prop := ∀ lim lim' a o a' o', g lim a o = .ok a' o' → o.length ≤ o'.length ∧ (o'.length ≤ lim' → g lim' a o = .ok a' o') ∧ (o.length ≤ lim' → lim' < o'.length → g lim' a o = .err 64)
theorem It_lim {f : Nat → Nat → List Int → Stp} (hg : PLg f) (hs : PLs f) {lim lim' a : Nat} {o : List Int} {r : Res} (h : It (f lim) a o r) : ∀ a' o', r = .ok a' o' →
    o.length ≤ o'.length ∧ (o'.length ≤ lim' → It (f lim') a o (.ok a' o')) ∧ (o.length ≤ lim' → lim' < o'.length → It (f lim') a o (.err 64)) := by
  induction h with
  | err _ => intro a' o' h; cases h
  | stop h =>
    intro a' o' h'
    cases h'
    obtain ⟨h1, h2, h3⟩ := hs lim lim' _ _ _ _ h
    exact ⟨h1, fun h => .stop (h2 h), fun h h' => .err (h3 h h')⟩
  | go h _ ih =>
    intro a' o' h'
    obtain ⟨h1, h2, h3⟩ := hg lim lim' _ _ _ _ h
    obtain ⟨i1, i2, i3⟩ := ih a' o' h'
    refine ⟨Nat.le_trans h1 i1, fun h => .go (h2 (Nat.le_trans i1 h)) (i2 h), fun hl hl' => ?_⟩
    rename_i o1 _ _
    rcases Nat.lt_or_ge lim' o1.length with hlt | hge
    · exact .err (h3 hl hlt)
    · exact .go (h2 hge) (i3 hge hl')
theorem blk2_lim {bt : Nat → Int} {N : Nat} {D : List Int} {lim lim' a a' : Nat} {o o' : List Int} {len : Int} (hlen : 0 ≤ len) (h : blk2 bt N lim D o len a = .go a' o') :
    o.length ≤ o'.length ∧ (o'.length ≤ lim' → blk2 bt N lim' D o len a = .go a' o') ∧ (o.length ≤ lim' → lim' < o'.length → blk2 bt N lim' D o len a = .err 64) := by
  unfold blk2 at h ⊢
  cases hs : symS bt N D a with
  | err e => rw [hs] at h; cases h
  | ok d a2 =>
    rw [hs] at h
    simp only at h ⊢
    split at h
    · cases h
    · rename_i h1
      rw [if_neg h1]
      split at h
      · cases h
      · rename_i h2
        rw [if_neg h2]
        split at h
        · cases h
        · rename_i h3
          rw [if_neg h3]
          split at h
          · cases h
          · rename_i h4
            simp only [Stp.go.injEq] at h
            obtain ⟨rfl, rfl⟩ := h
            rw [cpy_len]
            refine ⟨by omega, fun h => ?_, fun h h' => ?_⟩
            · rw [if_neg (by omega)]
            · rw [if_pos (by omega)]
theorem lb_nn {bt : Nat → Int} (hb : ∀ j, bt j = 0 ∨ bt j = 1) {i : Int} {a c : Nat} (h : ¬ (lbase i).1 = 0) : 0 ≤ (lbase i).1 + nbt bt a c := by
  have h1 := lbase_ok h
  have h2 := nbt_bd bt hb a c
  omega
theorem blkF_limg {bt : Nat → Int} (hb : ∀ j, bt j = 0 ∨ bt j = 1) (N : Nat) (L D : List Int) : PLg fun lim => blkF bt N lim L D := by
  intro lim lim' a o a' o' h
  simp only at h ⊢
  unfold blkF at h ⊢
  cases hs : symS bt N L a with
  | err e => rw [hs] at h; cases h
  | ok i a1 =>
    rw [hs] at h
    simp only at h ⊢
    split at h
    · cases h
    · rename_i h1
      rw [if_neg h1]
      split at h
      · rename_i h2
        rw [if_pos h2]
        split at h
        · cases h
        · rename_i h3
          simp only [Stp.go.injEq] at h
          obtain ⟨rfl, rfl⟩ := h
          rw [List.length_append, List.length_singleton]
          refine ⟨by omega, fun h => ?_, fun h h' => ?_⟩
          · rw [if_neg (by omega)]
          · rw [if_pos (by omega)]
      · rename_i h2
        rw [if_neg h2]
        split at h
        · cases h
        · rename_i h3
          rw [if_neg h3]
          split at h
          · cases h
          · rename_i h4
            rw [if_neg h4]
            exact blk2_lim (lb_nn hb h3) h
theorem blkF_lims {bt : Nat → Int} (N : Nat) (L D : List Int) : PLs fun lim => blkF bt N lim L D := by
  intro lim lim' a o a' o' h
  simp only at h ⊢
  unfold blkF at h ⊢
  cases hs : symS bt N L a with
  | err e => rw [hs] at h; cases h
  | ok i a1 =>
    rw [hs] at h
    simp only at h ⊢
    split at h
    · rename_i h1
      simp only [Stp.stop.injEq] at h
      obtain ⟨rfl, rfl⟩ := h
      rw [if_pos h1]
      exact ⟨Nat.le_refl _, fun _ => rfl, fun h h' => by omega⟩
    · split at h
      · split at h <;> cases h
      · split at h
        · cases h
        · split at h
          · cases h
          · exact (blk2_stop h).elim
theorem itblk_lim {bt : Nat → Int} (hb : ∀ j, bt j = 0 ∨ bt j = 1) (N : Nat) (L D : List Int) : PLr fun lim a o => itF (blkF bt N lim L D) a o := by
  intro lim lim' a o a' o' h
  obtain ⟨h1, h2, h3⟩ := It_lim (lim' := lim') (blkF_limg hb N L D) (blkF_lims N L D) (itF_ok h) a' o' rfl
  exact ⟨h1, fun h => itF_of (h2 h), fun h h' => itF_of (h3 h h')⟩
theorem stoF_lim {bt : Nat → Int} (hb : ∀ j, bt j = 0 ∨ bt j = 1) (N : Nat) : PLr fun lim => stoF bt N lim := by
  intro lim lim' a o a' o' h
  have hn := (nbt_bd bt hb (upto8 a) 16).1
  simp only at h ⊢
  unfold stoF at h ⊢
  split at h
  · cases h
  · rename_i h1
    rw [if_neg h1]
    split at h
    · cases h
    · rename_i h2
      rw [if_neg h2]
      split at h
      · cases h
      · rename_i h3
        rw [if_neg h3]
        split at h
        · cases h
        · rename_i h4
          split at h
          · cases h
          · rename_i h5
            simp only [Res.ok.injEq] at h
            obtain ⟨rfl, rfl⟩ := h
            rw [List.length_append, byts_len]
            refine ⟨by omega, fun h => ?_, fun h h' => ?_⟩
            · rw [if_neg (by omega), if_neg h5]
            · rw [if_pos (by omega)]
theorem desF_lim {bt : Nat → Int} (hb : ∀ j, bt j = 0 ∨ bt j = 1) (N : Nat) : PLr fun lim => desF bt N lim := by
  intro lim lim' a o a' o' h
  simp only at h ⊢
  unfold desF at h ⊢
  split at h
  · cases h
  · rename_i h1
    rw [if_neg h1]
    split at h
    · cases h
    · rename_i h2
      rw [if_neg h2]
      split at h
      · cases h
      · rename_i h3
        rw [if_neg h3]
        unfold des1 at h ⊢
        split at h
        · cases h
        · rename_i h4
          rw [if_neg h4]
          split at h
          · cases h
          · rename_i h5
            rw [if_neg h5]
            split at h
            · cases h
            · rename_i h6
              rw [if_neg h6]
              split at h
              · cases h
              · rename_i a1 l1 hl1
                unfold des2 at h ⊢
                split at h
                · cases h
                · rename_i h7
                  rw [if_neg h7]
                  split at h
                  · cases h
                  · rename_i h8
                    rw [if_neg h8]
                    split at h
                    · cases h
                    · rename_i h9
                      rw [if_neg h9]
                      exact itblk_lim hb N _ _ lim lim' _ _ _ _ h
theorem kndF_lim {bt : Nat → Int} (hb : ∀ j, bt j = 0 ∨ bt j = 1) (N : Nat) (k : Int) : PLr fun lim => kndF bt N lim k := by
  intro lim lim' a o a' o' h
  simp only at h ⊢
  unfold kndF at h ⊢
  split at h
  · rename_i h1
    rw [if_pos h1]
    exact stoF_lim hb N lim lim' _ _ _ _ h
  · rename_i h1
    rw [if_neg h1]
    split at h
    · rename_i h2
      rw [if_pos h2]
      exact itblk_lim hb N _ _ lim lim' _ _ _ _ h
    · rename_i h2
      rw [if_neg h2]
      split at h
      · rename_i h3
        rw [if_pos h3]
        exact desF_lim hb N lim lim' _ _ _ _ h
      · cases h
theorem rdF_limg {bt : Nat → Int} (hb : ∀ j, bt j = 0 ∨ bt j = 1) (N : Nat) : PLg fun lim => rdF bt N lim := by
  intro lim lim' a o a' o' h
  simp only at h ⊢
  unfold rdF at h ⊢
  split at h
  · cases h
  · rename_i h1
    rw [if_neg h1]
    split at h
    · cases h
    · rename_i h2
      rw [if_neg h2]
      split at h
      · cases h
      · rename_i a1 o1 hk
        split at h
        · rename_i h3
          simp only [Stp.go.injEq] at h
          obtain ⟨rfl, rfl⟩ := h
          obtain ⟨g1, g2, g3⟩ := kndF_lim hb N _ lim lim' _ _ _ _ hk
          refine ⟨g1, fun h => ?_, fun h h' => ?_⟩
          · have e := g2 h; simp only at e; rw [e]; simp only; rw [if_pos h3]
          · have e := g3 h h'; simp only at e; rw [e]
        · cases h
theorem rdF_lims {bt : Nat → Int} (hb : ∀ j, bt j = 0 ∨ bt j = 1) (N : Nat) : PLs fun lim => rdF bt N lim := by
  intro lim lim' a o a' o' h
  simp only at h ⊢
  unfold rdF at h ⊢
  split at h
  · cases h
  · rename_i h1
    rw [if_neg h1]
    split at h
    · cases h
    · rename_i h2
      rw [if_neg h2]
      split at h
      · cases h
      · rename_i a1 o1 hk
        split at h
        · cases h
        · rename_i h3
          simp only [Stp.stop.injEq] at h
          obtain ⟨rfl, rfl⟩ := h
          obtain ⟨g1, g2, g3⟩ := kndF_lim hb N _ lim lim' _ _ _ _ hk
          refine ⟨g1, fun h => ?_, fun h h' => ?_⟩
          · have e := g2 h; simp only at e; rw [e]; simp only; rw [if_neg h3]
          · have e := g3 h h'; simp only at e; rw [e]
theorem ALLR_more {B : List Int} {lim lim' a : Nat} {o : List Int} (h : ALLR B lim (.ok a o)) (hl : o.length ≤ lim') : ALLR B lim' (.ok a o) :=
  (It_lim (lim' := lim') (rdF_limg (bitB_01 B 0) (8 * B.length)) (rdF_lims (bitB_01 B 0) (8 * B.length)) h a o rfl).2.1 hl
theorem ALLR_less {B : List Int} {lim lim' a : Nat} {o : List Int} (h : ALLR B lim (.ok a o)) (hl : lim' < o.length) : ALLR B lim' (.err 64) :=
  (It_lim (lim' := lim') (rdF_limg (bitB_01 B 0) (8 * B.length)) (rdF_lims (bitB_01 B 0) (8 * B.length)) h a o rfl).2.2 (Nat.zero_le _) hl
end Go.Proofs.Ytakgoflfcgofdaa

namespace Go.Proofs.Ytakgoflfcgofdaa
open Sx Go
set_option linter.unusedVariables false
set_option linter.unusedSimpArgs false
attribute [local irreducible] syA fc tk cds
/-! ## an error is told by a number that is not 0 -/
theorem RD_total (L : List Int) (b : Nat → Int) (left : Nat) : ∃ i u r, RD L b left i u r := by
  by_cases h : ∃ j, DEC L b left j
  · obtain ⟨j, hj⟩ := h
    obtain ⟨n, h1, h2, h3, h4⟩ := hj
    exact ⟨j, n, 0, .inl ⟨j, rfl, rfl, ⟨n, h1, h2, h3, h4⟩, h3⟩⟩
  · have hno : ∀ j, ¬ DEC L b left j := fun j hj => h ⟨j, hj⟩
    by_cases h1 : sm L = 0
    · exact ⟨0, 0, 62, .inr ⟨hno, rfl, .inl ⟨h1, rfl, rfl⟩⟩⟩
    · by_cases h2 : tk L = 32768
      · exact ⟨0, left, 20, .inr ⟨hno, rfl, .inr (.inl ⟨h1, h2, rfl, rfl⟩)⟩⟩
      · rcases Nat.eq_zero_or_pos left with h3 | h3
        · exact ⟨0, 0, 20, .inr ⟨hno, rfl, .inr (.inr ⟨h1, h2, .inl ⟨h3, rfl, rfl⟩⟩)⟩⟩
        · exact ⟨0, 1, 62, .inr ⟨hno, rfl, .inr (.inr ⟨h1, h2, .inr ⟨h3, rfl, rfl⟩⟩)⟩⟩
/-- what a symbol's reading tells -/
theorem symS_RD (bt : Nat → Int) (N : Nat) (L : List Int) (a : Nat) : ∃ i u r, RD L (fun j => bt (a + j)) (N - a) i u r ∧ symS bt N L a = if r = 0 then .ok i (a + u) else .err r := by
  have hex : ∃ x : Int × Nat × Int, RD L (fun j => bt (a + j)) (N - a) x.1 x.2.1 x.2.2 := by
    obtain ⟨i, u, r, h⟩ := RD_total L (fun j => bt (a + j)) (N - a)
    exact ⟨(i, u, r), h⟩
  refine ⟨hex.choose.1, hex.choose.2.1, hex.choose.2.2, hex.choose_spec, ?_⟩
  unfold symS
  rw [dif_pos hex]
theorem symS_ne {bt : Nat → Int} {N a : Nat} {L : List Int} {e : Int} (h : symS bt N L a = .err e) : e ≠ 0 := by
  obtain ⟨i, u, r, _, h2⟩ := symS_RD bt N L a
  rw [h2] at h
  split at h
  · cases h
  · rename_i hr
    simp only [Sy.err.injEq] at h
    rw [← h]; exact hr
theorem symS_gt {bt : Nat → Int} {N a a1 : Nat} {L : List Int} {i : Int} (h : symS bt N L a = .ok i a1) (ha : a ≤ N) : a < a1 ∧ a1 ≤ N ∧ 0 ≤ i ∧ i < L.length := by
  obtain ⟨i', u, r, h1, h2⟩ := symS_RD bt N L a
  rw [h2] at h
  split at h
  · rename_i hr
    subst hr
    simp only [Sy.ok.injEq] at h
    obtain ⟨rfl, rfl⟩ := h
    rcases h1 with ⟨j, rfl, _, ⟨n, hj, h0, hn, hle, _⟩, hu⟩ | ⟨_, _, h | h | ⟨_, _, h | h⟩⟩
    · rw [hu] at hn; omega
    all_goals omega
  · cases h
/-- an iteration that goes on and on, up to a bound, ends -/
theorem It_total {f : Nat → List Int → Stp} {N : Nat} (hf : ∀ a o a' o', a ≤ N → f a o = .go a' o' → a < a' ∧ a' ≤ N) : ∀ (a : Nat) (o : List Int), a ≤ N → ∃ r, It f a o r := by
  have key : ∀ m a o, N - a = m → a ≤ N → ∃ r, It f a o r := by
    intro m
    induction m using Nat.strongRecOn with
    | _ m ih =>
      intro a o hm ha
      cases h : f a o with
      | err e => exact ⟨_, .err h⟩
      | stop a' o' => exact ⟨_, .stop h⟩
      | go a' o' =>
        obtain ⟨h1, h2⟩ := hf a o a' o' ha h
        obtain ⟨r, hr⟩ := ih (N - a') (by omega) a' o' rfl h2
        exact ⟨r, .go h hr⟩
  exact fun a o ha => key _ a o rfl ha
theorem It_ne {f : Nat → List Int → Stp} (hf : ∀ a o e, f a o = .err e → e ≠ 0) {a : Nat} {o : List Int} {r : Res} (h : It f a o r) : ∀ e, r = .err e → e ≠ 0 := by
  induction h with
  | err h => intro e he; cases he; exact hf _ _ _ h
  | stop _ => intro e he; cases he
  | go _ _ ih => exact ih
theorem itF_ne {f : Nat → List Int → Stp} {N : Nat} (hf : ∀ a o a' o', a ≤ N → f a o = .go a' o' → a < a' ∧ a' ≤ N) (he : ∀ a o e, f a o = .err e → e ≠ 0) {a : Nat} {o : List Int} {e : Int} (ha : a ≤ N) (h : itF f a o = .err e) : e ≠ 0 := by
  obtain ⟨r, hr⟩ := It_total hf a o ha
  have := itF_of hr
  rw [h] at this
  exact It_ne he hr e this.symm
theorem blk2_gt {bt : Nat → Int} {N lim a a' : Nat} {D o o' : List Int} {len : Int} (h : blk2 bt N lim D o len a = .go a' o') (ha : a ≤ N) : a < a' ∧ a' ≤ N := by
  unfold blk2 at h
  split at h
  · cases h
  · rename_i d a2 hs
    have := symS_gt hs ha
    split at h
    · cases h
    · split at h
      · cases h
      · split at h
        · cases h
        · split at h
          · cases h
          · simp only [Stp.go.injEq] at h; omega
theorem blk2_ne {bt : Nat → Int} {N lim a : Nat} {D o : List Int} {len e : Int} (h : blk2 bt N lim D o len a = .err e) : e ≠ 0 := by
  unfold blk2 at h
  split at h
  · rename_i hs
    simp only [Stp.err.injEq] at h
    exact h ▸ symS_ne hs
  · split at h
    · simp only [Stp.err.injEq] at h; omega
    · split at h
      · simp only [Stp.err.injEq] at h; omega
      · split at h
        · simp only [Stp.err.injEq] at h; omega
        · split at h
          · simp only [Stp.err.injEq] at h; omega
          · cases h
theorem blkF_gt {bt : Nat → Int} {N lim a a' : Nat} {L D o o' : List Int} (ha : a ≤ N) (h : blkF bt N lim L D a o = .go a' o') : a < a' ∧ a' ≤ N := by
  unfold blkF at h
  split at h
  · cases h
  · rename_i i a1 hs
    have := symS_gt hs ha
    split at h
    · cases h
    · split at h
      · split at h
        · cases h
        · simp only [Stp.go.injEq] at h; omega
      · split at h
        · cases h
        · split at h
          · cases h
          · have := blk2_gt h (by omega); omega
theorem blkF_ne {bt : Nat → Int} {N lim a : Nat} {L D o : List Int} {e : Int} (h : blkF bt N lim L D a o = .err e) : e ≠ 0 := by
  unfold blkF at h
  split at h
  · rename_i hs
    simp only [Stp.err.injEq] at h
    exact h ▸ symS_ne hs
  · split at h
    · cases h
    · split at h
      · split at h
        · simp only [Stp.err.injEq] at h; omega
        · cases h
      · split at h
        · simp only [Stp.err.injEq] at h; omega
        · split at h
          · simp only [Stp.err.injEq] at h; omega
          · exact blk2_ne h
theorem lenP_ne {many : Nat} {l : List Int} {x t : Int} {a : Nat} {e : Int} (h : lenP many l x t a = .err e) : e ≠ 0 := by
  unfold lenP at h
  split at h
  · simp only [Stp.err.injEq] at h; omega
  · cases h
theorem lenP_go {many : Nat} {l l' : List Int} {x t : Int} {a a' : Nat} (h : lenP many l x t a = .go a' l') : a = a' := lenP_ge (.inl h)
theorem lenF_gt {bt : Nat → Int} {N a a' many : Nat} {C l l' : List Int} (ha : a ≤ N) (h : lenF bt N C many a l = .go a' l') : a < a' ∧ a' ≤ N := by
  unfold lenF at h
  split at h
  · cases h
  · split at h
    · cases h
    · rename_i i a1 hs
      have := symS_gt hs ha
      split at h
      · split at h
        · cases h
        · split at h
          · cases h
          · have := lenP_go h; omega
      · split at h
        · split at h
          · cases h
          · have := lenP_go h; omega
        · split at h
          · split at h
            · cases h
            · have := lenP_go h; omega
          · have := lenP_go h; omega
theorem lenF_ne {bt : Nat → Int} {N a many : Nat} {C l : List Int} {e : Int} (h : lenF bt N C many a l = .err e) : e ≠ 0 := by
  unfold lenF at h
  split at h
  · cases h
  · split at h
    · rename_i hs
      simp only [Stp.err.injEq] at h
      exact h ▸ symS_ne hs
    · split at h
      · split at h
        · simp only [Stp.err.injEq] at h; omega
        · split at h
          · simp only [Stp.err.injEq] at h; omega
          · exact lenP_ne h
      · split at h
        · split at h
          · simp only [Stp.err.injEq] at h; omega
          · exact lenP_ne h
        · split at h
          · split at h
            · simp only [Stp.err.injEq] at h; omega
            · exact lenP_ne h
          · exact lenP_ne h
theorem stoF_ne {bt : Nat → Int} {N lim a : Nat} {o : List Int} {e : Int} (h : stoF bt N lim a o = .err e) : e ≠ 0 := by
  unfold stoF at h
  repeat (split at h; (simp only [Res.err.injEq] at h; omega))
  cases h
theorem It_le {f : Nat → List Int → Stp} {N : Nat} (hg : ∀ a o a' o', a ≤ N → f a o = .go a' o' → a' ≤ N) (hs : ∀ a o a' o', a ≤ N → f a o = .stop a' o' → a' ≤ N) {a : Nat} {o : List Int} {r : Res} (h : It f a o r) : a ≤ N → ∀ a' o', r = .ok a' o' → a' ≤ N := by
  induction h with
  | err _ => intro _ a' o' h; cases h
  | stop h => intro ha a' o' h'; cases h'; exact hs _ _ _ _ ha h
  | go h _ ih => intro ha; exact ih (hg _ _ _ _ ha h)
theorem It_neN {f : Nat → List Int → Stp} {N : Nat} (hg : ∀ a o a' o', a ≤ N → f a o = .go a' o' → a' ≤ N) (hf : ∀ a o e, a ≤ N → f a o = .err e → e ≠ 0) {a : Nat} {o : List Int} {r : Res} (h : It f a o r) : a ≤ N → ∀ e, r = .err e → e ≠ 0 := by
  induction h with
  | err h => intro ha e he; cases he; exact hf _ _ _ ha h
  | stop _ => intro _ e he; cases he
  | go h _ ih => intro ha; exact ih (hg _ _ _ _ ha h)
theorem blkF_le {bt : Nat → Int} {N lim a a' : Nat} {L D o o' : List Int} (ha : a ≤ N) (h : blkF bt N lim L D a o = .stop a' o') : a' ≤ N := by
  unfold blkF at h
  split at h
  · cases h
  · rename_i i a1 hs
    have := symS_gt hs ha
    split at h
    · simp only [Stp.stop.injEq] at h; omega
    · split at h
      · split at h <;> cases h
      · split at h
        · cases h
        · split at h
          · cases h
          · exact (blk2_stop h).elim
theorem lenF_le {bt : Nat → Int} {N a a' many : Nat} {C l l' : List Int} (ha : a ≤ N) (h : lenF bt N C many a l = .stop a' l') : a' ≤ N := by
  have := lenF_ge (.inr h)
  unfold lenF at h
  split at h
  · simp only [Stp.stop.injEq] at h; omega
  · exfalso
    split at h
    · cases h
    · split at h
      · split at h
        · cases h
        · split at h
          · cases h
          · unfold lenP at h; split at h <;> cases h
      · split at h
        · split at h
          · cases h
          · unfold lenP at h; split at h <;> cases h
        · split at h
          · split at h
            · cases h
            · unfold lenP at h; split at h <;> cases h
          · unfold lenP at h; split at h <;> cases h
theorem itblk_le {bt : Nat → Int} {N lim a a' : Nat} {L D o o' : List Int} (ha : a ≤ N) (h : itF (blkF bt N lim L D) a o = .ok a' o') : a' ≤ N :=
  It_le (N := N) (fun _ _ _ _ ha h => (blkF_gt ha h).2) (fun _ _ _ _ => blkF_le) (itF_ok h) ha _ _ rfl
theorem itlen_le {bt : Nat → Int} {N many a a' : Nat} {C l l' : List Int} (ha : a ≤ N) (h : itF (lenF bt N C many) a l = .ok a' l') : a' ≤ N :=
  It_le (N := N) (fun _ _ _ _ ha h => (lenF_gt ha h).2) (fun _ _ _ _ => lenF_le) (itF_ok h) ha _ _ rfl
theorem itblk_ne {bt : Nat → Int} {N lim a : Nat} {L D o : List Int} {e : Int} (ha : a ≤ N) (h : itF (blkF bt N lim L D) a o = .err e) : e ≠ 0 :=
  itF_ne (N := N) (fun _ _ _ _ => blkF_gt) (fun _ _ _ => blkF_ne) ha h
theorem desF_ne {bt : Nat → Int} {N lim a : Nat} {o : List Int} {e : Int} (h : desF bt N lim a o = .err e) : e ≠ 0 := by
  unfold desF at h
  split at h
  · simp only [Res.err.injEq] at h; omega
  · split at h
    · simp only [Res.err.injEq] at h; omega
    · split at h
      · simp only [Res.err.injEq] at h; omega
      · unfold des1 at h
        split at h
        · simp only [Res.err.injEq] at h; omega
        · split at h
          · simp only [Res.err.injEq] at h; omega
          · split at h
            · simp only [Res.err.injEq] at h; omega
            · split at h
              · rename_i hl
                simp only [Res.err.injEq] at h
                exact h ▸ itF_ne (N := N) (fun _ _ _ _ => lenF_gt) (fun _ _ _ => lenF_ne) (by omega) hl
              · rename_i a1 l1 hl
                have ha1 := itlen_le (by omega) hl
                unfold des2 at h
                split at h
                · simp only [Res.err.injEq] at h; omega
                · split at h
                  · simp only [Res.err.injEq] at h; omega
                  · split at h
                    · simp only [Res.err.injEq] at h; omega
                    · exact itblk_ne ha1 h
theorem desF_le {bt : Nat → Int} {N lim a a' : Nat} {o o' : List Int} (h : desF bt N lim a o = .ok a' o') : a' ≤ N := by
  unfold desF at h
  split at h
  · cases h
  · split at h
    · cases h
    · split at h
      · cases h
      · unfold des1 at h
        split at h
        · cases h
        · split at h
          · cases h
          · split at h
            · cases h
            · split at h
              · cases h
              · rename_i a1 l1 hl
                have ha1 := itlen_le (by omega) hl
                unfold des2 at h
                split at h
                · cases h
                · split at h
                  · cases h
                  · split at h
                    · cases h
                    · exact itblk_le ha1 h
theorem stoF_le {bt : Nat → Int} (hb : ∀ j, bt j = 0 ∨ bt j = 1) {N lim a a' : Nat} {o o' : List Int} (h : stoF bt N lim a o = .ok a' o') : a' ≤ N := by
  have hn := (nbt_bd bt hb (upto8 a) 16).1
  unfold stoF at h
  split at h
  · cases h
  · split at h
    · cases h
    · split at h
      · cases h
      · split at h
        · cases h
        · split at h
          · cases h
          · simp only [Res.ok.injEq] at h; omega
theorem kndF_ne {bt : Nat → Int} {N lim a : Nat} {k : Int} {o : List Int} {e : Int} (ha : a ≤ N) (h : kndF bt N lim k a o = .err e) : e ≠ 0 := by
  unfold kndF at h
  split at h
  · exact stoF_ne h
  · split at h
    · exact itblk_ne ha h
    · split at h
      · exact desF_ne h
      · simp only [Res.err.injEq] at h; omega
theorem kndF_le {bt : Nat → Int} (hb : ∀ j, bt j = 0 ∨ bt j = 1) {N lim a a' : Nat} {k : Int} {o o' : List Int} (ha : a ≤ N) (h : kndF bt N lim k a o = .ok a' o') : a' ≤ N := by
  unfold kndF at h
  split at h
  · exact stoF_le hb h
  · split at h
    · exact itblk_le ha h
    · split at h
      · exact desF_le h
      · cases h
theorem rdF_ne {bt : Nat → Int} {N lim a : Nat} {o : List Int} {e : Int} (h : rdF bt N lim a o = .err e) : e ≠ 0 := by
  unfold rdF at h
  split at h
  · simp only [Stp.err.injEq] at h; omega
  · split at h
    · simp only [Stp.err.injEq] at h; omega
    · split at h
      · rename_i hk
        simp only [Stp.err.injEq] at h
        exact h ▸ kndF_ne (by omega) hk
      · split at h <;> cases h
theorem ALLR_ne {B : List Int} {lim : Nat} {e : Int} (h : ALLR B lim (.err e)) : e ≠ 0 := It_ne (fun _ _ _ => rdF_ne) h e rfl
end Go.Proofs.Ytakgoflfcgofdaa

namespace Go.Proofs.Ytakgoflfcgofdaa
open Sx Go
set_option linter.unusedVariables false
set_option linter.unusedSimpArgs false
attribute [local irreducible] syA fc tk cds
/-! ## another stream with the same bits up to a place -/
theorem bval_cg {b b' : Nat → Int} : ∀ {n : Nat}, (∀ j, j < n → b j = b' j) → bval b n = bval b' n
  | 0, _ => rfl
  | n + 1, h => by simp only [bval]; rw [bval_cg (n := n) (fun j hj => h j (by omega)), h n (by omega)]
structure AG (bt bt' : Nat → Int) (N N' M : Nat) : Prop where
  eq : ∀ j, j < M → bt j = bt' j
  le : M ≤ N
  le' : M ≤ N'
  b : ∀ j, bt j = 0 ∨ bt j = 1
  b' : ∀ j, bt' j = 0 ∨ bt' j = 1
section
variable {bt bt' : Nat → Int} {N N' M : Nat}
theorem AG.nbt (h : AG bt bt' N N' M) {a c : Nat} (hc : a + c ≤ M) : nbt bt a c = nbt bt' a c := nbt_congr fun j hj => h.eq _ (by omega)
theorem cn_pos {L : List Int} {j u : Nat} (hj : j < L.length) (h0 : 0 < u) (hu : L.getD j 0 = (u : Int)) : 1 ≤ cn L u := by
  have h1 := cn_yes L j u hj hu h0
  have h2 := cn_nonneg (L.take j) u
  have h3 := cn_mono L u (j + 1) L.length (by omega) (Nat.le_refl _)
  rw [List.take_length] at h3
  omega
theorem symS_ag (h : AG bt bt' N N' M) {L : List Int} (hB : OKB L) (hk : OKL L) {a a1 : Nat} {i : Int} (ha : a ≤ M) (hs : symS bt N L a = .ok i a1) :
    (a1 ≤ M → symS bt' N' L a = .ok i a1) ∧ (N' = M → M < a1 → symS bt' N' L a = .err 20) := by
  obtain ⟨i', u, r, h1, h2⟩ := symS_RD bt N L a
  rw [h2] at hs
  split at hs
  rotate_left
  · cases hs
  rename_i hr
  subst hr
  simp only [Sy.ok.injEq] at hs
  obtain ⟨rfl, rfl⟩ := hs
  rcases h1 with ⟨j, rfl, _, ⟨n, hj, h0, hn, hle, hbv⟩, hu⟩ | ⟨_, _, h | h | ⟨_, _, h | h⟩⟩
  rotate_left
  · omega
  · omega
  · omega
  · omega
  obtain rfl : u = n := by rw [hu] at hn; omega
  constructor
  · intro hM
    have hrd : RD L (fun j => bt' (a + j)) (N' - a) j u 0 := .inl ⟨j, rfl, rfl, ⟨u, hj, h0, hn, by have := h.le'; omega, by rw [← hbv]; exact bval_cg fun t ht => (h.eq _ (by omega)).symm⟩, hu⟩
    rw [symS_of hB hk h.b' hrd, if_pos rfl]
  · intro hN hM
    subst hN
    have hno : ∀ t, ¬ DEC L (fun j => bt' (a + j)) (N' - a) t := by
      rintro t ⟨n', ht, h0', hn', hle', hbv'⟩
      have hd : DEC L (fun j => bt (a + j)) (N - a) t := ⟨n', ht, h0', hn', by have := h.le; omega, by rw [← hbv']; exact bval_cg fun s hs => h.eq _ (by omega)⟩
      have hd0 : DEC L (fun j => bt (a + j)) (N - a) j := ⟨u, hj, h0, hn, hle, hbv⟩
      have := DEC_one L hB hk.2.1 hk.2.2 _ (fun s => h.b _) _ _ _ hd hd0
      subst this
      rw [hn] at hn'; omega
    have hsm := sm_pos L j hj (by omega)
    have hrd : ∃ v, RD L (fun j => bt' (a + j)) (N' - a) 0 v 20 := by
      by_cases hf : tk L = 32768
      · exact ⟨_, .inr ⟨hno, rfl, .inr (.inl ⟨hsm, hf, rfl, rfl⟩)⟩⟩
      · have hu1 : u = 1 := by
          rcases Nat.lt_or_ge 1 u with hlt | hge
          · have h15 := hk.2.1 j
            have := FINE_lone L hB hk.2.1 hk.2.2 hf hsm u (by omega) (by omega)
            have := cn_pos hj h0 hn
            omega
          · omega
        exact ⟨_, .inr ⟨hno, rfl, .inr (.inr ⟨hsm, hf, .inl ⟨by omega, rfl, rfl⟩⟩)⟩⟩
    obtain ⟨v, hrd⟩ := hrd
    rw [symS_of hB hk h.b' hrd, if_neg (by decide)]
def AGg (M : Nat) (c : Prop) (f f' : Nat → List Int → Stp) : Prop := ∀ a o a' o', a ≤ M → f a o = .go a' o' → (a' ≤ M → f' a o = .go a' o') ∧ (c → M < a' → f' a o = .err 20)
def AGs (M : Nat) (c : Prop) (f f' : Nat → List Int → Stp) : Prop := ∀ a o a' o', a ≤ M → f a o = .stop a' o' → (a' ≤ M → f' a o = .stop a' o') ∧ (c → M < a' → f' a o = .err 20)
def AGr (M : Nat) (c : Prop) (f f' : Nat → List Int → Res) : Prop := ∀ a o a' o', a ≤ M → f a o = .ok a' o' → (a' ≤ M → f' a o = .ok a' o') ∧ (c → M < a' → f' a o = .err 20)
theorem It_ag {c : Prop} {f f' : Nat → List Int → Stp} (hm : ∀ a o a' o', f a o = .go a' o' ∨ f a o = .stop a' o' → a ≤ a') (hg : AGg M c f f') (hs : AGs M c f f') {a : Nat} {o : List Int} {r : Res} (h : It f a o r) : a ≤ M → ∀ a' o', r = .ok a' o' →
    (a' ≤ M → It f' a o (.ok a' o')) ∧ (c → M < a' → It f' a o (.err 20)) := by
  induction h with
  | err _ => intro _ a' o' h; cases h
  | stop h =>
    intro ha a' o' h'
    cases h'
    obtain ⟨h2, h3⟩ := hs _ _ _ _ ha h
    exact ⟨fun h => .stop (h2 h), fun h h' => .err (h3 h h')⟩
  | go h t ih =>
    rename_i o1 _ a1 _ _
    intro ha a' o' h'
    obtain ⟨h2, h3⟩ := hg _ _ _ _ ha h
    have hge := It_ge hm t a' o' h'
    refine ⟨fun hle => ?_, fun hc hlt => ?_⟩
    · have h1 : a1 ≤ M := by omega
      exact .go (h2 h1) ((ih h1 a' o' h').1 hle)
    · rcases Nat.lt_or_ge M a1 with hl | hge2
      · exact .err (h3 hc hl)
      · exact .go (h2 hge2) ((ih hge2 a' o' h').2 hc hlt)
theorem itF_ag {c : Prop} {f f' : Nat → List Int → Stp} (hm : ∀ a o a' o', f a o = .go a' o' ∨ f a o = .stop a' o' → a ≤ a') (hg : AGg M c f f') (hs : AGs M c f f') : AGr M c (itF f) (itF f') := by
  intro a o a' o' ha h
  obtain ⟨h1, h2⟩ := It_ag hm hg hs (itF_ok h) ha a' o' rfl
  exact ⟨fun h => itF_of (h1 h), fun h h' => itF_of (h2 h h')⟩
theorem blk2_ag (h : AG bt bt' N N' M) {D : List Int} (hB : OKB D) (hk : OKL D) {lim a a' : Nat} {o o' : List Int} {len : Int} (ha : a ≤ M) (hs : blk2 bt N lim D o len a = .go a' o') :
    (a' ≤ M → blk2 bt' N' lim D o len a = .go a' o') ∧ (N' = M → M < a' → blk2 bt' N' lim D o len a = .err 20) := by
  unfold blk2 at hs ⊢
  cases hy : symS bt N D a with
  | err e => rw [hy] at hs; cases hs
  | ok d a2 =>
    rw [hy] at hs
    simp only at hs
    obtain ⟨s1, s2⟩ := symS_ag h hB hk ha hy
    split at hs
    · cases hs
    · rename_i h1
      split at hs
      · cases hs
      · rename_i h2
        split at hs
        · cases hs
        · rename_i h3
          split at hs
          · cases hs
          · rename_i h4
            simp only [Stp.go.injEq] at hs
            obtain ⟨rfl, rfl⟩ := hs
            refine ⟨fun hle => ?_, fun hN hlt => ?_⟩
            · have e := h.nbt (a := a2) (c := (lfar d).2.toNat) hle
              rw [s1 (by omega)]
              simp only
              rw [if_neg h1, if_neg (by have := h.le'; omega), ← e, if_neg h3, if_neg h4]
            · rcases Nat.lt_or_ge M a2 with hl | hge
              · rw [s2 hN hl]
              · rw [s1 hge]
                simp only
                rw [if_neg h1, if_pos (by omega)]
theorem blkF_agg (h : AG bt bt' N N' M) {L D : List Int} (hB : OKB L) (hk : OKL L) (hB2 : OKB D) (hk2 : OKL D) (lim : Nat) : AGg M (N' = M) (blkF bt N lim L D) (blkF bt' N' lim L D) := by
  intro a o a' o' ha hs
  unfold blkF at hs ⊢
  cases hy : symS bt N L a with
  | err e => rw [hy] at hs; cases hs
  | ok i a1 =>
    rw [hy] at hs
    simp only at hs
    obtain ⟨s1, s2⟩ := symS_ag h hB hk ha hy
    have hge1 := symS_ge hy
    split at hs
    · cases hs
    · rename_i h1
      split at hs
      · rename_i h2
        split at hs
        · cases hs
        · rename_i h3
          simp only [Stp.go.injEq] at hs
          obtain ⟨rfl, rfl⟩ := hs
          refine ⟨fun hle => ?_, fun hN hlt => ?_⟩
          · rw [s1 hle]
            simp only
            rw [if_neg h1, if_pos h2, if_neg h3]
          · rw [s2 hN hlt]
      · rename_i h2
        split at hs
        · cases hs
        · rename_i h3
          split at hs
          · cases hs
          · rename_i h4
            have hge2 := blk2_ge hs
            refine ⟨fun hle => ?_, fun hN hlt => ?_⟩
            · have e := h.nbt (a := a1) (c := (lbase i).2.toNat) (by omega)
              rw [s1 (by omega)]
              simp only
              rw [if_neg h1, if_neg h2, if_neg h3, if_neg (by have := h.le'; omega), ← e]
              exact (blk2_ag h hB2 hk2 (by omega) hs).1 hle
            · rcases Nat.lt_or_ge M a1 with hl | hge
              · rw [s2 hN hl]
              · rw [s1 hge]
                simp only
                rw [if_neg h1, if_neg h2, if_neg h3]
                rcases Nat.lt_or_ge M (a1 + (lbase i).2.toNat) with hl2 | hge3
                · rw [if_pos (by omega)]
                · have e := h.nbt (a := a1) (c := (lbase i).2.toNat) hge3
                  rw [if_neg (by omega), ← e]
                  exact (blk2_ag h hB2 hk2 hge3 hs).2 hN hlt
theorem blkF_ags (h : AG bt bt' N N' M) {L D : List Int} (hB : OKB L) (hk : OKL L) (lim : Nat) : AGs M (N' = M) (blkF bt N lim L D) (blkF bt' N' lim L D) := by
  intro a o a' o' ha hs
  unfold blkF at hs ⊢
  cases hy : symS bt N L a with
  | err e => rw [hy] at hs; cases hs
  | ok i a1 =>
    rw [hy] at hs
    simp only at hs
    obtain ⟨s1, s2⟩ := symS_ag h hB hk ha hy
    split at hs
    · rename_i h1
      simp only [Stp.stop.injEq] at hs
      obtain ⟨rfl, rfl⟩ := hs
      refine ⟨fun hle => ?_, fun hN hlt => ?_⟩
      · rw [s1 hle]; simp only; rw [if_pos h1]
      · rw [s2 hN hlt]
    · split at hs
      · split at hs <;> cases hs
      · split at hs
        · cases hs
        · split at hs
          · cases hs
          · exact (blk2_stop hs).elim
theorem itblk_ag (h : AG bt bt' N N' M) {L D : List Int} (hB : OKB L) (hk : OKL L) (hB2 : OKB D) (hk2 : OKL D) (lim : Nat) : AGr M (N' = M) (itF (blkF bt N lim L D)) (itF (blkF bt' N' lim L D)) :=
  itF_ag (fun _ _ _ _ => blkF_ge) (blkF_agg h hB hk hB2 hk2 lim) (blkF_ags h hB hk lim)
end
end Go.Proofs.Ytakgoflfcgofdaa

set_option linter.unusedVariables false
set_option linter.unusedSimpArgs false
namespace Go.Proofs.Ytakgoflfcgofdaa
open Sx Go
attribute [local irreducible] syA fc tk cds
/-! ## tokens' bits are read as the text -/
/-- from a place on stand these bits -/
def AtB (bt : Nat → Int) (a : Nat) (L : List Int) : Prop := ∀ j, j < L.length → bt (a + j) = L.getD j 0
theorem AtB.left {bt : Nat → Int} {a : Nat} {L M : List Int} (h : AtB bt a (L ++ M)) : AtB bt a L := fun j hj => by
  rw [h j (by rw [List.length_append]; omega), List.getD_eq_getElem?_getD, List.getElem?_append_left hj, ← List.getD_eq_getElem?_getD]
theorem AtB.right {bt : Nat → Int} {a : Nat} {L M : List Int} (h : AtB bt a (L ++ M)) : AtB bt (a + L.length) M := fun j hj => by
  rw [Nat.add_assoc, h (L.length + j) (by rw [List.length_append]; omega), List.getD_eq_getElem?_getD, List.getElem?_append_right (by omega), Nat.add_sub_cancel_left, ← List.getD_eq_getElem?_getD]
theorem sym_bits {bt : Nat → Int} {N a : Nat} {L : List Int} (hB : OKB L) (hk : OKL L) (hb : ∀ j, bt j = 0 ∨ bt j = 1) {i n : Nat} (hi : i < L.length) (h0 : 0 < n) (hn : L.getD i 0 = (n : Int)) (hN : a + n ≤ N) (h : AtB bt a (bms (cd L i) n)) : symS bt N L a = .ok i (a + n) := by
  have hc := cd_lt L hB hk i n hi h0 hn
  have hv : bval (fun j => bt (a + j)) n = cd L i := by
    rw [bval_cg (b' := fun j => (bms (cd L i) n).getD j 0) (fun j hj => h j (by rw [bms_ln]; exact hj)), bval_take (cd L i) n hc n (Nat.le_refl _), Nat.sub_self, Int.pow_zero, Int.ediv_one]
  have := symS_of (bt := bt) (N := N) (a := a) hB hk hb (i := i) (u := n) (r := 0) (.inl ⟨i, rfl, rfl, ⟨n, hi, h0, hn, by omega, hv⟩, hn⟩)
  rw [if_pos rfl] at this
  exact this
theorem nbt_at {bt : Nat → Int} {a k : Nat} {r : Int} (hr : 0 ≤ r ∧ r < 2 ^ k) (h : AtB bt a (grp r k)) : nbt bt a k = r := by
  rw [← bnum_nbt, num_congr (g := fun t => r / 2 ^ t % 2) k (fun t ht => by rw [h t (by rw [grp_len]; exact ht), grp_get ht]), bnum_bits, Int.emod_eq_of_lt hr.1 hr.2]
/-- the bytes are the same as those so far back -/
theorem sam_same (B : List Int) : ∀ (f i k j : Nat), j < sam B i k f → B.getD (i + j) 0 = B.getD (k + j) 0
  | 0, i, k, j, h => by rw [sam] at h; omega
  | f + 1, i, k, j, h => by
    rw [sam] at h
    split at h
    · rename_i hc
      cases j with
      | zero => exact hc.2
      | succ j =>
        have := sam_same B f (i + 1) (k + 1) j (by omega)
        rw [show i + (j + 1) = i + 1 + j by omega, show k + (j + 1) = k + 1 + j by omega]; exact this
    · omega
theorem bst_same (B : List Int) (at_ : Nat) : ∀ (i : Nat) (s : Nat × Nat), i ≤ at_ → (s.1 = 0 ∨ (s.1 = sam B (at_ - s.2) at_ 258 ∧ s.2 ≤ at_)) → (bst B at_ i s).1 = 0 ∨ ((bst B at_ i s).1 = sam B (at_ - (bst B at_ i s).2) at_ 258 ∧ (bst B at_ i s).2 ≤ at_)
  | 0, s, _, h => by rw [bst]; exact h
  | i + 1, s, hi, h => by
    rw [bst]
    split
    · exact h
    · refine bst_same B at_ i _ (by omega) ?_
      split
      · right
        refine ⟨?_, by show at_ - i ≤ at_; omega⟩
        show sam B i at_ 258 = sam B (at_ - (at_ - i)) at_ 258
        rw [show at_ - (at_ - i) = i by omega]
      · exact h
theorem tok_same {B : List Int} {at_ n d : Nat} {x : Int} (h : tok B at_ = (x, n, d)) : ∀ j, j < n → B.getD (at_ - d + j) 0 = B.getD (at_ + j) 0 := by
  intro j hj
  have hb := bst_same B at_ at_ (0, 0) (Nat.le_refl _) (.inl rfl)
  unfold tok at h
  split at h
  · have : n = 0 := (Prod.mk.inj (Prod.mk.inj h).2).1.symm
    omega
  · have h1 := (Prod.mk.inj (Prod.mk.inj h).2).1
    have h2 := (Prod.mk.inj (Prod.mk.inj h).2).2
    rw [h1, h2] at hb
    rcases hb with hb | hb
    · omega
    · exact sam_same B 258 (at_ - d) at_ j (by omega)
theorem cpy_take {B : List Int} {at_ d : Nat} (h1 : 1 ≤ d) (h2 : d ≤ at_) : ∀ n, at_ + n ≤ B.length → (∀ j, j < n → B.getD (at_ - d + j) 0 = B.getD (at_ + j) 0) → cpy (B.take at_) d n = B.take (at_ + n)
  | 0, _, _ => rfl
  | n + 1, hn, hs => by
    have ih := cpy_take h1 h2 n (by omega) (fun j hj => hs j (by omega))
    have hl : (B.take (at_ + n)).length = at_ + n := by rw [List.length_take]; omega
    rw [cpy, ih, hl, ← Nat.add_assoc, List.take_add_one, List.getElem?_eq_getElem (show at_ + n < B.length by omega)]
    have e := hs n (by omega)
    have g : (B.take (at_ + n)).getD (at_ + n - d) 0 = B.getD (at_ + n) 0 := by
      rw [List.getD_eq_getElem?_getD, List.getElem?_take, if_pos (by omega), ← List.getD_eq_getElem?_getD, ← e, show at_ + n - d = at_ - d + n by omega]
    rw [g, List.getD_eq_getElem?_getD, List.getElem?_eq_getElem (show at_ + n < B.length by omega)]
    rfl
/-- a token's bits, by any codes -/
def tkg (cl cs : Nat → List Int) (t : Int × Nat × Nat) : List Int :=
  if t.2.2 = 0 then cl t.1.toNat
  else cl (lenS t.2.1).1.toNat ++ grp (lenS t.2.1).2.2 (lenS t.2.1).2.1.toNat ++ cs (spanS t.2.2).1.toNat ++ grp (spanS t.2.2).2.2 (spanS t.2.2).2.1.toNat
/-- a token's symbols -/
def ts1 (t : Int × Nat × Nat) : Nat := if t.2.2 = 0 then t.1.toNat else (lenS t.2.1).1.toNat
def ts2 (t : Int × Nat × Nat) : Nat := (spanS t.2.2).1.toNat
theorem lbase_pos : ∀ j : Fin 29, 3 ≤ (lbase (257 + (j.val : Int))).1 := by decide +kernel
theorem lfar_pos : ∀ j : Fin 30, 1 ≤ (lfar (j.val : Int)).1 := by decide +kernel
/-- what is wanted of a set's codes -/
def CODED (bt : Nat → Int) (N : Nat) (L : List Int) (c : Nat → List Int) (k : Nat) : Prop := ∀ a, a + (c k).length ≤ N → AtB bt a (c k) → symS bt N L a = .ok k (a + (c k).length)
section
variable {bt : Nat → Int} {N lim : Nat} {L D : List Int} {cl cs : Nat → List Int} {B : List Int}
attribute [local irreducible] grp lenS spanS lbase lfar
theorem tok_step (hB : OKB B) {at_ a : Nat} (hat : at_ < B.length) (hlim : B.length ≤ lim) (h1 : CODED bt N L cl (ts1 (tok B at_))) (h2 : (tok B at_).2.2 ≠ 0 → CODED bt N D cs (ts2 (tok B at_))) (hN : a + (tkg cl cs (tok B at_)).length ≤ N) (hA : AtB bt a (tkg cl cs (tok B at_))) :
    blkF bt N lim L D a (B.take at_) = .go (a + (tkg cl cs (tok B at_)).length) (B.take (at_ + max 1 (tok B at_).2.1)) := by
  have hl : (B.take at_).length = at_ := by rw [List.length_take]; omega
  rcases tok_bd B at_ hat with h | ⟨n, d, h, g1, g2, g3, g4, g5, g6⟩
  · rw [h] at h1 hN hA ⊢
    have hb := hB at_
    obtain ⟨x, hx⟩ : ∃ x : Nat, B.getD at_ 0 = x := ⟨(B.getD at_ 0).toNat, by omega⟩
    rw [hx] at h1 hN hA ⊢
    have e1 : tkg cl cs ((x : Int), 0, 0) = cl x := by unfold tkg; rw [if_pos rfl]; rfl
    have e2 : ts1 ((x : Int), 0, 0) = x := by unfold ts1; rw [if_pos rfl]; rfl
    rw [e1] at hN hA ⊢
    rw [e2] at h1
    have hs := h1 a hN hA
    unfold blkF
    rw [hs]
    simp only []
    show (if (x : Int) = 256 then _ else _) = Stp.go _ (B.take (at_ + 1))
    rw [if_neg (by omega), if_pos (by omega), if_neg (by omega), List.take_add_one, List.getElem?_eq_getElem hat]
    rw [List.getD_eq_getElem?_getD, List.getElem?_eq_getElem hat, Option.getD_some] at hx
    rw [hx]
    rfl
  · have hsame := tok_same h
    rw [h] at h1 h2 hN hA ⊢
    obtain ⟨s, nb, r, e1, a1, a2, a3, a4, a5, a6⟩ := lenS_bd n (by omega) (by omega)
    obtain ⟨s', nb', r', e2, c1, c3, c4, c5, c6⟩ := spanS_bd d (by omega) (by omega)
    have a7 : 3 ≤ n - r := by
      have := lbase_pos ⟨s - 257, by omega⟩
      simp only [] at this
      rw [show (257 : Int) + ((s - 257 : Nat) : Int) = s by omega, a6] at this
      exact this
    have c7 : 1 ≤ d - r' := by
      have := lfar_pos ⟨s', by omega⟩
      simp only [] at this
      rw [c6] at this
      exact this
    have htb : tkg cl cs ((0 : Int), n, d) = cl s ++ grp r nb ++ cs s' ++ grp r' nb' := by
      unfold tkg
      simp only []
      rw [if_neg (by omega), e1, e2]
      simp only [Int.toNat_natCast]
    have ht1 : ts1 ((0 : Int), n, d) = s := by unfold ts1; simp only []; rw [if_neg (by omega), e1]; simp only [Int.toNat_natCast]
    have ht2 : ts2 ((0 : Int), n, d) = s' := by unfold ts2; simp only []; rw [e2]; simp only [Int.toNat_natCast]
    rw [htb] at hN hA ⊢
    rw [ht1] at h1
    rw [ht2] at h2
    simp only [List.length_append, grp_len] at hN ⊢
    have b1 := hA.left.left.left
    have b2 := hA.left.left.right
    have b3 := hA.left.right
    have b4 := hA.right
    simp only [List.length_append, grp_len, ← Nat.add_assoc] at b2 b3 b4
    have v1 := h1 a (by omega) b1
    have v2 := nbt_at ⟨a4, a5⟩ b2
    have v3 := h2 (by show d ≠ 0; omega) (a + (cl s).length + nb) (by omega) b3
    have v4 := nbt_at ⟨c4, c5⟩ b4
    unfold blkF
    rw [v1]
    simp only []
    rw [if_neg (by omega), if_neg (by omega), a6]
    simp only []
    rw [if_neg (by omega), Int.toNat_natCast, if_neg (by omega), v2]
    unfold blk2
    rw [v3]
    simp only []
    rw [c6]
    simp only []
    rw [if_neg (by omega), Int.toNat_natCast, if_neg (by omega), v4, hl, if_neg (by omega), if_neg (by omega), show (d : Int) - r' + r' = d by omega, show (n : Int) - r + r = n by omega, Int.toNat_natCast, Int.toNat_natCast, cpy_take g4 g5 n g3 hsame]
    rw [show max 1 n = n by omega]
    congr 1
    omega
theorem toks_It (hB : OKB B) (hlim : B.length ≤ lim) (h256 : CODED bt N L cl 256) : ∀ (f at_ a : Nat), B.length - at_ ≤ f → at_ ≤ B.length → (∀ t ∈ toks B f at_, CODED bt N L cl (ts1 t) ∧ (t.2.2 ≠ 0 → CODED bt N D cs (ts2 t))) →
    a + ((toks B f at_).flatMap (tkg cl cs) ++ cl 256).length ≤ N → AtB bt a ((toks B f at_).flatMap (tkg cl cs) ++ cl 256) → It (blkF bt N lim L D) a (B.take at_) (.ok (a + ((toks B f at_).flatMap (tkg cl cs) ++ cl 256).length) B) := by
  have hend : ∀ a, a + (cl 256).length ≤ N → AtB bt a (cl 256) → It (blkF bt N lim L D) a (B.take B.length) (.ok (a + (cl 256).length) B) := fun a hN hA => by
    rw [List.take_length]
    refine .stop ?_
    unfold blkF
    rw [h256 a hN hA]
    rfl
  intro f
  induction f with
  | zero =>
    intro at_ a hf hat hT hN hA
    obtain rfl : at_ = B.length := by omega
    rw [toks, List.flatMap_nil, List.nil_append] at hN hA ⊢
    exact hend a hN hA
  | succ f ih =>
    intro at_ a hf hat hT hN hA
    rw [toks] at hT hN hA ⊢
    by_cases h : at_ < B.length
    · rw [if_pos h] at hT hN hA ⊢
      rw [List.flatMap_cons, List.append_assoc] at hN hA ⊢
      have hT0 := hT (tok B at_) (by simp)
      rw [List.length_append] at hN ⊢
      have hs := tok_step hB h hlim hT0.1 hT0.2 (by omega) hA.left
      have hbd := tok_bd B at_ h
      have hle : at_ + max 1 (tok B at_).2.1 ≤ B.length := by
        rcases hbd with h' | ⟨n, d, h', g1, g2, g3, _⟩
        · rw [h']; show at_ + 1 ≤ _; omega
        · rw [h']; show at_ + max 1 n ≤ _; omega
      have hr := ih (at_ + max 1 (tok B at_).2.1) (a + (tkg cl cs (tok B at_)).length) (by omega) hle (fun t ht => hT t (by simp [ht])) (by omega) hA.right
      rw [Nat.add_assoc] at hr
      exact .go hs hr
    · rw [if_neg h] at hT hN hA ⊢
      obtain rfl : at_ = B.length := by omega
      rw [List.flatMap_nil, List.nil_append] at hN hA ⊢
      exact hend a hN hA
end
end Go.Proofs.Ytakgoflfcgofdaa

set_option linter.unusedVariables false
set_option linter.unusedSimpArgs false
namespace Go.Proofs.Ytakgoflfcgofdaa
open Sx Go
attribute [local irreducible] syA fc tk cds
theorem fx_coded {bt : Nat → Int} {N : Nat} (hb : ∀ j, bt j = 0 ∨ bt j = 1) (k : Nat) (hk : k < 288) : CODED bt N (tab 288 fixF) fxS k := by
  intro a hN hA
  obtain ⟨x, h1, h2, h3, _⟩ := fx_at k hk
  have hc : fxC.getD k 0 = cd fxB k := by
    unfold fxC
    rw [cds_get fxB fxB_okl.2.1 k (by rw [fxB_len]; exact hk), if_pos (by omega)]
  have e : fxS k = bms (cd fxB k) x := by unfold fxS; rw [h1, Int.toNat_natCast, hc]
  rw [e, bms_ln] at hN ⊢
  rw [e] at hA
  rw [fxB_eq]
  exact sym_bits fxB_okb fxB_okl hb (by rw [fxB_len]; exact hk) (by omega) h1 hN hA
theorem sp_coded {bt : Nat → Int} {N : Nat} (hb : ∀ j, bt j = 0 ∨ bt j = 1) (k : Nat) (hk : k < 32) : CODED bt N (List.replicate 32 5) spS k := by
  intro a hN hA
  obtain ⟨h1, _⟩ := sp_at k hk
  have hc : spC.getD k 0 = cd spB k := by
    unfold spC
    rw [cds_get spB spB_okl.2.1 k (by rw [spB_len]; exact hk), if_pos (by rw [h1]; decide)]
  have e : spS k = bms (cd spB k) 5 := by unfold spS; rw [hc]
  rw [e, bms_ln] at hN ⊢
  rw [e] at hA
  rw [spB_eq]
  exact sym_bits spB_okb spB_okl hb (by rw [spB_len]; exact hk) (by omega) h1 hN hA
theorem TOK_ts {t : Int × Nat × Nat} (h : TOK t) : ts1 t < 286 ∧ ts2 t < 30 := by
  have hz : (spanS ((0 : Nat) : Int)).1.toNat = 0 := by decide +kernel
  unfold ts1 ts2
  rcases h with ⟨h1, h2, h3, h4⟩ | ⟨h1, h2, h3, h4, h5⟩
  · rw [if_pos h4, h4, hz]; omega
  · rw [if_neg (by omega)]
    obtain ⟨s, b, r, e, a1, a2, a3, _⟩ := lenS_bd t.2.1 (by omega) (by omega)
    obtain ⟨s', b', r', e', a1', a3', _⟩ := spanS_bd t.2.2 (by omega) (by omega)
    rw [e, e']
    simp only [Int.toNat_natCast]
    omega
theorem pack_at (L S : List Int) (hL : ∀ j, L.getD j 0 = 0 ∨ L.getD j 0 = 1) : AtB (bitB (pack L ++ S) 0) 0 L := by
  intro j hj
  have h := pack_bit L hL 0 j
  unfold bitB at h ⊢
  rw [Nat.zero_add] at h ⊢
  rw [Nat.zero_add, List.getD_eq_getElem?_getD, List.getElem?_append_left (by rw [pack_len]; omega), ← List.getD_eq_getElem?_getD, h]
/-- a fixed block is read as the text, whatever stands behind -/
theorem ALLR_fix {B S : List Int} {lim : Nat} (hB : OKB B) (hl : B.length ≤ lim) : ALLR (pack (fixL B) ++ S) lim (.ok (fixL B).length B) := by
  have hb := bitB_01 (pack (fixL B) ++ S) 0
  have hA := pack_at (fixL B) S (fixL_01 B)
  have hlen : (fixL B).length ≤ 8 * (pack (fixL B) ++ S).length := by rw [List.length_append, pack_len]; omega
  unfold ALLR
  obtain ⟨N, hN⟩ : ∃ N, 8 * (pack (fixL B) ++ S).length = N := ⟨_, rfl⟩
  obtain ⟨bt, hbt⟩ : ∃ bt, bitB (pack (fixL B) ++ S) 0 = bt := ⟨_, rfl⟩
  rw [hN] at hlen ⊢
  rw [hbt] at hb hA ⊢
  have hfix : fixL B = grp 1 1 ++ (grp 1 2 ++ ((toks B B.length 0).flatMap (tkg fxS spS) ++ fxS 256)) := by
    unfold fixL; simp only [List.append_assoc]; rfl
  rw [hfix] at hA hlen ⊢
  have b1 := hA.left
  have b2 := hA.right.left
  have b3 := hA.right.right
  simp only [grp_len, Nat.zero_add] at b1 b2 b3
  have v1 := nbt_at (k := 1) ⟨by decide, by decide⟩ b1
  have v2 := nbt_at (k := 2) ⟨by decide, by decide⟩ b2
  obtain ⟨M, hM⟩ : ∃ M, (toks B B.length 0).flatMap (tkg fxS spS) ++ fxS 256 = M := ⟨_, rfl⟩
  rw [hM] at b3 hlen ⊢
  simp only [List.length_append, grp_len] at hlen ⊢
  have hIt := toks_It (bt := bt) (N := N) (L := tab 288 fixF) (D := List.replicate 32 5) (cl := fxS) (cs := spS) hB hl (fx_coded hb 256 (by omega)) B.length 0 3 (by omega) (by omega)
    (fun t ht => by have := TOK_ts (toks_TOK hB _ _ t ht); exact ⟨fx_coded hb _ (by omega), fun _ => sp_coded hb _ (by omega)⟩) (by rw [hM]; omega) (by rw [hM]; exact b3)
  rw [hM, List.take_zero] at hIt
  have hk : kndF bt N lim 1 (0 + 3) [] = .ok (3 + M.length) B := by
    unfold kndF
    rw [if_neg (by decide), if_pos rfl]
    exact itF_of hIt
  refine .stop ?_
  unfold rdF
  rw [if_neg (by omega), if_neg (by omega), show (0 : Nat) + 1 = 1 from rfl, v2, hk]
  simp only []
  rw [v1, if_neg (by decide)]
  congr 1
  omega
/-- the best stream is read as the text, whatever stands behind -/
theorem ALLR_best {B S : List Int} {lim : Nat} (hB : OKB B) (hS : OKB (sbs B ++ S)) (hl : B.length ≤ lim) : ∃ a, (a + 7) / 8 = (bestB B).length ∧ ALLR (bestB B ++ S) lim (.ok a B) := by
  unfold bestB
  split
  · exact ⟨_, by omega, ALLR_sbs hS hl⟩
  · exact ⟨_, (pack_len _).symm, ALLR_fix hB hl⟩
end Go.Proofs.Ytakgoflfcgofdaa

set_option linter.unusedVariables false
namespace Sx
open Go
/-! an assertion with a value that is not told -/
def anyA {ι : Type} (f : ι → Asn) : Asn where
  holds w fp := ∃ i, (f i).holds w fp
  frame w w' fp h hk := h.elim fun i h => ⟨i, (f i).frame w w' fp h hk⟩
  live w fp h := h.elim fun i h => (f i).live w fp h
section
variable {P : Program} {n : Nat} {D : List Deferred} {w0 : World} {ov : Ov} {Hi H : List Asn} {K : KC}
  {Z : Array Oper × List Nat} {l : List Oper} {d : Option Nat} {T : Nat} {pos : String} {af : Array Edge} {g : Option (Nat × Bool)} {v : Value} {op : Op} {o : Oper} {ι : Type} {f : ι → Asn}
theorem St.any {w : World} (i : ι) (h : St w0 (f i :: H) w) : St w0 (anyA f :: H) w := by
  refine (St.conv (H := H) (bs := [anyA f]) (show St w0 ([f i] ++ H) w from h) ?_)
  rintro fp ⟨f1, f2, e, h1, h2⟩
  exact ⟨f1, f2, e, ⟨i, h1⟩, h2⟩
theorem St.any_out {w : World} (h : St w0 (anyA f :: H) w) : ∃ i, St w0 (f i :: H) w := by
  obtain ⟨fp, h1, h2, f1, f2, e, ⟨i, h3⟩, h4⟩ := h.own
  exact ⟨i, h.os, h.tape, h.output, h.size, h.old, fp, h1, h2, f1, f2, e, h3, h4⟩
theorem OpV_any (h : ∀ i, OpV P n D w0 ov (f i :: H) o v) (i0 : ι) : OpV P n D w0 ov (anyA f :: H) o v := by
  unfold OpV at *
  refine ⟨(h i0).1, fun a w ha hw => ?_⟩
  obtain ⟨i, hi⟩ := hw.any_out
  exact (h i).2 a w ha hi
theorem QO2_e {κ : Type} {v : κ → Value} {H' : κ → List Asn} (h : OpE P n D w0 ov H ⟨d, op, T, pos, af, g⟩ v H') (hlo : loud op = true) (hI : ∀ c w, St w0 (H' c) w → St w0 Hi w) (hn : ∀ c, QR2 P n D w0 Z l (put d (v c) ov) Hi (H' c) K) : QO2 P n D w0 Z ⟨d, op, T, pos, af, g⟩ l ov Hi H K := by
  unfold QO2
  intro a ha
  refine .inr ⟨hlo, fun w hw => ?_⟩
  obtain ⟨hd, h⟩ := h
  obtain ⟨c, w', hrun, hw'⟩ := h a w ha hw
  simp only [Oper.wpN, hrun, Oper.upN]
  refine ⟨St w0 Hi, St w0 (H' c), hw', hI c, .inl fun _ h => h, ?_⟩
  have := hn c
  unfold QR2 at this
  exact this _ (ha.put hd _)
theorem QO2_kS {H' : List Asn} (hlo : loud op = true) (h : OpK P n D w0 ov H ⟨d, op, T, pos, af, g⟩ H') (hs : Z.2.contains l.length = true) (hn : QR2 P n D w0 Z l (put d undef ov) H' H' K) : QO2 P n D w0 Z ⟨d, op, T, pos, af, g⟩ l ov Hi H K := by
  unfold QO2
  intro a ha
  unfold OpK at h
  refine .inr ⟨hlo, fun w hw => ?_⟩
  obtain ⟨w', hrun, hw'⟩ := h.2 a w ha hw
  simp only [Oper.wpN, hrun, Oper.upN]
  refine ⟨St w0 H', St w0 H', hw', fun _ h => h, .inr hs, ?_⟩
  unfold QR2 at hn
  exact hn _ (ha.put h.1 undef)
end
end Sx
namespace Go.Proofs.Ytakgoflfcgofdaa
open Sx Go
theorem aK2S {n : Nat} {D : List Deferred} {w0 : World} {ov : Ov} {Hi H H' : List Asn} {K : KC} {Z : Array Oper × List Nat} {l : List Oper} {d : Option Nat} {T : Nat} {pos : String} {af : Array Edge} {g : Option (Nat × Bool)} {op : Op}
    (hs : Z.2.contains l.length = true) (hn : QR2 Try.prog n D w0 Z l (put d undef ov) H' H' K) (h : OpK Try.prog n D w0 ov H ⟨d, op, T, pos, af, g⟩ H' := by first | exact K_store (tb := tb) rfl rfl (by repeat (first | apply Upd.here | apply Upd.there)) rfl rfl rfl (by repeat (first | exact trivial | refine ⟨rfl, ?_⟩)) rfl rfl | exact K_storeC1 (tb := tb) rfl rfl ints_set (by repeat (first | apply Upd.here | apply Upd.there)) rfl rfl (by rw [ints_len]; omega) rfl) (hlo : loud op = true := by rfl) : QO2 Try.prog n D w0 Z ⟨d, op, T, pos, af, g⟩ l ov Hi H K := QO2_kS hlo h hs hn
end Go.Proofs.Ytakgoflfcgofdaa

namespace Go.Proofs.Ytakgoflfcgofdaa
open Sx Go
set_option linter.unusedVariables false
set_option linter.unusedSimpArgs false
attribute [local irreducible] syA fc tk cds
theorem bitB_drop (B : List Int) (m n : Nat) (hm : B.length = m) : (fun j => ((bitsL B m).drop n).getD j 0) = bitB B n := by
  funext j
  rw [List.getD_eq_getElem?_getD, List.getElem?_drop, ← List.getD_eq_getElem?_getD]
  rcases Nat.lt_or_ge (n + j) (8 * m) with h | h
  · rw [bitsL_get B m (n + j) h]; simp [bitB]
  · rw [List.getD_eq_getElem?_getD, List.getElem?_eq_none (by rw [bitsL_len]; exact h)]
    unfold bitB
    rw [List.getD_eq_getElem?_getD (l := B), List.getElem?_eq_none (by omega)]; simp
section
variable {w0 : World} {H : List Asn}
/-- lengths that can't be a set's -/
theorem RBad_c (p : Option Addr) (c n : Nat) (L : List Int) (hr : Rd w0 H (.slice p n c) n (ints .u8 L)) (hL : L.length = n) (hB : OKB L) (hn : n ≤ 140737488355328) (w : World) (hw : St w0 H w) :
    Calls Try.prog 88 #[.slice p n c] w fun e w' => ∃ b : Bool, e = .returned (.bool b) ∧ (b = true ↔ ¬ OKL L) ∧ St w0 H w' := by
  refine enter (vs := [.slice p n c]) Try.func88 rfl rfl rfl hw ?_
  repeat (first | (refine sx ?_; try intro _))
  refine JO_call Try.call86 rfl rfl fun w hw => (RCheck5_c p c n L hr hL hB hn w hw).mono ?_
  rintro e w' ⟨r, o, rfl, hw', h⟩
  refine ⟨_, rfl, _, hw', ?_⟩
  clear hw' hw w w'
  repeat (first | (refine sx ?_; try intro _))
  refine JS_ret Try.func88 rfl rfl fun w hw => ⟨_, rfl, ?_, hw⟩
  subst hL
  rcases h with ⟨h, rfl, _⟩ | ⟨h1, h2, h3, rfl, _⟩ | ⟨h1, h2, h3, rfl, _⟩
  · refine ⟨fun _ h' => ?_, fun _ => rfl⟩
    rcases h with h | ⟨j, h⟩
    · have := h'.1; omega
    · have := h'.2.1 j; omega
  · exact ⟨fun _ h' => h3 h'.2.2, fun _ => rfl⟩
  · exact ⟨fun h => absurd h (by decide), fun h => absurd ⟨h1, h2, h3⟩ h⟩
variable {bs : Nat} {q : Option Addr} {d m : Nat} {B : List Int} {lim : Nat} {po : Option Addr} {co : Nat} {o : List Int}
theorem RSymE_c (v : Value) (a : Nat) (E : Int) (hE : E ≠ 0) (w : World) (hw : St w0 (strL bs q d m B lim a po co o E H) w) :
    Calls Try.prog 84 #[.pointer (some ⟨bs, 0, none⟩), v] w fun e w' => e = .returned (.int .i64 0) ∧ St w0 (strL bs q d m B lim a po co o E H) w' := by
  refine enter (vs := [.pointer (some ⟨bs, 0, none⟩), v]) Try.func84 rfl rfl rfl hw ?_
  repeat (first | (refine sx ?_; try intro _))
  exact JS_ret Try.func84 rfl rfl fun w hw => ⟨rfl, hw⟩
set_option maxHeartbeats 1000000 in
theorem RSym_c (hK : InfK m B lim) (a : Nat) (ha : a ≤ 8 * m) (hm2 : m ≤ 17592186044410) (p : Option Addr) (c n : Nat) (L : List Int) (hr : Rd w0 H (.slice p n c) n (ints .u8 L)) (hL : L.length = n) (hB : OKB L) (hk : OKL L) (w : World) (hw : St w0 (strL bs q d m B lim a po co o 0 H) w) :
    Calls Try.prog 84 #[.pointer (some ⟨bs, 0, none⟩), .slice p n c] w fun e w' =>
      symP (bitB B 0) m L a (fun r => r ≠ 0 ∧ e = .returned (.int .i64 0) ∧ ∃ a', St w0 (strL bs q d m B lim a' po co o r H) w') (fun i a1 => e = .returned (.int .i64 i) ∧ St w0 (strL bs q d m B lim a1 po co o 0 H) w') := by
  refine enter (vs := [.pointer (some ⟨bs, 0, none⟩), .slice p n c]) Try.func84 rfl rfl rfl hw ?_
  have hbl := bitsL_len B m
  have hcap : ∀ w, St w0 (strL bs q d m B lim a po co o 0 H) w → 8 * m ≤ d := fun w hw => by
    have := (Rd.lcap (vec_rd (e := 5) (size := 1) (v := .slice q (8 * m) d) (n := 8 * m) (cs := ints .u8 (bitsL B m)) (by repeat (first | apply List.Mem.head | apply List.Mem.tail))) hw).1; omega
  repeat (first | (apply gJR; first | (refine sx ?_; try intro _)) | (apply gJO; first | (refine sx ?_; try intro _)) | (apply gQR; first | (refine sx ?_; try intro _)) | (apply gQO; first | refine QO_v rfl (V_slice (tb := tb) (lo := a) (hi := 8 * m) rfl rfl rfl rfl rfl (by rfl) (by omega) (fun w hw => ⟨by omega, hcap w hw⟩) rfl) ?_ | first | (refine sx ?_; try intro _)) | (apply gJS; first | (refine sx ?_; try intro _)))
  have hrs := Rd_sub (lo := a) (hi := 8 * m) (sz := 1) (vec_rd (w0 := w0) (H := strL bs q d m B lim a po co o 0 H) (e := 5) (size := 1) (v := .slice q (8 * m) d) (n := 8 * m) (cs := ints .u8 (bitsL B m)) (by repeat (first | apply List.Mem.head | apply List.Mem.tail))) (by omega) (by omega)
  simp only [Nat.mul_one, ints_drop, ints_take] at hrs
  rw [List.take_of_length_le (by rw [List.length_drop]; omega)] at hrs
  have hbd := bitB_drop B m a hK.hm
  have hr' : Rd w0 (strL bs q d m B lim a po co o 0 H) (.slice p n c) n (ints .u8 L) := Rd_weak hr fun w hw => St.sub (by repeat (first | exact List.Sublist.refl _ | apply List.Sublist.cons_cons | apply List.Sublist.cons)) hw
  refine QO_call Try.call97 rfl rfl fun w hw => (RRead_c p _ c _ n (8 * m - a) L _ hr' hL hB hk hrs (by rw [List.length_drop]; omega) (fun j => by rw [show ((bitsL B m).drop a).getD j 0 = bitB B a j from congrFun hbd j]; exact bitB_01 _ _ _) (by omega) w hw).mono ?_
  rintro e w' ⟨i, u, r, rfl, hw', hrd⟩
  refine ⟨_, rfl, _, hw', .inl fun w hw => hw, ?_⟩
  clear hw' hw w w' hrs
  rw [hbd, ← bitB_fun] at hrd
  have hsy := symS_of hB hk (bitB_01 B 0) hrd
  have hu : u ≤ 8 * m - a := by
    rcases hrd with ⟨j, rfl, _, ⟨n', hj, h0, hn, hle, _⟩, hu⟩ | ⟨_, _, ⟨_, h, _⟩ | ⟨_, _, h, _⟩ | ⟨_, _, ⟨_, h, _⟩ | ⟨h0, h, _⟩⟩⟩
    · rw [hu] at hn; omega
    · omega
    · omega
    · omega
    · omega
  have hi : r = 0 → 0 ≤ i ∧ i < L.length ∧ 0 < u := by
    intro hr0
    rcases hrd with ⟨j, rfl, _, ⟨n', hj, h0, hn, _⟩, hu⟩ | ⟨_, _, h | h | ⟨_, _, h | h⟩⟩
    · rw [hu] at hn; omega
    · omega
    · omega
    · omega
    · omega
  have hi0 : r ≠ 0 → i = 0 := by
    intro hr0
    rcases hrd with ⟨j, rfl, h, _⟩ | ⟨_, h, _⟩
    · exact absurd h hr0
    · exact h
  repeat (first | (refine sx ?_; try intro _))
  refine JS_ret Try.func84 rfl rfl fun w hw => ?_
  unfold symP
  rw [hsy]
  by_cases h0 : r = 0
  · subst h0
    rw [if_pos rfl]
    obtain ⟨g1, g2, g3⟩ := hi rfl
    exact ⟨g1, g2, by omega, by omega, rfl, hw⟩
  · rw [if_neg h0, hi0 h0]
    exact ⟨h0, rfl, a + u, hw⟩
/-- what a piece of the reference does to its memory -/
def RP (w0 : World) (bs : Nat) (q : Option Addr) (d m : Nat) (B : List Int) (lim : Nat) (H : List Asn) (r : Res) (w' : World) : Prop :=
  resP r (fun r => r ≠ 0 ∧ ∃ a po co o, St w0 (strL bs q d m B lim a po co o r H) w') (fun a' o' => a' ≤ 8 * m ∧ o'.length ≤ lim ∧ ∃ po co, St w0 (strL bs q d m B lim a' po co o' 0 H) w')
end
end Go.Proofs.Ytakgoflfcgofdaa

namespace Go.Proofs.Ytakgoflfcgofdaa
open Sx Go
set_option linter.unusedVariables false
set_option linter.unusedSimpArgs false
attribute [local irreducible] syA fc tk cds
theorem byts_succ (bt : Nat → Int) (a n : Nat) : byts bt a (n + 1) = byts bt a n ++ [nbt bt (a + 8 * n) 8] := by simp [byts, List.range_succ]
section
variable {w0 : World} {H : List Asn} {bs : Nat} {q : Option Addr} {d m : Nat} {B : List Int} {lim : Nat} {po : Option Addr} {co : Nat} {o : List Int}
set_option maxRecDepth 10000 in
set_option maxHeartbeats 2000000 in
theorem RSto_c (hK : InfK m B lim) (a : Nat) (ha : a ≤ 8 * m) (hm2 : m ≤ 17592186044410) (ho : o.length ≤ lim) (w : World) (hw : St w0 (strL bs q d m B lim a po co o 0 H) w) :
    Calls Try.prog 60 #[.pointer (some ⟨bs, 0, none⟩)] w fun e w' => e = .returned (.tuple #[]) ∧ RP w0 bs q d m B lim H (stoF (bitB B 0) (8 * m) lim a o) w' := by
  have hl := hK.hl
  have hbl := bitsL_len B m
  have hu := upto8_le ha
  have hu8 := upto8_8 a
  refine enter (vs := [.pointer (some ⟨bs, 0, none⟩)]) Try.func60 rfl rfl rfl hw ?_
  unfold stoF RP
  repeat (first | (refine sx ?_; try intro _))
  refine JO_call Try.call83 rfl rfl fun w hw => (RUp_c a (by omega) w hw).mono ?_
  rintro e w' ⟨rfl, hw'⟩
  refine ⟨_, rfl, _, hw', ?_⟩
  clear hw' hw w w'
  generalize upto8 a = u at *
  obtain ⟨n, hn⟩ := Int.eq_ofNat_of_zero_le (nbt_bd (bitB B 0) (bitB_01 B 0) u 16).1
  have hn1 := (nbt_bd (bitB B 0) (bitB_01 B 0) u 16).2
  obtain ⟨x, hx⟩ := Int.eq_ofNat_of_zero_le (nbt_bd (bitB B 0) (bitB_01 B 0) (u + 16) 16).1
  have hx1 := (nbt_bd (bitB B 0) (bitB_01 B 0) (u + 16) 16).2
  have hp16 : (2 : Int) ^ 16 = 65536 := by decide
  rw [hn, hp16] at hn1
  rw [hx, hp16] at hx1
  rw [hn, hx]
  repeat (first | (refine sx ?_; try intro _))
  refine JO_call Try.call59 rfl rfl fun w hw => (RGrp4_c hK u 16 (by omega) (by omega) hm2 w hw).mono ?_
  rintro e w' (⟨h, rfl, hw'⟩ | ⟨h1, he, hw'⟩)
  · refine ⟨_, rfl, _, hw', ?_⟩
    clear hw' hw w w'
    repeat (first | (refine sx ?_; try intro _))
    refine JO_call Try.call59 rfl rfl fun w hw => (RGrpE_c 16 u 20 (by decide) w hw).mono ?_
    rintro e w' ⟨rfl, hw'⟩
    refine ⟨_, rfl, _, hw', ?_⟩
    clear hw' hw w w'
    repeat (first | (apply gJS; apply JS_loop') | first | (refine sx ?_; try intro _))
    refine JS_fin Try.func60 rfl rfl fun w hw => ⟨rfl, ?_⟩
    rw [if_pos h]
    exact ⟨by decide, _, _, _, _, hw⟩
  rw [hn] at he; subst he
  refine ⟨_, rfl, _, hw', ?_⟩
  clear hw' hw w w'
  rw [if_neg (by omega)]
  repeat (first | (refine sx ?_; try intro _))
  refine JO_call Try.call59 rfl rfl fun w hw => (RGrp4_c hK (u + 16) 16 (by omega) (by omega) hm2 w hw).mono ?_
  rintro e w' (⟨h, rfl, hw'⟩ | ⟨h2, he, hw'⟩)
  · refine ⟨_, rfl, _, hw', ?_⟩
    clear hw' hw w w'
    rcases Nat.eq_zero_or_pos n with hn0 | hn0
    all_goals (repeat (first | (apply gJS; apply JS_loop') | first | (refine sx ?_; try intro _)))
    all_goals (refine JS_fin Try.func60 rfl rfl fun w hw => ⟨rfl, ?_⟩)
    all_goals (rw [if_pos (by omega)]; exact ⟨by decide, _, _, _, _, hw⟩)
  rw [hx] at he; subst he
  refine ⟨_, rfl, _, hw', ?_⟩
  clear hw' hw w w'
  rw [if_neg (by omega)]
  by_cases h3 : (n : Int) + x ≠ 65535
  · rcases Nat.eq_zero_or_pos n with hn0 | hn0
    all_goals (repeat (first | (apply gJS; apply JS_loop') | first | (refine sx ?_; try intro _)))
    all_goals (refine JS_fin Try.func60 rfl rfl fun w hw => ⟨rfl, ?_⟩)
    all_goals (rw [if_pos h3]; exact ⟨by decide, _, _, _, _, hw⟩)
  rw [if_neg h3]
  have h3' : (n : Int) + x = 65535 := by omega
  by_cases h4 : (lim : Int) - o.length < n
  · have hn0 : 0 < n := by omega
    repeat (first | (apply gJS; apply JS_loop') | first | (refine sx ?_; try intro _))
    refine JS_fin Try.func60 rfl rfl fun w hw => ⟨rfl, ?_⟩
    rw [if_pos h4]; exact ⟨by decide, _, _, _, _, hw⟩
  rw [if_neg h4]
  by_cases h5 : ((8 * m : Nat) : Int) < u + 32 + 8 * n
  · have hn0 : 0 < n := by omega
    repeat (first | (apply gJS; apply JS_loop') | first | (refine sx ?_; try intro _))
    refine JS_fin Try.func60 rfl rfl fun w hw => ⟨rfl, ?_⟩
    rw [if_pos h5]; exact ⟨by decide, _, _, _, _, hw⟩
  rw [if_neg h5, Int.toNat_natCast]
  repeat (first | (apply gJR; first | (refine sx ?_; try intro _)) | (apply gJO; first | (refine sx ?_; try intro _)) | (apply gQR; first | (refine sx ?_; try intro _)) | (apply gQO; first | (refine sx ?_; try intro _)) | apply JS_seq | apply JS_region | refine JS_draw [] (by kernel_rfl) (by kernel_rfl) (by decide +kernel) ?_ | refine JS_condF rfl ?_ | refine JS_cond_F rfl (by omega) ?_ | apply JS_skip)
  refine JS_block ?_
  refine JS_loop3 (fun (i : Nat) (p : Option Addr) (c : Nat) => [(0, .pointer (some ⟨bs, 0, none⟩)), (2, .int .i64 n), (4, .int .i64 i)]) (fun i p c => strL bs q d m B lim (u + 32 + 8 * i) p c (o ++ byts (bitB B 0) (u + 32) i) 0 H)
    (fun i _ _ => i ≤ n) (fun i _ _ => n - i) 0 po co (Nat.zero_le _) (by repeat (first | exact trivial | refine ⟨rfl, ?_⟩ | refine ⟨lookI rfl (by omega), ?_⟩)) (fun _ h => by rw [show byts (bitB B 0) (u + 32) 0 = [] from rfl, List.append_nil]; exact h) ?_
  intro i p c hi again
  by_cases hin : i < n
  · have hcs : o ++ byts (bitB B 0) (u + 32) (i + 1) = (o ++ byts (bitB B 0) (u + 32) i) ++ [nbt (bitB B 0) (u + 32 + 8 * i) 8] := by rw [byts_succ, List.append_assoc]
    have hlen : (o ++ byts (bitB B 0) (u + 32) i).length ≤ lim := by rw [List.length_append, byts_len]; omega
    generalize o ++ byts (bitB B 0) (u + 32) i = L at *
    repeat (first | (apply gJR; first | (refine sx ?_; try intro _)) | (apply gJO; first | (refine sx ?_; try intro _)) | apply JS_seq | apply JS_region | apply JS_block | refine JS_condT rfl ?_ | refine JS_cond_T rfl (by omega) ?_ | apply JS_skip)
    refine JS_order2 [anyA fun (x : Int) => blk bs [.slice q (8 * m) d, .int .i64 x, .slice p L.length c, .int .i64 lim, .int .i64 0]] [0, 1, 2, 3, 4, 5, 6, 7, 8, 9, 10, 11, 12] [0]
      (fun w hw => St.any (f := fun (x : Int) => blk bs [.slice q (8 * m) d, .int .i64 x, .slice p L.length c, .int .i64 lim, .int .i64 0]) ((u + 32 + 8 * i : Nat) : Int) (St.sub (by repeat (first | exact List.nil_sublist _ | apply List.Sublist.cons_cons | apply List.Sublist.cons)) hw)) (Picks.cons rfl (Picks.cons rfl (Picks.cons rfl (Picks.cons rfl (Picks.cons rfl (Picks.cons rfl (Picks.cons rfl (Picks.cons rfl (Picks.cons rfl (Picks.cons rfl (Picks.cons rfl (Picks.cons rfl (Picks.cons rfl (Picks.nil)))))))))))))) (by kernel_rfl) (by kernel_rfl) rfl (by decide +kernel) ?_
    repeat (first | (apply gQR2; apply QR2_un) | (apply gQO2; first | refine QO2_v rfl (OpV_any (fun x => V_load (tb := tb) rfl (by repeat (first | apply List.Mem.head | apply List.Mem.tail)) rfl rfl rfl rfl) 0) ?_ | refine aQ2 ?_))
    have hby := nbt_bd (bitB B 0) (bitB_01 B 0) (u + 32 + 8 * i) 8
    refine QO2_callE Try.call59 rfl rfl fun w hw => (RGrp4_c hK (u + 32 + 8 * i) 8 (by omega) (by omega) hm2 w hw).mono ?_
    rintro e w' (⟨h, _⟩ | ⟨h6, rfl, hw'⟩)
    · exact absurd h (by omega)
    generalize nbt (bitB B 0) (u + 32 + 8 * i) 8 = y at *
    have hy0 : 0 ≤ y ∧ y < 256 := hby
    refine .inl ⟨_, rfl, [anyA fun (x : Int) => blk bs [.slice q (8 * m) d, .int .i64 x, .slice p L.length c, .int .i64 lim, .int .i64 0]], _, hw', fun w hw => St.any (f := fun (x : Int) => blk bs [.slice q (8 * m) d, .int .i64 x, .slice p L.length c, .int .i64 lim, .int .i64 0]) ((u + 32 + 8 * i + 8 : Nat) : Int) (St.sub (by repeat (first | exact List.nil_sublist _ | apply List.Sublist.cons_cons | apply List.Sublist.cons)) hw), .inl fun w hw => hw, ?_⟩
    clear hw' hw w w'
    repeat (first | (apply gQR2; apply QR2_un) | (apply gQO2; refine aQ2 ?_))
    refine QO2_e (E_buildSlice (tb := tb) rfl rfl rfl rfl rfl rfl rfl rfl rfl) rfl (fun _ w hw => St.any (f := fun (x : Int) => blk bs [.slice q (8 * m) d, .int .i64 x, .slice p L.length c, .int .i64 lim, .int .i64 0]) ((u + 32 + 8 * i + 8 : Nat) : Int) (St.sub (by repeat (first | exact List.nil_sublist _ | apply List.Sublist.cons_cons | apply List.Sublist.cons)) hw)) ?_
    intro p1
    repeat (first | (apply gQR2; apply QR2_un) | (apply gQO2; refine aQ2 ?_))
    refine QO2_e (E_appendB (tb := tb) rfl rfl rfl rfl rfl rfl (by repeat (first | exact Sel.here _ _ | apply Sel.there)) (by first | exact vec_rd (by repeat (first | apply List.Mem.head | apply List.Mem.tail)) | assumption | exact ArgRd.rd (by assumption) _ | (apply Rd_weak; assumption; intro _ hx; exact St.sub (by repeat (first | exact List.Sublist.refl _ | apply List.Sublist.cons_cons | apply List.Sublist.cons)) hx)) (by simp only [ints_len, List.length_cons, List.length_nil]; first | omega | rfl) (by repeat (first | exact trivial | refine ⟨rfl, ?_⟩)) (by omega) (by omega) rfl) rfl (fun _ w hw => St.any (f := fun (x : Int) => blk bs [.slice q (8 * m) d, .int .i64 x, .slice p L.length c, .int .i64 lim, .int .i64 0]) ((u + 32 + 8 * i + 8 : Nat) : Int) (St.sub (by repeat (first | exact List.nil_sublist _ | apply List.Sublist.cons_cons | apply List.Sublist.cons)) hw)) ?_
    intro c1
    repeat (first | (apply gQR2; first | apply QR2_un | apply QR2_nil) | (apply gQO2; first | refine aQ2 ?_ | refine aK2S rfl ?_))
    repeat (first | (refine sx ?_; try intro _))
    exact JS_again3 again (i + 1) c1.1 c1.2 (by omega) (by omega) (by exact ⟨rfl, rfl, rfl, trivial⟩) (fun w hw => by rw [hcs, show u + 32 + 8 * (i + 1) = u + 32 + 8 * i + 8 by omega]; unfold strL; rw [show (L ++ [y]).length = L.length + 1 by simp, ← ints_app1]; have g := vecB_fwd (by repeat (first | exact Sel.here _ _ | apply Sel.there)) hw; exact St.sub (by repeat (first | exact List.Sublist.refl _ | apply List.Sublist.cons_cons | apply List.Sublist.cons)) g)
  · obtain rfl : i = n := by omega
    clear again
    repeat (first | (refine sx ?_; try intro _))
    refine JS_fin Try.func60 rfl rfl fun w hw => ⟨rfl, by omega, ?_, p, c, hw⟩
    rw [List.length_append, byts_len]; omega
end
end Go.Proofs.Ytakgoflfcgofdaa

namespace Sx
open Go
theorem JS_joinQ4 {P : Program} {f n : Nat} {R : Ending → World → Prop} {D : List Deferred} {w0 : World} {k : List Item} {ov : Ov} {H : List Asn} {α β γ δ : Type} {c1 c2 c3 c4 c5 rest : Code} (o : α → β → γ → δ → Ov) (H' : α → β → γ → δ → List Asn) (I : α → β → γ → δ → Prop)
    (cont : ∀ (x1 : α) (x2 : β) (x3 : γ) (x4 : δ), I x1 x2 x3 x4 → JS P f n R D w0 (.code rest :: k) (o x1 x2 x3 x4) (H' x1 x2 x3 x4))
    (h : (∀ (x1 : α) (x2 : β) (x3 : γ) (x4 : δ), I x1 x2 x3 x4 → JS P f n R D w0 (.code rest :: k) (o x1 x2 x3 x4) (H' x1 x2 x3 x4)) → JS P f n R D w0 (.code (.seq c1 (.seq c2 (.seq c3 (.seq c4 (.seq c5 rest))))) :: k) ov H) :
    JS P f n R D w0 (.code (.seq c1 (.seq c2 (.seq c3 (.seq c4 (.seq c5 rest))))) :: k) ov H := h cont
theorem JS_joinQ1 {P : Program} {f n : Nat} {R : Ending → World → Prop} {D : List Deferred} {w0 : World} {k : List Item} {ov : Ov} {H : List Asn} {α : Type} {c1 rest : Code} (o : α → Ov) (H' : α → List Asn) (I : α → Prop)
    (cont : ∀ (x1 : α), I x1 → JS P f n R D w0 (.code rest :: k) (o x1) (H' x1))
    (h : (∀ (x1 : α), I x1 → JS P f n R D w0 (.code rest :: k) (o x1) (H' x1)) → JS P f n R D w0 (.code (.seq c1 rest) :: k) ov H) :
    JS P f n R D w0 (.code (.seq c1 rest) :: k) ov H := h cont
end Sx
namespace Go.Proofs.Ytakgoflfcgofdaa
open Sx Go
set_option linter.unusedVariables false
set_option linter.unusedSimpArgs false
attribute [local irreducible] syA fc tk cds
section
variable {w0 : World} {H : List Asn} {bs : Nat} {q : Option Addr} {d m : Nat} {B : List Int} {lim : Nat} {po : Option Addr} {co : Nat} {o : List Int}
set_option maxRecDepth 10000 in
set_option maxHeartbeats 4000000 in
theorem RBlk_c (hK : InfK m B lim) (a : Nat) (ha : a ≤ 8 * m) (hm2 : m ≤ 17592186044410) (ho : o.length ≤ lim) (p1 p2 : Option Addr) (c1 c2 n1 n2 : Nat) (L D : List Int) (hr1 : Rd w0 H (.slice p1 n1 c1) n1 (ints .u8 L)) (hL : L.length = n1) (hB1 : OKB L) (hk1 : OKL L)
    (hr2 : Rd w0 H (.slice p2 n2 c2) n2 (ints .u8 D)) (hD : D.length = n2) (hB2 : OKB D) (hk2 : OKL D) (w : World) (hw : St w0 (strL bs q d m B lim a po co o 0 H) w) :
    Calls Try.prog 61 #[.pointer (some ⟨bs, 0, none⟩), .slice p1 n1 c1, .slice p2 n2 c2] w fun e w' => e = .returned (.tuple #[]) ∧ ∃ r, It (blkF (bitB B 0) (8 * m) lim L D) a o r ∧ RP w0 bs q d m B lim H r w' := by
  have hl := hK.hl
  have hm1 := hK.hm1
  have hL320 := hk1.1
  have hD320 := hk2.1
  refine enter (vs := [.pointer (some ⟨bs, 0, none⟩), .slice p1 n1 c1, .slice p2 n2 c2]) Try.func61 rfl rfl rfl hw ?_
  refine JS_block ?_
  refine JS_loop4 (fun (a1 : Nat) (o1 : List Int) (p : Option Addr) (c : Nat) => [(0, .pointer (some ⟨bs, 0, none⟩)), (1, .slice p1 n1 c1), (2, .slice p2 n2 c2)]) (fun a1 o1 p c => strL bs q d m B lim a1 p c o1 0 H)
    (fun a1 o1 _ _ => a1 ≤ 8 * m ∧ o1.length ≤ lim ∧ ∀ r, It (blkF (bitB B 0) (8 * m) lim L D) a1 o1 r → It (blkF (bitB B 0) (8 * m) lim L D) a o r) (fun a1 _ _ _ => 8 * m - a1) a o po co ⟨ha, ho, fun _ h => h⟩ (by repeat (first | exact trivial | refine ⟨rfl, ?_⟩ | refine ⟨lookI rfl (by omega), ?_⟩)) (fun _ h => h) ?_
  intro a1 o1 p c ⟨ha1, ho1, hinv⟩ again
  repeat (first | (refine sx ?_; try intro _))
  refine JO_call Try.call84 rfl rfl fun w hw => (RSym_c hK a1 ha1 hm2 p1 c1 n1 L hr1 hL hB1 hk1 w hw).mono ?_
  intro e w' h
  unfold symP at h
  cases hsy : symS (bitB B 0) (8 * m) L a1 with
  | err r =>
    rw [hsy] at h
    obtain ⟨hr0, rfl, a', hw'⟩ := h
    refine ⟨_, rfl, _, hw', ?_⟩
    clear hw' hw w w' again
    repeat (first | (refine sx ?_; try intro _))
    refine JS_ret Try.func61 rfl rfl fun w hw => ⟨rfl, .err r, hinv _ (.err (by unfold blkF; rw [hsy])), hr0, _, _, _, _, hw⟩
  | ok i a2 =>
  rw [hsy] at h
  obtain ⟨hi0, hiL, ha12, ha2, rfl, hw'⟩ := h
  refine ⟨_, rfl, _, hw', ?_⟩
  clear hw' hw w w'
  have hF : blkF (bitB B 0) (8 * m) lim L D a1 o1 = if i = 256 then .stop a2 o1
    else if i < 256 then (if (lim : Int) - o1.length < 1 then .err 64 else .go a2 (o1 ++ [i]))
    else if (lbase i).1 = 0 then .err 62
    else if 8 * m < a2 + (lbase i).2.toNat then .err 20
    else blk2 (bitB B 0) (8 * m) lim D o1 ((lbase i).1 + nbt (bitB B 0) a2 (lbase i).2.toNat) (a2 + (lbase i).2.toNat) := by unfold blkF; rw [hsy]
  by_cases h256 : i = 256
  · rw [if_pos h256] at hF
    clear again
    repeat (first | (refine sx ?_; try intro _))
    exact JS_ret Try.func61 rfl rfl fun w hw => ⟨rfl, .ok a2 o1, hinv _ (.stop hF), ha2, ho1, p, c, hw⟩
  rw [if_neg h256] at hF
  by_cases hlt : i < 256
  · rw [if_pos hlt] at hF
    by_cases h : (lim : Int) - o1.length < 1
    · rw [if_pos h] at hF
      clear again
      repeat (first | (refine sx ?_; try intro _))
      exact JS_ret Try.func61 rfl rfl fun w hw => ⟨rfl, .err 64, hinv _ (.err hF), by decide, _, _, _, _, hw⟩
    · rw [if_neg h] at hF
      repeat (first | (refine sx ?_; try intro _))
      refine JO_app (tb := tb) rfl rfl rfl rfl rfl rfl (by repeat (first | exact Sel.here _ _ | apply Sel.there)) (vec_rd (List.Mem.head _)) rfl (by repeat (first | exact trivial | refine ⟨rfl, ?_⟩)) (by omega) rfl ?_
      intro p3 c3
      repeat (first | (refine sx ?_; try intro _))
      exact JS_again4 again a2 (o1 ++ [i]) p3 c3 ⟨ha2, by simp; omega, fun r hr => hinv r (.go hF hr)⟩ (by omega) (by exact ⟨rfl, rfl, rfl, trivial⟩) (fun w hw => by unfold strL; rw [show (o1 ++ [i]).length = o1.length + 1 by simp, ← ints_app1]; exact St.sub (by repeat (first | exact List.Sublist.refl _ | apply List.Sublist.cons_cons | apply List.Sublist.cons)) hw)
  rw [if_neg hlt] at hF
  repeat (first | (refine sx ?_; try intro _))
  refine JO_call Try.call30 rfl rfl fun w hw => (RBase_c i (by omega) w hw).mono ?_
  rintro e w' ⟨rfl, hw'⟩
  refine ⟨_, rfl, _, hw', ?_⟩
  clear hw' hw w w'
  by_cases hb0 : (lbase i).1 = 0
  · rw [if_pos hb0] at hF
    clear again
    generalize lbase i = lb at *
    repeat (first | (refine sx ?_; try intro _))
    exact JS_ret Try.func61 rfl rfl fun w hw => ⟨rfl, .err 62, hinv _ (.err hF), by decide, _, _, _, _, hw⟩
  rw [if_neg hb0] at hF
  obtain ⟨_, _, g1, g2, g3, g4⟩ := lbase_ok hb0
  obtain ⟨⟨lb1, lb2⟩, hlb⟩ : ∃ x, lbase i = x := ⟨_, rfl⟩
  rw [hlb] at hF hb0 g1 g2 g3 g4 ⊢
  simp only at hF hb0 g1 g2 g3 g4 ⊢
  obtain ⟨k1, rfl⟩ : ∃ k : Nat, lb2 = k := ⟨lb2.toNat, by omega⟩
  simp only [Int.toNat_natCast] at hF
  obtain ⟨hn0, hn1⟩ := nbt_bd (bitB B 0) (bitB_01 B 0) a2 k1
  have hp1 : (2 : Int) ^ k1 ≤ 32 := by
    have : ∀ k : Fin 6, (2 : Int) ^ k.val ≤ 32 := by decide
    exact this ⟨k1, by omega⟩
  obtain ⟨x1, hn1e⟩ := Int.eq_ofNat_of_zero_le hn0
  rw [hn1e] at hF hn1
  repeat (first | (apply gJR; first | (refine sx ?_; try intro _)) | (apply gJO; first | (refine sx ?_; try intro _)))
  apply JS_seq
  apply JS_seq
  apply JS_region
  repeat (first | (apply gJR; first | (refine sx ?_; try intro _)) | (apply gJO; first | (refine sx ?_; try intro _)))
  refine JS_condF rfl ?_
  apply JS_skip
  refine JS_joinQ4 (fun (a4 : Nat) (E : Int) (ln bk : Nat) => [(0, .pointer (some ⟨bs, 0, none⟩)), (1, .slice p1 n1 c1), (2, .slice p2 n2 c2), (9, .int .i64 ln), (13, .int .i64 bk)]) (fun a4 E ln bk => strL bs q d m B lim a4 p c o1 E H)
    (fun a4 E ln bk => 3 ≤ ln ∧ ln ≤ 1000 ∧ bk ≤ 100000 ∧ ((E = 0 ∧ 0 < bk ∧ a4 ≤ 8 * m ∧ a1 < a4 ∧ blkF (bitB B 0) (8 * m) lim L D a1 o1 = if o1.length < bk then .err 63 else if (lim : Int) - o1.length < ln then .err 64 else .go a4 (cpy o1 bk ln)) ∨ (E ≠ 0 ∧ It (blkF (bitB B 0) (8 * m) lim L D) a o (.err E)))) ?_ ?_
  · clear hF hsy
    intro a4 E ln bk ⟨hln1, hln2, hbk2, hmode⟩
    refine JS_joinQ1 (fun (E' : Int) => [(0, .pointer (some ⟨bs, 0, none⟩)), (1, .slice p1 n1 c1), (2, .slice p2 n2 c2), (9, .int .i64 ln), (13, .int .i64 bk)]) (fun E' => strL bs q d m B lim a4 p c o1 E' H)
      (fun E' => (E' = 0 ∧ 0 < bk ∧ a4 ≤ 8 * m ∧ a1 < a4 ∧ bk ≤ o1.length ∧ blkF (bitB B 0) (8 * m) lim L D a1 o1 = if (lim : Int) - o1.length < ln then .err 64 else .go a4 (cpy o1 bk ln)) ∨ (E' ≠ 0 ∧ It (blkF (bitB B 0) (8 * m) lim L D) a o (.err E'))) ?_ ?_
    · clear hmode E
      intro E hmode
      rcases hmode with ⟨rfl, hbk1, ha4, ha14, hbl, hF⟩ | ⟨hE, hIt⟩
      · by_cases h2 : (lim : Int) - o1.length < ln
        · rw [if_pos h2] at hF
          clear again
          repeat (first | (refine sx ?_; try intro _))
          refine JO_call Try.call85 rfl rfl fun w hw => (RFail_c 64 a4 0 w hw).mono ?_
          rintro e w' ⟨rfl, hw'⟩
          rw [if_pos rfl] at hw'
          refine ⟨_, rfl, _, hw', ?_⟩
          clear hw' hw w w'
          (repeat (first | (apply gJS; first | apply JS_loop' | apply JS_inLoop) | first | (refine sx ?_; try intro _)))
          exact JS_fin Try.func61 rfl rfl fun w hw => ⟨rfl, .err 64, hinv _ (.err hF), by decide, _, _, _, _, hw⟩
        · rw [if_neg h2] at hF
          repeat (first | (apply gJR; first | (refine sx ?_; try intro _)) | (apply gJO; first | (refine sx ?_; try intro _)) | (apply gQR; first | (refine sx ?_; try intro _)) | (apply gQO; first | (refine sx ?_; try intro _)) | apply JS_seq | apply JS_region | refine JS_draw [] (by kernel_rfl) (by kernel_rfl) (by decide +kernel) ?_ | refine JS_condF rfl ?_ | refine JS_cond_F rfl (by omega) ?_ | apply JS_skip)
          refine JS_block ?_
          refine JS_loop3 (fun (i : Nat) (p : Option Addr) (c : Nat) => [(0, .pointer (some ⟨bs, 0, none⟩)), (1, .slice p1 n1 c1), (2, .slice p2 n2 c2), (9, .int .i64 ln), (13, .int .i64 bk), (14, .int .i64 i)]) (fun i p c => strL bs q d m B lim a4 p c (cpy o1 bk i) 0 H)
            (fun i _ _ => i ≤ ln) (fun i _ _ => ln - i) 0 p c (Nat.zero_le _) (by repeat (first | exact trivial | refine ⟨rfl, ?_⟩ | refine ⟨lookI rfl (by omega), ?_⟩)) (fun _ h => h) ?_
          intro j p' c' hj again2
          have hcl := cpy_len o1 bk j
          by_cases hil : j < ln
          · clear again
            have hcs : cpy o1 bk (j + 1) = cpy o1 bk j ++ [(cpy o1 bk j).getD ((cpy o1 bk j).length - bk) 0] := rfl
            generalize cpy o1 bk j = L1 at *
            have gi : (ints .u8 L1)[L1.length - bk]? = some (.int .u8 (L1.getD (L1.length - bk) 0)) := ints_get (by omega)
            generalize L1.getD (L1.length - bk) 0 = x at *
            repeat (first | (apply gQO; first | refine QO_v rfl (V_index (tb := tb) (j := L1.length - bk) rfl rfl rfl rfl (Rd.sl (vec_rd (by repeat (first | apply List.Mem.head | apply List.Mem.tail)))) (by omega) (by omega) rfl) ?_ | refine QO_v rfl (V_loadC (tb := tb) rfl (vec_rd (by repeat (first | apply List.Mem.head | apply List.Mem.tail))) rfl rfl gi rfl) ?_ | (refine QO_e (E_buildSlice (tb := tb) rfl rfl rfl rfl rfl rfl rfl rfl rfl) rfl (.inr fun _ _ hw => St.sub (by repeat (first | exact List.Sublist.refl _ | apply List.Sublist.cons_cons | apply List.Sublist.cons)) hw) ?_; intro _) | (refine QO_e (E_appendB (tb := tb) rfl rfl rfl rfl rfl rfl (by repeat (first | exact Sel.here _ _ | apply Sel.there)) (by first | exact vec_rd (by repeat (first | apply List.Mem.head | apply List.Mem.tail)) | assumption | exact ArgRd.rd (by assumption) _ | (apply Rd_weak; assumption; intro _ hx; exact St.sub (by repeat (first | exact List.Sublist.refl _ | apply List.Sublist.cons_cons | apply List.Sublist.cons)) hx)) (by simp only [ints_len, List.length_cons, List.length_nil]; first | omega | rfl) (by first | exact ints_one | (repeat (first | exact trivial | refine ⟨rfl, ?_⟩))) (by omega) (by omega) rfl) rfl (.inr fun _ _ hw => vecB_back (by repeat (first | exact Sel.here _ _ | apply Sel.there)) hw) ?_; intro _)) | (first | (refine sx ?_; try intro _)))
            rename_i p5 c5
            exact JS_again3 again2 (j + 1) c5.1 c5.2 (by omega) (by omega) (by exact ⟨rfl, rfl, rfl, rfl, rfl, rfl, trivial⟩) (fun w hw => by rw [hcs]; unfold strL; rw [show (L1 ++ [x]).length = L1.length + 1 by simp, ← ints_app1]; have g := vecB_fwd (by repeat (first | exact Sel.here _ _ | apply Sel.there)) hw; exact St.sub (by repeat (first | exact List.Sublist.refl _ | apply List.Sublist.cons_cons | apply List.Sublist.cons)) g)
          · obtain rfl : j = ln := by omega
            clear again2
            repeat (first | (refine sx ?_; try intro _))
            exact JS_again4 again a4 (cpy o1 bk j) p' c' ⟨ha4, by omega, fun r hr => hinv r (.go hF hr)⟩ (by omega) (by exact ⟨rfl, rfl, rfl, trivial⟩) (fun w hw => hw)
      · clear again
        by_cases h2 : (lim : Int) - o1.length < ln
        · repeat (first | (refine sx ?_; try intro _))
          refine JO_call Try.call85 rfl rfl fun w hw => (RFail_c 64 a4 E w hw).mono ?_
          rintro e w' ⟨rfl, hw'⟩
          rw [if_neg hE] at hw'
          refine ⟨_, rfl, _, hw', ?_⟩
          clear hw' hw w w'
          (repeat (first | (apply gJS; first | apply JS_loop' | apply JS_inLoop) | first | (refine sx ?_; try intro _)))
          exact JS_fin Try.func61 rfl rfl fun w hw => ⟨rfl, .err E, hIt, hE, _, _, _, _, hw⟩
        · (repeat (first | (apply gJS; first | apply JS_loop' | apply JS_inLoop) | first | (refine sx ?_; try intro _)))
          exact JS_fin Try.func61 rfl rfl fun w hw => ⟨rfl, .err E, hIt, hE, _, _, _, _, hw⟩
    · clear again
      intro K
      by_cases h1 : o1.length < bk
      · repeat (first | (refine sx ?_; try intro _))
        refine JO_call Try.call85 rfl rfl fun w hw => (RFail_c 63 a4 E w hw).mono ?_
        rintro e w' ⟨rfl, hw'⟩
        refine ⟨_, rfl, _, hw', ?_⟩
        clear hw' hw w w'
        repeat (first | (apply gJR; first | (refine sx ?_; try intro _)) | (apply gJO; first | (refine sx ?_; try intro _)))
        rcases hmode with ⟨rfl, hbk1, ha4, ha14, hF⟩ | ⟨hE, hIt⟩
        · rw [if_pos rfl]
          exact JS_to1 K 63 (.inr ⟨by decide, hinv _ (.err (by rw [hF, if_pos h1]))⟩) (by repeat (first | exact trivial | refine ⟨rfl, ?_⟩ | refine ⟨lookI rfl (by omega), ?_⟩)) (fun w hw => hw)
        · rw [if_neg hE]
          exact JS_to1 K E (.inr ⟨hE, hIt⟩) (by repeat (first | exact trivial | refine ⟨rfl, ?_⟩ | refine ⟨lookI rfl (by omega), ?_⟩)) (fun w hw => hw)
      · apply JS_seq
        apply JS_seq
        apply JS_region
        repeat (first | (apply gJR; first | (refine sx ?_; try intro _)) | (apply gJO; first | (refine sx ?_; try intro _)))
        refine JS_condF rfl ?_
        apply JS_skip
        rcases hmode with ⟨rfl, hbk1, ha4, ha14, hF⟩ | ⟨hE, hIt⟩
        · rw [if_neg h1] at hF
          exact JS_to1 K 0 (.inl ⟨rfl, hbk1, ha4, ha14, by omega, hF⟩) (by repeat (first | exact trivial | refine ⟨rfl, ?_⟩ | refine ⟨lookI rfl (by omega), ?_⟩)) (fun w hw => hw)
        · exact JS_to1 K E (.inr ⟨hE, hIt⟩) (by repeat (first | exact trivial | refine ⟨rfl, ?_⟩ | refine ⟨lookI rfl (by omega), ?_⟩)) (fun w hw => hw)
  · clear again
    intro K
    have hf0 : lfar 0 = (1, 0) := by decide
    repeat (first | (refine sx ?_; try intro _))
    refine JO_call Try.call59 rfl rfl fun w hw => (RGrp4_c hK a2 k1 (by omega) ha2 hm2 w hw).mono ?_
    rintro e w' (⟨h, rfl, hw'⟩ | ⟨h1, he, hw'⟩)
    · refine ⟨_, rfl, _, hw', ?_⟩
      clear hw' hw w w'
      rw [if_pos h] at hF
      repeat (first | (refine sx ?_; try intro _))
      refine JO_call Try.call84 rfl rfl fun w hw => (RSymE_c _ a2 20 (by decide) w hw).mono ?_
      rintro e w' ⟨rfl, hw'⟩
      refine ⟨_, rfl, _, hw', ?_⟩
      clear hw' hw w w'
      repeat (first | (refine sx ?_; try intro _))
      refine JO_call Try.call31 rfl rfl fun w hw => (RFar_c 0 (by omega) w hw).mono ?_
      rw [hf0]
      rintro e w' ⟨rfl, hw'⟩
      refine ⟨_, rfl, _, hw', ?_⟩
      clear hw' hw w w'
      repeat (first | (refine sx ?_; try intro _))
      refine JO_call Try.call59 rfl rfl fun w hw => (RGrpE_c 0 a2 20 (by decide) w hw).mono ?_
      rintro e w' ⟨rfl, hw'⟩
      refine ⟨_, rfl, _, hw', ?_⟩
      clear hw' hw w w'
      repeat (first | (apply gJR; first | (refine sx ?_; try intro _)) | (apply gJO; first | (refine sx ?_; try intro _)))
      exact JS_to4 K a2 20 lb1.toNat 1 ⟨by omega, by omega, by omega, .inr ⟨by decide, hinv _ (.err hF)⟩⟩ (by repeat (first | exact trivial | refine ⟨rfl, ?_⟩ | refine ⟨lookI rfl (by omega), ?_⟩)) (fun w hw => hw)
    rw [hn1e] at he; subst he
    refine ⟨_, rfl, _, hw', ?_⟩
    clear hw' hw w w'
    rw [if_neg (by omega)] at hF
    obtain ⟨ln, hln⟩ : ∃ ln : Nat, lb1 + (x1 : Int) = ln := ⟨(lb1 + (x1 : Int)).toNat, by omega⟩
    rw [hln] at hF
    repeat (first | (refine sx ?_; try intro _))
    simp only [hln]
    refine JO_call Try.call84 rfl rfl fun w hw => (RSym_c hK (a2 + k1) h1 hm2 p2 c2 n2 D hr2 hD hB2 hk2 w hw).mono ?_
    intro e w' h
    unfold symP at h
    cases hsy2 : symS (bitB B 0) (8 * m) D (a2 + k1) with
    | err r =>
      rw [hsy2] at h
      obtain ⟨hr0, rfl, a', hw'⟩ := h
      refine ⟨_, rfl, _, hw', ?_⟩
      clear hw' hw w w'
      have hIt := hinv _ (.err (show blkF (bitB B 0) (8 * m) lim L D a1 o1 = .err r by rw [hF]; unfold blk2; rw [hsy2]))
      repeat (first | (refine sx ?_; try intro _))
      refine JO_call Try.call31 rfl rfl fun w hw => (RFar_c 0 (by omega) w hw).mono ?_
      rw [hf0]
      rintro e w' ⟨rfl, hw'⟩
      refine ⟨_, rfl, _, hw', ?_⟩
      clear hw' hw w w'
      repeat (first | (refine sx ?_; try intro _))
      refine JO_call Try.call59 rfl rfl fun w hw => (RGrpE_c 0 a' r hr0 w hw).mono ?_
      rintro e w' ⟨rfl, hw'⟩
      refine ⟨_, rfl, _, hw', ?_⟩
      clear hw' hw w w'
      repeat (first | (apply gJR; first | (refine sx ?_; try intro _)) | (apply gJO; first | (refine sx ?_; try intro _)))
      exact JS_to4 K a' r ln 1 ⟨by omega, by omega, by omega, .inr ⟨hr0, hIt⟩⟩ (by repeat (first | exact trivial | refine ⟨rfl, ?_⟩ | refine ⟨lookI rfl (by omega), ?_⟩)) (fun w hw => hw)
    | ok dd a3 =>
    rw [hsy2] at h
    obtain ⟨hd0, hdD, ha23, ha3, rfl, hw'⟩ := h
    refine ⟨_, rfl, _, hw', ?_⟩
    clear hw' hw w w'
    have hF2 : blk2 (bitB B 0) (8 * m) lim D o1 ln (a2 + k1) = if (lfar dd).1 = 0 then .err 62
      else if 8 * m < a3 + (lfar dd).2.toNat then .err 20
      else if (o1.length : Int) < (lfar dd).1 + nbt (bitB B 0) a3 (lfar dd).2.toNat then .err 63
      else if (lim : Int) - o1.length < ln then .err 64
      else .go (a3 + (lfar dd).2.toNat) (cpy o1 ((lfar dd).1 + nbt (bitB B 0) a3 (lfar dd).2.toNat).toNat (ln : Int).toNat) := by unfold blk2; rw [hsy2]
    rw [hF2] at hF
    clear hF2
    repeat (first | (refine sx ?_; try intro _))
    refine JO_call Try.call31 rfl rfl fun w hw => (RFar_c dd (by omega) w hw).mono ?_
    rintro e w' ⟨rfl, hw'⟩
    refine ⟨_, rfl, _, hw', ?_⟩
    clear hw' hw w w'
    by_cases hz : (lfar dd).1 = 0
    · rw [if_pos hz] at hF
      have hz2 : (lfar dd) = (0, 0) := by
        by_cases h : dd < 0 ∨ 29 < dd
        · unfold lfar; rw [if_pos h]
        · obtain ⟨k, rfl⟩ : ∃ k : Nat, dd = k := ⟨dd.toNat, by omega⟩
          have := lfar_bd k (by omega)
          omega
      rw [hz2]
      clear hz hz2
      repeat (first | (refine sx ?_; try intro _))
      refine JO_call Try.call85 rfl rfl fun w hw => (RFail_c 62 a3 0 w hw).mono ?_
      rw [if_pos rfl]
      rintro e w' ⟨rfl, hw'⟩
      refine ⟨_, rfl, _, hw', ?_⟩
      clear hw' hw w w'
      repeat (first | (refine sx ?_; try intro _))
      refine JO_call Try.call59 rfl rfl fun w hw => (RGrpE_c 0 a3 62 (by decide) w hw).mono ?_
      rintro e w' ⟨rfl, hw'⟩
      refine ⟨_, rfl, _, hw', ?_⟩
      clear hw' hw w w'
      repeat (first | (apply gJR; first | (refine sx ?_; try intro _)) | (apply gJO; first | (refine sx ?_; try intro _)))
      exact JS_to4 K a3 62 ln 0 ⟨by omega, by omega, by omega, .inr ⟨by decide, hinv _ (.err hF)⟩⟩ (by repeat (first | exact trivial | refine ⟨rfl, ?_⟩ | refine ⟨lookI rfl (by omega), ?_⟩)) (fun w hw => hw)
    rw [if_neg hz] at hF
    obtain ⟨_, _, d1, d2, d3, d4⟩ := lfar_ok hz
    obtain ⟨⟨lf1, lf2⟩, hlf⟩ : ∃ x, lfar dd = x := ⟨_, rfl⟩
    rw [hlf] at hF hz d1 d2 d3 d4 ⊢
    simp only at hF hz d1 d2 d3 d4 ⊢
    obtain ⟨k2, rfl⟩ : ∃ k : Nat, lf2 = k := ⟨lf2.toNat, by omega⟩
    simp only [Int.toNat_natCast] at hF
    obtain ⟨hm0, hm1'⟩ := nbt_bd (bitB B 0) (bitB_01 B 0) a3 k2
    have hp2 : (2 : Int) ^ k2 ≤ 8192 := by
      have : ∀ k : Fin 14, (2 : Int) ^ k.val ≤ 8192 := by decide
      exact this ⟨k2, by omega⟩
    obtain ⟨x2, hn2e⟩ := Int.eq_ofNat_of_zero_le hm0
    rw [hn2e] at hF hm1'
    repeat (first | (refine sx ?_; try intro _))
    refine JO_call Try.call59 rfl rfl fun w hw => (RGrp4_c hK a3 k2 (by omega) ha3 hm2 w hw).mono ?_
    rintro e w' (⟨h, rfl, hw'⟩ | ⟨h2, he, hw'⟩)
    · refine ⟨_, rfl, _, hw', ?_⟩
      clear hw' hw w w'
      rw [if_pos h] at hF
      repeat (first | (apply gJR; first | (refine sx ?_; try intro _)) | (apply gJO; first | (refine sx ?_; try intro _)))
      exact JS_to4 K a3 20 ln lf1.toNat ⟨by omega, by omega, by omega, .inr ⟨by decide, hinv _ (.err hF)⟩⟩ (by repeat (first | exact trivial | refine ⟨rfl, ?_⟩ | refine ⟨lookI rfl (by omega), ?_⟩)) (fun w hw => hw)
    rw [hn2e] at he; subst he
    refine ⟨_, rfl, _, hw', ?_⟩
    clear hw' hw w w'
    rw [if_neg (by omega)] at hF
    obtain ⟨bk, hbk⟩ : ∃ bk : Nat, lf1 + (x2 : Int) = bk := ⟨(lf1 + (x2 : Int)).toNat, by omega⟩
    rw [hbk, Int.toNat_natCast] at hF
    repeat (first | (apply gJR; first | (refine sx ?_; try intro _)) | (apply gJO; first | (refine sx ?_; try intro _)))
    refine JS_to4 K (a3 + k2) 0 ln bk ⟨by omega, by omega, by omega, .inl ⟨rfl, by omega, h2, by omega, ?_⟩⟩ (by repeat (first | exact trivial | refine ⟨rfl, ?_⟩ | refine ⟨lookI rfl (by omega), ?_⟩)) (fun w hw => hw)
    rw [hF]
    by_cases h : o1.length < bk
    · rw [if_pos (by omega), if_pos h]
    · rw [if_neg (by omega), if_neg h]
end
end Go.Proofs.Ytakgoflfcgofdaa

namespace Sx
open Go
theorem JS_joinQ46 {P : Program} {f n : Nat} {R : Ending → World → Prop} {D : List Deferred} {w0 : World} {k : List Item} {ov : Ov} {H : List Asn} {α β γ δ : Type} {c1 c2 c3 c4 c5 c6 rest : Code} (o : α → β → γ → δ → Ov) (H' : α → β → γ → δ → List Asn) (I : α → β → γ → δ → Prop)
    (cont : ∀ (x1 : α) (x2 : β) (x3 : γ) (x4 : δ), I x1 x2 x3 x4 → JS P f n R D w0 (.code rest :: k) (o x1 x2 x3 x4) (H' x1 x2 x3 x4))
    (h : (∀ (x1 : α) (x2 : β) (x3 : γ) (x4 : δ), I x1 x2 x3 x4 → JS P f n R D w0 (.code rest :: k) (o x1 x2 x3 x4) (H' x1 x2 x3 x4)) → JS P f n R D w0 (.code (.seq c1 (.seq c2 (.seq c3 (.seq c4 (.seq c5 (.seq c6 rest)))))) :: k) ov H) :
    JS P f n R D w0 (.code (.seq c1 (.seq c2 (.seq c3 (.seq c4 (.seq c5 (.seq c6 rest)))))) :: k) ov H := h cont
end Sx
namespace Go.Proofs.Ytakgoflfcgofdaa
open Sx Go
set_option linter.unusedVariables false
set_option linter.unusedSimpArgs false
attribute [local irreducible] syA fc tk cds
section
variable {w0 : World} {H : List Asn} {bs : Nat} {q : Option Addr} {d m : Nat} {B : List Int} {lim : Nat} {po : Option Addr} {co : Nat} {o : List Int}
theorem strL_in {w : World} {a : Nat} {E : Int} {x : Asn} (h : St w0 (x :: strL bs q d m B lim a po co o E H) w) : St w0 (strL bs q d m B lim a po co o E (x :: H)) w :=
  h.perm (List.perm_append_comm_assoc [x] [_, _, _] H)
set_option maxRecDepth 10000 in
set_option maxHeartbeats 4000000 in
theorem RLens_c (hK : InfK m B lim) (a : Nat) (ha : a ≤ 8 * m) (hm2 : m ≤ 17592186044410) (many : Nat) (hmn : many ≤ 1000) (pC : Option Addr) (cC : Nat) (C : List Int) (hrC : Rd w0 H (.slice pC 19 cC) 19 (ints .u8 C)) (hC : C.length = 19) (hBC : OKB C) (hkC : OKL C) (w : World) (hw : St w0 (strL bs q d m B lim a po co o 0 H) w) :
    Calls Try.prog 87 #[.pointer (some ⟨bs, 0, none⟩), .slice pC 19 cC, .int .i64 many] w fun e w' => ∃ r, It (lenF (bitB B 0) (8 * m) C many) a [] r ∧ resP r (fun r => r ≠ 0 ∧ (∃ v, e = .returned v) ∧ ∃ a', St w0 (strL bs q d m B lim a' po co o r H) w')
      (fun a' l => a' ≤ 8 * m ∧ l.length = many ∧ OKB l ∧ ∃ p c, e = .returned (.slice p many c) ∧ St w0 (strL bs q d m B lim a' po co o 0 (vec 5 1 (.slice p many c) many (ints .u8 l) :: H)) w') := by
  have hl := hK.hl
  have hm1 := hK.hm1
  refine enter (vs := [.pointer (some ⟨bs, 0, none⟩), .slice pC 19 cC, .int .i64 many]) Try.func87 rfl rfl rfl hw ?_
  repeat (first | (apply gJR; first | (refine sx ?_; try intro _)) | (apply gJO; first | (refine sx ?_; try intro _)) | apply JS_seq | apply JS_region)
  refine JS_block ?_
  refine JS_loop4 (fun (a1 : Nat) (l : List Int) (p : Option Addr) (c : Nat) => [(0, .pointer (some ⟨bs, 0, none⟩)), (1, .slice pC 19 cC), (2, .int .i64 many), (7, .slice p l.length c)]) (fun a1 l p c => strL bs q d m B lim a1 po co o 0 (vec 5 1 (.slice p l.length c) l.length (ints .u8 l) :: H))
    (fun a1 l _ _ => a1 ≤ 8 * m ∧ l.length ≤ many ∧ OKB l ∧ ∀ r, It (lenF (bitB B 0) (8 * m) C many) a1 l r → It (lenF (bitB B 0) (8 * m) C many) a [] r) (fun a1 _ _ _ => 8 * m - a1) a [] none 0 ⟨ha, Nat.zero_le _, OKB_nil, fun _ h => h⟩ (by repeat (first | exact trivial | refine ⟨rfl, ?_⟩ | refine ⟨lookI rfl (by omega), ?_⟩)) (fun _ h => strL_in (St.nilvec h)) ?_
  intro a1 l p c ⟨ha1, hll, hOl, hinv⟩ again
  by_cases hmany : many ≤ l.length
  · obtain rfl : many = l.length := by omega
    clear again
    repeat (first | (refine sx ?_; try intro _))
    refine JS_ret Try.func87 rfl rfl ?_
    intro w hw
    exact ⟨.ok a1 l, hinv _ (.stop (by unfold lenF; rw [if_pos (Nat.le_refl _)])), ha1, rfl, hOl, p, c, rfl, hw⟩
  have hrC' : Rd w0 (vec 5 1 (.slice p l.length c) l.length (ints .u8 l) :: H) (.slice pC 19 cC) 19 (ints .u8 C) := Rd_weak hrC fun w hw => St.sub (by repeat (first | exact List.Sublist.refl _ | apply List.Sublist.cons_cons | apply List.Sublist.cons)) hw
  repeat (first | (apply gJR; first | (refine sx ?_; try intro _)) | (apply gJO; first | (refine sx ?_; try intro _)) | apply JS_region | refine JS_condT rfl ?_ | refine JS_cond_T rfl (by omega) ?_)
  apply JS_seq
  apply JS_seq
  apply JS_region
  repeat (first | (apply gJR; first | (refine sx ?_; try intro _)) | (apply gJO; first | (refine sx ?_; try intro _)))
  refine JS_condT rfl ?_
  apply JS_skip
  refine JS_block ?_
  refine JS_joinQ46 (fun (E : Int) (t : Nat) (x : Int) (a3 : Nat) => [(0, .pointer (some ⟨bs, 0, none⟩)), (1, .slice pC 19 cC), (2, .int .i64 many), (7, .slice p l.length c), (9, .int .i64 t), (10, .int .u8 x)])
    (fun E t x a3 => strL bs q d m B lim a3 po co o E (vec 5 1 (.slice p l.length c) l.length (ints .u8 l) :: H))
    (fun E t x a3 => 1 ≤ t ∧ t ≤ 1000 ∧ 0 ≤ x ∧ x < 256 ∧ ((E = 0 ∧ a3 ≤ 8 * m ∧ a1 < a3 ∧ lenF (bitB B 0) (8 * m) C many a1 l = lenP many l x t a3) ∨ (E ≠ 0 ∧ It (lenF (bitB B 0) (8 * m) C many) a [] (.err E)))) ?_ ?_
  · intro E t x a3 ⟨ht0, ht, hx0, hx1, hmode⟩
    by_cases h : (many : Int) < l.length + t
    · clear again
      repeat (first | (refine sx ?_; try intro _))
      refine JO_call Try.call85 rfl rfl fun w hw => (RFail_c 62 a3 E w hw).mono ?_
      rintro e w' ⟨rfl, hw'⟩
      refine ⟨_, rfl, _, hw', ?_⟩
      clear hw' hw w w'
      obtain ⟨E2, hE2, hIt, heq⟩ : ∃ E2 : Int, E2 ≠ 0 ∧ It (lenF (bitB B 0) (8 * m) C many) a [] (.err E2) ∧ (if E = 0 then 62 else E) = E2 := by
        rcases hmode with ⟨rfl, ha4, ha14, hF⟩ | ⟨hE, hIt⟩
        · exact ⟨62, by decide, hinv _ (.err (by rw [hF]; unfold lenP; rw [if_pos h])), rfl⟩
        · exact ⟨E, hE, hIt, if_neg hE⟩
      rw [heq]
      (repeat (first | (apply gJS; first | apply JS_loop' | apply JS_inLoop) | first | (refine sx ?_; try intro _)))
      exact JS_ret Try.func87 rfl rfl fun w hw => ⟨.err E2, hIt, hE2, ⟨_, rfl⟩, a3, St.sub (by repeat (first | exact List.Sublist.refl _ | apply List.Sublist.cons_cons | apply List.Sublist.cons)) hw⟩
    · rcases hmode with ⟨rfl, ha4, ha14, hF⟩ | ⟨hE, hIt⟩
      · have hF : lenF (bitB B 0) (8 * m) C many a1 l = .go a3 (l ++ List.replicate t x) := by rw [hF]; unfold lenP; rw [if_neg h, Int.toNat_natCast]
        repeat (first | (apply gJR; first | (refine sx ?_; try intro _)) | (apply gJO; first | (refine sx ?_; try intro _)) | apply JS_seq | apply JS_region | refine JS_condF rfl ?_ | refine JS_cond_F rfl (by omega) ?_ | apply JS_skip)
        refine JS_block ?_
        refine JS_loop3 (fun (j : Nat) (p : Option Addr) (c : Nat) => [(0, .pointer (some ⟨bs, 0, none⟩)), (1, .slice pC 19 cC), (2, .int .i64 many), (7, .slice p (l.length + j) c), (9, .int .i64 t), (10, .int .u8 x), (11, .int .i64 j)]) (fun j p c => strL bs q d m B lim a3 po co o 0 (vec 5 1 (.slice p (l.length + j) c) (l.length + j) (ints .u8 (l ++ List.replicate j x)) :: H))
          (fun j _ _ => j ≤ t) (fun j _ _ => t - j) 0 p c (Nat.zero_le _) (by repeat (first | exact trivial | refine ⟨rfl, ?_⟩ | refine ⟨lookI rfl (by omega), ?_⟩)) (fun _ h => by rw [show List.replicate 0 x = [] from rfl, List.append_nil]; exact h) ?_
        intro j p' c' hj again2
        by_cases hjt : j < t
        · clear again
          have hcs : l ++ List.replicate (j + 1) x = (l ++ List.replicate j x) ++ [x] := by rw [List.replicate_succ', List.append_assoc]
          have hlen : (l ++ List.replicate j x).length = l.length + j := by simp
          generalize l ++ List.replicate j x = L1 at *
          repeat (first | (refine sx ?_; try intro _))
          refine JO_app (tb := tb) rfl rfl rfl rfl rfl rfl (by repeat (first | exact Sel.here _ _ | apply Sel.there)) (vec_rd (List.Mem.head _)) rfl (by repeat (first | exact trivial | refine ⟨rfl, ?_⟩)) (by omega) rfl ?_
          intro p5 c5
          repeat (first | (refine sx ?_; try intro _))
          exact JS_again3 again2 (j + 1) p5 c5 (by omega) (by omega) (by repeat (first | exact trivial | refine ⟨rfl, ?_⟩ | refine ⟨lookI rfl (by omega), ?_⟩)) (fun w hw => by rw [hcs, ← ints_app1]; exact St.sub (by repeat (first | exact List.Sublist.refl _ | apply List.Sublist.cons_cons | apply List.Sublist.cons)) hw)
        · obtain rfl : j = t := by omega
          clear again2
          repeat (first | (refine sx ?_; try intro _))
          exact JS_again4 again a3 (l ++ List.replicate j x) p' c' ⟨ha4, by simp; omega, OKB_app hOl (OKB_rep ⟨hx0, hx1⟩ j), fun r hr => hinv r (.go hF hr)⟩ (by omega)
            (by rw [List.length_append, List.length_replicate]; exact ⟨rfl, rfl, rfl, rfl, trivial⟩) (fun w hw => by rw [List.length_append, List.length_replicate]; exact hw)
      · clear again
        (repeat (first | (apply gJS; first | apply JS_loop' | apply JS_inLoop) | first | (refine sx ?_; try intro _)))
        exact JS_ret Try.func87 rfl rfl fun w hw => ⟨.err E, hIt, hE, ⟨_, rfl⟩, a3, St.sub (by repeat (first | exact List.Sublist.refl _ | apply List.Sublist.cons_cons | apply List.Sublist.cons)) hw⟩
  · clear again
    intro K
    repeat (first | (refine sx ?_; try intro _))
    refine JO_call Try.call84 rfl rfl fun w hw => (RSym_c hK a1 ha1 hm2 pC cC 19 C hrC' hC hBC hkC w hw).mono ?_
    intro e w' h
    unfold symP at h
    cases hsy : symS (bitB B 0) (8 * m) C a1 with
    | err r =>
      rw [hsy] at h
      obtain ⟨hr0, rfl, a', hw'⟩ := h
      refine ⟨_, rfl, _, hw', ?_⟩
      clear hw' hw w w'
      have hIt := hinv _ (.err (show lenF (bitB B 0) (8 * m) C many a1 l = .err r by unfold lenF; rw [if_neg hmany, hsy]))
      (repeat (first | (apply gJR; first | (refine sx ?_; try intro _)) | (apply gJO; first | (refine sx ?_; try intro _))))
      (apply JS_seq; apply JS_region; repeat (first | (apply gJR; first | (refine sx ?_; try intro _)) | (apply gJO; first | (refine sx ?_; try intro _))))
      (apply JS_seq; apply JS_region; repeat (first | (apply gJR; first | (refine sx ?_; try intro _)) | (apply gJO; first | (refine sx ?_; try intro _))))
      (apply JS_seq; apply JS_seq; apply JS_region; (repeat (first | (apply gJR; first | (refine sx ?_; try intro _)) | (apply gJO; first | (refine sx ?_; try intro _)))); refine JS_condF rfl ?_; apply JS_skip)
      (apply JS_seq; apply JS_seq; apply JS_region; (repeat (first | (apply gJR; first | (refine sx ?_; try intro _)) | (apply gJO; first | (refine sx ?_; try intro _)))); refine JS_condF rfl ?_; apply JS_skip)
      (apply JS_seq; apply JS_seq; apply JS_region; (repeat (first | (apply gJR; first | (refine sx ?_; try intro _)) | (apply gJO; first | (refine sx ?_; try intro _)))); refine JS_condF rfl ?_; apply JS_skip)
      exact JS_to4 K r 1 0 a' ⟨by omega, by omega, by omega, by omega, .inr ⟨hr0, hIt⟩⟩ (by repeat (first | exact trivial | refine ⟨rfl, ?_⟩ | refine ⟨lookI rfl (by omega), ?_⟩)) (fun w hw => hw)
    | ok i a2 =>
    rw [hsy] at h
    obtain ⟨hi0, hiC, ha12, ha2, rfl, hw'⟩ := h
    refine ⟨_, rfl, _, hw', ?_⟩
    clear hw' hw w w'
    have hF : lenF (bitB B 0) (8 * m) C many a1 l = if i = 16 then (if l.length = 0 then .err 62 else if 8 * m < a2 + 2 then .err 20 else lenP many l (l.getD (l.length - 1) 0) (3 + nbt (bitB B 0) a2 2) (a2 + 2))
      else if i = 17 then (if 8 * m < a2 + 3 then .err 20 else lenP many l 0 (3 + nbt (bitB B 0) a2 3) (a2 + 3))
      else if i = 18 then (if 8 * m < a2 + 7 then .err 20 else lenP many l 0 (11 + nbt (bitB B 0) a2 7) (a2 + 7))
      else lenP many l i 1 a2 := by unfold lenF; rw [if_neg hmany, hsy]
    by_cases h16 : i = 16
    · rw [if_pos h16] at hF
      by_cases hl0 : l.length = 0
      · rw [if_pos hl0] at hF
        repeat (first | (refine sx ?_; try intro _))
        refine JO_call Try.call85 rfl rfl fun w hw => (RFail_c 62 a2 0 w hw).mono ?_
        rw [if_pos rfl]
        rintro e w' ⟨rfl, hw'⟩
        refine ⟨_, rfl, _, hw', ?_⟩
        clear hw' hw w w'
        repeat (first | (refine sx ?_; try intro _))
        exact JS_ret Try.func87 rfl rfl fun w hw => ⟨.err 62, hinv _ (.err hF), by decide, ⟨_, rfl⟩, a2, St.sub (by repeat (first | exact List.Sublist.refl _ | apply List.Sublist.cons_cons | apply List.Sublist.cons)) hw⟩
      rw [if_neg hl0] at hF
      have hlst := hOl (l.length - 1)
      have gl : (ints .u8 l)[l.length - 1]? = some (.int .u8 (l.getD (l.length - 1) 0)) := ints_get (by omega)
      generalize l.getD (l.length - 1) 0 = x at *
      repeat (first | (apply gJO; first | refine JO_v (V_index (tb := tb) (j := l.length - 1) rfl rfl rfl rfl (Rd.sl (vec_rd (by repeat (first | apply List.Mem.head | apply List.Mem.tail)))) (by omega) (by omega) rfl) ?_ | refine JO_v (V_loadC (tb := tb) rfl (vec_rd (by repeat (first | apply List.Mem.head | apply List.Mem.tail))) rfl rfl gl rfl) ?_) | first | (refine sx ?_; try intro _))
      refine JO_call Try.call59 rfl rfl fun w hw => (RGrp4_c hK a2 2 (by omega) ha2 hm2 w hw).mono ?_
      rintro e w' (⟨h, rfl, hw'⟩ | ⟨h1, he, hw'⟩)
      · refine ⟨_, rfl, _, hw', ?_⟩
        clear hw' hw w w'
        rw [if_pos h] at hF
        (repeat (first | (apply gJR; first | (refine sx ?_; try intro _)) | (apply gJO; first | (refine sx ?_; try intro _))))
        (apply JS_seq; apply JS_seq; apply JS_region; (repeat (first | (apply gJR; first | (refine sx ?_; try intro _)) | (apply gJO; first | (refine sx ?_; try intro _)))); refine JS_condF rfl ?_; apply JS_skip)
        (apply JS_seq; apply JS_seq; apply JS_region; (repeat (first | (apply gJR; first | (refine sx ?_; try intro _)) | (apply gJO; first | (refine sx ?_; try intro _)))); refine JS_condF rfl ?_; apply JS_skip)
        exact JS_to4 K 20 3 x a2 ⟨by omega, by omega, hlst.1, hlst.2, .inr ⟨by decide, hinv _ (.err hF)⟩⟩ (by repeat (first | exact trivial | refine ⟨rfl, ?_⟩ | refine ⟨lookI rfl (by omega), ?_⟩)) (fun w hw => hw)
      rw [if_neg (by omega)] at hF
      obtain ⟨n, hn⟩ := Int.eq_ofNat_of_zero_le (nbt_bd (bitB B 0) (bitB_01 B 0) a2 2).1
      have hn1 := (nbt_bd (bitB B 0) (bitB_01 B 0) a2 2).2
      rw [hn] at he hn1 hF
      subst he
      have hn2 : (n : Int) < 4 := hn1
      refine ⟨_, rfl, _, hw', ?_⟩
      clear hw' hw w w'
      (repeat (first | (apply gJR; first | (refine sx ?_; try intro _)) | (apply gJO; first | (refine sx ?_; try intro _))))
      (apply JS_seq; apply JS_seq; apply JS_region; (repeat (first | (apply gJR; first | (refine sx ?_; try intro _)) | (apply gJO; first | (refine sx ?_; try intro _)))); refine JS_condF rfl ?_; apply JS_skip)
      (apply JS_seq; apply JS_seq; apply JS_region; (repeat (first | (apply gJR; first | (refine sx ?_; try intro _)) | (apply gJO; first | (refine sx ?_; try intro _)))); refine JS_condF rfl ?_; apply JS_skip)
      exact JS_to4 K 0 (3 + n) x (a2 + 2) ⟨by omega, by omega, hlst.1, hlst.2, .inl ⟨rfl, h1, by omega, hF⟩⟩ (by repeat (first | exact trivial | refine ⟨rfl, ?_⟩ | refine ⟨lookI rfl (by omega), ?_⟩)) (fun w hw => hw)
    rw [if_neg h16] at hF
    (repeat (first | (apply gJR; first | (refine sx ?_; try intro _)) | (apply gJO; first | (refine sx ?_; try intro _))))
    (apply JS_seq; apply JS_region; repeat (first | (apply gJR; first | (refine sx ?_; try intro _)) | (apply gJO; first | (refine sx ?_; try intro _))))
    (apply JS_seq; apply JS_region; repeat (first | (apply gJR; first | (refine sx ?_; try intro _)) | (apply gJO; first | (refine sx ?_; try intro _))))
    (apply JS_seq; apply JS_seq; apply JS_region; (repeat (first | (apply gJR; first | (refine sx ?_; try intro _)) | (apply gJO; first | (refine sx ?_; try intro _)))); refine JS_condF rfl ?_; apply JS_skip)
    by_cases h17 : i = 17
    · rw [if_pos h17] at hF
      repeat (first | (refine sx ?_; try intro _))
      refine JO_call Try.call59 rfl rfl fun w hw => (RGrp4_c hK a2 3 (by omega) ha2 hm2 w hw).mono ?_
      rintro e w' (⟨h, rfl, hw'⟩ | ⟨h1, he, hw'⟩)
      · refine ⟨_, rfl, _, hw', ?_⟩
        clear hw' hw w w'
        rw [if_pos h] at hF
        (repeat (first | (apply gJR; first | (refine sx ?_; try intro _)) | (apply gJO; first | (refine sx ?_; try intro _))))
        (apply JS_seq; apply JS_seq; apply JS_region; (repeat (first | (apply gJR; first | (refine sx ?_; try intro _)) | (apply gJO; first | (refine sx ?_; try intro _)))); refine JS_condF rfl ?_; apply JS_skip)
        exact JS_to4 K 20 3 0 a2 ⟨by omega, by omega, by omega, by omega, .inr ⟨by decide, hinv _ (.err hF)⟩⟩ (by repeat (first | exact trivial | refine ⟨rfl, ?_⟩ | refine ⟨lookI rfl (by omega), ?_⟩)) (fun w hw => hw)
      rw [if_neg (by omega)] at hF
      obtain ⟨n, hn⟩ := Int.eq_ofNat_of_zero_le (nbt_bd (bitB B 0) (bitB_01 B 0) a2 3).1
      have hn1 := (nbt_bd (bitB B 0) (bitB_01 B 0) a2 3).2
      rw [hn] at he hn1 hF
      subst he
      have hn2 : (n : Int) < 8 := hn1
      refine ⟨_, rfl, _, hw', ?_⟩
      clear hw' hw w w'
      (repeat (first | (apply gJR; first | (refine sx ?_; try intro _)) | (apply gJO; first | (refine sx ?_; try intro _))))
      (apply JS_seq; apply JS_seq; apply JS_region; (repeat (first | (apply gJR; first | (refine sx ?_; try intro _)) | (apply gJO; first | (refine sx ?_; try intro _)))); refine JS_condF rfl ?_; apply JS_skip)
      exact JS_to4 K 0 (3 + n) 0 (a2 + 3) ⟨by omega, by omega, by omega, by omega, .inl ⟨rfl, h1, by omega, hF⟩⟩ (by repeat (first | exact trivial | refine ⟨rfl, ?_⟩ | refine ⟨lookI rfl (by omega), ?_⟩)) (fun w hw => hw)
    rw [if_neg h17] at hF
    (apply JS_seq; apply JS_seq; apply JS_region; (repeat (first | (apply gJR; first | (refine sx ?_; try intro _)) | (apply gJO; first | (refine sx ?_; try intro _)))); refine JS_condF rfl ?_; apply JS_skip)
    by_cases h18 : i = 18
    · rw [if_pos h18] at hF
      repeat (first | (refine sx ?_; try intro _))
      refine JO_call Try.call59 rfl rfl fun w hw => (RGrp4_c hK a2 7 (by omega) ha2 hm2 w hw).mono ?_
      rintro e w' (⟨h, rfl, hw'⟩ | ⟨h1, he, hw'⟩)
      · refine ⟨_, rfl, _, hw', ?_⟩
        clear hw' hw w w'
        rw [if_pos h] at hF
        (repeat (first | (apply gJR; first | (refine sx ?_; try intro _)) | (apply gJO; first | (refine sx ?_; try intro _))))
        exact JS_to4 K 20 11 0 a2 ⟨by omega, by omega, by omega, by omega, .inr ⟨by decide, hinv _ (.err hF)⟩⟩ (by repeat (first | exact trivial | refine ⟨rfl, ?_⟩ | refine ⟨lookI rfl (by omega), ?_⟩)) (fun w hw => hw)
      rw [if_neg (by omega)] at hF
      obtain ⟨n, hn⟩ := Int.eq_ofNat_of_zero_le (nbt_bd (bitB B 0) (bitB_01 B 0) a2 7).1
      have hn1 := (nbt_bd (bitB B 0) (bitB_01 B 0) a2 7).2
      rw [hn] at he hn1 hF
      subst he
      have hn2 : (n : Int) < 128 := hn1
      refine ⟨_, rfl, _, hw', ?_⟩
      clear hw' hw w w'
      (repeat (first | (apply gJR; first | (refine sx ?_; try intro _)) | (apply gJO; first | (refine sx ?_; try intro _))))
      exact JS_to4 K 0 (11 + n) 0 (a2 + 7) ⟨by omega, by omega, by omega, by omega, .inl ⟨rfl, h1, by omega, hF⟩⟩ (by repeat (first | exact trivial | refine ⟨rfl, ?_⟩ | refine ⟨lookI rfl (by omega), ?_⟩)) (fun w hw => hw)
    rw [if_neg h18] at hF
    (apply JS_seq; apply JS_seq; apply JS_region; (repeat (first | (apply gJR; first | (refine sx ?_; try intro _)) | (apply gJO; first | (refine sx ?_; try intro _)))); refine JS_condF rfl ?_; apply JS_skip)
    exact JS_to4 K 0 1 i a2 ⟨by omega, by omega, hi0, by omega, .inl ⟨rfl, ha2, ha12, hF⟩⟩ (by repeat (first | exact trivial | refine ⟨rfl, ?_⟩ | refine ⟨lookI rfl (by omega), ?_⟩)) (fun w hw => hw)
end
end Go.Proofs.Ytakgoflfcgofdaa
