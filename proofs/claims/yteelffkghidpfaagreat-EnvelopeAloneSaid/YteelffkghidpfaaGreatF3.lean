import Derived.Test.YteelffkghidpfaaGreatF2
set_option linter.unusedVariables false
set_option linter.unusedSimpArgs false
set_option maxRecDepth 100000
namespace Go.Proofs.YteelffkghidpfaaGreat
open Sx Go
theorem kzero (w : World) : (zeroValue 199).run Tryz.prog w = .ok (.slice none 0 0) w := by
  have h : (Tryz.prog.info? 199).bind (·.zero) = some (.slice none 0 0) := by kernel_rfl
  obtain ⟨x, h1, h2⟩ := Option.bind_eq_some_iff.1 h
  simp [zeroValue, typeInfo, h1, h2]
theorem ints_i64 (l : List Nat) (j : Nat) (h : j < l.length) : (ints .i64 (l.map Int.ofNat))[j]? = some (.int .i64 (l.getD j 0 : Nat)) := by
  unfold ints
  rw [List.getElem?_map, List.getElem?_map, List.getElem?_eq_getElem h]
  simp [List.getD_eq_getElem?_getD, h]
theorem drop3 (B : List Int) (i : Nat) (h : i + 3 ≤ B.length) : ((ints .u8 B).drop (i * 1)).take 3 = [.int .u8 (k3 B i).1, .int .u8 (k3 B i).2.1, .int .u8 (k3 B i).2.2] := by
  unfold k3
  have e : B.drop i = B.getD i 0 :: B.getD (i + 1) 0 :: B.getD (i + 2) 0 :: B.drop (i + 3) := by
    rw [List.drop_eq_getElem_cons (by omega), List.drop_eq_getElem_cons (by omega), List.drop_eq_getElem_cons (by omega)]
    simp [List.getD_eq_getElem?_getD, List.getElem?_eq_getElem (show i < B.length by omega), List.getElem?_eq_getElem (show i + 1 < B.length by omega), List.getElem?_eq_getElem (show i + 2 < B.length by omega)]
  unfold ints
  rw [Nat.mul_one, ← List.map_drop, e]
  rfl
def tkx (B : List Int) (at_ n : Nat) : Int := if n = 0 then B.getD at_ 0 else 0
section
variable {w0 : World} {H : List Asn}
attribute [local irreducible] pst plc sam
set_option maxRecDepth 10000 in
set_option maxHeartbeats 4000000 in
theorem Best_t {R : Ending → World → Prop} (bp bt br : Nat) (u : Value) (p : Option Addr) (c m : Nat) (B : List Int) (i : Nat) (L : List Nat) (q : Option Addr) (dd : Nat)
    (hr : Rd w0 H (.slice p m c) m (ints .u8 B)) (hb : blk bp [.slice p m c, u] ∈ H) (hm : B.length = m) (hl : Rd w0 H (.slice q L.length dd) L.length (ints .i64 (L.map Int.ofNat))) (hi : i < m) (hL : ∀ j, j < L.length → L.getD j 0 < i) (h4 : m ≤ 1100000) (hLl : L.length ≤ 1100000)
    (hR : ∀ w s, s = pst B i L.reverse (0, 0) → (s = (0, 0) ∨ 0 < s.1) → St w0 H w → R (.returned (.agg #[.int .u8 (tkx B i s.1), .int .i64 s.1, .int .i64 s.2])) w) :
    JS Tryz.prog 218 Tryz.f218.ntmps R [] w0 (todo Tryz.f218 [.b, .b, .b, .b, .a]) [(0, .pointer (some ⟨bp, 0, none⟩)), (1, .int .i64 i), (4, .pointer (some ⟨br, 0, none⟩)), (5, .pointer (some ⟨bt, 0, none⟩)), (6, .slice q L.length dd)]
      (blk bt [.int .u8 (B.getD i 0), .int .i64 0, .int .i64 0] :: blk br [.int .u8 0, .int .i64 0, .int .i64 0] :: H) := by
  refine JS_at rfl ?_
  repeat (refine sx ?_; try intro _)
  refine JS_loop3 (fun (k n d : Nat) => [(0, .pointer (some ⟨bp, 0, none⟩)), (1, .int .i64 i), (4, .pointer (some ⟨br, 0, none⟩)), (5, .pointer (some ⟨bt, 0, none⟩)), (6, .slice q L.length dd), (7, .int .i64 (k - 1 : Int))])
    (fun k n d => blk bt [.int .u8 (tkx B i n), .int .i64 n, .int .i64 d] :: blk br [.int .u8 0, .int .i64 0, .int .i64 0] :: H)
    (fun k n d => k ≤ L.length ∧ n ≠ 258 ∧ ((n, d) = (0, 0) ∨ 0 < n) ∧ pst B i L.reverse (0, 0) = pst B i (L.take k).reverse (n, d)) (fun k _ _ => k) L.length 0 0 ⟨Nat.le_refl _, by omega, .inl rfl, by rw [List.take_length]⟩ (by repeat (first | exact trivial | refine ⟨rfl, ?_⟩ | refine ⟨lookI rfl (by omega), ?_⟩)) (fun w h => by rw [show tkx B i 0 = B.getD i 0 from rfl]; exact h) ?_
  intro k n d ⟨hk, hn, hnd, he⟩ again
  have hfinal : ∀ (n d : Nat), pst B i L.reverse (0, 0) = (n, d) → ((n, d) = (0, 0) ∨ 0 < n) → ∀ w, St w0 (blk bt [.int .u8 (tkx B i n), .int .i64 n, .int .i64 d] :: blk br [.int .u8 (tkx B i n), .int .i64 n, .int .i64 d] :: H) w → R (.returned (.agg #[.int .u8 (tkx B i n), .int .i64 n, .int .i64 d])) w :=
    fun n d h1 h2 w hw => hR w (n, d) h1.symm h2 hw.drop.drop
  cases k with
  | zero =>
    clear again
    rw [show ((0 : Nat) : Int) - 1 = -1 from rfl]
    have hf := hfinal n d (by rw [he]; unfold pst; rfl) hnd
    repeat (refine sx ?_; try intro _)
    refine JS_retC (tb := tb) (vs := [.agg #[.int .u8 (tkx B i n), .int .i64 n, .int .i64 d]]) Tryz.func218 rfl (by first | exact ResV.agg (tb := tb) rfl (by repeat (first | apply List.Mem.head | apply List.Mem.tail)) rfl rfl rfl ResV.nil | exact ResV.agg (tb := tb) rfl (by repeat (first | apply List.Mem.head | apply List.Mem.tail)) rfl rfl rfl (ResV.tmp rfl ResV.nil) | exact ResV.agg (tb := tb) rfl (by repeat (first | apply List.Mem.head | apply List.Mem.tail)) rfl rfl rfl (ResV.tmp rfl (ResV.tmp rfl ResV.nil)) | exact ResV.one (tb := tb) rfl (by repeat (first | apply List.Mem.head | apply List.Mem.tail)) rfl rfl rfl ResV.nil | exact ResV.one (tb := tb) rfl (by repeat (first | apply List.Mem.head | apply List.Mem.tail)) rfl rfl rfl (ResV.tmp rfl ResV.nil) | exact ResV.one (tb := tb) rfl (by repeat (first | apply List.Mem.head | apply List.Mem.tail)) rfl rfl rfl (ResV.one (tb := tb) rfl (by repeat (first | apply List.Mem.head | apply List.Mem.tail)) rfl rfl rfl ResV.nil) | exact ResV.tmp rfl (ResV.agg (tb := tb) rfl (by repeat (first | apply List.Mem.head | apply List.Mem.tail)) rfl rfl rfl ResV.nil) | exact ResV.tmp rfl (ResV.one (tb := tb) rfl (by repeat (first | apply List.Mem.head | apply List.Mem.tail)) rfl rfl rfl ResV.nil)) hf
  | succ k =>
    rw [show ((k + 1 : Nat) : Int) - 1 = (k : Int) by omega]
    have gL := ints_i64 L k (by omega)
    have hjl := hL k (by omega)
    obtain ⟨j, hj⟩ : ∃ j, L.getD k 0 = j := ⟨_, rfl⟩
    rw [hj] at gL hjl
    have htk : (L.take (k + 1)).reverse = j :: (L.take k).reverse := by
      rw [List.take_add_one, List.reverse_append, List.getElem?_eq_getElem (by omega)]
      rw [List.getD_eq_getElem?_getD, List.getElem?_eq_getElem (by omega)] at hj
      simp only [Option.getD_some] at hj
      rw [hj]; rfl
    rw [htk] at he
    by_cases hfar : 32768 < i - j
    · clear again
      have hf := hfinal n d (by rw [he]; unfold pst; rw [if_pos hfar]) hnd
      repeat (first | (apply gJO; refine JO_v (oL (V_loadC (tb := tb) rfl (Rd_weak hl fun w hw => dS hw) rfl rfl gL rfl)) ?_) | (refine sx ?_; try intro _))
      refine JS_retC (tb := tb) (vs := [.agg #[.int .u8 (tkx B i n), .int .i64 n, .int .i64 d]]) Tryz.func218 rfl (by first | exact ResV.agg (tb := tb) rfl (by repeat (first | apply List.Mem.head | apply List.Mem.tail)) rfl rfl rfl ResV.nil | exact ResV.agg (tb := tb) rfl (by repeat (first | apply List.Mem.head | apply List.Mem.tail)) rfl rfl rfl (ResV.tmp rfl ResV.nil) | exact ResV.agg (tb := tb) rfl (by repeat (first | apply List.Mem.head | apply List.Mem.tail)) rfl rfl rfl (ResV.tmp rfl (ResV.tmp rfl ResV.nil)) | exact ResV.one (tb := tb) rfl (by repeat (first | apply List.Mem.head | apply List.Mem.tail)) rfl rfl rfl ResV.nil | exact ResV.one (tb := tb) rfl (by repeat (first | apply List.Mem.head | apply List.Mem.tail)) rfl rfl rfl (ResV.tmp rfl ResV.nil) | exact ResV.one (tb := tb) rfl (by repeat (first | apply List.Mem.head | apply List.Mem.tail)) rfl rfl rfl (ResV.one (tb := tb) rfl (by repeat (first | apply List.Mem.head | apply List.Mem.tail)) rfl rfl rfl ResV.nil) | exact ResV.tmp rfl (ResV.agg (tb := tb) rfl (by repeat (first | apply List.Mem.head | apply List.Mem.tail)) rfl rfl rfl ResV.nil) | exact ResV.tmp rfl (ResV.one (tb := tb) rfl (by repeat (first | apply List.Mem.head | apply List.Mem.tail)) rfl rfl rfl ResV.nil)) hf
    · have hs := sam_le B 258 j i
      repeat (first | (apply gJO; refine JO_v (oL (V_loadC (tb := tb) rfl (Rd_weak hl fun w hw => dS hw) rfl rfl gL rfl)) ?_) | (refine sx ?_; try intro _))
      refine JO_call Tryz.call240 rfl rfl fun w hw => (Same_c bp u p c m B (Rd_weak hr fun w hw => dS hw) (List.Mem.tail _ (List.Mem.tail _ hb)) hm j i hjl (by omega) (by omega) w hw).mono ?_
      rintro e w' ⟨rfl, hw'⟩
      refine ⟨_, rfl, _, hw', ?_⟩
      clear hw' hw w w'
      have hpst : pst B i (j :: (L.take k).reverse) (n, d) = if (if n < sam B j i 258 then (sam B j i 258, i - j) else (n, d)).1 = 258 then (if n < sam B j i 258 then (sam B j i 258, i - j) else (n, d)) else pst B i (L.take k).reverse (if n < sam B j i 258 then (sam B j i 258, i - j) else (n, d)) := by
        rw [pst.eq_def]; simp only []; rw [if_neg hfar]
      rw [hpst] at he
      clear hpst htk
      obtain ⟨s, hse⟩ : ∃ s, sam B j i 258 = s := ⟨_, rfl⟩
      rw [hse] at he hs ⊢
      have hij : ((i : Int) - (j : Int)) = ((i - j : Nat) : Int) := by omega
      by_cases hlt : n < s
      · rw [if_pos hlt] at he
        have hx0 : tkx B i s = 0 := by unfold tkx; rw [if_neg (by omega)]
        repeat (first | (apply gJO; refine JO_v (oL (V_loadC (tb := tb) rfl (Rd_weak hl fun w hw => dS hw) rfl rfl gL rfl)) ?_) | (refine sx ?_; try intro _))
        rw [hij, show (Value.int .u8 0) = .int .u8 (tkx B i s) by rw [hx0]]
        by_cases h258 : s = 258
        · rw [if_pos h258] at he
          have hf := hfinal s (i - j) he (.inr (by omega))
          clear again
          repeat (refine sx ?_; try intro _)
          refine JS_retC (tb := tb) (vs := [.agg #[.int .u8 (tkx B i s), .int .i64 s, .int .i64 (i - j : Nat)]]) Tryz.func218 rfl (by first | exact ResV.agg (tb := tb) rfl (by repeat (first | apply List.Mem.head | apply List.Mem.tail)) rfl rfl rfl ResV.nil | exact ResV.agg (tb := tb) rfl (by repeat (first | apply List.Mem.head | apply List.Mem.tail)) rfl rfl rfl (ResV.tmp rfl ResV.nil) | exact ResV.agg (tb := tb) rfl (by repeat (first | apply List.Mem.head | apply List.Mem.tail)) rfl rfl rfl (ResV.tmp rfl (ResV.tmp rfl ResV.nil)) | exact ResV.one (tb := tb) rfl (by repeat (first | apply List.Mem.head | apply List.Mem.tail)) rfl rfl rfl ResV.nil | exact ResV.one (tb := tb) rfl (by repeat (first | apply List.Mem.head | apply List.Mem.tail)) rfl rfl rfl (ResV.tmp rfl ResV.nil) | exact ResV.one (tb := tb) rfl (by repeat (first | apply List.Mem.head | apply List.Mem.tail)) rfl rfl rfl (ResV.one (tb := tb) rfl (by repeat (first | apply List.Mem.head | apply List.Mem.tail)) rfl rfl rfl ResV.nil) | exact ResV.tmp rfl (ResV.agg (tb := tb) rfl (by repeat (first | apply List.Mem.head | apply List.Mem.tail)) rfl rfl rfl ResV.nil) | exact ResV.tmp rfl (ResV.one (tb := tb) rfl (by repeat (first | apply List.Mem.head | apply List.Mem.tail)) rfl rfl rfl ResV.nil)) hf
        · rw [if_neg h258] at he
          repeat (refine sx ?_; try intro _)
          exact JS_again3 again k s (i - j) ⟨by omega, h258, .inr (by omega), he⟩ (by omega) (by repeat (first | exact trivial | refine ⟨rfl, ?_⟩ | refine ⟨lookI rfl (by omega), ?_⟩)) (fun w hw => by rw [hx0] at hw ⊢; exact hw)
      · rw [if_neg hlt] at he
        rw [if_neg hn] at he
        repeat (refine sx ?_; try intro _)
        exact JS_again3 again k n d ⟨by omega, hn, hnd, he⟩ (by omega) (by repeat (first | exact trivial | refine ⟨rfl, ?_⟩ | refine ⟨lookI rfl (by omega), ?_⟩)) (fun w hw => hw)
attribute [local irreducible] tok k3
theorem kk3 {B : List Int} (hB : OKB B) (i : Nat) : isKey Tryz.prog 282 (kv (k3 B i)) := by
  unfold k3
  exact kv_key (hB i) (hB (i + 1)) (hB (i + 2))
theorem tok_pst {B : List Int} {i : Nat} (h3 : i + 3 ≤ B.length) {s : Nat × Nat} (hs : s = pst B i (plc B i (k3 B i)).reverse (0, 0)) (h0 : s = (0, 0) ∨ 0 < s.1) : tok B i = (tkx B i s.1, s.1, s.2) := by
  rw [tok_far B i h3, ← hs]
  unfold tkx
  rcases h0 with rfl | h0
  · rfl
  · rw [if_neg (fun h => by rw [h] at h0; simp at h0), if_neg (by omega)]
theorem plc_getD {B : List Int} {i : Nat} {x : K3} : ∀ j, j < (plc B i x).length → (plc B i x).getD j 0 < i := fun j hj => by
  rw [List.getD_eq_getElem?_getD, List.getElem?_eq_getElem hj]
  exact plc_lt (List.getElem_mem hj)
theorem plc_len {B : List Int} {i : Nat} {x : K3} : (plc B i x).length ≤ i := by
  have := List.length_filter_le (fun i => decide (i + 3 ≤ B.length ∧ k3 B i = x)) (List.range i)
  rw [List.length_range] at this
  unfold plc; exact this
theorem Rd_nil : Rd w0 H (.slice none 0 0) 0 [] := by
  unfold Rd
  exact fun w hw => ⟨⟨_, _, rfl, fun _ => rfl, Nat.le_refl _⟩, fun j v hv => by simp at hv⟩
abbrev plO (bp bm : Nat) (p : Option Addr) (c m : Nat) (es : List MapEntry) (A C : List PX) (x : PX) (clock : Nat) (H : List Asn) : List Asn := vx x :: blk bp [.slice p m c, .map (some bm)] :: mapL bm es clock :: bigA (A.map vx ++ C.map vx) :: H
theorem plA_out0 {bp bm : Nat} {p : Option Addr} {c m : Nat} {X A C : List PX} {x : PX} {clock : Nat} (hAC : X = A ++ x :: C) {w : World} (h : St w0 (plA bp bm p c m X clock H) w) : St w0 (plO bp bm p c m (X.map Prod.fst) A C x clock H) w := by
  have hbig : X.map vx = A.map vx ++ vx x :: C.map vx := by rw [hAC, List.map_append, List.map_cons]
  unfold plA at h
  rw [hbig] at h
  have h1 := (h.perm (List.perm_middle (l₁ := [_, _]))).big_out
  exact h1.perm (List.Perm.cons _ (List.perm_middle (l₁ := [_, _])).symm)
theorem plA_in {bp bm : Nat} {p : Option Addr} {c m : Nat} {X A C : List PX} {x : PX} {clock : Nat} (hAC : X = A ++ x :: C) {w : World} (h : St w0 (plO bp bm p c m (X.map Prod.fst) A C x clock H) w) : St w0 (plA bp bm p c m X clock H) w := by
  have hbig : X.map vx = A.map vx ++ vx x :: C.map vx := by rw [hAC, List.map_append, List.map_cons]
  unfold plA
  rw [hbig]
  have h1 : St w0 (vx x :: bigA (A.map vx ++ C.map vx) :: ([blk bp [.slice p m c, .map (some bm)], mapL bm (X.map Prod.fst) clock] ++ H)) w := h.perm (List.Perm.cons _ (List.perm_middle (l₁ := [_, _])))
  exact h1.big_in.perm (List.perm_middle (l₁ := [_, _])).symm
theorem plA_out {a1 a2 : Asn} {bp bm : Nat} {p : Option Addr} {c m : Nat} {X A C : List PX} {x : PX} {clock : Nat} (hAC : X = A ++ x :: C) {w : World} (h : St w0 (a1 :: a2 :: plA bp bm p c m X clock H) w) : St w0 (a1 :: a2 :: plO bp bm p c m (X.map Prod.fst) A C x clock H) w := by
  have h1 : St w0 (plA bp bm p c m X clock (a1 :: a2 :: H)) w := h.perm ((List.perm_append_comm (l₁ := [a1, a2]) (l₂ := [_, _, _])).append_right H)
  exact (plA_out0 hAC h1).perm ((List.perm_append_comm (l₁ := [_, _, _, _]) (l₂ := [a1, a2])).append_right H)
set_option maxRecDepth 10000 in
set_option maxHeartbeats 4000000 in
theorem Best_c (bp bm : Nat) (p : Option Addr) (c m : Nat) (X : List PX) (clock : Nat) (B : List Int) (i : Nat) (hr : Rd w0 H (.slice p m c) m (ints .u8 B)) (hm : B.length = m) (hB : OKB B) (hX : PI B i X clock) (hi : i < m) (h4 : m ≤ 1100000) (w : World) (hw : St w0 (plA bp bm p c m X clock H) w) :
    Calls Tryz.prog 218 #[.pointer (some ⟨bp, 0, none⟩), .int .i64 i] w fun e w' => e = .returned (.agg #[.int .u8 (tok B i).1, .int .i64 (tok B i).2.1, .int .i64 (tok B i).2.2]) ∧ St w0 (plA bp bm p c m X clock H) w' := by
  refine enter (vs := [.pointer (some ⟨bp, 0, none⟩), .int .i64 i]) Tryz.func218 rfl rfl rfl hw ?_
  have gB : (ints .u8 B)[i]? = some (.int .u8 (B.getD i 0)) := ints_get (by omega)
  have hmc : m ≤ c := (hr.lcap hw.drop.drop.drop).1
  clear hw w
  by_cases h3 : m < i + 3
  · rw [tok_near B i (by omega)]
    repeat (first | (apply gJO; refine JO_v (oL (V_loadC (tb := tb) rfl (Rd_weak hr fun w hw => dS hw) rfl rfl gB rfl)) ?_) | (refine sx ?_; try intro _))
    refine JS_retC (tb := tb) (vs := [.agg #[.int .u8 (B.getD i 0), .int .i64 0, .int .i64 0]]) Tryz.func218 rfl (by first | exact ResV.agg (tb := tb) rfl (by repeat (first | apply List.Mem.head | apply List.Mem.tail)) rfl rfl rfl ResV.nil | exact ResV.agg (tb := tb) rfl (by repeat (first | apply List.Mem.head | apply List.Mem.tail)) rfl rfl rfl (ResV.tmp rfl ResV.nil) | exact ResV.agg (tb := tb) rfl (by repeat (first | apply List.Mem.head | apply List.Mem.tail)) rfl rfl rfl (ResV.tmp rfl (ResV.tmp rfl ResV.nil)) | exact ResV.one (tb := tb) rfl (by repeat (first | apply List.Mem.head | apply List.Mem.tail)) rfl rfl rfl ResV.nil | exact ResV.one (tb := tb) rfl (by repeat (first | apply List.Mem.head | apply List.Mem.tail)) rfl rfl rfl (ResV.tmp rfl ResV.nil) | exact ResV.one (tb := tb) rfl (by repeat (first | apply List.Mem.head | apply List.Mem.tail)) rfl rfl rfl (ResV.one (tb := tb) rfl (by repeat (first | apply List.Mem.head | apply List.Mem.tail)) rfl rfl rfl ResV.nil) | exact ResV.tmp rfl (ResV.agg (tb := tb) rfl (by repeat (first | apply List.Mem.head | apply List.Mem.tail)) rfl rfl rfl ResV.nil) | exact ResV.tmp rfl (ResV.one (tb := tb) rfl (by repeat (first | apply List.Mem.head | apply List.Mem.tail)) rfl rfl rfl ResV.nil)) ?_
    intro w hw
    exact ⟨rfl, hw.drop.drop⟩
  · have hd3 := drop3 B i (by omega)
    have hkey := kk3 hB i
    repeat (first | (apply gJO; refine JO_v (oL (V_loadC (tb := tb) rfl (Rd_weak hr fun w hw => dS hw) rfl rfl gB rfl)) ?_) | (apply gJS; apply JS_seq) | (apply gJS; apply JS_region) | (apply gJS; refine JS_cond_F rfl (by omega) ?_) | (apply gJS; apply JS_skip) | (apply gJS; apply JS_block) | (apply gJO; (refine sx ?_; try intro _)) | (apply gJR; (refine sx ?_; try intro _)))
    by_cases hf : ∃ x ∈ X, x.1.key = kv (k3 B i)
    · obtain ⟨x, hx, hxk⟩ := hf
      obtain ⟨i', _, _, hk', hp', q, dd, hv⟩ := hX.key x hx
      have : k3 B i' = k3 B i := kv_inj (hk'.symm.trans hxk)
      rw [this] at hp'
      rw [hp'] at hv
      have hxm : x.1 ∈ X.map Prod.fst := List.mem_map.2 ⟨x, hx, rfl⟩
      obtain ⟨A, C, hAC⟩ := List.append_of_mem hx
      have hrx : Rd w0 (plO bp bm p c m (X.map Prod.fst) A C x clock H) (.slice q (plc B i (k3 B i)).length dd) (plc B i (k3 B i)).length (ints .i64 ((plc B i (k3 B i)).map Int.ofNat)) := by
        have := vec_rd (w0 := w0) (H := plO bp bm p c m (X.map Prod.fst) A C x clock H) (v := x.1.val) (n := x.2.length) (cs := ints .i64 (x.2.map Int.ofNat)) (e := 3) (size := 1) (List.Mem.head _)
        rw [hv, hp'] at this
        exact this
      repeat (first | (apply gQO; refine QO_v rfl (V_loadSub (tb := tb) (lo := i) (q := 3) rfl (Rd_weak hr fun w hw => dS hw) rfl rfl (by omega) rfl (by decide) rfl hd3 rfl) ?_) | (apply gQO; refine QO_v rfl (V_slice (tb := tb) (lo := i) (hi := i + 3) rfl rfl rfl rfl rfl rfl (by omega) (fun w hw => ⟨by omega, by omega⟩) rfl) ?_) | (apply gQO; refine QO_v rfl (V_arrayAt (tb := tb) rfl rfl (by omega) rfl) ?_) | (apply gQO; refine QO_e (OpE_ofV (V_lookupT (tb := tb) kkt rfl rfl rfl (by repeat (first | apply List.Mem.head | apply List.Mem.tail)) hX.ok hxm hxk rfl)) rfl (.inr fun _ w hw => hw) ?_; intro _) | (apply hIx 5) | (refine sx ?_; try intro _))
      refine Hold.go ?_
      rw [hv]
      refine JS_H (fun w hw => plA_out hAC hw) ?_
      exact JS_of_at (fn := Tryz.f218) (p := [.b, .b, .b, .b, .a]) (JS_ov (by repeat (first | exact trivial | refine ⟨rfl, ?_⟩ | refine ⟨lookI rfl (by omega), ?_⟩)) (Best_t bp _ _ _ p c m B i (plc B i (k3 B i)) q dd (Rd_weak hr fun w hw => dS hw) (by repeat (first | apply List.Mem.head | apply List.Mem.tail)) hm hrx hi plc_getD h4 (Nat.le_trans plc_len (by omega)) fun w s h1 h2 hw => ⟨by rw [tok_pst (by omega) h1 h2], plA_in hAC hw⟩)) rfl
    · have hnil : plc B i (k3 B i) = [] := by
        cases hp : plc B i (k3 B i) with
        | nil => rfl
        | cons j r =>
          have hj : j ∈ plc B i (k3 B i) := by rw [hp]; simp
          have hlt := plc_lt hj
          have hjk : j + 3 ≤ B.length ∧ k3 B j = k3 B i := by
            have : j ∈ (List.range i).filter fun i' => decide (i' + 3 ≤ B.length ∧ k3 B i' = k3 B i) := by unfold plc at hj; exact hj
            simpa using (List.mem_filter.1 this).2
          obtain ⟨x, hx, hxk⟩ := hX.all j hlt hjk.1
          exact absurd ⟨x, hx, by rw [hxk, hjk.2]⟩ hf
      have hmiss : ∀ e ∈ X.map Prod.fst, e.key ≠ kv (k3 B i) := fun e he hk => by
        obtain ⟨x, hx, rfl⟩ := List.mem_map.1 he
        exact hf ⟨x, hx, hk⟩
      have hrn : Rd w0 (plA bp bm p c m X clock H) (.slice none ([] : List Nat).length 0) ([] : List Nat).length (ints .i64 (([] : List Nat).map Int.ofNat)) := Rd_nil
      repeat (first | (apply gQO; refine QO_v rfl (V_loadSub (tb := tb) (lo := i) (q := 3) rfl (Rd_weak hr fun w hw => dS hw) rfl rfl (by omega) rfl (by decide) rfl hd3 rfl) ?_) | (apply gQO; refine QO_v rfl (V_slice (tb := tb) (lo := i) (hi := i + 3) rfl rfl rfl rfl rfl rfl (by omega) (fun w hw => ⟨by omega, by omega⟩) rfl) ?_) | (apply gQO; refine QO_v rfl (V_arrayAt (tb := tb) rfl rfl (by omega) rfl) ?_) | (apply gQO; refine QO_e (OpE_ofV (V_lookupF (tb := tb) kkt rfl rfl rfl (by repeat (first | apply List.Mem.head | apply List.Mem.tail)) hX.ok hkey hmiss kzero rfl)) rfl (.inr fun _ w hw => hw) ?_; intro _) | (apply hIx 5) | (refine sx ?_; try intro _))
      refine Hold.go ?_
      exact JS_of_at (fn := Tryz.f218) (p := [.b, .b, .b, .b, .a]) (JS_ov (by repeat (first | exact trivial | refine ⟨rfl, ?_⟩ | refine ⟨lookI rfl (by omega), ?_⟩)) (Best_t bp _ _ _ p c m B i [] none 0 (Rd_weak hr fun w hw => dS hw) (by repeat (first | apply List.Mem.head | apply List.Mem.tail)) hm hrn hi (fun j hj => absurd hj (by simp)) h4 (by simp) fun w s h1 h2 hw => ⟨by rw [tok_pst (by omega) (by rw [hnil]; exact h1) h2], hw⟩)) rfl
end
end Go.Proofs.YteelffkghidpfaaGreat

set_option linter.unusedVariables false
set_option linter.unusedSimpArgs false
set_option maxRecDepth 100000
namespace Go.Proofs.YteelffkghidpfaaGreat
open Sx Go
section
variable {w0 : World} {H : List Asn}
attribute [local irreducible] pst plc sam k3
theorem plc_id {B : List Int} {i : Nat} {x : K3} (h : k3 B i ≠ x) : plc B (i + 1) x = plc B i x := by rw [plc_s, if_neg (fun h' => h h'.2)]
theorem PI.near {B : List Int} {i : Nat} {X : List PX} {clock : Nat} (h : PI B i X clock) (h3 : B.length < i + 3) : PI B (i + 1) X clock := by
  refine ⟨h.ok, fun x hx => ?_, fun j hj hj3 => h.all j (by omega) hj3⟩
  obtain ⟨i', h1, h2, h3', h4, h5⟩ := h.key x hx
  exact ⟨i', h1, by omega, h3', by rw [h4, plc_s, if_neg (by omega)], h5⟩
theorem PI.more {B : List Int} {i : Nat} {A C : List PX} {x : PX} {clock : Nat} (h : PI B i (A ++ x :: C) clock) (h3 : i + 3 ≤ B.length) (hk : x.1.key = kv (k3 B i)) (p : Option Addr) (c : Nat) :
    PI B (i + 1) (A ++ ({ x.1 with val := .slice p (x.2.length + 1) c }, x.2 ++ [i]) :: C) clock := by
  have hother : ∀ y ∈ A ++ C, ∃ j, j + 3 ≤ B.length ∧ j < i + 1 ∧ y.1.key = kv (k3 B j) ∧ y.2 = plc B (i + 1) (k3 B j) ∧ ∃ q d, y.1.val = .slice q y.2.length d := fun y hy => by
    have hyX : y ∈ A ++ x :: C := by
      rcases List.mem_append.1 hy with hy | hy
      · exact List.mem_append_left _ hy
      · exact List.mem_append_right _ (List.mem_cons_of_mem _ hy)
    obtain ⟨j, h1, h2, h4, h5, h6⟩ := h.key y hyX
    have hne : y.1.key ≠ x.1.key := by
      have hn := h.ok.nodup
      rw [List.map_map, List.map_append, List.map_cons] at hn
      have hn2 := (List.perm_middle.nodup_iff).1 hn
      rw [List.nodup_cons, ← List.map_append] at hn2
      exact fun e => hn2.1 (List.mem_map.2 ⟨y, hy, e⟩)
    exact ⟨j, h1, by omega, h4, by rw [h5, plc_id (fun e => hne (by rw [h4, hk, e]))], h6⟩
  refine ⟨?_, fun y hy => ?_, fun j hj hj3 => ?_⟩
  · have := h.ok
    rw [List.map_append, List.map_cons] at this ⊢
    exact this.setv _
  · rcases List.mem_append.1 hy with hy | hy
    · exact hother y (List.mem_append_left _ hy)
    · rcases List.mem_cons.1 hy with rfl | hy
      · obtain ⟨j, h1, h2, h4, h5, h6⟩ := h.key x (by simp)
        refine ⟨i, h3, by omega, hk, ?_, p, c, ?_⟩
        · have : k3 B j = k3 B i := kv_inj (h4.symm.trans hk)
          show x.2 ++ [i] = _
          rw [plc_s, if_pos ⟨h3, rfl⟩, h5, this]
        · simp
      · exact hother y (List.mem_append_right _ hy)
  · rcases Nat.lt_or_ge j i with hji | hji
    · obtain ⟨y, hy, hyk⟩ := h.all j hji hj3
      rcases List.mem_append.1 hy with hy | hy
      · exact ⟨y, List.mem_append_left _ hy, hyk⟩
      · rcases List.mem_cons.1 hy with rfl | hy
        · exact ⟨_, List.mem_append_right _ (List.mem_cons_self ..), hyk⟩
        · exact ⟨y, List.mem_append_right _ (List.mem_cons_of_mem _ hy), hyk⟩
    · obtain rfl : j = i := by omega
      exact ⟨_, List.mem_append_right _ (List.mem_cons_self ..), hk⟩
theorem PI.new {B : List Int} {i : Nat} {X : List PX} {clock : Nat} (h : PI B i X clock) (hB : OKB B) (h3 : i + 3 ≤ B.length) (hn : ¬ ∃ x ∈ X, x.1.key = kv (k3 B i)) (hp : plc B i (k3 B i) = []) (p : Option Addr) (c : Nat) :
    PI B (i + 1) (X ++ (⟨kv (k3 B i), .slice p 1 c, clock⟩, [i]) :: []) (clock + 1) := by
  refine ⟨?_, fun y hy => ?_, fun j hj hj3 => ?_⟩
  · rw [List.map_append, List.map_cons, List.map_nil]
    refine h.ok.push (kk3 hB i) fun e he hk => ?_
    obtain ⟨x, hx, rfl⟩ := List.mem_map.1 he
    exact hn ⟨x, hx, hk⟩
  · rcases List.mem_append.1 hy with hy | hy
    · obtain ⟨j, h1, h2, h4, h5, h6⟩ := h.key y hy
      exact ⟨j, h1, by omega, h4, by rw [h5, plc_id (fun e => hn ⟨y, hy, by rw [h4, e]⟩)], h6⟩
    · simp at hy
      subst hy
      exact ⟨i, h3, by omega, rfl, by rw [plc_s, if_pos ⟨h3, rfl⟩, hp]; rfl, p, c, rfl⟩
  · rcases Nat.lt_or_ge j i with hji | hji
    · obtain ⟨y, hy, hyk⟩ := h.all j hji hj3
      exact ⟨y, List.mem_append_left _ hy, hyk⟩
    · obtain rfl : j = i := by omega
      exact ⟨_, List.mem_append_right _ (List.mem_cons_self ..), rfl⟩
theorem plc_nil {B : List Int} {i : Nat} {X : List PX} {clock : Nat} (hX : PI B i X clock) (hf : ¬ ∃ x ∈ X, x.1.key = kv (k3 B i)) : plc B i (k3 B i) = [] := by
  cases hp : plc B i (k3 B i) with
  | nil => rfl
  | cons j r =>
    have hj : j ∈ plc B i (k3 B i) := by rw [hp]; simp
    have hlt := plc_lt hj
    have hjk : j + 3 ≤ B.length ∧ k3 B j = k3 B i := by
      have : j ∈ (List.range i).filter fun i' => decide (i' + 3 ≤ B.length ∧ k3 B i' = k3 B i) := by unfold plc at hj; exact hj
      simpa using (List.mem_filter.1 this).2
    obtain ⟨x, hx, hxk⟩ := hX.all j hlt hjk.1
    exact absurd ⟨x, hx, by rw [hxk, hjk.2]⟩ hf
set_option maxRecDepth 10000 in
set_option maxHeartbeats 4000000 in
theorem Note_c (bp bm : Nat) (p : Option Addr) (c m : Nat) (X : List PX) (clock : Nat) (B : List Int) (i : Nat) (hr : Rd w0 H (.slice p m c) m (ints .u8 B)) (hm : B.length = m) (hB : OKB B) (hX : PI B i X clock) (hi : i < m) (h4 : m ≤ 1100000) (w : World) (hw : St w0 (plA bp bm p c m X clock H) w) :
    Calls Tryz.prog 219 #[.pointer (some ⟨bp, 0, none⟩), .int .i64 i] w fun e w' => e = .returned (.tuple #[]) ∧ ∃ X clock, PI B (i + 1) X clock ∧ St w0 (plA bp bm p c m X clock H) w' := by
  refine enter (vs := [.pointer (some ⟨bp, 0, none⟩), .int .i64 i]) Tryz.func219 rfl rfl rfl hw ?_
  have hmc : m ≤ c := (hr.lcap hw.drop.drop.drop).1
  clear hw w
  by_cases h3 : m < i + 3
  · repeat (refine sx ?_; try intro _)
    refine JS_fin Tryz.func219 rfl rfl (vs := []) ?_
    intro w hw
    exact ⟨rfl, X, clock, hX.near (by omega), hw⟩
  · have hd3 := drop3 B i (by omega)
    have hkey := kk3 hB i
    repeat (first | (apply gJO; refine JO_v (V_loadSub (tb := tb) (lo := i) (q := 3) rfl (Rd_weak hr fun w hw => dS hw) rfl rfl (by omega) rfl (by decide) rfl hd3 rfl) ?_) | (apply gJO; refine JO_v (V_slice (tb := tb) (lo := i) (hi := i + 3) rfl rfl rfl rfl rfl rfl (by omega) (fun w hw => ⟨by omega, by omega⟩) rfl) ?_) | (apply gJO; refine JO_v (V_arrayAt (tb := tb) rfl rfl (by omega) rfl) ?_) | (apply hIx' 2) | (refine sx ?_; try intro _))
    refine Hold.go ?_
    rename_i b4
    by_cases hf : ∃ x ∈ X, x.1.key = kv (k3 B i)
    · obtain ⟨x, hx, hxk⟩ := hf
      obtain ⟨i', _, _, hk', hp', q, dd, hv⟩ := hX.key x hx
      obtain ⟨A, C, hAC⟩ := List.append_of_mem hx
      have hX2 : X.map Prod.fst = A.map Prod.fst ++ x.1 :: C.map Prod.fst := by rw [hAC, List.map_append, List.map_cons]
      have hok := hX.ok
      rw [hX2] at hok
      have hvx : vx x = vec 3 1 (.slice q x.2.length dd) x.2.length (ints .i64 (x.2.map Int.ofNat)) := by unfold vx; rw [hv]
      have hln : x.2.length ≤ i := by rw [hp']; exact plc_len
      refine JS_H (H' := blk b4 [.int .u8 (k3 B i).1, .int .u8 (k3 B i).2.1, .int .u8 (k3 B i).2.2] :: vec 3 1 (.slice q x.2.length dd) x.2.length (ints .i64 (x.2.map Int.ofNat)) :: blk bp [.slice p m c, .map (some bm)] :: mapL bm (A.map Prod.fst ++ x.1 :: C.map Prod.fst) clock :: bigA (A.map vx ++ C.map vx) :: H) (fun w hw => by
        rw [← hX2, ← hvx]
        exact (plA_out0 hAC (hw.perm ((List.perm_append_comm (l₁ := [_]) (l₂ := [_, _, _])).append_right H))).perm ((List.perm_append_comm (l₁ := [_, _, _, _]) (l₂ := [_])).append_right H)) ?_
      have hxm : x.1 ∈ A.map Prod.fst ++ x.1 :: C.map Prod.fst := by simp
      obtain ⟨l, hl⟩ : ∃ l, x.2 = l := ⟨_, rfl⟩
      rw [hl] at hln hv ⊢
      refine JS_order [0, 1, 2, 3, 4, 5, 6, 7, 8, 10, 9, 11] [4, 0] (Picks.cons rfl (Picks.cons rfl (Picks.cons rfl (Picks.cons rfl (Picks.cons rfl (Picks.cons rfl (Picks.cons rfl (Picks.cons rfl (Picks.cons rfl (Picks.cons rfl (Picks.cons rfl (Picks.cons rfl (Picks.nil))))))))))))) (by kernel_rfl) (by kernel_rfl) rfl (by decide +kernel) ?_
      repeat (first | (apply gQO; (refine QO_e (E_buildSlice (tb := tb) rfl rfl rfl rfl rfl rfl rfl rfl rfl) rfl (.inr fun _ _ hw => dS hw) ?_; intro _)) | (apply gQO; refine QO_e (E_entryT (tb := tb) kkt rfl rfl rfl (by repeat (first | apply List.Mem.head | apply List.Mem.tail)) hok hxm hxk rfl) rfl (.inr fun _ w hw => hw) ?_; intro _) | (apply gQO; (refine QO_e (E_appendB (tb := tb) rfl rfl rfl rfl rfl rfl (by repeat (first | exact Sel.here _ _ | apply Sel.there)) (by first | exact vec_rd (by repeat (first | apply List.Mem.head | apply List.Mem.tail)) | assumption | exact ArgRd.rd (by assumption) _ | (apply Rd_weak; assumption; intro _ hx; exact dS hx)) (by simp only [ints_len, List.length_cons, List.length_nil]; first | omega | rfl) (by first | exact ints_one | (repeat (first | exact trivial | refine ⟨rfl, ?_⟩))) (by omega) (by omega) rfl) rfl (.inr fun _ _ hw => vecB_back (by repeat (first | exact Sel.here _ _ | apply Sel.there)) hw) ?_; intro _)) | (apply gQO; refine QO_k rfl (K_entryStore rfl rfl rfl (by repeat (first | exact Sel.here _ _ | apply Sel.there)) hok rfl) rfl ?_) | (refine sx ?_; try intro _))
      rw [hv]
      repeat (first | (apply gQO; (refine QO_e (E_appendB (tb := tb) rfl rfl rfl rfl rfl rfl (by repeat (first | exact Sel.here _ _ | apply Sel.there)) (by first | exact vec_rd (by repeat (first | apply List.Mem.head | apply List.Mem.tail)) | assumption | exact ArgRd.rd (by assumption) _ | (apply Rd_weak; assumption; intro _ hx; exact dS hx)) (by simp only [ints_len, List.length_cons, List.length_nil]; first | omega | rfl) (by first | exact ints_one | (repeat (first | exact trivial | refine ⟨rfl, ?_⟩))) (by omega) (by omega) rfl) rfl (.inr fun _ _ hw => vecB_back (by repeat (first | exact Sel.here _ _ | apply Sel.there)) hw) ?_; intro _)) | (apply gQO; refine QO_k rfl (K_entryStore rfl rfl rfl (by repeat (first | exact Sel.here _ _ | apply Sel.there)) hok rfl) rfl ?_) | (refine sx ?_; try intro _))
      rename_i pc
      refine JS_fin Tryz.func219 rfl rfl (vs := []) ?_
      intro w hw
      have hmore := (by rw [← hAC]; exact hX : PI B i (A ++ x :: C) clock).more (by omega) hxk pc.1 pc.2
      rw [hl] at hmore
      refine ⟨rfl, _, _, hmore, plA_in rfl ?_⟩
      rw [List.map_append, List.map_cons]
      have hv2 : vx ({ x.1 with val := .slice pc.1 (l.length + 1) pc.2 }, l ++ [i]) = vec 3 1 (.slice pc.1 (l.length + 1) pc.2) (l.length + 1) (ints .i64 (l.map Int.ofNat) ++ [.int .i64 i]) := by
        unfold vx
        simp only [List.map_append, List.map_cons, List.map_nil, List.length_append, List.length_cons, List.length_nil]
        rw [← ints_app]
        rfl
      unfold plO
      rw [hv2]
      exact vecB_fwd (Sel.here _ _) (hw.drop.drop)
    · have hnil := plc_nil hX hf
      have hmiss : ∀ e ∈ X.map Prod.fst, e.key ≠ kv (k3 B i) := fun e he hk => by
        obtain ⟨x, hx, rfl⟩ := List.mem_map.1 he
        exact hf ⟨x, hx, hk⟩
      have hok : MOk Tryz.prog 282 (X.map Prod.fst ++ (⟨kv (k3 B i), .slice none 0 0, clock⟩ : MapEntry) :: []) (clock + 1) := hX.ok.push hkey hmiss
      refine JS_H (H' := vec 3 1 (.slice none 0 0) 0 [] :: blk b4 [.int .u8 (k3 B i).1, .int .u8 (k3 B i).2.1, .int .u8 (k3 B i).2.2] :: plA bp bm p c m X clock H) (fun w hw => St.nilvec hw) ?_
      refine JS_order [0, 1, 2, 3, 4, 5, 6, 7, 8, 10, 9, 11] [4, 0] (Picks.cons rfl (Picks.cons rfl (Picks.cons rfl (Picks.cons rfl (Picks.cons rfl (Picks.cons rfl (Picks.cons rfl (Picks.cons rfl (Picks.cons rfl (Picks.cons rfl (Picks.cons rfl (Picks.cons rfl (Picks.nil))))))))))))) (by kernel_rfl) (by kernel_rfl) rfl (by decide +kernel) ?_
      repeat (first | (apply gQO; (refine QO_e (E_buildSlice (tb := tb) rfl rfl rfl rfl rfl rfl rfl rfl rfl) rfl (.inr fun _ _ hw => dS hw) ?_; intro _)) | (apply gQO; refine QO_e (E_entryF (tb := tb) kkt rfl rfl rfl (by repeat (first | exact Sel.here _ _ | apply Sel.there)) hX.ok hkey hmiss kzero rfl) rfl (.inl rfl) ?_; intro _) | (apply gQO; (refine QO_e (E_appendB (tb := tb) rfl rfl rfl rfl rfl rfl (by repeat (first | exact Sel.here _ _ | apply Sel.there)) (by first | exact vec_rd (by repeat (first | apply List.Mem.head | apply List.Mem.tail)) | assumption | exact ArgRd.rd (by assumption) _ | (apply Rd_weak; assumption; intro _ hx; exact dS hx)) (by simp only [ints_len, List.length_cons, List.length_nil]; first | omega | rfl) (by first | exact ints_one | (repeat (first | exact trivial | refine ⟨rfl, ?_⟩))) (by omega) (by omega) rfl) rfl (.inr fun _ _ hw => vecB_back (by repeat (first | exact Sel.here _ _ | apply Sel.there)) hw) ?_; intro _)) | (apply gQO; refine QO_k rfl (K_entryStore rfl rfl rfl (by repeat (first | exact Sel.here _ _ | apply Sel.there)) hok rfl) rfl ?_) | (refine sx ?_; try intro _))
      rename_i pc
      refine JS_fin Tryz.func219 rfl rfl (vs := []) ?_
      intro w hw
      refine ⟨rfl, _, _, hX.new hB (by omega) hf hnil pc.1 pc.2, plA_in rfl ?_⟩
      rw [List.map_append, List.map_cons]
      have hv2 : vx (⟨kv (k3 B i), .slice pc.1 1 pc.2, clock⟩, [i]) = vec 3 1 (.slice pc.1 (0 + 1) pc.2) (0 + 1) ([] ++ [.int .i64 i]) := by
        unfold vx; rfl
      unfold plO
      rw [hv2, List.map_nil, List.map_nil, List.append_nil]
      exact dS (vecB_fwd (Sel.there _ _ _ _ (Sel.here _ _)) hw)
end
end Go.Proofs.YteelffkghidpfaaGreat

set_option linter.unusedVariables false
set_option linter.unusedSimpArgs false
set_option maxRecDepth 100000
namespace Go.Proofs.YteelffkghidpfaaGreat
open Sx Go
section
variable {w0 : World} {H : List Asn}
attribute [local irreducible] pst plc sam k3 tok toks tkv
theorem toks_s {B : List Int} {i : Nat} (h : i < B.length) : toks B (B.length - i) i = tok B i :: toks B (B.length - (i + max 1 (tok B i).2.1)) (i + max 1 (tok B i).2.1) := by
  obtain ⟨f, hf⟩ : ∃ f, B.length - i = f + 1 := ⟨B.length - i - 1, by omega⟩
  rw [hf]
  have e : toks B (f + 1) i = tok B i :: toks B f (i + max 1 (tok B i).2.1) := by rw [toks.eq_def]; simp only []; rw [if_pos h]
  rw [e, toks_fuel B f (B.length - (i + max 1 (tok B i).2.1)) _ (by omega) (by omega)]
theorem toks_end {B : List Int} : toks B (B.length - B.length) B.length = [] := by
  rw [Nat.sub_self]; unfold toks; rfl
theorem toks_len {B : List Int} : ∀ f i, (toks B f i).length ≤ f
  | 0, i => by unfold toks; simp
  | f + 1, i => by
    unfold toks
    split
    · have := toks_len (B := B) f (i + max 1 (tok B i).2.1); simp; omega
    · simp
set_option maxRecDepth 10000 in
set_option maxHeartbeats 4000000 in
theorem Find_c (p : Option Addr) (c m : Nat) (B : List Int) (hr : Rd w0 H (.slice p m c) m (ints .u8 B)) (hm : B.length = m) (hB : OKB B) (h4 : m ≤ 1100000) (w : World) (hw : St w0 H w) :
    Calls Tryz.prog 163 #[.slice p m c] w fun e w' => ∃ q d, e = .returned (.slice q (toks B m 0).length d) ∧ St w0 (vec 218 3 (.slice q (toks B m 0).length d) (toks B m 0).length (tkv (toks B m 0)) :: H) w' := by
  have hmc : m ≤ c := (hr.lcap hw).1
  refine enter (vs := [.slice p m c]) Tryz.func163 rfl rfl rfl hw ?_
  clear hw w
  repeat (first | (apply gJO; apply kMm; refine JO_makeMap rfl ?_; intro _) | (refine sx ?_; try intro _))
  rename_i bm bp
  refine JS_loop6 (fun (i : Nat) (X : List PX) (clock : Nat) (q : Option Addr) (d : Nat) (L : List (Int × Nat × Nat)) => [(0, .slice p m c), (3, .pointer (some ⟨bp, 0, none⟩)), (4, .slice q L.length d), (5, .int .i64 i)])
    (fun i X clock q d L => vec 218 3 (.slice q L.length d) L.length (tkv L) :: plA bp bm p c m X clock H) (fun i X clock q d L => i ≤ m ∧ PI B i X clock ∧ L.length ≤ i ∧ toks B m 0 = L ++ toks B (m - i) i) (fun i _ _ _ _ _ => m - i) 0 [] 0 none 0 [] ⟨Nat.zero_le _, PI.nil B 0, Nat.le_refl _, by rw [Nat.sub_zero, List.nil_append]⟩ (by repeat (first | exact trivial | refine ⟨rfl, ?_⟩ | refine ⟨lookI rfl (by omega), ?_⟩))
    (fun w h => by
      have h1 := St.big_nil h
      have h2 := h1.perm (List.perm_append_comm (l₁ := [_]) (l₂ := [_, _]) |>.append_right H)
      have : tkv [] = [] := by unfold tkv; rfl
      rw [this]
      exact St.nilvec h2) ?_
  intro i X clock q d L ⟨hi, hX, hLl, hL⟩ again
  by_cases him : i < m
  · have hts := toks_s (B := B) (i := i) (by omega)
    have hbd := tok_bd B i (by omega)
    repeat (refine sx ?_; try intro _)
    refine JO_call Tryz.call218 rfl rfl fun w hw => (Best_c (H := vec 218 3 (.slice q L.length d) L.length (tkv L) :: H) bp bm p c m X clock B i (Rd_weak hr fun w hw => dS hw) hm hB hX him h4 w (hw.perm (List.perm_append_comm (l₁ := [_]) (l₂ := [_, _, _]) |>.append_right H))).mono ?_
    rintro e w' ⟨rfl, hw'⟩
    refine ⟨_, rfl, vec 218 3 (.slice q L.length d) L.length (tkv L) :: plA bp bm p c m X clock H, hw'.perm (List.perm_append_comm (l₁ := [_, _, _]) (l₂ := [_]) |>.append_right H), ?_⟩
    clear hw' hw w w'
    rw [hm] at hts
    obtain ⟨⟨x, n, k⟩, ht⟩ : ∃ t, tok B i = t := ⟨_, rfl⟩
    rw [ht] at hts hbd ⊢
    simp only [] at hts ⊢
    have hn258 : i + max 1 n ≤ m := by
      rcases hbd with h | ⟨n', d', h, _⟩
      · have : n = 0 := (Prod.mk.inj (Prod.mk.inj h).2).1
        omega
      · have : n = n' := (Prod.mk.inj (Prod.mk.inj h).2).1
        omega
    clear hbd
    have hmx : max (1 : Int) (n : Int) = ((max 1 n : Nat) : Int) := by omega
    have htv := tkv_app L (x, n, k)
    have hll : (L ++ [(x, n, k)]).length = L.length + 1 := by simp
    repeat (first | (apply gJO; (refine JO_app (tb := tb) rfl rfl rfl rfl rfl rfl (by repeat (first | exact Sel.here _ _ | apply Sel.there)) (by first | exact vec_rd (by repeat (first | apply List.Mem.head | apply List.Mem.tail)) | assumption | exact ArgRd.rd (by assumption) _ | (apply Rd_weak; assumption; intro _ hx; exact dS hx)) (by simp only [ints_len, List.length_cons, List.length_nil]; first | omega | rfl) (by first | exact ints_one | (repeat (first | exact trivial | refine ⟨rfl, ?_⟩))) (by omega) rfl ?_; intro _ _)) | (apply gJO; refine JO_v (oc_max (V_max rfl rfl hmx rfl)) ?_) | (apply gJO; refine JO_v (V_max rfl rfl hmx rfl) ?_) | (refine sx ?_; try intro _))
    rename_i bt ps q2 d2
    refine JS_loop3 (fun (j : Nat) (X : List PX) (clock : Nat) => [(0, .slice p m c), (3, .pointer (some ⟨bp, 0, none⟩)), (4, .slice q2 (L.length + 1) d2), (5, .int .i64 ((i + j : Nat) : Int)), (24, .int .i64 ((max 1 n : Nat) : Int)), (25, .int .i64 j)])
      (fun j X clock => plA bp bm p c m X clock (vec 218 3 (.slice q2 (L ++ [(x, n, k)]).length d2) (L ++ [(x, n, k)]).length (tkv (L ++ [(x, n, k)])) :: H)) (fun j X clock => j ≤ max 1 n ∧ PI B (i + j) X clock) (fun j _ _ => max 1 n - j) 0 X clock ⟨Nat.zero_le _, hX⟩ (by repeat (first | exact trivial | refine ⟨rfl, ?_⟩ | refine ⟨lookI rfl (by omega), ?_⟩))
      (fun w hw => by
        rw [htv, hll]
        have h1 := (fun h => St.sub (H' := vec 218 3 (.slice q2 (L.length + 1) d2) (L.length + 1) (tkv L ++ [.int .u8 x, .int .i64 n, .int .i64 k]) :: plA bp bm p c m X clock H) ((List.Sublist.refl _).cons _ |>.cons _) h) hw
        exact h1.perm (List.perm_append_comm (l₁ := [_]) (l₂ := [_, _, _]) |>.append_right H)) ?_
    intro j X2 clock2 ⟨hj, hX2⟩ again2
    by_cases hjn : j < max 1 n
    · repeat (refine sx ?_; try intro _)
      refine JO_call Tryz.call219 rfl rfl fun w hw => (Note_c bp bm p c m X2 clock2 B (i + j) (Rd_weak hr fun w hw => dS hw) hm hB hX2 (by omega) h4 w hw).mono ?_
      rintro e w' ⟨rfl, X3, clock3, hX3, hw'⟩
      refine ⟨_, rfl, _, hw', ?_⟩
      clear hw' hw w w'
      repeat (refine sx ?_; try intro _)
      exact JS_again3 again2 (j + 1) X3 clock3 ⟨by omega, hX3⟩ (by omega) (by repeat (first | exact trivial | refine ⟨rfl, ?_⟩ | refine ⟨lookI rfl (by omega), ?_⟩)) (fun w hw => hw)
    · obtain rfl : j = max 1 n := by omega
      clear again2
      repeat (refine sx ?_; try intro _)
      exact JS_again6 again (i + max 1 n) X2 clock2 q2 d2 (L ++ [(x, n, k)]) ⟨hn258, hX2, by rw [hll]; omega, by rw [hL, hts, List.append_assoc]; rfl⟩ (by omega) (by rw [hll]; exact (by repeat (first | exact trivial | refine ⟨rfl, ?_⟩ | refine ⟨lookI rfl (by omega), ?_⟩))) (fun w hw => hw.perm (List.perm_append_comm (l₁ := [_, _, _]) (l₂ := [_]) |>.append_right H))
  · obtain rfl : i = m := by omega
    clear again
    have hend : toks B i 0 = L := by rw [hL, ← hm, toks_end, List.append_nil]
    rw [hend]
    repeat (refine sx ?_; try intro _)
    refine JS_ret Tryz.func163 rfl rfl fun w hw => ⟨q, d, rfl, dS hw⟩
end
end Go.Proofs.YteelffkghidpfaaGreat

namespace Go.Proofs.YteelffkghidpfaaGreat
open Sx Go
set_option linter.unusedVariables false
set_option linter.unusedSimpArgs false
set_option maxRecDepth 100000
def padL (L : List Int) : List Int := L ++ List.replicate (8 * ((L.length + 7) / 8) - L.length) 0
theorem padL_len (L : List Int) : (padL L).length = 8 * ((L.length + 7) / 8) := by
  unfold padL; rw [List.length_append, List.length_replicate]; omega
theorem padL_get (L : List Int) (i : Nat) : (padL L).getD i 0 = L.getD i 0 := by
  unfold padL
  rw [List.getD_eq_getElem?_getD, List.getD_eq_getElem?_getD]
  rcases Nat.lt_or_ge i L.length with h | h
  · rw [List.getElem?_append_left h]
  · rw [List.getElem?_append_right h, List.getElem?_replicate, List.getElem?_eq_none (l := L) (by omega)]
    split <;> rfl
theorem padL_01 {L : List Int} (hL : ∀ j, L.getD j 0 = 0 ∨ L.getD j 0 = 1) (j : Nat) : (padL L).getD j 0 = 0 ∨ (padL L).getD j 0 = 1 := by
  rw [padL_get]; exact hL j
theorem padL_pack (L : List Int) : pack (padL L) = pack L := by
  unfold pack
  rw [padL_len, show (8 * ((L.length + 7) / 8) + 7) / 8 = (L.length + 7) / 8 by omega]
  apply tab_congr
  intro j hj
  unfold byteAt
  exact num_congr 8 fun t _ => padL_get L _
set_option maxRecDepth 10000 in
theorem WAlign_c {w0 : World} {H : List Asn} (b : Nat) (L : List Int) (q : Option Addr) (d : Nat) (hl : L.length ≤ 70368744177664) (w : World) (hw : St w0 (wrA b L q d :: wrV L q d :: H) w) :
    Calls Tryz.prog 167 #[.pointer (some ⟨b, 0, none⟩)] w fun e w' => e = .returned (.tuple #[]) ∧ St w0 (wrA b (padL L) q d :: wrV (padL L) q d :: H) w' := by
  have hlen := padL_len L
  have e1 : ((padL L).length + 7) / 8 = (L.length + 7) / 8 := by rw [hlen]; omega
  unfold wrA wrV at hw ⊢
  rw [e1, padL_pack, hlen]
  refine enter (vs := [.pointer (some ⟨b, 0, none⟩)]) Tryz.func167 rfl rfl rfl hw ?_
  have hcast : (8 : Int) * (((L.length + 7) / 8 : Nat) : Int) = ((8 * ((L.length + 7) / 8) : Nat) : Int) := by omega
  obtain ⟨k, hk⟩ : ∃ k, (L.length + 7) / 8 = k := ⟨_, rfl⟩
  rw [hk] at hcast ⊢
  have hmul : IntKind.i64.wrap ((8 : Int) * (k : Int)) = ((8 * k : Nat) : Int) := (wi64 (by omega)).trans hcast
  clear hw
  repeat (first | (apply gJO; refine JO_v (V_mul rfl rfl hmul rfl) ?_) | (refine sx ?_; try intro _))
  refine JS_fin Tryz.func167 rfl rfl (vs := []) ?_
  intro w hw
  exact ⟨rfl, hw⟩
set_option maxRecDepth 10000 in
theorem WAlignR_c {w0 : World} {H : List Asn} (b k : Nat) (q : Option Addr) (d : Nat) (x : Int) (hk : k ≤ 70368744177664) (w : World) (hw : St w0 (blk b [.slice q k d, .int .i64 x] :: H) w) :
    Calls Tryz.prog 167 #[.pointer (some ⟨b, 0, none⟩)] w fun e w' => e = .returned (.tuple #[]) ∧ St w0 (blk b [.slice q k d, .int .i64 ((8 * k : Nat) : Int)] :: H) w' := by
  refine enter (vs := [.pointer (some ⟨b, 0, none⟩)]) Tryz.func167 rfl rfl rfl hw ?_
  have hmul : IntKind.i64.wrap ((8 : Int) * (k : Int)) = ((8 * k : Nat) : Int) := (wi64 (by omega)).trans (by omega)
  clear hw
  repeat (first | (apply gJO; refine JO_v (V_mul rfl rfl hmul rfl) ?_) | (refine sx ?_; try intro _))
  refine JS_fin Tryz.func167 rfl rfl (vs := []) ?_
  intro w hw
  exact ⟨rfl, hw⟩
set_option maxRecDepth 10000 in
theorem WText_c {w0 : World} {H : List Asn} (b : Nat) (L : List Int) (q : Option Addr) (d : Nat) (p : Option Addr) (c m : Nat) (X : List Int) (hr : Rd w0 H (.slice p m c) m (ints .u8 X)) (hm : X.length = m) (hl : L.length ≤ 33554432) (hmx : m ≤ 33554432) (w : World) (hw : St w0 (wrA b L q d :: wrV L q d :: H) w) :
    Calls Tryz.prog 168 #[.pointer (some ⟨b, 0, none⟩), .slice p m c] w fun e w' => e = .returned (.tuple #[]) ∧ ∃ q d, St w0 (blk b [.slice q ((L.length + 7) / 8 + m) d, .int .i64 ((8 * ((L.length + 7) / 8 + m) : Nat) : Int)] ::
      vec 5 1 (.slice q ((L.length + 7) / 8 + m) d) ((L.length + 7) / 8 + m) (ints .u8 (pack L ++ X)) :: H) w' := by
  have hpl := pack_len L
  unfold wrA wrV at hw
  obtain ⟨k, hk⟩ : ∃ k, (L.length + 7) / 8 = k := ⟨_, rfl⟩
  rw [hk] at hw hpl ⊢
  refine enter (vs := [.pointer (some ⟨b, 0, none⟩), .slice p m c]) Tryz.func168 rfl rfl rfl hw ?_
  clear hw
  repeat (refine sx ?_; try intro _)
  (refine JO_app (tb := tb) rfl rfl rfl rfl rfl rfl (by repeat (first | exact Sel.here _ _ | apply Sel.there)) (by first | exact vec_rd (by repeat (first | apply List.Mem.head | apply List.Mem.tail)) | assumption | exact ArgRd.rd (by assumption) _ | (apply Rd_weak; assumption; intro _ hx; exact dS hx)) (by simp only [ints_len, List.length_cons, List.length_nil]; first | omega | rfl) (by first | exact ints_one | (repeat (first | exact trivial | refine ⟨rfl, ?_⟩))) (by omega) rfl ?_; intro _ _)
  rename_i q2 d2
  rw [ints_app]
  repeat (refine sx ?_; try intro _)
  refine JO_call Tryz.call167 rfl rfl fun w hw => (WAlignR_c b (k + m) q2 d2 _ (by omega) w hw).mono ?_
  rintro e w' ⟨rfl, hw'⟩
  refine ⟨_, rfl, _, hw', ?_⟩
  clear hw' hw w w'
  repeat (refine sx ?_; try intro _)
  refine JS_fin Tryz.func168 rfl rfl (vs := []) ?_
  intro w hw
  exact ⟨rfl, q2, d2, hw⟩
end Go.Proofs.YteelffkghidpfaaGreat

namespace Go.Proofs.YteelffkghidpfaaGreat
open Sx Go
set_option linter.unusedVariables false
set_option linter.unusedSimpArgs false
set_option maxRecDepth 100000
theorem bnum_nbt (bt : Nat → Int) (a : Nat) : ∀ k, bnum (fun t => bt (a + t)) k = nbt bt a k
  | 0 => rfl
  | k + 1 => by rw [bnum, nbt, bnum_nbt bt a k]
def txtL (L X : List Int) : List Int := padL L ++ tab (8 * X.length) (bitB X 0)
theorem txtL_len (L X : List Int) : (txtL L X).length = 8 * ((L.length + 7) / 8 + X.length) := by
  unfold txtL; rw [List.length_append, padL_len, tab_len]; omega
theorem txtL_01 {L X : List Int} (hL : ∀ j, L.getD j 0 = 0 ∨ L.getD j 0 = 1) (j : Nat) : (txtL L X).getD j 0 = 0 ∨ (txtL L X).getD j 0 = 1 := by
  refine app_01 (padL_01 hL) (fun j => ?_) j
  rcases Nat.lt_or_ge j (8 * X.length) with h | h
  · rw [List.getD_eq_getElem?_getD]
    unfold tab
    rw [List.getElem?_map, List.getElem?_range h]
    exact bitB_01 X 0 j
  · rw [List.getD_eq_getElem?_getD, List.getElem?_eq_none (by rw [tab_len]; omega)]; exact .inl rfl
theorem txtL_lo (L X : List Int) (i : Nat) (h : i < 8 * ((L.length + 7) / 8)) : (txtL L X).getD i 0 = L.getD i 0 := by
  unfold txtL
  rw [List.getD_eq_getElem?_getD, List.getElem?_append_left (by rw [padL_len]; exact h), ← List.getD_eq_getElem?_getD, padL_get]
theorem txtL_hi (L X : List Int) (i : Nat) (h : i < 8 * X.length) : (txtL L X).getD (8 * ((L.length + 7) / 8) + i) 0 = bitB X 0 i := by
  unfold txtL
  rw [List.getD_eq_getElem?_getD, List.getElem?_append_right (by rw [padL_len]; omega), padL_len, Nat.add_sub_cancel_left]
  unfold tab
  rw [List.getElem?_map, List.getElem?_range h]; rfl
theorem txtL_pack (L X : List Int) (hX : OKB X) : pack (txtL L X) = pack L ++ X := by
  have hl := pack_len L
  apply List.ext_getElem?
  intro j
  unfold pack at hl ⊢
  rw [txtL_len, show (8 * ((L.length + 7) / 8 + X.length) + 7) / 8 = (L.length + 7) / 8 + X.length by omega]
  rcases Nat.lt_or_ge j ((L.length + 7) / 8) with h | h
  · rw [List.getElem?_append_left (by rw [hl]; exact h)]
    unfold tab
    rw [List.getElem?_map, List.getElem?_map, List.getElem?_range h, List.getElem?_range (by omega), Option.map_some, Option.map_some]
    congr 1
    unfold byteAt
    exact num_congr 8 fun t ht => txtL_lo L X _ (by omega)
  · rw [List.getElem?_append_right (by rw [hl]; exact h), hl]
    rcases Nat.lt_or_ge j ((L.length + 7) / 8 + X.length) with h2 | h2
    · unfold tab
      rw [List.getElem?_map, List.getElem?_range h2, Option.map_some]
      obtain ⟨i, rfl⟩ : ∃ i, j = (L.length + 7) / 8 + i := ⟨j - (L.length + 7) / 8, by omega⟩
      rw [Nat.add_sub_cancel_left, List.getElem?_eq_getElem (by omega)]
      congr 1
      have hb := nbt_byte X hX i
      rw [← bnum_nbt] at hb
      unfold byteAt
      rw [num_congr (g := fun t => bitB X 0 (8 * i + t)) 8 (fun t ht => by rw [show 8 * ((L.length + 7) / 8 + i) + t = 8 * ((L.length + 7) / 8) + (8 * i + t) by omega]; exact txtL_hi L X _ (by omega)), hb]
      rw [List.getD_eq_getElem?_getD, List.getElem?_eq_getElem (by omega)]; rfl
    · rw [List.getElem?_eq_none (by rw [tab_len]; omega), List.getElem?_eq_none (by omega)]
theorem WText2_c {w0 : World} {H : List Asn} (b : Nat) (L : List Int) (q : Option Addr) (d : Nat) (p : Option Addr) (c m : Nat) (X : List Int) (hr : Rd w0 H (.slice p m c) m (ints .u8 X)) (hm : X.length = m) (hX : OKB X) (hl : L.length ≤ 33554432) (hmx : m ≤ 33554432) (w : World) (hw : St w0 (wrA b L q d :: wrV L q d :: H) w) :
    Calls Tryz.prog 168 #[.pointer (some ⟨b, 0, none⟩), .slice p m c] w fun e w' => e = .returned (.tuple #[]) ∧ ∃ q d, St w0 (wrA b (txtL L X) q d :: wrV (txtL L X) q d :: H) w' := by
  have h := WText_c b L q d p c m X hr hm hl hmx w hw
  unfold wrA wrV
  rw [txtL_len, txtL_pack L X hX, show (8 * ((L.length + 7) / 8 + X.length) + 7) / 8 = (L.length + 7) / 8 + X.length by omega, hm]
  exact h
end Go.Proofs.YteelffkghidpfaaGreat

set_option linter.unusedVariables false
set_option linter.unusedSimpArgs false
set_option maxRecDepth 100000
namespace Go.Proofs.YteelffkghidpfaaGreat
open Sx Go
theorem bnum_bits (n : Int) : ∀ k : Nat, bnum (fun t => n / 2 ^ t % 2) k = n % 2 ^ k
  | 0 => by rw [bnum]; simp
  | k + 1 => by
    rw [bnum, bnum_bits n k]
    have e2 : n % 2 ^ (k + 1) = n % 2 ^ k + n / 2 ^ k % 2 * 2 ^ k := by
      have hp : (0 : Int) < 2 ^ k := Int.pow_pos (by decide)
      have e1 := Int.mul_ediv_add_emod n (2 ^ k)
      have e3 := Int.mul_ediv_add_emod (n / 2 ^ k) 2
      obtain ⟨q, hq⟩ : ∃ q, n / 2 ^ k / 2 = q := ⟨_, rfl⟩
      obtain ⟨r, hr⟩ : ∃ r, n / 2 ^ k % 2 = r := ⟨_, rfl⟩
      obtain ⟨s, hs⟩ : ∃ s, n % 2 ^ k = s := ⟨_, rfl⟩
      have hs0 := Int.emod_nonneg n (Int.ne_of_gt hp)
      have hs1 := Int.emod_lt_of_pos n hp
      have hr0 : 0 ≤ r ∧ r ≤ 1 := by omega
      rw [hq, hr] at e3
      rw [hs] at e1 hs0 hs1
      rw [hr, hs]
      have hn : n = (s + r * 2 ^ k) + 2 ^ (k + 1) * q := by
        rw [← e1, ← e3, Int.pow_succ, Int.mul_add]
        rw [show (2 : Int) ^ k * (2 * q) = 2 ^ k * 2 * q by rw [Int.mul_assoc], Int.mul_comm r]
        omega
      rw [hn, Int.add_mul_emod_self_left]
      refine Int.emod_eq_of_lt ?_ ?_
      · rcases (show r = 0 ∨ r = 1 by omega) with h | h <;> rw [h] <;> omega
      · rw [Int.pow_succ]
        rcases (show r = 0 ∨ r = 1 by omega) with h | h <;> rw [h] <;> omega
    rw [e2]
theorem grp_get {n : Int} {k i : Nat} (h : i < k) : (grp n k).getD i 0 = n / 2 ^ i % 2 := by
  unfold grp
  rw [List.getD_eq_getElem?_getD, List.getElem?_map, List.getElem?_range h]; rfl
theorem pack_app (A C : List Int) (hA : 8 ∣ A.length) : pack (A ++ C) = pack A ++ pack C := by
  obtain ⟨a, ha⟩ := hA
  have hA8 : A.length = 8 * a := ha
  have hl := pack_len A
  apply List.ext_getElem?
  intro j
  unfold pack at hl ⊢
  rw [List.length_append, ha, show (8 * a + C.length + 7) / 8 = a + (C.length + 7) / 8 by omega, show (8 * a + 7) / 8 = a by omega]
  rw [ha, show (8 * a + 7) / 8 = a by omega] at hl
  rcases Nat.lt_or_ge j a with h | h
  · rw [List.getElem?_append_left (by rw [hl]; exact h)]
    unfold tab
    rw [List.getElem?_map, List.getElem?_map, List.getElem?_range h, List.getElem?_range (by omega), Option.map_some, Option.map_some]
    congr 1
    unfold byteAt
    refine num_congr 8 fun t ht => ?_
    rw [List.getD_eq_getElem?_getD, List.getElem?_append_left (by omega), ← List.getD_eq_getElem?_getD]
  · rw [List.getElem?_append_right (by rw [hl]; exact h), hl]
    obtain ⟨i, rfl⟩ : ∃ i, j = a + i := ⟨j - a, by omega⟩
    rw [Nat.add_sub_cancel_left]
    unfold tab
    rcases Nat.lt_or_ge i ((C.length + 7) / 8) with h2 | h2
    · rw [List.getElem?_map, List.getElem?_map, List.getElem?_range h2, List.getElem?_range (by omega), Option.map_some, Option.map_some]
      congr 1
      unfold byteAt
      refine num_congr 8 fun t ht => ?_
      rw [List.getD_eq_getElem?_getD, List.getElem?_append_right (by omega), List.getD_eq_getElem?_getD, show 8 * (a + i) + t - A.length = 8 * i + t by omega]
    · rw [List.getElem?_eq_none (by simp; omega), List.getElem?_eq_none (by simp; omega)]
theorem pack_grp16 (n : Int) (h : 0 ≤ n ∧ n < 65536) : pack (grp n 16) = [n % 256, n / 256] := by
  have b0 : byteAt (grp n 16) 0 = n % 256 := by
    unfold byteAt
    rw [num_congr (g := fun t => n / 2 ^ t % 2) 8 (fun t ht => by rw [show 8 * 0 + t = t by omega]; exact grp_get (by omega)), bnum_bits]
    rfl
  have b1 : byteAt (grp n 16) 1 = n / 256 := by
    unfold byteAt
    rw [num_congr (g := fun t => n / 256 / 2 ^ t % 2) 8 (fun t ht => by
      rw [show 8 * 1 + t = 8 + t by omega, grp_get (by omega), Int.pow_add, show (2 : Int) ^ 8 = 256 by decide, ← Int.ediv_ediv_of_nonneg (by decide)]), bnum_bits]
    have : (2 : Int) ^ 8 = 256 := by decide
    rw [this]; omega
  unfold pack tab
  rw [grp_len]
  simp [List.range_succ, b0, b1]
theorem pack_hd (la : Int) (h : la = 0 ∨ la = 1) : pack (grp la 1 ++ grp 0 2) = [la] := by
  rcases h with rfl | rfl <;> decide +kernel
def hd5 (la n : Int) : List Int := [la, n % 256, n / 256, 255 - n % 256, 255 - n / 256]
theorem sto_pack {L X : List Int} {la n : Int} (hX : OKB X) (hL : 8 ∣ L.length) (hla : la = 0 ∨ la = 1) (hn : 0 ≤ n ∧ n < 65536) :
    pack (txtL (padL (L ++ grp la 1 ++ grp 0 2) ++ grp n 16 ++ grp (65535 - n) 16) X) = pack L ++ (hd5 la n ++ X) := by
  rw [txtL_pack _ _ hX]
  have hg : (grp la 1 ++ grp 0 2).length = 3 := by rw [List.length_append, grp_len, grp_len]
  obtain ⟨a, ha⟩ := hL
  have e1 : padL (L ++ grp la 1 ++ grp 0 2) = L ++ padL (grp la 1 ++ grp 0 2) := by
    unfold padL
    rw [List.append_assoc L, List.length_append, hg, ha, show 8 * ((8 * a + 3 + 7) / 8) - (8 * a + 3) = 8 * ((3 + 7) / 8) - 3 by omega, List.append_assoc]
  have hp : (padL (grp la 1 ++ grp 0 2)).length = 8 := by rw [padL_len, hg]
  have e2 : (L ++ padL (grp la 1 ++ grp 0 2) ++ grp n 16).length = 8 * (a + 3) := by rw [List.length_append, List.length_append, hp, grp_len, ha]; omega
  rw [e1, pack_app _ _ ⟨_, e2⟩, pack_app _ _ ⟨a + 1, by rw [List.length_append, hp, ha]; omega⟩, pack_app _ _ ⟨a, ha⟩, padL_pack, pack_hd la hla, pack_grp16 n hn, pack_grp16 (65535 - n) (by omega)]
  have m1 : (65535 - n) % 256 = 255 - n % 256 := by omega
  have m2 : (65535 - n) / 256 = 255 - n / 256 := by omega
  rw [m1, m2]
  unfold hd5
  simp
def sb : Nat → List Int → List Int
  | 0, _ => []
  | f + 1, X => if X.length ≤ 65535 then hd5 1 X.length ++ X else hd5 0 65535 ++ X.take 65535 ++ sb f (X.drop 65535)
theorem sb_fuel : ∀ (f g : Nat) (X : List Int), X.length < f → X.length < g → sb f X = sb g X
  | 0, _, _, h, _ => absurd h (by omega)
  | _, 0, _, _, h => absurd h (by omega)
  | f + 1, g + 1, X, hf, hg => by
    rw [sb, sb]
    split
    · rfl
    · rw [sb_fuel f g _ (by rw [List.length_drop]; omega) (by rw [List.length_drop]; omega)]
def sbs (X : List Int) : List Int := sb (X.length + 1) X
theorem sbs_1 {X : List Int} (h : X.length ≤ 65535) : sbs X = hd5 1 X.length ++ X := by
  unfold sbs; rw [sb, if_pos h]
theorem sbs_2 {X : List Int} (h : ¬ X.length ≤ 65535) : sbs X = hd5 0 65535 ++ X.take 65535 ++ sbs (X.drop 65535) := by
  unfold sbs; rw [sb, if_neg h, sb_fuel X.length ((X.drop 65535).length + 1) _ (by rw [List.length_drop]; omega) (by omega)]
theorem hd5_okb {la n : Int} (hla : la = 0 ∨ la = 1) (hn : 0 ≤ n ∧ n < 65536) : ∀ x ∈ hd5 la n, 0 ≤ x ∧ x < 256 := by
  intro x hx
  unfold hd5 at hx
  simp at hx
  omega
end Go.Proofs.YteelffkghidpfaaGreat

set_option linter.unusedVariables false
set_option linter.unusedSimpArgs false
set_option maxRecDepth 100000
namespace Go.Proofs.YteelffkghidpfaaGreat
open Sx Go
theorem xor16_u32 {a : Int} (h : 0 ≤ a ∧ a < 65536) : IntKind.u32.wrap ((BitVec.ofInt IntKind.u32.bits a ^^^ BitVec.ofInt IntKind.u32.bits 65535).toNat) = 65535 - a := by
  rw [xor_nat .u32 ⟨h.1, Int.lt_trans h.2 (by decide)⟩ ⟨by omega, by decide⟩, show (65535 : Int).toNat = 65535 from rfl, xor16 (by omega)]
  exact (wu32 (by omega)).trans (by omega)
theorem Rd_take {w0 : World} {H : List Asn} {p : Option Addr} {m c n : Nat} {X : List Int} (h : Rd w0 H (.slice p m c) m (ints .u8 X)) (hm : X.length = m) (hn : n ≤ m) : Rd w0 H (.slice (subB p 0 c 1) (n - 0) (c - 0)) n (ints .u8 (X.take n)) := by
  have := Rd_sub (lo := 0) (hi := n) (sz := 1) h (Nat.zero_le _) hn
  rw [Nat.zero_mul, List.drop_zero, Nat.sub_zero, Nat.mul_one] at this
  rw [Nat.sub_zero]
  unfold ints at this ⊢
  rw [List.map_take]
  exact this
theorem Rd_drop {w0 : World} {H : List Asn} {p : Option Addr} {m c n : Nat} {X : List Int} (h : Rd w0 H (.slice p m c) m (ints .u8 X)) (hm : X.length = m) (hn : n ≤ m) : Rd w0 H (.slice (subB p n c 1) (m - n) (c - n)) (m - n) (ints .u8 (X.drop n)) := by
  have := Rd_sub (lo := n) (hi := m) (sz := 1) h hn (Nat.le_refl _)
  rw [Nat.mul_one, Nat.mul_one, List.take_of_length_le (by simp [ints, hm])] at this
  unfold ints at this ⊢
  rw [List.map_drop]
  exact this
theorem OKB_take {X : List Int} (h : OKB X) (n : Nat) : OKB (X.take n) := fun j => by
  rw [List.getD_eq_getElem?_getD, List.getElem?_take]
  split
  · have := h j; rwa [List.getD_eq_getElem?_getD] at this
  · decide
theorem OKB_drop {X : List Int} (h : OKB X) (n : Nat) : OKB (X.drop n) := fun j => by
  rw [List.getD_eq_getElem?_getD, List.getElem?_drop, ← List.getD_eq_getElem?_getD]
  exact h _
section
attribute [local irreducible] pack grp padL txtL sbs hd5
variable {w0 : World} {H : List Asn}
set_option maxRecDepth 10000 in
set_option maxHeartbeats 4000000 in
theorem DStored_c (p : Option Addr) (c m : Nat) (B : List Int) (hr : Rd w0 H (.slice p m c) m (ints .u8 B)) (hm : B.length = m) (hB : OKB B) (h4 : m ≤ 1100000) (w : World) (hw : St w0 H w) :
    Calls Tryz.prog 122 #[.slice p m c] w fun e w' => ∃ q d, e = .returned (.slice q (sbs B).length d) ∧ St w0 (vec 5 1 (.slice q (sbs B).length d) (sbs B).length (ints .u8 (sbs B)) :: H) w' := by
  refine enter (vs := [.slice p m c]) Tryz.func122 rfl rfl rfl hw ?_
  clear hw w
  repeat (refine sx ?_; try intro _)
  rename_i b
  have hp0 : pack [] = [] := by unfold pack; rfl
  refine JS_loop6 (fun (p : Option Addr) (c : Nat) (X L : List Int) (q : Option Addr) (d : Nat) => [(0, .slice p X.length c), (3, .pointer (some ⟨b, 0, none⟩))]) (fun p c X L q d => wrA b L q d :: wrV L q d :: H)
    (fun p c X L q d => Rd w0 H (.slice p X.length c) X.length (ints .u8 X) ∧ OKB X ∧ 8 ∣ L.length ∧ (∀ j, L.getD j 0 = 0 ∨ L.getD j 0 = 1) ∧ L.length + 16 * X.length ≤ 17600000 ∧ pack L ++ sbs X = sbs B) (fun _ _ X _ _ _ => X.length) p c B [] none 0
    ⟨by rw [hm]; exact hr, hB, ⟨0, rfl⟩, fun j => .inl (by simp), by simp; omega, by rw [hp0, List.nil_append]⟩ (by rw [hm]; exact (by repeat (first | exact trivial | refine ⟨rfl, ?_⟩ | refine ⟨lookI rfl (by omega), ?_⟩))) (fun w h => by
    have := St.nilvec (e := 5) (sz := 1) (base := none) h
    show St w0 (blk b [.slice none 0 0, .int .i64 0] :: vec 5 1 (.slice none 0 0) 0 (ints .u8 (pack [])) :: H) w
    rw [hp0]
    exact this.perm (List.Perm.swap _ _ _)) ?_
  intro p c X L q d ⟨hrX, hX, hL8, hL, hLl, hall⟩ again
  obtain ⟨x, hx⟩ : ∃ x, X.length = x := ⟨_, rfl⟩
  rw [hx] at hrX hLl
  simp only [hx] at again ⊢
  obtain ⟨n, hn⟩ : ∃ n, min x 65535 = n := ⟨_, rfl⟩
  have hmin : min (x : Int) 65535 = n := by omega
  obtain ⟨a, ha⟩ := hL8
  have hp16 : (2 : Int) ^ 16 = 65536 := by decide
  have hxor := xor16_u32 (a := (n : Int)) ⟨by omega, by omega⟩
  have key : ∀ la : Int, la = 0 ∨ la = 1 → ∃ L1 L2 L3 L4 L5 : List Int, L1 = L ++ grp la 1 ∧ L2 = L1 ++ grp 0 2 ∧ L3 = padL L2 ∧ L4 = L3 ++ grp n 16 ∧ L5 = L4 ++ grp (65535 - n) 16 ∧ L1.length = L.length + 1 ∧ L2.length = L.length + 3 ∧ L3.length = L.length + 8 ∧ L4.length = L.length + 24 ∧ L5.length = L.length + 40 ∧
      (∀ j, L1.getD j 0 = 0 ∨ L1.getD j 0 = 1) ∧ (∀ j, L2.getD j 0 = 0 ∨ L2.getD j 0 = 1) ∧ (∀ j, L3.getD j 0 = 0 ∨ L3.getD j 0 = 1) ∧ (∀ j, L4.getD j 0 = 0 ∨ L4.getD j 0 = 1) ∧ (∀ j, L5.getD j 0 = 0 ∨ L5.getD j 0 = 1) ∧
      pack (txtL L5 (X.take n)) = pack L ++ (hd5 la n ++ X.take n) ∧ (txtL L5 (X.take n)).length = L.length + 40 + 8 * n ∧ (∀ j, (txtL L5 (X.take n)).getD j 0 = 0 ∨ (txtL L5 (X.take n)).getD j 0 = 1) := by
    intro la hla
    have g1 := app_01 hL (grp_01 la 1)
    have g2 := app_01 g1 (grp_01 0 2)
    have g3 := padL_01 g2
    have g4 := app_01 g3 (grp_01 n 16)
    have g5 := app_01 g4 (grp_01 (65535 - n) 16)
    have k1 : (L ++ grp la 1).length = L.length + 1 := by rw [List.length_append, grp_len]
    have k2 : (L ++ grp la 1 ++ grp 0 2).length = L.length + 3 := by rw [List.length_append, k1, grp_len]
    have k3 : (padL (L ++ grp la 1 ++ grp 0 2)).length = L.length + 8 := by rw [padL_len, k2]; omega
    have k4 : (padL (L ++ grp la 1 ++ grp 0 2) ++ grp n 16).length = L.length + 24 := by rw [List.length_append, k3, grp_len]
    have k5 : (padL (L ++ grp la 1 ++ grp 0 2) ++ grp n 16 ++ grp (65535 - n) 16).length = L.length + 40 := by rw [List.length_append, k4, grp_len]
    refine ⟨_, _, _, _, _, rfl, rfl, rfl, rfl, rfl, k1, k2, k3, k4, k5, g1, g2, g3, g4, g5, sto_pack (OKB_take hX n) ⟨a, ha⟩ hla ⟨by omega, by omega⟩, ?_, txtL_01 g5⟩
    rw [txtL_len, k5, List.length_take]; omega
  have hcX : ∀ w, St w0 H w → x ≤ c := fun w hw => (hrX.lcap hw).1
  by_cases hlast : x ≤ 65535
  case' pos =>
    obtain ⟨L1, L2, L3, L4, L5, d1, d2, d3, d4, d5, k1, k2, k3, k4, k5, g1, g2, g3, g4, g5, hpk, hlen, hg⟩ := key 1 (.inr rfl)
  case' neg =>
    obtain ⟨L1, L2, L3, L4, L5, d1, d2, d3, d4, d5, k1, k2, k3, k4, k5, g1, g2, g3, g4, g5, hpk, hlen, hg⟩ := key 0 (.inl rfl)
  all_goals
    clear key
    repeat (first | (apply gJO; refine JO_v (oc_min (V_min rfl rfl hmin rfl)) ?_) | (refine sx ?_; try intro _))
    refine JO_call Tryz.call162 rfl rfl fun w hw => (WGroup_c b L q d _ 1 (by omega) ⟨by decide, by decide⟩ (by decide) hL (by omega) w hw).mono ?_
    rintro e w' ⟨rfl, q1, e1, hw'⟩
    rw [← d1] at hw'
    refine ⟨_, rfl, _, hw', ?_⟩
    clear hw' hw w w'
    repeat (refine sx ?_; try intro _)
    refine JO_call Tryz.call162 rfl rfl fun w hw => (WGroup_c b L1 q1 e1 0 2 (by omega) ⟨by decide, by decide⟩ (by decide) g1 (by omega) w hw).mono ?_
    rintro e w' ⟨rfl, q2, e2, hw'⟩
    rw [← d2] at hw'
    refine ⟨_, rfl, _, hw', ?_⟩
    clear hw' hw w w'
    repeat (refine sx ?_; try intro _)
    refine JO_call Tryz.call167 rfl rfl fun w hw => (WAlign_c b L2 q2 e2 (by omega) w hw).mono ?_
    rintro e w' ⟨rfl, hw'⟩
    rw [← d3] at hw'
    refine ⟨_, rfl, _, hw', ?_⟩
    clear hw' hw w w'
    repeat (refine sx ?_; try intro _)
    refine JO_call Tryz.call162 rfl rfl fun w hw => (WGroup_c b L3 q2 e2 n 16 (by omega) ⟨by omega, by rw [hp16]; omega⟩ (by omega) g3 (by omega) w hw).mono ?_
    rintro e w' ⟨rfl, q3, e3, hw'⟩
    rw [← d4] at hw'
    refine ⟨_, rfl, _, hw', ?_⟩
    clear hw' hw w w'
    repeat (first | (apply gJO; refine JO_v (V_xor rfl rfl hxor rfl) ?_) | (refine sx ?_; try intro _))
    refine JO_call Tryz.call162 rfl rfl fun w hw => (WGroup_c b L4 q3 e3 (65535 - n) 16 (by omega) ⟨by omega, by rw [hp16]; omega⟩ (by omega) g4 (by omega) w hw).mono ?_
    rintro e w' ⟨rfl, q4, e4, hw'⟩
    rw [← d5] at hw'
    refine ⟨_, rfl, _, hw', ?_⟩
    clear hw' hw w w'
    repeat (first | (apply gJO; refine JO_v (V_slice (tb := tb) (lo := 0) (hi := n) rfl rfl rfl rfl rfl (by rfl) (by rfl) (fun w hw => ⟨by omega, Nat.le_trans (by omega) (hcX w hw.drop.drop)⟩) rfl) ?_) | (refine sx ?_; try intro _))
    refine JO_call Tryz.call168 rfl rfl fun w hw => (WText2_c b L5 q4 e4 (subB p 0 c 1) (c - 0) n (X.take n) (Rd_weak (Rd_take hrX hx (by omega)) fun w hw => dS hw) (by rw [List.length_take]; omega) (OKB_take hX n) (by omega) (by omega) w hw).mono ?_
    rintro e w' ⟨rfl, q5, e5, hw'⟩
    obtain ⟨L6, d6⟩ : ∃ L6, txtL L5 (X.take n) = L6 := ⟨_, rfl⟩
    rw [d6] at hw' hpk hlen hg
    refine ⟨_, rfl, _, hw', ?_⟩
    clear hw' hw w w'
    repeat (first | (apply gJO; refine JO_v (V_slice (tb := tb) (lo := n) (hi := x) rfl rfl rfl rfl rfl (by rfl) (by rfl) (fun w hw => ⟨by omega, hcX w hw.drop.drop⟩) rfl) ?_) | (refine sx ?_; try intro _))
  case pos =>
    have hnx : n = x := by omega
    have hfin : pack L6 = sbs B := by
      rw [hpk, List.take_of_length_le (by omega), hnx, ← hx, ← sbs_1 (by omega), hall]
    have hpl := pack_len L6
    refine JO_call Tryz.call166 rfl rfl fun w hw => (WBytes_c b (pack L6).length L6 q5 e5 hg (by omega) hpl.symm w hw).mono ?_
    rw [hfin]
    rintro e w' ⟨q6, d6, rfl, hw'⟩
    refine ⟨_, rfl, _, hw', ?_⟩
    clear hw' hw w w'
    repeat (refine sx ?_; try intro _)
    exact JS_ret Tryz.func122 rfl rfl fun w hw => ⟨q6, d6, rfl, dS hw⟩
  case neg =>
    have hnx : n = 65535 := by omega
    have hxd : (X.drop n).length = x - n := by rw [List.length_drop, hx]
    have hfin : pack L6 ++ sbs (X.drop n) = sbs B := by
      rw [hpk, ← hall, sbs_2 (X := X) (by omega), hnx]
      simp only [List.append_assoc]
      rfl
    repeat (refine sx ?_; try intro _)
    refine JS_again6 again (subB p n c 1) (c - n) (X.drop n) L6 q5 e5 ⟨by rw [hxd]; exact Rd_drop hrX hx (by omega), OKB_drop hX n, ⟨a + 5 + n, by omega⟩, hg, by rw [hxd]; omega, hfin⟩ (by rw [hxd]; omega) (by rw [hxd]; exact (by repeat (first | exact trivial | refine ⟨rfl, ?_⟩ | refine ⟨lookI rfl (by omega), ?_⟩))) (fun w hw => hw)
end
end Go.Proofs.YteelffkghidpfaaGreat

set_option linter.unusedVariables false
set_option linter.unusedSimpArgs false
set_option maxRecDepth 100000
namespace Go.Proofs.YteelffkghidpfaaGreat
open Sx Go
section
attribute [local irreducible] sbs
variable {w0 : World} {H : List Asn}
set_option maxRecDepth 10000 in
set_option maxHeartbeats 4000000 in
theorem RStored_c (p : Option Addr) (c m : Nat) (B : List Int) (hr : Rd w0 H (.slice p m c) m (ints .u8 B)) (hm : B.length = m) (hB : OKB B) (h4 : m ≤ 1100000) (w : World) (hw : St w0 H w) :
    Calls Tryz.prog 125 #[.slice p m c] w fun e w' => ∃ q d, e = .returned (.slice q (sbs B).length d) ∧ St w0 (vec 5 1 (.slice q (sbs B).length d) (sbs B).length (ints .u8 (sbs B)) :: H) w' := by
  have hcm : m ≤ c := (hr.lcap hw).1
  refine enter (vs := [.slice p m c]) Tryz.func125 rfl rfl rfl hw ?_
  clear hw w
  repeat (refine sx ?_; try intro _)
  refine JS_loop4 (fun (at_ : Nat) (O : List Int) (q : Option Addr) (d : Nat) => [(0, .slice p m c), (3, .slice q O.length d), (4, .int .i64 at_)]) (fun at_ O q d => vec 5 1 (.slice q O.length d) O.length (ints .u8 O) :: H)
    (fun at_ O q d => at_ ≤ m ∧ O.length ≤ 5 * at_ ∧ O ++ sbs (B.drop at_) = sbs B) (fun at_ _ _ _ => m - at_) 0 [] none 0 ⟨by omega, by simp, by simp⟩ (by repeat (first | exact trivial | refine ⟨rfl, ?_⟩ | refine ⟨lookI rfl (by omega), ?_⟩)) (fun w h => St.nilvec h) ?_
  intro at_ O q d ⟨ha, hO, hall⟩ again
  obtain ⟨n, hn⟩ : ∃ n, min (m - at_) 65535 = n := ⟨_, rfl⟩
  have hmin : min ((m : Int) - (at_ : Int)) 65535 = n := by omega
  obtain ⟨o, ho⟩ : ∃ o, O.length = o := ⟨_, rfl⟩
  rw [ho] at hO ⊢
  have hdl : (B.drop at_).length = m - at_ := by rw [List.length_drop, hm]
  have hrow : Rd w0 H (.slice (subB p at_ c 1) (at_ + n - at_) (c - at_)) (at_ + n - at_) (ints .u8 ((B.drop at_).take n)) := by
    have := Rd_sub (lo := at_) (hi := at_ + n) (sz := 1) hr (by omega) (by omega)
    rw [Nat.mul_one, Nat.mul_one] at this
    unfold ints at this ⊢
    rw [List.map_take, List.map_drop]
    rwa [Nat.add_sub_cancel_left] at this ⊢
  have hrl : ((B.drop at_).take n).length = n := by rw [List.length_take]; omega
  have hb1 : ((n : Int) % 256 + 0) % 256 = (n : Int) % 256 := by omega
  by_cases hlast : at_ + n = m
  case' pos =>
    have hnn : (B.drop at_).length = n := by omega
    have hcase : sbs (B.drop at_) = hd5 1 n ++ (B.drop at_).take n := by rw [sbs_1 (by omega), hnn, List.take_of_length_le (by omega)]
  case' neg =>
    have hnn : n = 65535 := by omega
    have hcase : sbs (B.drop at_) = hd5 0 n ++ (B.drop at_).take n ++ sbs (B.drop (at_ + n)) := by rw [sbs_2 (by omega), hnn, List.drop_drop]; rfl
  all_goals
    repeat (first | (apply gJO; refine JO_v (oc_min (V_min rfl rfl hmin rfl)) ?_) | (apply gJO; refine JO_v (V_slice (tb := tb) (lo := at_) (hi := at_ + n) rfl rfl rfl rfl rfl rfl (by omega) (fun w hw => ⟨by omega, by omega⟩) rfl) ?_) | (apply gJO; (refine JO_app (tb := tb) rfl rfl rfl rfl rfl rfl (by repeat (first | exact Sel.here _ _ | apply Sel.there)) (by first | exact vec_rd (by repeat (first | apply List.Mem.head | apply List.Mem.tail)) | assumption | exact ArgRd.rd (by assumption) _ | (apply Rd_weak; assumption; intro _ hx; exact dS hx)) (by simp only [ints_len, List.length_cons, List.length_nil]; first | omega | rfl) (by first | exact ints_one | (repeat (first | exact trivial | refine ⟨rfl, ?_⟩))) (by omega) rfl ?_; intro _ _)) | (refine sx ?_; try intro _))
  case pos =>
    rename_i ps q2 d2 q3 d3
    have hI : ∀ Y : List Int, ints .u8 O ++ (.int .u8 1 :: .int .u8 ((n : Int) % 256) :: .int .u8 ((n : Int) / 256) :: .int .u8 (255 - (n : Int) % 256) :: .int .u8 (255 - (n : Int) / 256) :: [].append (rep 0 [.int .u8 0])) ++ ints .u8 Y = ints .u8 (O ++ (hd5 1 n ++ Y)) := fun Y => by
      unfold ints hd5; simp [rep]
    have hfin : O ++ (hd5 1 n ++ (B.drop at_).take n) = sbs B := by rw [← hcase, hall]
    have hlen : (sbs B).length = o + 5 + (at_ + n - at_) := by
      rw [← hfin]; simp only [List.length_append, hrl, ho]; unfold hd5; simp; omega
    refine JS_ret Tryz.func125 rfl rfl fun w hw => ⟨q3, d3, by rw [hlen]; rfl, ?_⟩
    rw [hI, hfin] at hw
    rw [hlen]
    exact dS hw
  case neg =>
    rename_i ps q2 d2 q3 d3
    have hI : ∀ Y : List Int, ints .u8 O ++ (.int .u8 0 :: .int .u8 ((n : Int) % 256) :: .int .u8 ((n : Int) / 256) :: .int .u8 (255 - (n : Int) % 256) :: .int .u8 (255 - (n : Int) / 256) :: [].append (rep 0 [.int .u8 0])) ++ ints .u8 Y = ints .u8 (O ++ (hd5 0 n ++ Y)) := fun Y => by
      unfold ints hd5; simp [rep]
    have hlen : (O ++ (hd5 0 n ++ (B.drop at_).take n)).length = o + 5 + (at_ + n - at_) := by
      simp only [List.length_append, hrl, ho]; unfold hd5; simp; omega
    refine JS_again4 again (at_ + n) (O ++ (hd5 0 n ++ (B.drop at_).take n)) q3 d3 ⟨by omega, by rw [hlen]; omega, by rw [← hall, hcase]; simp only [List.append_assoc]⟩ (by omega) (by rw [hlen]; exact (by repeat (first | exact trivial | refine ⟨rfl, ?_⟩ | refine ⟨lookI rfl (by omega), ?_⟩))) (fun w hw => ?_)
    rw [hI] at hw
    rw [hlen]
    exact dS hw
end
end Go.Proofs.YteelffkghidpfaaGreat

set_option linter.unusedVariables false
set_option linter.unusedSimpArgs false
set_option maxRecDepth 100000
namespace Go.Proofs.YteelffkghidpfaaGreat
open Sx Go
section
variable {w0 : World} {H : List Asn}
set_option maxRecDepth 10000 in
set_option maxHeartbeats 2000000 in
theorem RSame16_c (p : Option Addr) (c m : Nat) (B : List Int) (hr : Rd w0 H (.slice p m c) m (ints .u8 B)) (hm : B.length = m) (i k : Nat) (hik : i < k) (hk : k ≤ m) (h4 : m ≤ 1100000) (w : World) (hw : St w0 H w) :
    Calls Tryz.prog 224 #[.slice p m c, .int .i64 i, .int .i64 k] w fun e w' => e = .returned (.int .i64 (sam B i k 258)) ∧ St w0 H w' := by
  refine enter (vs := [.slice p m c, .int .i64 i, .int .i64 k]) Tryz.func224 rfl rfl rfl hw ?_
  repeat (refine sx ?_; try intro _)
  refine JS_loop1 (fun (n : Nat) => [(0, .slice p m c), (1, .int .i64 i), (2, .int .i64 k), (7, .int .i64 n)]) (fun _ => H) (fun n => n ≤ 258 ∧ k + n ≤ m ∧ sam B i k 258 = n + sam B (i + n) (k + n) (258 - n)) (fun n => 258 - n) 0 ⟨by omega, by omega, by simp⟩ (by repeat (first | exact trivial | refine ⟨rfl, ?_⟩ | refine ⟨lookI rfl (by omega), ?_⟩)) (fun _ h => h) ?_
  intro n ⟨hn, hkn, he⟩ again
  by_cases h258 : n = 258
  case' pos =>
    clear again
    repeat (refine sx ?_; try intro _)
    have hfin : sam B i k 258 = n := by rw [he, h258]; rfl
  case' neg =>
    by_cases hkm : k + n = m
    case' pos =>
      clear again
      repeat (refine sx ?_; try intro _)
      have hfin : sam B i k 258 = n := by
        rw [he, show 258 - n = (257 - n) + 1 by omega, sam, if_neg (by omega)]; rfl
    case' neg =>
      have g1 : (ints .u8 B)[i + n]? = some (.int .u8 (B.getD (i + n) 0)) := ints_get (by omega)
      have g2 : (ints .u8 B)[k + n]? = some (.int .u8 (B.getD (k + n) 0)) := ints_get (by omega)
      by_cases heq : B.getD (i + n) 0 = B.getD (k + n) 0
      case' neg =>
        clear again
        repeat (first | (apply gQO; refine QO_v rfl (oL (V_loadC (tb := tb) rfl hr rfl rfl g1 rfl)) ?_) | (apply gQO; refine QO_v rfl (oL (V_loadC (tb := tb) rfl hr rfl rfl g2 rfl)) ?_) | (refine sx ?_; try intro _))
        have hfin : sam B i k 258 = n := by
          rw [he, show 258 - n = (257 - n) + 1 by omega, sam, if_neg (fun h => heq h.2)]; rfl
      case' pos =>
        repeat (first | (apply gQO; refine QO_v rfl (oL (V_loadC (tb := tb) rfl hr rfl rfl g1 rfl)) ?_) | (apply gQO; refine QO_v rfl (oL (V_loadC (tb := tb) rfl hr rfl rfl g2 rfl)) ?_) | (refine sx ?_; try intro _))
        exact JS_again1 again (n + 1) ⟨by omega, by omega, by rw [he, show 258 - n = (258 - (n + 1)) + 1 by omega, sam, if_pos ⟨by omega, heq⟩, show i + n + 1 = i + (n + 1) by omega, show k + n + 1 = k + (n + 1) by omega]; omega⟩ (by omega) (by repeat (first | exact trivial | refine ⟨rfl, ?_⟩ | refine ⟨lookI rfl (by omega), ?_⟩)) (fun w hw => hw)
  all_goals
    refine JS_ret Tryz.func224 rfl rfl fun w hw => ⟨?_, hw⟩
    rw [hfin]
    rfl
attribute [local irreducible] sam bst tok toks tkv
theorem bst_s (B : List Int) (at_ i : Nat) (s : Nat × Nat) : bst B at_ (i + 1) s = if 32768 < at_ - i then s else bst B at_ i (if s.1 < sam B i at_ 258 then (sam B i at_ 258, at_ - i) else s) := by
  rw [bst.eq_def]
theorem bst_0 (B : List Int) (at_ : Nat) (s : Nat × Nat) : bst B at_ 0 s = s := by unfold bst; rfl
set_option maxRecDepth 10000 in
set_option maxHeartbeats 4000000 in
theorem RFind_c (p : Option Addr) (c m : Nat) (B : List Int) (hr : Rd w0 H (.slice p m c) m (ints .u8 B)) (hm : B.length = m) (hB : OKB B) (h4 : m ≤ 1100000) (w : World) (hw : St w0 H w) :
    Calls Tryz.prog 170 #[.slice p m c] w fun e w' => ∃ q d, e = .returned (.slice q (toks B m 0).length d) ∧ St w0 (vec 218 3 (.slice q (toks B m 0).length d) (toks B m 0).length (tkv (toks B m 0)) :: H) w' := by
  refine enter (vs := [.slice p m c]) Tryz.func170 rfl rfl rfl hw ?_
  clear hw w
  have htv0 : tkv [] = [] := by unfold tkv; rfl
  repeat (refine sx ?_; try intro _)
  refine JS_loop4 (fun (i : Nat) (q : Option Addr) (d : Nat) (L : List (Int × Nat × Nat)) => [(0, .slice p m c), (3, .slice q L.length d), (4, .int .i64 i)])
    (fun i q d L => vec 218 3 (.slice q L.length d) L.length (tkv L) :: H) (fun i q d L => i ≤ m ∧ L.length ≤ i ∧ toks B m 0 = L ++ toks B (m - i) i) (fun i _ _ _ => m - i) 0 none 0 [] ⟨Nat.zero_le _, Nat.le_refl _, by rw [Nat.sub_zero, List.nil_append]⟩ (by repeat (first | exact trivial | refine ⟨rfl, ?_⟩ | refine ⟨lookI rfl (by omega), ?_⟩))
    (fun w h => by rw [htv0]; exact St.nilvec h) ?_
  intro i q d L ⟨hi, hLl, hL⟩ again
  by_cases him : i < m
  · have hts := toks_s (B := B) (i := i) (by omega)
    have hbd := tok_bd B i (by omega)
    have hB1 := bst_bd B i (by omega)
    have gB : (ints .u8 B)[i]? = some (.int .u8 (B.getD i 0)) := ints_get (by omega)
    repeat (refine sx ?_; try intro _)
    refine JS_loop3 (fun (k n e : Nat) => [(0, .slice p m c), (3, .slice q L.length d), (4, .int .i64 i), (5, .int .i64 n), (6, .int .i64 e), (7, .int .i64 (k - 1 : Int))]) (fun k n e => vec 218 3 (.slice q L.length d) L.length (tkv L) :: H)
      (fun k n e => k ≤ i ∧ (n ≤ 258 ∧ e ≤ i) ∧ bst B i i (0, 0) = bst B i k (n, e)) (fun k _ _ => k) i 0 0 ⟨Nat.le_refl _, ⟨by omega, by omega⟩, rfl⟩ (by repeat (first | exact trivial | refine ⟨rfl, ?_⟩ | refine ⟨lookI rfl (by omega), ?_⟩)) (fun w h => h) ?_
    intro k n e ⟨hk, hne, hbst⟩ again2
    by_cases hstop : k = 0 ∨ (0 < k ∧ 32768 < i - (k - 1))
    case' pos =>
      have hn : bst B i i (0, 0) = (n, e) := by
        rw [hbst]
        rcases hstop with rfl | ⟨h0, h⟩
        · exact bst_0 B i _
        · obtain ⟨k', rfl⟩ : ∃ k', k = k' + 1 := ⟨k - 1, by omega⟩
          rw [bst_s, if_pos (by rw [Nat.add_sub_cancel] at h; exact h)]
      clear again2
      have htok : tok B i = if n < 3 then (B.getD i 0, 0, 0) else (0, n, e) := by unfold tok; rw [hn]
      have hn258 := tok_bd B i (by omega)
      by_cases hn3 : n < 3
      case' pos =>
        rw [if_pos hn3] at htok
        rw [htok] at hts
        have htv := tkv_app L (B.getD i 0, 0, 0)
        have hll : (L ++ [(B.getD i 0, 0, 0)]).length = L.length + 1 := by simp
        have hts2 : toks B (m - i) i = (B.getD i 0, 0, 0) :: toks B (m - (i + 1)) (i + 1) := by rw [← hm]; exact hts
      case' neg =>
        rw [if_neg hn3] at htok
        rw [htok] at hts hn258
        have htv := tkv_app L (0, n, e)
        have hll : (L ++ [((0 : Int), n, e)]).length = L.length + 1 := by simp
        have hmx : max 1 n = n := by omega
        have hts2 : toks B (m - i) i = (0, n, e) :: toks B (m - (i + n)) (i + n) := by rw [← hm, hts]; show _ :: toks B (B.length - (i + max 1 n)) (i + max 1 n) = _; rw [hmx]
        have hin : i + n ≤ m := by
          rcases hn258 with h | ⟨n', d', h, h1, h2, h3, _⟩
          · have : n = 0 := (Prod.mk.inj (Prod.mk.inj h).2).1
            omega
          · have : n = n' := (Prod.mk.inj (Prod.mk.inj h).2).1
            omega
      all_goals
        clear hn258 hbd hB1 hts
        rcases hstop with hk0 | hk0
      all_goals
        repeat (first | (apply gJO; refine JO_v (oL (V_loadC (tb := tb) rfl (Rd_weak hr fun w hw => dS hw) rfl rfl gB rfl)) ?_) | (apply gJO; (refine JO_app (tb := tb) rfl rfl rfl rfl rfl rfl (by repeat (first | exact Sel.here _ _ | apply Sel.there)) (by first | exact vec_rd (by repeat (first | apply List.Mem.head | apply List.Mem.tail)) | assumption | exact ArgRd.rd (by assumption) _ | (apply Rd_weak; assumption; intro _ hx; exact dS hx)) (by simp only [ints_len, List.length_cons, List.length_nil]; first | omega | rfl) (by first | exact ints_one | (repeat (first | exact trivial | refine ⟨rfl, ?_⟩))) (by omega) rfl ?_; intro _ _)) | (refine sx ?_; try intro _))
        rename_i ps q2 d2
        first | exact JS_again4 again (i + 1) q2 d2 (L ++ [(B.getD i 0, 0, 0)]) ⟨by omega, by rw [hll]; omega, by rw [hL, hts2, List.append_assoc]; rfl⟩ (by omega) (by rw [hll]; exact (by repeat (first | exact trivial | refine ⟨rfl, ?_⟩ | refine ⟨lookI rfl (by omega), ?_⟩))) (fun w hw => by rw [htv, hll]; exact dS hw) | exact JS_again4 again (i + n) q2 d2 (L ++ [(0, n, e)]) ⟨by omega, by rw [hll]; omega, by rw [hL, hts2, List.append_assoc]; rfl⟩ (by omega) (by rw [hll]; exact (by repeat (first | exact trivial | refine ⟨rfl, ?_⟩ | refine ⟨lookI rfl (by omega), ?_⟩))) (fun w hw => by rw [htv, hll]; exact dS hw)
    case' neg =>
      obtain ⟨k', rfl⟩ : ∃ k', k = k' + 1 := ⟨k - 1, by omega⟩
      rw [Nat.add_sub_cancel] at hstop
      rw [show (((k' + 1 : Nat) : Int) - 1) = (k' : Int) by omega]
      rw [bst_s, if_neg (by omega)] at hbst
      have hs := sam_le B 258 k' i
      repeat (refine sx ?_; try intro _)
      refine JO_call Tryz.call224 rfl rfl fun w hw => (RSame16_c p c m B (Rd_weak hr fun w hw => dS hw) hm k' i (by omega) (by omega) h4 w hw).mono ?_
      rintro e w' ⟨rfl, hw'⟩
      refine ⟨_, rfl, _, hw', ?_⟩
      clear hw' hw w w'
      obtain ⟨s, hse⟩ : ∃ s, sam B k' i 258 = s := ⟨_, rfl⟩
      rw [hse] at hbst hs ⊢
      by_cases hlt : n < s
      · rw [if_pos hlt] at hbst
        have hij : ((i : Int) - (k' : Int)) = ((i - k' : Nat) : Int) := by omega
        repeat (refine sx ?_; try intro _)
        rw [hij]
        repeat (refine sx ?_; try intro _)
        exact JS_again3 again2 k' s (i - k') ⟨by omega, ⟨hs, by omega⟩, hbst⟩ (by omega) (by repeat (first | exact trivial | refine ⟨rfl, ?_⟩ | refine ⟨lookI rfl (by omega), ?_⟩)) (fun w hw => hw)
      · rw [if_neg hlt] at hbst
        repeat (refine sx ?_; try intro _)
        exact JS_again3 again2 k' n e ⟨by omega, hne, hbst⟩ (by omega) (by repeat (first | exact trivial | refine ⟨rfl, ?_⟩ | refine ⟨lookI rfl (by omega), ?_⟩)) (fun w hw => hw)
  · obtain rfl : i = m := by omega
    clear again
    have hend : toks B i 0 = L := by rw [hL, ← hm, toks_end, List.append_nil]
    rw [hend]
    repeat (refine sx ?_; try intro _)
    refine JS_ret Tryz.func170 rfl rfl fun w hw => ⟨q, d, rfl, dS hw⟩
end
end Go.Proofs.YteelffkghidpfaaGreat

set_option linter.unusedVariables false
set_option linter.unusedSimpArgs false
set_option maxRecDepth 100000
namespace Go.Proofs.YteelffkghidpfaaGreat
open Sx Go
theorem pk_next (f : Int → Int × Int) (a n : Int) : ∀ k : Nat, ∀ i : Nat, i < k → pk f a n k < a + i → n < (f (a + i)).1
  | 0, i, h, _ => absurd h (by omega)
  | k + 1, i, h, hp => by
    unfold pk at hp
    split at hp
    · omega
    · rename_i hn
      rcases Nat.lt_or_ge i k with hik | hik
      · exact pk_next f a n k i hik hp
      · obtain rfl : i = k := by omega
        omega
theorem lbase_next : ∀ j : Fin 28, (lbase (257 + (j.val : Int) + 1)).1 ≤ (lbase (257 + (j.val : Int))).1 + 2 ^ (lbase (257 + (j.val : Int))).2.toNat := by decide +kernel
theorem lfar_next : ∀ j : Fin 29, (lfar (0 + (j.val : Int) + 1)).1 ≤ (lfar (0 + (j.val : Int))).1 + 2 ^ (lfar (0 + (j.val : Int))).2.toNat := by decide +kernel
theorem lbase_tab : ∀ j : Fin 29, 0 ≤ (lbase (257 + (j.val : Int))).2 ∧ (lbase (257 + (j.val : Int))).2 ≤ 5 ∧ (j.val = 28 → lbase (257 + (j.val : Int)) = (258, 0)) := by decide +kernel
theorem lfar_tab : ∀ j : Fin 30, 0 ≤ (lfar (0 + (j.val : Int))).2 ∧ (lfar (0 + (j.val : Int))).2 ≤ 13 ∧ (j.val = 29 → lfar (0 + (j.val : Int)) = (24577, 13)) := by decide +kernel
theorem lenS_bd (n : Int) (h3 : 3 ≤ n) (h258 : n ≤ 258) : ∃ s b : Nat, ∃ r : Int, lenS n = ((s : Int), (b : Int), r) ∧ 257 ≤ s ∧ s ≤ 285 ∧ b ≤ 5 ∧ 0 ≤ r ∧ r < 2 ^ b ∧ lbase s = (n - r, (b : Int)) := by
  have e := grt_pk lbase 257 n (by show (3 : Int) ≤ n; omega) 28
  have hb := pk_bd lbase 257 n 29
  have hle := pk_le lbase 257 n (by show (3 : Int) ≤ n; omega) 29
  have hnx := pk_next lbase 257 n 29
  unfold lenS
  rw [if_neg (by omega), e]
  obtain ⟨x, hx⟩ : ∃ x, pk lbase 257 n 29 = x := ⟨_, rfl⟩
  rw [hx] at hb hle hnx
  rw [show pk lbase 257 n (28 + 1) = x from hx]
  obtain ⟨j, rfl⟩ : ∃ j : Nat, x = 257 + (j : Int) := ⟨(x - 257).toNat, by omega⟩
  have hj : j < 29 := by omega
  obtain ⟨t1, t2, t3⟩ := lbase_tab ⟨j, hj⟩
  simp only [] at t1 t2 t3
  refine ⟨257 + j, (lbase (257 + (j : Int))).2.toNat, n - (lbase (257 + (j : Int))).1, ?_, by omega, by omega, by omega, by omega, ?_, ?_⟩
  · rw [Int.toNat_of_nonneg t1]; rfl
  · rcases Nat.lt_or_ge j 28 with h | h
    · have h1 := hnx (j + 1) (by omega) (by omega)
      have h2 := lbase_next ⟨j, h⟩
      simp only [] at h2
      have e2 : (257 : Int) + ((j + 1 : Nat) : Int) = 257 + (j : Int) + 1 := by omega
      rw [e2] at h1
      omega
    · rw [t3 (by omega)]; show n - 258 < 2 ^ 0; omega
  · rw [Int.toNat_of_nonneg t1, show (((257 + j : Nat) : Int)) = 257 + (j : Int) by omega]
    have : n - (n - (lbase (257 + (j : Int))).1) = (lbase (257 + (j : Int))).1 := by omega
    rw [this]
theorem spanS_bd (n : Int) (h1 : 1 ≤ n) (h32 : n ≤ 32768) : ∃ s b : Nat, ∃ r : Int, spanS n = ((s : Int), (b : Int), r) ∧ s ≤ 29 ∧ b ≤ 13 ∧ 0 ≤ r ∧ r < 2 ^ b ∧ lfar s = (n - r, (b : Int)) := by
  have e := grt_pk lfar 0 n (by show (1 : Int) ≤ n; omega) 29
  have hb := pk_bd lfar 0 n 30
  have hle := pk_le lfar 0 n (by show (1 : Int) ≤ n; omega) 30
  have hnx := pk_next lfar 0 n 30
  unfold spanS
  rw [if_neg (by omega), e]
  obtain ⟨x, hx⟩ : ∃ x, pk lfar 0 n 30 = x := ⟨_, rfl⟩
  rw [hx] at hb hle hnx
  rw [show pk lfar 0 n (29 + 1) = x from hx]
  obtain ⟨j, rfl⟩ : ∃ j : Nat, x = 0 + (j : Int) := ⟨x.toNat, by omega⟩
  have hj : j < 30 := by omega
  obtain ⟨t1, t2, t3⟩ := lfar_tab ⟨j, hj⟩
  simp only [] at t1 t2 t3
  refine ⟨j, (lfar (0 + (j : Int))).2.toNat, n - (lfar (0 + (j : Int))).1, ?_, by omega, by omega, by omega, ?_, ?_⟩
  · rw [Int.toNat_of_nonneg t1, Int.zero_add]
  · rcases Nat.lt_or_ge j 29 with h | h
    · have h1 := hnx (j + 1) (by omega) (by omega)
      have h2 := lfar_next ⟨j, h⟩
      simp only [] at h2
      have e2 : (0 : Int) + ((j + 1 : Nat) : Int) = 0 + (j : Int) + 1 := by omega
      rw [e2] at h1
      omega
    · rw [t3 (by omega)]; show n - 24577 < 2 ^ 13; omega
  · rw [Int.toNat_of_nonneg t1, Int.zero_add]
    have : n - (n - (lfar (j : Int)).1) = (lfar (j : Int)).1 := by omega
    rw [this]
def tkb (t : Int × Nat × Nat) : List Int :=
  if t.2.2 = 0 then fxS t.1.toNat
  else fxS (lenS t.2.1).1.toNat ++ grp (lenS t.2.1).2.2 (lenS t.2.1).2.1.toNat ++ spS (spanS t.2.2).1.toNat ++ grp (spanS t.2.2).2.2 (spanS t.2.2).2.1.toNat
def TOK (t : Int × Nat × Nat) : Prop := (0 ≤ t.1 ∧ t.1 < 256 ∧ t.2.1 = 0 ∧ t.2.2 = 0) ∨ (t.1 = 0 ∧ 3 ≤ t.2.1 ∧ t.2.1 ≤ 258 ∧ 1 ≤ t.2.2 ∧ t.2.2 ≤ 32768)
theorem bms_ln (x : Int) (k : Nat) : (bms x k).length = k := by unfold bms; rw [List.length_map, List.length_range]
theorem fxS_01 (k j : Nat) : (fxS k).getD j 0 = 0 ∨ (fxS k).getD j 0 = 1 := bms_01 _ _ j
theorem spS_01 (k j : Nat) : (spS k).getD j 0 = 0 ∨ (spS k).getD j 0 = 1 := bms_01 _ _ j
theorem spS_len (k : Nat) : (spS k).length = 5 := bms_ln _ _
theorem tkb_01 (t : Int × Nat × Nat) (j : Nat) : (tkb t).getD j 0 = 0 ∨ (tkb t).getD j 0 = 1 := by
  unfold tkb
  split
  · exact fxS_01 _ j
  · exact app_01 (app_01 (app_01 (fxS_01 _) (grp_01 _ _)) (spS_01 _)) (grp_01 _ _) j
theorem tkb_len {t : Int × Nat × Nat} (h : TOK t) : (tkb t).length ≤ 32 := by
  unfold tkb
  rcases h with ⟨h1, h2, h3, h4⟩ | ⟨h1, h2, h3, h4, h5⟩
  · rw [if_pos h4]
    have := fxS_len t.1.toNat (by omega); omega
  · rw [if_neg (by omega)]
    obtain ⟨s, b, r, e, a1, a2, a3, _⟩ := lenS_bd t.2.1 (by omega) (by omega)
    obtain ⟨s', b', r', e', a1', a3', _⟩ := spanS_bd t.2.2 (by omega) (by omega)
    rw [e, e']
    have := fxS_len s (by omega)
    simp only [List.length_append, Int.toNat_natCast, grp_len, spS_len]
    omega
section
attribute [local irreducible] grp fxS spS lenS spanS
variable {w0 : World} {H : List Asn} {b : Nat} {L : List Int} {q : Option Addr} {d : Nat} {pl ps pa pb : Option Addr} {cl cs ca cb : Nat}
set_option maxRecDepth 10000 in
set_option maxHeartbeats 4000000 in
theorem Tok_c (t : Int × Nat × Nat) (ht : TOK t) (hL : ∀ j, L.getD j 0 = 0 ∨ L.getD j 0 = 1) (hl : L.length ≤ 70368744177000) (w : World) (hw : St w0 (fwL b L q d pl ps pa pb cl cs ca cb H) w) :
    Calls Tryz.prog 164 #[.pointer (some ⟨b, 0, none⟩), .agg #[.int .u8 t.1, .int .i64 t.2.1, .int .i64 t.2.2]] w fun e w' => e = .returned (.tuple #[]) ∧ ∃ q d, St w0 (fwL b (L ++ tkb t) q d pl ps pa pb cl cs ca cb H) w' := by
  have hlen := tkb_len ht
  obtain ⟨x, n, k⟩ := t
  rcases ht with ⟨h1, h2, h3, h4⟩ | ⟨h1, h2, h3, h4, h5⟩
  · simp only [] at h1 h2 h3 h4
    subst h3; subst h4
    obtain ⟨x', rfl⟩ : ∃ x' : Nat, x = x' := ⟨x.toNat, by omega⟩
    exact Tok0_c x' (by omega) hL (by omega) w hw
  · simp only [] at h1 h2 h3 h4 h5 hlen ⊢
    obtain ⟨s, nb, r, e1, a1, a2, a3, a4, a5, _⟩ := lenS_bd n (by omega) (by omega)
    obtain ⟨s', nb', r', e2, c1, c3, c4, c5, _⟩ := spanS_bd k (by omega) (by omega)
    have htk : tkb (x, n, k) = fxS s ++ grp r nb ++ spS s' ++ grp r' nb' := by
      unfold tkb
      simp only []
      rw [if_neg (by omega), e1, e2]
      simp only [Int.toNat_natCast]
    rw [htk] at hlen ⊢
    simp only [List.length_append] at hlen
    have p5 : ∀ k : Fin 14, (2 : Int) ^ k.val ≤ 8192 := by decide
    have q1 := p5 ⟨nb, by omega⟩
    have q2 := p5 ⟨nb', by omega⟩
    simp only [] at q1 q2
    have f1 : nb ≤ 32 := by omega
    have f2 : r < 4294967296 := by omega
    have f3 : (L ++ fxS s).length ≤ 70368744177600 := by rw [List.length_append]; omega
    have f4 := app_01 hL (fxS_01 s)
    have f5 := app_01 f4 (grp_01 r nb)
    have f6 : (L ++ fxS s ++ grp r nb).length ≤ 70368744177600 := by rw [List.length_append, List.length_append]; omega
    have f7 := app_01 f5 (spS_01 s')
    have f8 : (L ++ fxS s ++ grp r nb ++ spS s').length ≤ 70368744177600 := by rw [List.length_append, List.length_append, List.length_append]; omega
    have f9 : nb' ≤ 32 := by omega
    have f10 : r' < 4294967296 := by omega
    have f11 : s < 288 := by omega
    have f12 : s' < 32 := by omega
    have f13 : L.length ≤ 70368744177600 := by omega
    refine enter (vs := [.pointer (some ⟨b, 0, none⟩), .agg #[.int .u8 x, .int .i64 n, .int .i64 k]]) Tryz.func164 rfl rfl rfl hw ?_
    clear hw w
    repeat (first | apply hIx 3 | (refine sx ?_; try intro _))
    refine Hold.go ?_
    rename_i bx
    refine JS_H (H' := fwL b L q d pl ps pa pb cl cs ca cb (blk bx [.int .u8 x, .int .i64 n, .int .i64 k] :: H)) (fun w hw => hw.perm (by (repeat (first | exact List.Perm.refl _ | refine List.Perm.cons _ ?_ | refine (List.perm_middle (l₁ := [_])).trans (List.Perm.cons _ ?_) | refine (List.perm_middle (l₁ := [_, _])).trans (List.Perm.cons _ ?_) | refine (List.perm_middle (l₁ := [_, _, _])).trans (List.Perm.cons _ ?_) | refine (List.perm_middle (l₁ := [_, _, _, _])).trans (List.Perm.cons _ ?_) | refine (List.perm_middle (l₁ := [_, _, _, _, _])).trans (List.Perm.cons _ ?_) | refine (List.perm_middle (l₁ := [_, _, _, _, _, _])).trans (List.Perm.cons _ ?_) | refine (List.perm_middle (l₁ := [_, _, _, _, _, _, _])).trans (List.Perm.cons _ ?_) | refine (List.perm_middle (l₁ := [_, _, _, _, _, _, _, _])).trans (List.Perm.cons _ ?_) | refine (List.perm_middle (l₁ := [_, _, _, _, _, _, _, _, _])).trans (List.Perm.cons _ ?_) | refine (List.perm_middle (l₁ := [_, _, _, _, _, _, _, _, _, _])).trans (List.Perm.cons _ ?_) | refine (List.perm_middle (l₁ := [_, _, _, _, _, _, _, _, _, _, _])).trans (List.Perm.cons _ ?_) | refine (List.perm_middle (l₁ := [_, _, _, _, _, _, _, _, _, _, _, _])).trans (List.Perm.cons _ ?_) | refine (List.perm_middle (l₁ := [_, _, _, _, _, _, _, _, _, _, _, _, _])).trans (List.Perm.cons _ ?_))))) ?_
    repeat (refine sx ?_; try intro _)
    refine JO_call Tryz.call220 rfl rfl fun w hw => (TLength_c n w hw).mono ?_
    rintro e w' ⟨rfl, hw'⟩
    rw [e1]; dsimp only
    refine ⟨_, rfl, _, hw', ?_⟩
    clear hw' hw w w'
    repeat (refine sx ?_; try intro _)
    refine JO_call Tryz.call165 rfl rfl fun w hw => (FLit_c (H := blk bx [.int .u8 x, .int .i64 n, .int .i64 k] :: H) s f11 hL f13 w hw).mono ?_
    rintro e w' ⟨rfl, q2, d2, hw'⟩
    refine ⟨_, rfl, _, hw', ?_⟩
    clear hw' hw w w'
    repeat (refine sx ?_; try intro _)
    refine JO_call Tryz.call162 rfl rfl fun w hw => (WGroupT_c b (L ++ fxS s) q2 d2 r nb f1 ⟨a4, a5⟩ f2 f4 f3 w hw).mono ?_
    rintro e w' ⟨rfl, q3, d3, hw'⟩
    refine ⟨_, rfl, _, hw', ?_⟩
    clear hw' hw w w'
    repeat (refine sx ?_; try intro _)
    refine JO_call Tryz.call221 rfl rfl fun w hw => (Span_c k w hw).mono ?_
    rintro e w' ⟨rfl, hw'⟩
    rw [e2]; dsimp only
    refine ⟨_, rfl, _, hw', ?_⟩
    clear hw' hw w w'
    repeat (refine sx ?_; try intro _)
    refine JO_call Tryz.call222 rfl rfl fun w hw => (FSpan_c (L := L ++ fxS s ++ grp r nb) (q := q3) (d := d3) (H := blk bx [.int .u8 x, .int .i64 n, .int .i64 k] :: H) s' f12 f5 f6 w hw).mono ?_
    rintro e w' ⟨rfl, q4, d4, hw'⟩
    refine ⟨_, rfl, _, hw', ?_⟩
    clear hw' hw w w'
    repeat (refine sx ?_; try intro _)
    refine JO_call Tryz.call162 rfl rfl fun w hw => (WGroupT_c b (L ++ fxS s ++ grp r nb ++ spS s') q4 d4 r' nb' f9 ⟨c4, c5⟩ f10 f7 f8 w hw).mono ?_
    rintro e w' ⟨rfl, q5, d5, hw'⟩
    refine ⟨_, rfl, _, hw', ?_⟩
    clear hw' hw w w'
    repeat (refine sx ?_; try intro _)
    refine JS_fin Tryz.func164 rfl rfl (vs := []) ?_
    intro w hw
    refine ⟨rfl, q5, d5, ?_⟩
    have : L ++ (fxS s ++ grp r nb ++ spS s' ++ grp r' nb') = L ++ fxS s ++ grp r nb ++ spS s' ++ grp r' nb' := by simp only [List.append_assoc]
    rw [this]
    exact dS hw
end
end Go.Proofs.YteelffkghidpfaaGreat

set_option linter.unusedVariables false
set_option linter.unusedSimpArgs false
set_option maxRecDepth 100000
namespace Go.Proofs.YteelffkghidpfaaGreat
open Sx Go
def fixL (B : List Int) : List Int := grp 1 1 ++ grp 1 2 ++ (toks B B.length 0).flatMap tkb ++ fxS 256
theorem tok_TOK {B : List Int} (hB : OKB B) (i : Nat) (hi : i < B.length) : TOK (tok B i) := by
  rcases tok_bd B i hi with h | ⟨n, d, h, h1, h2, h3, h4, h5, h6⟩
  · rw [h]; exact .inl ⟨(hB i).1, (hB i).2, rfl, rfl⟩
  · rw [h]; exact .inr ⟨rfl, h1, h2, h4, h6⟩
theorem toks_TOK {B : List Int} (hB : OKB B) : ∀ f i, ∀ t ∈ toks B f i, TOK t
  | 0, i, t, h => by rw [toks] at h; simp at h
  | f + 1, i, t, h => by
    rw [toks] at h
    split at h
    · rename_i hi
      rcases List.mem_cons.1 h with rfl | h
      · exact tok_TOK hB i hi
      · exact toks_TOK hB f _ t h
    · simp at h
theorem tkbs_len {l : List (Int × Nat × Nat)} (h : ∀ t ∈ l, TOK t) : (l.flatMap tkb).length ≤ 32 * l.length := by
  induction l with
  | nil => simp
  | cons t l ih =>
    rw [List.flatMap_cons, List.length_append, List.length_cons]
    have := tkb_len (h t (by simp))
    have := ih fun t ht => h t (by simp [ht])
    omega
theorem tkbs_01 : ∀ (l : List (Int × Nat × Nat)) (j : Nat), (l.flatMap tkb).getD j 0 = 0 ∨ (l.flatMap tkb).getD j 0 = 1
  | [], j => .inl (by simp)
  | t :: l, j => by rw [List.flatMap_cons]; exact app_01 (tkb_01 t) (tkbs_01 l) j
theorem tkbs_take {l : List (Int × Nat × Nat)} {i : Nat} (h : i < l.length) : (l.take (i + 1)).flatMap tkb = (l.take i).flatMap tkb ++ tkb (l[i]'h) := by
  rw [List.take_add_one, List.getElem?_eq_getElem h, List.flatMap_append]; simp
theorem tkv_at {l : List (Int × Nat × Nat)} {i : Nat} (h : i < l.length) : ((tkv l).drop (i * 3)).take 3 = [.int .u8 (l[i]'h).1, .int .i64 (l[i]'h).2.1, .int .i64 (l[i]'h).2.2] := by
  have e : l = l.take i ++ l[i] :: l.drop (i + 1) := by rw [List.getElem_cons_drop, List.take_append_drop]
  have e2 : tkv l = tkv (l.take i) ++ ([.int .u8 (l[i]'h).1, .int .i64 (l[i]'h).2.1, .int .i64 (l[i]'h).2.2] ++ tkv (l.drop (i + 1))) := by
    conv => lhs; rw [e]
    unfold tkv
    rw [List.flatMap_append, List.flatMap_cons]
  rw [e2, List.drop_append_of_le_length (by rw [tkv_len, List.length_take]; omega), List.drop_of_length_le (by rw [tkv_len, List.length_take]; omega)]
  rfl
theorem nil_01' (j : Nat) : ([] : List Int).getD j 0 = 0 ∨ ([] : List Int).getD j 0 = 1 := .inl (by simp)
theorem fixL_01 (B : List Int) (j : Nat) : (fixL B).getD j 0 = 0 ∨ (fixL B).getD j 0 = 1 :=
  app_01 (app_01 (app_01 (grp_01 1 1) (grp_01 1 2)) (tkbs_01 _)) (fxS_01 256) j
theorem fixL_len {B : List Int} (hB : OKB B) : (fixL B).length ≤ 32 * B.length + 12 := by
  unfold fixL
  have h1 := tkbs_len (toks_TOK hB B.length 0)
  have h2 := toks_len (B := B) B.length 0
  have h3 := fxS_len 256 (by omega)
  simp only [List.length_append, grp_len]
  omega
theorem fxB_okb : OKB fxB := by unfold fxB; exact fix_okb
theorem fxB_okl : OKL fxB := by unfold fxB; exact fix_okl
theorem spB_okb : OKB spB := by unfold spB; exact spans_okb
theorem spB_okl : OKL spB := by unfold spB; exact spans_okl
theorem fxB_eq : tab 288 fixF = fxB := by unfold fxB; rfl
theorem spB_eq : List.replicate 32 5 = spB := by unfold spB; rfl
theorem fxC_eq : cds fxB 16 0 = fxC := by unfold fxC; rfl
theorem spC_eq : cds spB 16 0 = spC := by unfold spC; rfl
section
attribute [local irreducible] grp fxS spS lenS spanS toks tkv tkb cds pack
variable {w0 : World} {H : List Asn}
set_option maxRecDepth 10000 in
set_option maxHeartbeats 4000000 in
theorem DFixed_c (p : Option Addr) (c m : Nat) (B : List Int) (hr : Rd w0 H (.slice p m c) m (ints .u8 B)) (hm : B.length = m) (hB : OKB B) (h4 : m ≤ 1100000) (w : World) (hw : St w0 H w) :
    Calls Tryz.prog 121 #[.slice p m c] w fun e w' => ∃ q d, e = .returned (.slice q (pack (fixL B)).length d) ∧ St w0 (vec 5 1 (.slice q (pack (fixL B)).length d) (pack (fixL B)).length (ints .u8 (pack (fixL B))) :: H) w' := by
  refine enter (vs := [.slice p m c]) Tryz.func121 rfl rfl rfl hw ?_
  clear hw w
  repeat (refine sx ?_; try intro _)
  refine JO_call Tryz.call159 rfl rfl fun w hw => (Fixed_c w hw).mono ?_
  rintro e w' ⟨pl, cl, rfl, hw'⟩
  rw [fxB_eq] at hw'
  refine ⟨_, rfl, _, hw', ?_⟩
  clear hw' hw w w'
  repeat (refine sx ?_; try intro _)
  refine JO_call Tryz.call160 rfl rfl fun w hw => (Spans_c w hw).mono ?_
  rintro e w' ⟨ps, cs, rfl, hw'⟩
  rw [spB_eq] at hw'
  refine ⟨_, rfl, _, hw', ?_⟩
  clear hw' hw w w'
  repeat (first | apply hIx 2 | (refine sx ?_; try intro _))
  refine Hold.go ?_
  rename_i b
  refine JS_H (H' := blk b [.slice none 0 0, .int .i64 0, .slice pl 288 cl, .slice ps 32 cs, .slice none 0 0, .slice none 0 0] :: vec 5 1 (.slice ps 32 cs) 32 (ints .u8 spB) :: vec 5 1 (.slice pl 288 cl) 288 (ints .u8 fxB) :: H) (fun w hw => hw) ?_
  refine JS_seq ?_
  refine JS_order [0, 1, 2, 3, 4, 5, 7, 8, 9, 10, 6, 11, 12, 13, 14, 15, 16, 17] [3, 0] (Picks.cons rfl (Picks.cons rfl (Picks.cons rfl (Picks.cons rfl (Picks.cons rfl (Picks.cons rfl (Picks.cons rfl (Picks.cons rfl (Picks.cons rfl (Picks.cons rfl (Picks.cons rfl (Picks.cons rfl (Picks.cons rfl (Picks.cons rfl (Picks.cons rfl (Picks.cons rfl (Picks.cons rfl (Picks.cons rfl (Picks.nil))))))))))))))))))) (by kernel_rfl) (by kernel_rfl) rfl (by decide +kernel) ?_
  repeat (refine sx ?_; try intro _)
  refine QO_call Tryz.call161 rfl rfl fun w hw => (FCodes_c pl cl 288 fxB (vec_rd (e := 5) (size := 1) (by repeat (first | apply List.Mem.head | apply List.Mem.tail))) fxB_len fxB_okb fxB_okl (Rd.nil (vec_rd (e := 5) (size := 1) (n := 288) (cs := ints .u8 fxB) (by repeat (first | apply List.Mem.head | apply List.Mem.tail))) hw) w hw).mono ?_
  rintro e w' ⟨pa, ca, rfl, hw'⟩
  rw [fxC_eq] at hw'
  refine ⟨_, rfl, _, hw', .inl fun w hw => dS hw, ?_⟩
  clear hw' hw w w'
  repeat (refine sx ?_; try intro _)
  refine QO_call Tryz.call161 rfl rfl fun w hw => (FCodes_c ps cs 32 spB (vec_rd (e := 5) (size := 1) (by repeat (first | apply List.Mem.head | apply List.Mem.tail))) spB_len spB_okb spB_okl (Rd.nil (vec_rd (e := 5) (size := 1) (n := 32) (cs := ints .u8 spB) (by repeat (first | apply List.Mem.head | apply List.Mem.tail))) hw) w hw).mono ?_
  rintro e w' ⟨pb, cb, rfl, hw'⟩
  rw [spC_eq] at hw'
  refine ⟨_, rfl, _, hw', .inl fun w hw => dS hw, ?_⟩
  clear hw' hw w w'
  repeat (first | apply hIx 3 | (refine sx ?_; try intro _))
  refine Hold.go ?_
  refine JS_H (H' := fwL b [] none 0 pl ps pa pb cl cs ca cb H) (fun w hw => by
    have h1 := St.nilvec (e := 5) (sz := 1) (base := none) hw
    show St w0 (blk b [.slice none 0 0, .int .i64 0, .slice pl 288 cl, .slice ps 32 cs, .slice pa 288 ca, .slice pb 32 cb] :: vec 5 1 (.slice none 0 0) 0 (ints .u8 (pack [])) :: vec 5 1 (.slice pl 288 cl) 288 (ints .u8 fxB) :: vec 5 1 (.slice ps 32 cs) 32 (ints .u8 spB) ::
      vec 31 1 (.slice pa 288 ca) 288 (ints .u32 fxC) :: vec 31 1 (.slice pb 32 cb) 32 (ints .u32 spC) :: H) w
    have hp : pack [] = [] := by unfold pack; rfl
    rw [hp]
    exact h1.perm (by (repeat (first | exact List.Perm.refl _ | refine List.Perm.cons _ ?_ | refine (List.perm_middle (l₁ := [_])).trans (List.Perm.cons _ ?_) | refine (List.perm_middle (l₁ := [_, _])).trans (List.Perm.cons _ ?_) | refine (List.perm_middle (l₁ := [_, _, _])).trans (List.Perm.cons _ ?_) | refine (List.perm_middle (l₁ := [_, _, _, _])).trans (List.Perm.cons _ ?_) | refine (List.perm_middle (l₁ := [_, _, _, _, _])).trans (List.Perm.cons _ ?_) | refine (List.perm_middle (l₁ := [_, _, _, _, _, _])).trans (List.Perm.cons _ ?_) | refine (List.perm_middle (l₁ := [_, _, _, _, _, _, _])).trans (List.Perm.cons _ ?_) | refine (List.perm_middle (l₁ := [_, _, _, _, _, _, _, _])).trans (List.Perm.cons _ ?_) | refine (List.perm_middle (l₁ := [_, _, _, _, _, _, _, _, _])).trans (List.Perm.cons _ ?_) | refine (List.perm_middle (l₁ := [_, _, _, _, _, _, _, _, _, _])).trans (List.Perm.cons _ ?_) | refine (List.perm_middle (l₁ := [_, _, _, _, _, _, _, _, _, _, _])).trans (List.Perm.cons _ ?_) | refine (List.perm_middle (l₁ := [_, _, _, _, _, _, _, _, _, _, _, _])).trans (List.Perm.cons _ ?_) | refine (List.perm_middle (l₁ := [_, _, _, _, _, _, _, _, _, _, _, _, _])).trans (List.Perm.cons _ ?_))))) ?_
  repeat (refine sx ?_; try intro _)
  refine JO_call Tryz.call162 rfl rfl fun w hw => (WGroupT_c b [] none 0 1 1 (by omega) ⟨by decide, by decide⟩ (by decide) nil_01' (by simp) w hw).mono ?_
  rintro e w' ⟨rfl, q1, d1, hw'⟩
  refine ⟨_, rfl, _, hw', ?_⟩
  clear hw' hw w w'
  repeat (refine sx ?_; try intro _)
  have o1 := app_01 nil_01' (grp_01 1 1)
  have l1 : (([] : List Int) ++ grp 1 1).length = 1 := by rw [List.nil_append, grp_len]
  refine JO_call Tryz.call162 rfl rfl fun w hw => (WGroupT_c b _ q1 d1 1 2 (by omega) ⟨by decide, by decide⟩ (by decide) o1 (by rw [l1]; omega) w hw).mono ?_
  rintro e w' ⟨rfl, q2, d2, hw'⟩
  rw [show ([] : List Int) ++ grp 1 1 ++ grp 1 2 = grp 1 1 ++ grp 1 2 by rw [List.nil_append]] at hw'
  refine ⟨_, rfl, _, hw', ?_⟩
  clear hw' hw w w' o1 l1
  repeat (refine sx ?_; try intro _)
  refine JO_call Tryz.call163 rfl rfl fun w hw => (Find_c p c m B (Rd_weak hr fun w hw => dS hw) hm hB h4 w hw).mono ?_
  rintro e w' ⟨qt, dt, rfl, hw'⟩
  have hT := toks_TOK hB m 0
  have hTl := toks_len (B := B) m 0
  have hfix : fixL B = grp 1 1 ++ grp 1 2 ++ (toks B m 0).flatMap tkb ++ fxS 256 := by unfold fixL; rw [hm]
  obtain ⟨l, hl⟩ : ∃ l, toks B m 0 = l := ⟨_, rfl⟩
  rw [hl] at hT hTl hfix hw' ⊢
  refine ⟨_, rfl, _, hw', ?_⟩
  clear hw' hw w w'
  repeat (refine sx ?_; try intro _)
  have h0 : grp 1 1 ++ grp 1 2 ++ (l.take 0).flatMap tkb = grp 1 1 ++ grp 1 2 := by rw [List.take_zero, List.flatMap_nil, List.append_nil]
  refine JS_loop3 (fun (i : Nat) (q : Option Addr) (d : Nat) => [(0, .slice p m c), (3, .pointer (some ⟨b, 0, none⟩)), (35, .slice qt l.length dt), (36, .int .i64 l.length), (37, .int .i64 i)])
    (fun i q d => fwL b (grp 1 1 ++ grp 1 2 ++ (l.take i).flatMap tkb) q d pl ps pa pb cl cs ca cb (vec 218 3 (.slice qt l.length dt) l.length (tkv l) :: H)) (fun i _ _ => i ≤ l.length) (fun i _ _ => l.length - i) 0 q2 d2 (Nat.zero_le _) (by repeat (first | exact trivial | refine ⟨rfl, ?_⟩ | refine ⟨lookI rfl (by omega), ?_⟩))
    (fun w hw => by rw [h0]; exact hw.perm (by (repeat (first | exact List.Perm.refl _ | refine List.Perm.cons _ ?_ | refine (List.perm_middle (l₁ := [_])).trans (List.Perm.cons _ ?_) | refine (List.perm_middle (l₁ := [_, _])).trans (List.Perm.cons _ ?_) | refine (List.perm_middle (l₁ := [_, _, _])).trans (List.Perm.cons _ ?_) | refine (List.perm_middle (l₁ := [_, _, _, _])).trans (List.Perm.cons _ ?_) | refine (List.perm_middle (l₁ := [_, _, _, _, _])).trans (List.Perm.cons _ ?_) | refine (List.perm_middle (l₁ := [_, _, _, _, _, _])).trans (List.Perm.cons _ ?_) | refine (List.perm_middle (l₁ := [_, _, _, _, _, _, _])).trans (List.Perm.cons _ ?_) | refine (List.perm_middle (l₁ := [_, _, _, _, _, _, _, _])).trans (List.Perm.cons _ ?_) | refine (List.perm_middle (l₁ := [_, _, _, _, _, _, _, _, _])).trans (List.Perm.cons _ ?_) | refine (List.perm_middle (l₁ := [_, _, _, _, _, _, _, _, _, _])).trans (List.Perm.cons _ ?_) | refine (List.perm_middle (l₁ := [_, _, _, _, _, _, _, _, _, _, _])).trans (List.Perm.cons _ ?_) | refine (List.perm_middle (l₁ := [_, _, _, _, _, _, _, _, _, _, _, _])).trans (List.Perm.cons _ ?_) | refine (List.perm_middle (l₁ := [_, _, _, _, _, _, _, _, _, _, _, _, _])).trans (List.Perm.cons _ ?_))))) ?_
  intro i q d hi again
  have o3 := app_01 (app_01 (grp_01 1 1) (grp_01 1 2)) (tkbs_01 (l.take i))
  have hl3 : (grp 1 1 ++ grp 1 2 ++ (l.take i).flatMap tkb).length ≤ 32 * l.length + 3 := by
    have := tkbs_len (l := l.take i) fun t ht => hT t (List.mem_of_mem_take ht)
    rw [List.length_take] at this
    simp only [List.length_append, grp_len]
    omega
  by_cases hil : i < l.length
  · have hat := tkv_at hil
    have htk := tkbs_take hil
    have hTi := hT _ (List.getElem_mem hil)
    obtain ⟨t, ht⟩ : ∃ t, l[i] = t := ⟨_, rfl⟩
    rw [ht] at hat htk hTi
    repeat (first | (apply gJO; refine JO_v (oL (V_loadCA (tb := tb) rfl (vec_rd (by repeat (first | apply List.Mem.head | apply List.Mem.tail))) rfl rfl rfl (by decide) hat rfl)) ?_) | (refine sx ?_; try intro _))
    rename_i bt
    have e8 : (.agg [.int .u8 t.1, .int .i64 t.2.1, .int .i64 t.2.2].toArray : Value) = .agg #[.int .u8 t.1, .int .i64 t.2.1, .int .i64 t.2.2] := rfl
    have hlx : (grp 1 1 ++ grp 1 2 ++ (l.take i).flatMap tkb).length ≤ 70368744177000 := by omega
    refine JO_call Tryz.call164 rfl rfl fun w hw => (Tok_c (H := blk bt [.int .u8 t.1, .int .i64 t.2.1, .int .i64 t.2.2] :: vec 218 3 (.slice qt l.length dt) l.length (tkv l) :: H) (L := grp 1 1 ++ grp 1 2 ++ (l.take i).flatMap tkb) (q := q) (d := d) t hTi o3 hlx w (hw.perm (by (repeat (first | exact List.Perm.refl _ | refine List.Perm.cons _ ?_ | refine (List.perm_middle (l₁ := [_])).trans (List.Perm.cons _ ?_) | refine (List.perm_middle (l₁ := [_, _])).trans (List.Perm.cons _ ?_) | refine (List.perm_middle (l₁ := [_, _, _])).trans (List.Perm.cons _ ?_) | refine (List.perm_middle (l₁ := [_, _, _, _])).trans (List.Perm.cons _ ?_) | refine (List.perm_middle (l₁ := [_, _, _, _, _])).trans (List.Perm.cons _ ?_) | refine (List.perm_middle (l₁ := [_, _, _, _, _, _])).trans (List.Perm.cons _ ?_) | refine (List.perm_middle (l₁ := [_, _, _, _, _, _, _])).trans (List.Perm.cons _ ?_) | refine (List.perm_middle (l₁ := [_, _, _, _, _, _, _, _])).trans (List.Perm.cons _ ?_) | refine (List.perm_middle (l₁ := [_, _, _, _, _, _, _, _, _])).trans (List.Perm.cons _ ?_) | refine (List.perm_middle (l₁ := [_, _, _, _, _, _, _, _, _, _])).trans (List.Perm.cons _ ?_) | refine (List.perm_middle (l₁ := [_, _, _, _, _, _, _, _, _, _, _])).trans (List.Perm.cons _ ?_) | refine (List.perm_middle (l₁ := [_, _, _, _, _, _, _, _, _, _, _, _])).trans (List.Perm.cons _ ?_) | refine (List.perm_middle (l₁ := [_, _, _, _, _, _, _, _, _, _, _, _, _])).trans (List.Perm.cons _ ?_)))))).mono ?_
    rintro e w' ⟨rfl, q3, d3, hw'⟩
    refine ⟨_, rfl, _, hw', ?_⟩
    clear hw' hw w w'
    repeat (refine sx ?_; try intro _)
    refine JS_again3 again (i + 1) q3 d3 (by omega) (by omega) (by repeat (first | exact trivial | refine ⟨rfl, ?_⟩ | refine ⟨lookI rfl (by omega), ?_⟩)) (fun w hw => ?_)
    rw [htk, ← List.append_assoc]
    exact dS hw
  · obtain rfl : i = l.length := by omega
    clear again
    rw [List.take_length] at o3 hl3 ⊢
    have hl9 := fxS_len 256 (by omega)
    have hlx : (grp 1 1 ++ grp 1 2 ++ l.flatMap tkb).length ≤ 70368744177600 := by omega
    repeat (refine sx ?_; try intro _)
    refine JO_call Tryz.call165 rfl rfl fun w hw => (FLit_c (H := vec 218 3 (.slice qt l.length dt) l.length (tkv l) :: H) (L := grp 1 1 ++ grp 1 2 ++ l.flatMap tkb) (q := q) (d := d) 256 (by omega) o3 hlx w hw).mono ?_
    rintro e w' ⟨rfl, q3, d3, hw'⟩
    rw [← hfix] at hw'
    refine ⟨_, rfl, _, hw', ?_⟩
    clear hw' hw w w'
    repeat (refine sx ?_; try intro _)
    have o4 := fixL_01 B
    have hl4 : (fixL B).length ≤ 70368744177664 := by rw [hfix, List.length_append]; omega
    refine JO_call Tryz.call166 rfl rfl fun w hw => (WBytesT_c b (pack (fixL B)).length (fixL B) q3 d3 o4 hl4 (pack_len _).symm w hw).mono ?_
    rintro e w' ⟨q4, d4, rfl, hw'⟩
    refine ⟨_, rfl, _, hw', ?_⟩
    clear hw' hw w w'
    repeat (refine sx ?_; try intro _)
    refine JS_ret Tryz.func121 rfl rfl fun w hw => ⟨q4, d4, rfl, dS hw⟩
end
end Go.Proofs.YteelffkghidpfaaGreat

set_option linter.unusedVariables false
namespace Sx
open Go
section
variable {P : Program} {f n : Nat} {R : Ending → World → Prop} {D : List Deferred} {w0 : World} {k : List Item} {ov : Ov} {H H' : List Asn}
  {ops : Array Oper} {l : List Oper} {d : Option Nat} {T : Nat} {pos : String} {af : Array Edge} {g : Option (Nat × Bool)} {x y : Operand} {v : Value} {tb : Tb P}
theorem enterR {fn : Func} {id : Nat} {dd : Nat} {rest : Code} {ts : Array Nat} {vs : List Value} {u u' : FrameMode} {w : World} (hf : P.funcs[f]? = some fn) (hb : fn.body = some (.seq (.region id #[⟨some dd, .call ⟨.builtin .recover, #[], ts⟩, T, pos, af, none⟩] false) rest)) (hn : fn.ntmps = n) (hl : Nat.ble vs.length n = true) (hd : Nat.blt dd n = true)
    (hw : St w0 H w) (hu : (u = .returning ∧ v = .nilIface ∧ u' = .returning) ∨ (∃ older, u = .panicking ({ v, recovered := false } :: older) ∧ u' = .panicking ({ v, recovered := true } :: older)))
    (h : JS P f n R [] w0 [.code rest] ((dd, v) :: argsOv 0 vs) H) : CallsD P f vs.toArray u w fun e u2 w' => u2 = u' ∧ R e w' := by
  intro c₀ cs hm
  let b : Frame := { (default : Frame) with fn := f, kind := .deferred }
  have hl' : vs.length ≤ n := Nat.le_of_ble_eq_true hl
  have hd' : dd < n := by rwa [Nat.blt_eq] at hd
  let o : Oper := ⟨some dd, .call ⟨.builtin .recover, #[], ts⟩, T, pos, af, none⟩
  let a0 : Act := { tmps := vs.toArray ++ Array.replicate (fn.ntmps - vs.toArray.size) undef, defers := [] }
  have henter : Frame.enter P f vs.toArray .deferred = b.at a0 [.code (.seq (.region id #[o] false) rest)] := by
    simp [Frame.enter, Frame.at, hf, hb, b, a0, o]
  have hrep : Rep n [] (argsOv 0 vs) a0 := by
    refine ⟨by simp [a0, hn]; omega, rfl, ?_⟩
    intro t v ht
    obtain ⟨_, h2⟩ := look_args vs 0 t v ht
    simp only [Nat.sub_zero] at h2
    have hlt : t < vs.length := (List.getElem?_eq_some_iff.1 h2).1
    simp only [a0]
    rw [Array.getElem?_append_left (by simpa using hlt)]
    simpa using h2
  have hrep' : Rep n [] ((dd, v) :: argsOv 0 vs) (a0.put (some dd) v) := hrep.put (d := some dd) (by simp [dOk, Nat.blt_eq, hd']) v
  have hrec : recoverD (c₀ :: cs) = match u with
      | .returning => none
      | _ => some (v, { c₀ with mode := u' } :: cs) := by
    rcases hu with ⟨rfl, rfl, rfl⟩ | ⟨older, rfl, rfl⟩
    · simp [recoverD, hm]
    · simp [recoverD, hm]
  have hrun : (execOp a0.eval o).run P w = .ok .recover w := by simp [o, execOp, resolve, invoke, builtin]
  have htr : tryRecover (b.at a0 (.inRegion #[o] [0] :: [.code rest])) (c₀ :: cs) = recoverD (c₀ :: cs) := tryRecover_deferred rfl _
  have hfin : ∀ v, (b.at a0 (.inRegion #[o] (0 :: []) :: [.code rest])).finish v = b.at (a0.put o.dst v) (.inRegion #[o] [] :: [.code rest]) := by
    intro v; rw [Frame.finish_at]; rfl
  have hg := stepG_op (P := P) (b := b) (a := a0) (k := [.code rest]) (cs := c₀ :: cs) (w := w) (ops := #[o]) (i := 0) (rest := []) (o := o) rfl rfl
  have h1 : step P (lone (b.at a0 [.code (.seq (.region id #[o] false) rest)]) (c₀ :: cs) w) = .next (lone (b.at a0 [.code (.region id #[o] false), .code rest]) (c₀ :: cs) w) := step_seq
  have h2 : step P (lone (b.at a0 [.code (.region id #[o] false), .code rest]) (c₀ :: cs) w) = .next (lone (b.at a0 [.inRegion #[o] [0], .code rest]) (c₀ :: cs) w) := step_region
  have h3 : step P (lone (b.at a0 [.inRegion #[o] [0], .code rest]) (c₀ :: cs) w) = .next (lone (b.at (a0.put (some dd) v) [.inRegion #[o] [], .code rest]) ({ c₀ with mode := u' } :: cs) w) := by
    refine step_lone_go ?_
    rw [hg]
    have hf' := hfin v
    rcases hu with ⟨rfl, rfl, rfl⟩ | ⟨older, rfl, rfl⟩
    · have hc : ({ c₀ with mode := .returning } : Frame) = c₀ := by rw [← hm]
      rw [hc, ← hf']
      simp only [Frame.at] at htr hrec ⊢
      simp [stepG.apply, hrun, htr, hrec]
    · rw [← hf']
      simp only [Frame.at] at htr hrec ⊢
      simp [stepG.apply, hrun, htr, hrec]
  have h4 : step P (lone (b.at (a0.put (some dd) v) [.inRegion #[o] [], .code rest]) ({ c₀ with mode := u' } :: cs) w) = .next (lone (b.at (a0.put (some dd) v) [.code rest]) ({ c₀ with mode := u' } :: cs) w) := step_region_end
  unfold JS J at h
  obtain ⟨e, w', fr, hR, hcm, hfn, hk, hgo⟩ := h _ w hrep' hw b ({ c₀ with mode := u' } :: cs) rfl (.inr rfl)
  rw [henter]
  exact ⟨e, u', w', fr, ⟨rfl, hR⟩, Comes.of_steps (.head h1 (.head h2 (.head h3 (.one h4)))) hcm, hk, hgo⟩
section
variable {t s1 b1 T2 : Nat} {z1 : Option (List Value)}
theorem und_iface (h : tlook tb.l t = some ⟨.iface, s1, b1, z1⟩) : ∃ ms, P.underlying t = some (.interface ms) := by
  obtain ⟨d, h1, h2⟩ := Tb.und h
  cases d <;> simp [tyOf] at h2
  exact ⟨_, h1⟩
theorem run_eqIN {ms : Array (String × TypeId)} (w : World) (d : Nat) (e1 : P.underlying t = some (.interface ms)) : (Op.equalIn (d + 1) t .nilIface .nilIface).run P w = .ok true w := by simp [Op.equalIn, run_underlying e1]
theorem run_eqIV {t2 : Nat} {u : Value} {ms : Array (String × TypeId)} (w : World) (d : Nat) (e1 : P.underlying t = some (.interface ms)) : (Op.equalIn (d + 1) t (.iface t2 u) .nilIface).run P w = .ok false w := by simp [Op.equalIn, run_underlying e1]
theorem V_eqIN (hx : ev ov x = some .nilIface) (h : tlook tb.l t = some ⟨.iface, s1, b1, z1⟩) (hd : dOk d n = true) :
    OpV P n D w0 ov H ⟨d, .binOp .eql t x (.const .nilIface) T2, T, pos, af, g⟩ (.bool true) := by
  unfold OpV
  exact ⟨hd, fun a w ha _ => by
    obtain ⟨ms, e1⟩ := und_iface h
    have hg : (eqGuard .eql t x (.const .nilIface) .nilIface .nilIface).run P w = .ok () w := by simp [eqGuard]
    have e2 := run_eqIN (P := P) w 9999 e1
    have hb : (binOp .eql t .nilIface .nilIface).run P w = .ok (.bool true) w := by
      simp only [binOp, Op.equal, Op.maxDepth, Sem.run_bind, e2, Result.andThen_ok, Sem.run_pure]
    have hc : a.eval (.const .nilIface) = .nilIface := rfl
    simp [execOp, ha.ev hx, hc, hg, hb]⟩
theorem V_eqIV {t2 : Nat} {u : Value} (hx : ev ov x = some (.iface t2 u)) (h : tlook tb.l t = some ⟨.iface, s1, b1, z1⟩) (hd : dOk d n = true) :
    OpV P n D w0 ov H ⟨d, .binOp .eql t x (.const .nilIface) T2, T, pos, af, g⟩ (.bool false) := by
  unfold OpV
  exact ⟨hd, fun a w ha _ => by
    obtain ⟨ms, e1⟩ := und_iface h
    have hg : (eqGuard .eql t x (.const .nilIface) (.iface t2 u) .nilIface).run P w = .ok () w := by simp [eqGuard]
    have e2 := run_eqIV (P := P) (t2 := t2) (u := u) w 9999 e1
    have hb : (binOp .eql t (.iface t2 u) .nilIface).run P w = .ok (.bool false) w := by
      simp only [binOp, Op.equal, Op.maxDepth, Sem.run_bind, e2, Result.andThen_ok, Sem.run_pure]
    have hc : a.eval (.const .nilIface) = .nilIface := rfl
    simp [execOp, ha.ev hx, hc, hg, hb]⟩
theorem V_assertT {tx t9 s2 b2 : Nat} {ty : Ty} {z2 : Option (List Value)} {u : Value} (hx : ev ov x = some (.iface t9 u)) (h : tlook tb.l t9 = some ⟨ty, s2, b2, z2⟩) (hi : ty ≠ .iface) (hd : dOk d n = true) :
    OpV P n D w0 ov H ⟨d, .typeAssert x tx t9 true, T, pos, af, g⟩ (.tuple #[u, .bool true]) := by
  unfold OpV
  exact ⟨hd, fun a w ha _ => by
    obtain ⟨dd, e1, e2⟩ := Tb.und h
    cases dd <;> simp [execOp, ha.ev hx, Instr.typeAssert, run_underlying e1]
    simp [tyOf] at e2; exact absurd e2.symm hi⟩
end
end
end Sx

set_option linter.unusedVariables false
namespace Sx
open Go
section
variable (P : Program) (E : List PanicEntry → List Deferred → World → Prop) (ops : Array Oper) (sy : List Nat) (K : (World → Prop) → Act → Prop)
def goN2 (next : (World → Prop) → (World → Prop) → Act → Prop) (m : Nat) (o : Oper) (I C : World → Prop) (a : Act) : Prop :=
  (loud o.op = false ∧ ∃ v, (∀ w, I w → (execOp a.eval o).run P w = .ok (.value v) w) ∧ next I C (a.put o.dst v)) ∨
  (loud o.op = true ∧ ∀ w, C w → Oper.wpN P E o a w fun a' w' => ∃ I' C' : World → Prop, C' w' ∧ (∀ w, C' w → I' w) ∧ ((∀ w, I' w → I w) ∨ sy.contains m = true) ∧ next I' C' a')
def walkN2 : List Oper → (World → Prop) → (World → Prop) → Act → Prop
  | [], I, C, a => K C a
  | o :: rest, I, C, a => if Region.wanted o (yielded ops a.tmps) then goN2 P E sy (walkN2 rest) rest.length o I C a else walkN2 rest I C (a.put o.dst undef)
end
section
variable {P : Program} {E : List PanicEntry → List Deferred → World → Prop} {ops : Array Oper}
theorem wpS_walk2 {sy : List Nat} {K : (World → Prop) → Act → Prop} (hsel : Region.noSelect ops = true) : ∀ (st done : List Nat) (l : List Oper) (listed : Array Bool) (I C : World → Prop) (a : Act), (∀ w, C w → I w) →
    l.map some = st.map (fun i => ops[i]?) → ordB ops sy done st listed = true → (∀ s ∈ done, s < ops.size) → (∀ j, listed.getD j false = true ↔ j ∈ done) → (∀ S, (∀ s ∈ done, calmAt ops s = false → s ∈ S) → Sofar ops S listed) → walkN2 P E ops sy K l I C a →
    ∀ w, C w → wpS P E ops I (till ops sy done st) (fun a w => ∃ C' : World → Prop, C' w ∧ K C' a) st.length listed a w
  | [], done, l, listed, I, C, a, hIC, hl, hB, hs, hd, hG, h, w, hw => by
    have : l = [] := by simpa using hl
    subst this
    simp only [ordB, Bool.and_eq_true, List.isEmpty_iff] at hB
    exact ⟨hB.1, C, hw, h⟩
  | i :: st, done, [], listed, I, C, a, hIC, hl, hB, hs, hd, hG, h, w, hw => by simp at hl
  | i :: st, done, o :: l, listed, I, C, a, hIC, hl, hB, hs, hd, hG, h, w, hw => by
    obtain ⟨hgate, hsz⟩ := ordB_gate (i :: st) done listed hB hs
    simp only [List.map_cons, List.cons.injEq] at hl
    have ho : ops[i]? = some o := hl.1.symm
    have hlen : l.length = st.length := by simpa using congrArg List.length hl.2
    have hi : i < ops.size := (Array.getElem?_eq_some_iff.1 ho).1
    have hB0 := hB
    simp only [ordB, ho, Bool.and_eq_true] at hB
    obtain ⟨⟨hB1, hB2⟩, hB3⟩ := hB
    have hrdy : i ∈ Region.ready .any ops listed := by
      split at hB2
      · rw [beq_iff_eq] at hB2; rw [hB2]; simp
      · rw [Bool.and_eq_true] at hB2; simpa using hB2.1
    have hs' : ∀ s ∈ i :: done, s < ops.size := fun s hs' => (List.mem_cons.1 hs').elim (fun e => e ▸ hi) (hs s)
    have hiun : listed.getD i true = false := (mem_ready.1 hrdy).1
    have hlt : i < listed.size := by
      rcases Nat.lt_or_ge i listed.size with h' | h'
      · exact h'
      · simp [Array.getElem?_eq_none h'] at hiun
    have hd' : ∀ j, (listed.setIfInBounds i true).getD j false = true ↔ j ∈ i :: done := fun j => by
      by_cases hij : i = j
      · subst hij
        simp [hlt]
      · rw [getD_set_ne false hij, hd j]
        simp [Ne.symm hij]
    have hG' : ∀ S, (∀ s ∈ i :: done, calmAt ops s = false → s ∈ S) → Sofar ops S (listed.setIfInBounds i true) := fun S hS => by
      refine ⟨fun j oj hj hl e he hb => ?_, fun k hk hkc hl => absurd (hS k ((hd' k).1 hl) hkc) hk⟩
      by_cases hij : i = j
      · subst hij
        rw [ho] at hj; cases hj
        obtain ⟨_, o', ho', hall⟩ := mem_ready.1 hrdy
        rw [ho] at ho'; cases ho'
        exact getD_set_true (hall e he hb)
      · rw [getD_set_ne false hij] at hl
        exact getD_set_true ((hG S fun s hs => hS s (List.mem_cons_of_mem _ hs)).down j oj hj hl e he hb)
    have IH := fun (I C : World → Prop) (a : Act) (hIC : ∀ w, C w → I w) (h : walkN2 P E ops sy K l I C a) => wpS_walk2 hsel st (i :: done) l (listed.setIfInBounds i true) I C a hIC hl.2 hB3 hs' hd' hG' h
    have hunl : ∀ j, (listed.setIfInBounds i true).getD j true = false → j ∉ i :: done := fun j h hj => getD_conf h ((hd' j).2 hj)
    simp only [walkN2] at h
    have hpure : ∀ v, loud o.op = false → Stays P ops I o v a → walkN2 P E ops sy K l I C (a.put o.dst v) → wpS P E ops I (till ops sy done (i :: st)) (fun a w => ∃ C' : World → Prop, C' w ∧ K C' a) (st.length + 1) listed a w := by
      intro v hlo hst hn
      have hnsy : sy.contains st.length = false := by
        cases hc : sy.contains st.length with
        | false => rfl
        | true => rw [hc] at hB1; simp [hlo] at hB1
      have htl : till ops sy done (i :: st) = till ops sy (i :: done) st := by simp only [till]; rw [hnsy]; simp
      simp only [hlo, Bool.false_eq_true, if_false, Bool.and_eq_true] at hB2
      cases hcal : calm o.op with
      | false =>
        refine wpS_first ho (Region.noSelect_spec hsel) hgate hsz (by rw [htl]; exact till_sub _ _ _ (List.mem_cons_self ..) (by unfold calmAt; simp only [ho]; exact hcal)) st.length listed a w (hG _ fun s hs hc => till_sub _ _ _ hs hc) (Region.free_spec ho hB2.2) hrdy hst (hIC w hw) ?_
        rw [htl]
        exact IH I C _ hIC hn w hw
      | true =>
        refine wpS_calm ho (Region.noSelect_spec hsel) (fun h => by have h' := till_calm _ _ _ h; unfold calmAt at h'; simp only [ho, hcal] at h'; cases h') st.length listed a w (Region.free_spec ho hB2.2) hrdy (hst.calm hcal (hIC w hw)) ?_
        rw [htl]
        exact IH I C _ hIC hn w hw
    have hloud : loud o.op = true → ∀ (a' : Act) (w' : World) (I' C' : World → Prop), C' w' → (∀ w, C' w → I' w) → ((∀ w, I' w → I w) ∨ sy.contains st.length = true) → walkN2 P E ops sy K l I' C' a' →
        ((i ∈ till ops sy done (i :: st) → I w') ∧ wpS P E ops I (till ops sy done (i :: st)) (fun a w => ∃ C' : World → Prop, C' w ∧ K C' a) st.length (listed.setIfInBounds i true) a' w') := by
      intro hlo a' w' I' C' hw' hIC' hor hn
      have h1 := IH I' C' a' hIC' hn w' hw'
      cases hc : sy.contains st.length with
      | true =>
        have htl : till ops sy done (i :: st) = done.filter fun k => !calmAt ops k := by simp only [till]; rw [hc]; simp
        rw [htl]
        refine ⟨fun hid => ?_, wpS_weak _ _ _ _ (fun j hj hu => absurd (List.mem_cons_of_mem _ (mem_noncalm.1 hj).1) (hunl j hu)) h1⟩
        exact (getD_conf hiun ((hd i).2 (mem_noncalm.1 hid).1)).elim
      | false =>
        have hsub := hor.resolve_right (by rw [hc]; simp)
        have htl : till ops sy done (i :: st) = till ops sy (i :: done) st := by simp only [till]; rw [hc]; simp
        rw [htl]
        exact ⟨fun _ => hsub _ (hIC' _ hw'), wpS_weak _ _ _ _ (fun j hj _ => ⟨hj, hsub⟩) h1⟩
    by_cases hwt : Region.wanted o (yielded ops a.tmps) = true
    · rw [if_pos hwt] at h
      rcases h with ⟨hlo, v, hv, hn⟩ | ⟨hlo, hn⟩
      · exact hpure v hlo (.inl ⟨hwt, hv⟩) hn
      · rw [if_pos hlo, beq_iff_eq] at hB2
        refine ⟨fun h0 => (by rw [h0] at hrdy; cases hrdy), fun j hj => ?_⟩
        have : j = i := by rw [hB2] at hj; simpa using hj
        subst this
        unfold stepN
        simp only [ho, hwt, if_true]
        exact Oper.wpN_mono (fun a' w' ⟨I', C', hw', hIC', hor, hn'⟩ => hloud hlo a' w' I' C' hw' hIC' (by rwa [hlen] at hor) hn') (hn w hw)
    · have hwt' : Region.wanted o (yielded ops a.tmps) = false := by simpa using hwt
      rw [if_neg hwt] at h
      cases hlo : loud o.op with
      | false => exact hpure undef hlo (.inr ⟨hwt', rfl⟩) h
      | true =>
        rw [if_pos hlo, beq_iff_eq] at hB2
        refine ⟨fun h0 => (by rw [h0] at hrdy; cases hrdy), fun j hj => ?_⟩
        have : j = i := by rw [hB2] at hj; simpa using hj
        subst this
        unfold stepN
        simp only [ho, hwt', Bool.false_eq_true, if_false]
        exact hloud hlo _ _ I C hw hIC (.inl fun _ h => h) h
end
section
variable (P : Program) (n : Nat) (D : List Deferred) (w0 : World)
def QR2 (Z : Array Oper × List Nat) (l : List Oper) (ov : Ov) (Hi H : List Asn) (K : KC) : Prop :=
  ∀ a, Rep n D ov a → walkN2 P K.e Z.1 Z.2 K.k l (St w0 Hi) (St w0 H) a
def QO2 (Z : Array Oper × List Nat) (o : Oper) (l : List Oper) (ov : Ov) (Hi H : List Asn) (K : KC) : Prop :=
  ∀ a, Rep n D ov a → goN2 P K.e Z.2 (walkN2 P K.e Z.1 Z.2 K.k l) l.length o (St w0 Hi) (St w0 H) a
end
section
variable {P : Program} {f n : Nat} {R : Ending → World → Prop} {D : List Deferred} {w0 : World} {k : List Item} {ov : Ov} {Hi H H' : List Asn} {K : KC}
  {Z : Array Oper × List Nat} {l : List Oper} {d : Option Nat} {T : Nat} {pos : String} {af : Array Edge} {g : Option (Nat × Bool)} {v : Value} {op : Op} {o : Oper}
theorem gQR2 (h : QR2 P n D w0 Z l ov Hi H K) : QR2 P n D w0 Z l ov Hi H K := h
theorem gQO2 (h : QO2 P n D w0 Z o l ov Hi H K) : QO2 P n D w0 Z o l ov Hi H K := h
theorem QR2_nil (h : JS P f n R D w0 k ov H) : QR2 P n D w0 Z [] ov Hi H (QK P f R k) := by
  unfold QK JS at *
  exact fun a ha w hw => h a w ha hw
theorem QR2_un (h : QO2 P n D w0 Z ⟨d, op, T, pos, af, none⟩ l ov Hi H K) : QR2 P n D w0 Z (⟨d, op, T, pos, af, none⟩ :: l) ov Hi H K := by
  intro a ha
  simp only [walkN2]
  rw [if_pos (by simp [Region.wanted])]
  exact h a ha
theorem QO2_v (hlo : loud op = false) (h : OpV P n D w0 ov Hi ⟨d, op, T, pos, af, g⟩ v) (hn : QR2 P n D w0 Z l (put d v ov) Hi H K) : QO2 P n D w0 Z ⟨d, op, T, pos, af, g⟩ l ov Hi H K := by
  unfold OpV at h
  exact fun a ha => .inl ⟨hlo, v, fun w hw => h.2 a w ha hw, hn _ (ha.put h.1 v)⟩
theorem QO2_callE {q : Nat} {xs : List Operand} {vs : List Value} {ts : Array Nat} (hc : ∀ args w, (callFunc q args).run P w = .ok (.enter q args) w) (hx : evs ov xs = some vs) (hd : dOk d n = true)
    (h : ∀ w, St w0 H w → Calls P q vs.toArray w fun e w' => (∃ v, e = .returned v ∧ ∃ Hi' H', St w0 H' w' ∧ (∀ w, St w0 H' w → St w0 Hi' w) ∧ ((∀ w, St w0 Hi' w → St w0 Hi w) ∨ Z.2.contains l.length = true) ∧ QR2 P n D w0 Z l (put d v ov) Hi' H' K) ∨ (∃ ch, e = .panicked ch ∧ K.e ch D w')) :
    QO2 P n D w0 Z ⟨d, .call ⟨.value (.func q), xs.toArray, ts⟩, T, pos, af, g⟩ l ov Hi H K := by
  intro a ha
  refine .inr ⟨rfl, fun w hw => ?_⟩
  have hrun : (execOp a.eval ⟨d, .call ⟨.value (.func q), xs.toArray, ts⟩, T, pos, af, g⟩).run P w = .ok (.enter q vs.toArray) w := by
    simp only [execOp, resolve, Deferred.ofValue, Act.eval, Sem.run_bind, Sem.run_pure, Result.andThen_ok, invoke]
    rw [List.map_toArray, ha.evs hx]
    simpa using hc vs.toArray w
  simp only [Oper.wpN, hrun, Oper.upN]
  exact (h w hw).mono fun e w' h' => h'.imp (fun ⟨v, he, Hi', H', hw', hI, hor, hn⟩ => ⟨v, he, St w0 Hi', St w0 H', hw', hI, hor, hn _ (ha.put hd v)⟩) (fun ⟨ch, he, hk⟩ => ⟨ch, he, by rw [ha.defers]; exact hk⟩)
theorem QO2_k (hlo : loud op = true) (h : OpK P n D w0 ov H ⟨d, op, T, pos, af, g⟩ H') (hI : ∀ w, St w0 H' w → St w0 Hi w) (hn : QR2 P n D w0 Z l (put d undef ov) Hi H' K) : QO2 P n D w0 Z ⟨d, op, T, pos, af, g⟩ l ov Hi H K := by
  intro a ha
  unfold OpK at h
  refine .inr ⟨hlo, fun w hw => ?_⟩
  obtain ⟨w', hrun, hw'⟩ := h.2 a w ha hw
  simp only [Oper.wpN, hrun, Oper.upN]
  exact ⟨St w0 Hi, St w0 H', hw', hI, .inl fun _ h => h, hn _ (ha.put h.1 undef)⟩
theorem JS_order2 {id : Nat} {l : List Oper} (Hi : List Asn) (st sy : List Nat) {l' : List Oper} (hI : ∀ w, St w0 H w → St w0 Hi w) (hp : Picks l st l') (hm : P.follows .mixedOrders = true) (hs : Region.noSelect l.toArray = true) (hlen : st.length = l.length)
    (hB : ordB l.toArray sy [] st (Array.replicate l.length false) = true) (h : QR2 P n D w0 (l.toArray, sy) l' ov Hi H (QK P f R k)) :
    JS P f n R D w0 (.code (.region id l.toArray true) :: k) ov H := by
  unfold JS
  intro a w ha hw
  refine J_of_wpE (Q := QQ P f R k) (wp_region_any hm ?_) fun e a' w' h => h
  have h0 : ∀ j, (Array.replicate l.length false).getD j false = false := fun j => by
    rcases Nat.lt_or_ge j l.length with h | h
    · simp [h]
    · simp [h]
  have hws := wpS_walk2 (P := P) (E := (QK P f R k).e) (K := (QK P f R k).k) (sy := sy) hs st [] l' (Array.replicate l.length false) (St w0 Hi) (St w0 H) a hI hp.map hB (by simp) (fun j => by rw [h0 j]; simp)
    (fun S _ => ⟨fun j oj _ hj => (by rw [h0 j] at hj; cases hj), fun k _ _ hk => (by rw [h0 k] at hk; cases hk)⟩) (h a ha) w.drew hw.drew
  have := wpAny_of_S (Q' := QQ P f R k) (fun ch a w h => by unfold QK at h; exact h) (fun a w ⟨C, hC, hk⟩ => by unfold QK at hk; exact hk w hC) _ _ _ _ hws
  rw [hlen] at this
  simpa using this
attribute [irreducible] QR2 QO2
end
end Sx
namespace Go.Proofs.YteelffkghidpfaaGreat
open Sx Go
section
variable {n : Nat} {D : List Deferred} {w0 : World} {ov : Ov} {Hi H : List Asn} {K : KC} {Z : Array Oper × List Nat} {l : List Oper} {d : Option Nat} {T : Nat} {pos : String} {af : Array Edge} {g : Option (Nat × Bool)} {v : Value} {op : Op}
theorem aQ2 (hn : QR2 Tryz.prog n D w0 Z l (put d v ov) Hi H K) (h : OpV Tryz.prog n D w0 ov Hi ⟨d, op, T, pos, af, g⟩ v := by first | (apply oMv; exact V_move rfl rfl) | (apply oAs; exact V_assign rfl rfl) | (apply oL; first | exact V_load (tb := tb) rfl (by repeat (first | apply List.Mem.head | apply List.Mem.tail)) rfl rfl rfl rfl | exact V_loadC (tb := tb) rfl (by first | exact vec_rd (by repeat (first | apply List.Mem.head | apply List.Mem.tail)) | assumption | exact ArgRd.rd (by assumption) _ | (apply Rd_weak; assumption; intro _ hx; exact dS hx)) rfl rfl (by first | exact ints_get (by omega) | exact rfl) rfl | exact V_loadA (tb := tb) rfl (by repeat (first | apply List.Mem.head | apply List.Mem.tail)) rfl rfl rfl rfl) | (apply oB; first | (apply ob_add; first | exact V_add rfl rfl (by first | exact wi64 (by omega) | exact wu64 (by omega) | exact wu32 (by omega) | exact wu8 (by omega) | exact mu64 _ | exact mu32 _ | exact mu8 _ | exact mi64 _ | exact rfl) rfl) | (apply ob_sub; first | exact V_sub rfl rfl (by first | exact wi64 (by omega) | exact wu64 (by omega) | exact wu32 (by omega) | exact wu8 (by omega) | exact mu64 _ | exact mu32 _ | exact mu8 _ | exact mi64 _ | exact rfl) rfl) | (apply ob_mul; first | exact V_mul rfl rfl (by first | exact wi64 (by omega) | exact wu64 (by omega) | exact wu32 (by omega) | exact wu8 (by omega) | exact mu64 _ | exact mu32 _ | exact mu8 _ | exact mi64 _ | exact rfl) rfl) | (apply ob_eql; first | exact V_eqlT rfl rfl (by omega) rfl | exact V_eqlF rfl rfl (by omega) rfl | exact V_eql rfl rfl rfl) | (apply ob_neq; first | exact V_neqT rfl rfl (by omega) rfl | exact V_neqF rfl rfl (by omega) rfl | exact V_neq rfl rfl rfl) | (apply ob_lss; first | exact V_lssT rfl rfl (by omega) rfl | exact V_lssF rfl rfl (by omega) rfl | exact V_lss rfl rfl rfl) | (apply ob_leq; first | exact V_leqT rfl rfl (by omega) rfl | exact V_leqF rfl rfl (by omega) rfl | exact V_leq rfl rfl rfl) | (apply ob_gtr; first | exact V_gtrT rfl rfl (by omega) rfl | exact V_gtrF rfl rfl (by omega) rfl | exact V_gtr rfl rfl rfl) | (apply ob_geq; first | exact V_geqT rfl rfl (by omega) rfl | exact V_geqF rfl rfl (by omega) rfl | exact V_geq rfl rfl rfl) | (apply ob_quo; first | exact V_quo rfl rfl (by omega) (by first | exact IntWalk.i64_quo _ _ (by omega) | exact IntWalk.u64_quo _ _ (by omega) | exact IntWalk.u32_quo _ _ (by omega) | exact IntWalk.u8_quo _ _ (by omega)) rfl) | (apply ob_rem; first | exact V_rem rfl rfl (by omega) (Int.tmod_eq_emod_of_nonneg (by omega)) rfl) | (apply ob_and; first | exact V_and rfl rfl (by first | exact mask32_u64 (by omega) | exact mask_u64 8 (by decide) (by omega) rfl | exact mask_u64 16 (by decide) (by omega) rfl) rfl) | (apply ob_eql; first | exact V_eqP (tb := tb) rfl rfl rfl rfl | exact V_eqBB (tb := tb) rfl rfl rfl rfl | exact V_eqB (tb := tb) rfl rfl rfl rfl | exact V_eqNil (tb := tb) rfl rfl rfl rfl | exact V_eqStr rfl rfl (by assumption) (by assumption) rfl) | (apply ob_neq; first | exact V_neP (tb := tb) rfl rfl rfl rfl | exact V_neBB (tb := tb) rfl rfl rfl rfl | exact V_neB (tb := tb) rfl rfl rfl rfl | exact V_neStr rfl rfl (by assumption) (by assumption) rfl) | (apply oK; first | (apply ob_shr; exact V_shr (m := _) rfl rfl (by omega) (by simp only [IntKind.bits, Int.reduceToNat, Nat.reduceLeDiff, Nat.min_eq_left]; exact rfl) (by first | (simp only [Int.reducePow]; exact rfl) | exact rfl) rfl) | (apply ob_shl; exact V_shl (m := _) rfl rfl (by omega) (by simp only [IntKind.bits, Int.reduceToNat, Nat.reduceLeDiff, Nat.min_eq_left]; exact rfl) (by (try simp only [Int.reducePow]); first | exact wi64 (by omega) | exact wu64 (by omega) | exact wu32 (by omega) | exact wu8 (by omega) | exact mu64 _ | exact mu32 _ | exact mu8 _ | exact mi64 _ | exact rfl) rfl))) | (apply oE; first | exact V_extract rfl rfl rfl) | (apply oc_len; exact V_len (tb := tb) rfl rfl rfl) | (apply oc_len; exact V_lenS (tb := tb) rfl rfl rfl) | (apply oc_min; exact V_min rfl rfl rfl rfl) | (apply oc_max; exact V_max rfl rfl rfl rfl) | (apply oCv; first | exact V_conv (tb := tb) rfl rfl rfl (by first | exact wi64 (by omega) | exact wu64 (by omega) | exact wu32 (by omega) | exact wu8 (by omega) | exact mu64 _ | exact mu32 _ | exact mu8 _ | exact mi64 _ | exact rfl) rfl | exact V_str (tb := tb) rfl (by first | exact vec_rd (by repeat (first | apply List.Mem.head | apply List.Mem.tail)) | assumption | exact ArgRd.rd (by assumption) _ | (apply Rd_weak; assumption; intro _ hx; exact dS hx)) (by first | assumption | rfl | omega) rfl rfl rfl rfl) | (apply oP; first | exact V_pickT rfl rfl rfl | exact V_pickF rfl rfl rfl | exact V_pickB rfl rfl rfl rfl) | (apply oU; first | exact V_notD rfl rfl | exact V_not rfl rfl | exact V_neg rfl (by first | exact wi64 (by omega) | exact wu64 (by omega) | exact wu32 (by omega) | exact wu8 (by omega) | exact mu64 _ | exact mu32 _ | exact mu8 _ | exact mi64 _ | exact rfl) rfl) | (apply oN; first | exact V_nilCheck rfl rfl) | (apply oFA; first | exact V_field (tb := tb) rfl rfl rfl rfl rfl rfl | exact V_fieldC (tb := tb) rfl (by first | exact Rd.sl (vec_rd (by repeat (first | apply List.Mem.head | apply List.Mem.tail))) | exact Rd.sl (by assumption) | exact Rd.sl (ArgRd.rd (by assumption) _) | (apply Rd.sl; (apply Rd_weak; assumption; intro _ hx; exact dS hx))) (by omega) rfl rfl rfl rfl rfl) | (apply oIA; first | exact V_index (tb := tb) rfl rfl rfl rfl (by first | exact Rd.sl (vec_rd (by repeat (first | apply List.Mem.head | apply List.Mem.tail))) | exact Rd.sl (by assumption) | exact Rd.sl (ArgRd.rd (by assumption) _) | (apply Rd.sl; (apply Rd_weak; assumption; intro _ hx; exact dS hx))) (by omega) (by (try simp only [tn, tna, tn1, tn2, tn3, tn4, tnd16, tnd8, Int.reduceToNat]); first | exact Nat.mul_one _ | exact rfl) rfl | exact V_indexA (tb := tb) rfl rfl rfl rfl (by omega) rfl) | (apply oBd; first | exact V_build (tb := tb) rfl rfl rfl rfl rfl) | (apply oF; first | exact V_makeFunc rfl rfl rfl)) (hlo : loud op = false := by rfl) : QO2 Tryz.prog n D w0 Z ⟨d, op, T, pos, af, g⟩ l ov Hi H K := QO2_v hlo h hn
theorem aK2 {H' : List Asn} (hI : ∀ w, St w0 H' w → St w0 Hi w) (hn : QR2 Tryz.prog n D w0 Z l (put d undef ov) Hi H' K) (h : OpK Tryz.prog n D w0 ov H ⟨d, op, T, pos, af, g⟩ H' := by first | exact K_store (tb := tb) rfl rfl (by repeat (first | apply Upd.here | apply Upd.there)) rfl rfl rfl (by repeat (first | exact trivial | refine ⟨rfl, ?_⟩)) rfl rfl | exact K_storeC1 (tb := tb) rfl rfl ints_set (by repeat (first | apply Upd.here | apply Upd.there)) rfl rfl (by rw [ints_len]; omega) rfl) (hlo : loud op = true := by rfl) : QO2 Tryz.prog n D w0 Z ⟨d, op, T, pos, af, g⟩ l ov Hi H K := QO2_k hlo h hI hn
end
end Go.Proofs.YteelffkghidpfaaGreat

namespace Go.Proofs.YteelffkghidpfaaGreat
open Sx Go
set_option linter.unusedVariables false
set_option linter.unusedSimpArgs false
set_option maxRecDepth 100000
attribute [local irreducible] syA fc tk cds
theorem lbase_ok {i : Int} (h : (lbase i).1 ≠ 0) : 257 ≤ i ∧ i ≤ 285 ∧ 3 ≤ (lbase i).1 ∧ (lbase i).1 ≤ 258 ∧ 0 ≤ (lbase i).2 ∧ (lbase i).2 ≤ 5 := by
  by_cases h1 : i < 257 ∨ 285 < i
  · exact absurd (by unfold lbase; rw [if_pos h1]) h
  by_cases h2 : i = 285
  · subst h2; decide
  · obtain ⟨k, rfl⟩ : ∃ k : Nat, i = 257 + k := ⟨(i - 257).toNat, by omega⟩
    have := lbase_bd k (by omega)
    omega
theorem lfar_ok {i : Int} (h : (lfar i).1 ≠ 0) : 0 ≤ i ∧ i ≤ 29 ∧ 1 ≤ (lfar i).1 ∧ (lfar i).1 ≤ 24577 ∧ 0 ≤ (lfar i).2 ∧ (lfar i).2 ≤ 13 := by
  by_cases h1 : i < 0 ∨ 29 < i
  · exact absurd (by unfold lfar; rw [if_pos h1]) h
  · obtain ⟨k, rfl⟩ : ∃ k : Nat, i = k := ⟨i.toNat, by omega⟩
    have := lfar_bd k (by omega)
    omega
section
variable {w0 : World} {H : List Asn} {bf br : Nat} {q : Option Addr} {d m : Nat} {B : List Int} {lim : Nat} {po : Option Addr} {co : Nat} {o : List Int}
set_option maxRecDepth 10000 in
set_option maxHeartbeats 4000000 in
theorem Blk_c (hK : InfK m B lim) (a : Nat) (ha : a ≤ 8 * m) (ho : o.length ≤ lim) (b1 b2 : Nat) (L D : List Int) (hs1 : IsSet w0 H b1 L) (hs2 : IsSet w0 H b2 D) (w : World) (hw : St w0 (infL bf br q d m B lim a po co o H) w) :
    Calls Tryz.prog 232 #[.pointer (some ⟨bf, 0, none⟩), .pointer (some ⟨b1, 0, none⟩), .pointer (some ⟨b2, 0, none⟩)] w fun e w' => ∃ r, It (blkF (bitB B 0) (8 * m) lim L D) a o r ∧ resP r (fun r => e = .panicked (FLT r) ∧ St w0 H w')
      (fun a' o' => a' ≤ 8 * m ∧ o'.length ≤ lim ∧ e = .returned (.tuple #[]) ∧ ∃ po co, St w0 (infL bf br q d m B lim a' po co o' H) w') := by
  have hl := hK.hl
  have hm1 := hK.hm1
  have hL320 := hs1.hl.1
  have hD320 := hs2.hl.1
  refine enter (vs := [.pointer (some ⟨bf, 0, none⟩), .pointer (some ⟨b1, 0, none⟩), .pointer (some ⟨b2, 0, none⟩)]) Tryz.func232 rfl rfl rfl hw ?_
  refine JS_block ?_
  refine JS_loop4 (fun (a1 : Nat) (o1 : List Int) (p : Option Addr) (c : Nat) => [(0, .pointer (some ⟨bf, 0, none⟩)), (1, .pointer (some ⟨b1, 0, none⟩)), (2, .pointer (some ⟨b2, 0, none⟩))]) (fun a1 o1 p c => infL bf br q d m B lim a1 p c o1 H)
    (fun a1 o1 _ _ => a1 ≤ 8 * m ∧ o1.length ≤ lim ∧ ∀ r, It (blkF (bitB B 0) (8 * m) lim L D) a1 o1 r → It (blkF (bitB B 0) (8 * m) lim L D) a o r) (fun a1 _ _ _ => 8 * m - a1) a o po co ⟨ha, ho, fun _ h => h⟩ (by repeat (first | exact trivial | refine ⟨rfl, ?_⟩ | refine ⟨lookI rfl (by omega), ?_⟩)) (fun _ h => h) ?_
  intro a1 o1 p c ⟨ha1, ho1, hinv⟩ again
  repeat (refine sx ?_; try intro _)
  refine JO_callE Tryz.func232 Tryz.call247 rfl rfl fun A hA w hw => (Sym_c hK a1 ha1 b1 L hs1 w hw).mono ?_
  intro e w' h
  unfold symP at h
  cases hsy : symS (bitB B 0) (8 * m) L a1 with
  | err r =>
    rw [hsy] at h
    obtain ⟨rfl, hw'⟩ := h
    exact .inr ⟨_, rfl, .err r, hinv _ (.err (by unfold blkF; rw [hsy])), rfl, hw'⟩
  | ok i a2 =>
  rw [hsy] at h
  obtain ⟨hi0, hiL, ha12, ha2, rfl, hw'⟩ := h
  refine .inl ⟨_, rfl, _, hw', ?_⟩
  clear hw' hw w w' hA A
  have hF : blkF (bitB B 0) (8 * m) lim L D a1 o1 = if i = 256 then .stop a2 o1
    else if i < 256 then (if (lim : Int) - o1.length < 1 then .err 64 else .go a2 (o1 ++ [i]))
    else if (lbase i).1 = 0 then .err 62
    else if 8 * m < a2 + (lbase i).2.toNat then .err 20
    else blk2 (bitB B 0) (8 * m) lim D o1 ((lbase i).1 + nbt (bitB B 0) a2 (lbase i).2.toNat) (a2 + (lbase i).2.toNat) := by unfold blkF; rw [hsy]
  by_cases h256 : i = 256
  · rw [if_pos h256] at hF
    clear again
    repeat (refine sx ?_; try intro _)
    refine JS_ret Tryz.func232 rfl rfl ?_
    intro w hw
    exact ⟨.ok a2 o1, hinv _ (.stop hF), ha2, ho1, rfl, p, c, hw⟩
  rw [if_neg h256] at hF
  by_cases hlt : i < 256
  · rw [if_pos hlt] at hF
    repeat (refine sx ?_; try intro _)
    rename_i p1
    refine JO_callE Tryz.func232 Tryz.call231 rfl rfl fun A hA w hw => (Tell_c hK a2 (some p1) 1 1 [i] (vec_rd (List.Mem.head _)) rfl ho1 (by omega) w (infL_in hw)).mono ?_
    rintro e w' (⟨h, rfl, hw'⟩ | ⟨h, rfl, p', c', hw'⟩)
    · exact .inr ⟨_, rfl, .err 64, hinv _ (.err (by rw [hF, if_pos (by omega)])), rfl, hw'.drop⟩
    refine .inl ⟨_, rfl, _, hw', ?_⟩
    clear hw' hw w w' hA A
    rw [if_neg (by omega)] at hF
    repeat (refine sx ?_; try intro _)
    exact JS_again4 again a2 (o1 ++ [i]) p' c' ⟨ha2, by simp; omega, fun r hr => hinv r (.go hF hr)⟩ (by omega) (by exact ⟨rfl, rfl, rfl, trivial⟩) (fun w hw => infL_out hw)
  rw [if_neg hlt] at hF
  repeat (refine sx ?_; try intro _)
  refine JO_call Tryz.call242 rfl rfl fun w hw => (Base_c i (by omega) w hw).mono ?_
  rintro e w' ⟨rfl, hw'⟩
  refine ⟨_, rfl, _, hw', ?_⟩
  clear hw' hw w w'
  by_cases hb0 : (lbase i).1 = 0
  · rw [if_pos hb0] at hF
    generalize lbase i = lb at *
    repeat (refine sx ?_; try intro _)
    refine JO_callE Tryz.func232 Tryz.call210 rfl rfl fun A hA w hw => (Give_c 62 w hw).mono ?_
    rintro e w' (⟨h, rfl, hw'⟩ | ⟨_, rfl, hw'⟩)
    · exact absurd h (by decide)
    · exact .inr ⟨_, rfl, .err 62, hinv _ (.err hF), rfl, infL_drop hw'⟩
  rw [if_neg hb0] at hF
  obtain ⟨_, _, c1, c2, c3, c4⟩ := lbase_ok hb0
  obtain ⟨⟨lb1, lb2⟩, hlb⟩ : ∃ x, lbase i = x := ⟨_, rfl⟩
  rw [hlb] at hF hb0 c1 c2 c3 c4 ⊢
  simp only at hF hb0 c1 c2 c3 c4 ⊢
  obtain ⟨k1, rfl⟩ : ∃ k : Nat, lb2 = k := ⟨lb2.toNat, by omega⟩
  simp only [Int.toNat_natCast] at hF
  obtain ⟨hn0, hn1⟩ := nbt_bd (bitB B 0) (bitB_01 B 0) a2 k1
  have hp1 := (pw16 5 (by omega)).2
  have hp1 : (2 : Int) ^ k1 ≤ 32 := by
    have : ∀ k : Fin 6, (2 : Int) ^ k.val ≤ 32 := by decide
    exact this ⟨k1, by omega⟩
  obtain ⟨n1, hn1e⟩ := Int.eq_ofNat_of_zero_le hn0
  rw [hn1e] at hF hn1
  repeat (refine sx ?_; try intro _)
  refine JO_callE Tryz.func232 Tryz.call209 rfl rfl fun A hA w hw => (Grp_c hK a2 k1 (by omega) ha2 w hw).mono ?_
  rintro e w' (⟨h, rfl, hw'⟩ | ⟨h1, he, hw'⟩)
  · exact .inr ⟨_, rfl, .err 20, hinv _ (.err (by rw [hF, if_pos h])), rfl, hw'⟩
  rw [hn1e] at he; subst he
  refine .inl ⟨_, rfl, _, hw', ?_⟩
  clear hw' hw w w' hA A
  rw [if_neg (by omega)] at hF
  obtain ⟨ln, hln⟩ : ∃ ln : Nat, lb1 + (n1 : Int) = ln := ⟨(lb1 + (n1 : Int)).toNat, by omega⟩
  rw [hln] at hF
  repeat (refine sx ?_; try intro _)
  refine JO_callE Tryz.func232 Tryz.call247 rfl rfl fun A hA w hw => (Sym_c hK (a2 + k1) h1 b2 D hs2 w hw).mono ?_
  intro e w' h
  unfold symP at h
  cases hsy2 : symS (bitB B 0) (8 * m) D (a2 + k1) with
  | err r =>
    rw [hsy2] at h
    obtain ⟨rfl, hw'⟩ := h
    exact .inr ⟨_, rfl, .err r, hinv _ (.err (by rw [hF]; unfold blk2; rw [hsy2])), rfl, hw'⟩
  | ok dd a3 =>
  rw [hsy2] at h
  obtain ⟨hd0, hdD, ha23, ha3, rfl, hw'⟩ := h
  refine .inl ⟨_, rfl, _, hw', ?_⟩
  clear hw' hw w w' hA A
  have hF2 : blk2 (bitB B 0) (8 * m) lim D o1 ln (a2 + k1) = if (lfar dd).1 = 0 then .err 62
    else if 8 * m < a3 + (lfar dd).2.toNat then .err 20
    else if (o1.length : Int) < (lfar dd).1 + nbt (bitB B 0) a3 (lfar dd).2.toNat then .err 63
    else if (lim : Int) - o1.length < ln then .err 64
    else .go (a3 + (lfar dd).2.toNat) (cpy o1 ((lfar dd).1 + nbt (bitB B 0) a3 (lfar dd).2.toNat).toNat (ln : Int).toNat) := by unfold blk2; rw [hsy2]
  rw [hF2] at hF
  clear hF2
  repeat (refine sx ?_; try intro _)
  refine JO_call Tryz.call243 rfl rfl fun w hw => (Far_c dd (by omega) w hw).mono ?_
  rintro e w' ⟨rfl, hw'⟩
  refine ⟨_, rfl, _, hw', ?_⟩
  clear hw' hw w w'
  by_cases hf0 : (lfar dd).1 = 0
  · rw [if_pos hf0] at hF
    generalize lfar dd = lf at *
    repeat (refine sx ?_; try intro _)
    refine JO_callE Tryz.func232 Tryz.call210 rfl rfl fun A hA w hw => (Give_c 62 w hw).mono ?_
    rintro e w' (⟨h, rfl, hw'⟩ | ⟨_, rfl, hw'⟩)
    · exact absurd h (by decide)
    · exact .inr ⟨_, rfl, .err 62, hinv _ (.err hF), rfl, infL_drop hw'⟩
  rw [if_neg hf0] at hF
  obtain ⟨_, _, d1, d2, d3, d4⟩ := lfar_ok hf0
  obtain ⟨⟨lf1, lf2⟩, hlf⟩ : ∃ x, lfar dd = x := ⟨_, rfl⟩
  rw [hlf] at hF hf0 d1 d2 d3 d4 ⊢
  simp only at hF hf0 d1 d2 d3 d4 ⊢
  obtain ⟨k2, rfl⟩ : ∃ k : Nat, lf2 = k := ⟨lf2.toNat, by omega⟩
  simp only [Int.toNat_natCast] at hF
  obtain ⟨hm0, hm1'⟩ := nbt_bd (bitB B 0) (bitB_01 B 0) a3 k2
  have hp2 : (2 : Int) ^ k2 ≤ 8192 := by
    have : ∀ k : Fin 14, (2 : Int) ^ k.val ≤ 8192 := by decide
    exact this ⟨k2, by omega⟩
  obtain ⟨n2, hn2e⟩ := Int.eq_ofNat_of_zero_le hm0
  rw [hn2e] at hF hm1'
  repeat (refine sx ?_; try intro _)
  refine JO_callE Tryz.func232 Tryz.call209 rfl rfl fun A hA w hw => (Grp_c hK a3 k2 (by omega) ha3 w hw).mono ?_
  rintro e w' (⟨h, rfl, hw'⟩ | ⟨h2, he, hw'⟩)
  · exact .inr ⟨_, rfl, .err 20, hinv _ (.err (by rw [hF, if_pos h])), rfl, hw'⟩
  rw [hn2e] at he; subst he
  refine .inl ⟨_, rfl, _, hw', ?_⟩
  clear hw' hw w w' hA A
  rw [if_neg (by omega)] at hF
  obtain ⟨bk, hbk⟩ : ∃ bk : Nat, lf1 + (n2 : Int) = bk := ⟨(lf1 + (n2 : Int)).toNat, by omega⟩
  rw [hbk, Int.toNat_natCast] at hF
  repeat (refine sx ?_; try intro _)
  simp only [hln, hbk]
  refine JO_callE Tryz.func232 Tryz.call248 rfl rfl fun A hA w hw => (Again_c hK (a3 + k2) ln bk (by omega) ho1 (by omega) (by omega) w hw).mono ?_
  rintro e w' (⟨h, rfl, hw'⟩ | ⟨h, h', rfl, hw'⟩ | ⟨h, h', rfl, p', c', hw'⟩)
  · exact .inr ⟨_, rfl, .err 63, hinv _ (.err (by rw [hF, if_pos (by omega)])), rfl, hw'⟩
  · exact .inr ⟨_, rfl, .err 64, hinv _ (.err (by rw [hF, if_neg (by omega), if_pos h'])), rfl, hw'⟩
  refine .inl ⟨_, rfl, _, hw', ?_⟩
  clear hw' hw w w' hA A
  rw [if_neg (by omega), if_neg h'] at hF
  repeat (refine sx ?_; try intro _)
  exact JS_again4 again (a3 + k2) (cpy o1 bk ln) p' c' ⟨h2, by rw [cpy_len]; omega, fun r hr => hinv r (.go hF hr)⟩ (by omega) (by exact ⟨rfl, rfl, rfl, trivial⟩) (fun w hw => hw)
end
end Go.Proofs.YteelffkghidpfaaGreat

namespace Go.Proofs.YteelffkghidpfaaGreat
open Sx Go
set_option linter.unusedVariables false
set_option linter.unusedSimpArgs false
set_option maxRecDepth 100000
attribute [local irreducible] syA fc tk cds
theorem OKB_app {A C : List Int} (hA : OKB A) (hC : OKB C) : OKB (A ++ C) := by
  intro j
  rw [List.getD_eq_getElem?_getD]
  rcases Nat.lt_or_ge j A.length with h | h
  · rw [List.getElem?_append_left h]
    have := hA j
    rwa [List.getD_eq_getElem?_getD] at this
  · rw [List.getElem?_append_right h]
    have := hC (j - A.length)
    rwa [List.getD_eq_getElem?_getD] at this
theorem OKB_rep {x : Int} (hx : 0 ≤ x ∧ x < 256) (n : Nat) : OKB (List.replicate n x) := by
  intro j
  rw [List.getD_eq_getElem?_getD, List.getElem?_replicate]
  split
  · exact hx
  · exact ⟨by decide, by decide⟩
theorem last1 {l : List Int} (h : ¬ l.length = 0) : (l.drop (l.length - 1)).take 1 = [l.getD (l.length - 1) 0] := by
  rcases List.eq_nil_or_concat l with rfl | ⟨l', x, rfl⟩
  · exact absurd rfl h
  · simp
theorem OKB_nil : OKB [] := fun j => by simp
section
variable {w0 : World} {H : List Asn} {bf br : Nat} {q : Option Addr} {d m : Nat} {B : List Int} {lim : Nat} {po : Option Addr} {co : Nat} {o : List Int}
set_option maxRecDepth 10000 in
set_option maxHeartbeats 4000000 in
theorem Lens_c (hK : InfK m B lim) (a : Nat) (ha : a ≤ 8 * m) (many : Nat) (hmn : many ≤ 1000) (b : Nat) (C : List Int) (hs : IsSet w0 H b C) (hC : C.length = 19) (w : World) (hw : St w0 (infL bf br q d m B lim a po co o H) w) :
    Calls Tryz.prog 235 #[.pointer (some ⟨bf, 0, none⟩), .pointer (some ⟨b, 0, none⟩), .int .i64 many] w fun e w' => ∃ r, It (lenF (bitB B 0) (8 * m) C many) a [] r ∧ resP r (fun r => e = .panicked (FLT r) ∧ St w0 H w')
      (fun a' l => a' ≤ 8 * m ∧ l.length = many ∧ OKB l ∧ ∃ p c, e = .returned (.slice p many c) ∧ St w0 (infL bf br q d m B lim a' po co o (vec 5 1 (.slice p many c) many (ints .u8 l) :: H)) w') := by
  have hl := hK.hl
  have hm1 := hK.hm1
  refine enter (vs := [.pointer (some ⟨bf, 0, none⟩), .pointer (some ⟨b, 0, none⟩), .int .i64 many]) Tryz.func235 rfl rfl rfl hw ?_
  repeat (first | (apply gJR; (refine sx ?_; try intro _)) | (apply gJO; (refine sx ?_; try intro _)) | apply JS_seq | apply JS_region)
  refine JS_block ?_
  refine JS_loop4 (fun (a1 : Nat) (l : List Int) (p : Option Addr) (c : Nat) => [(0, .pointer (some ⟨bf, 0, none⟩)), (1, .pointer (some ⟨b, 0, none⟩)), (2, .int .i64 many), (7, .slice p l.length c)]) (fun a1 l p c => infL bf br q d m B lim a1 po co o (vec 5 1 (.slice p l.length c) l.length (ints .u8 l) :: H))
    (fun a1 l _ _ => a1 ≤ 8 * m ∧ l.length ≤ many ∧ OKB l ∧ ∀ r, It (lenF (bitB B 0) (8 * m) C many) a1 l r → It (lenF (bitB B 0) (8 * m) C many) a [] r) (fun a1 _ _ _ => 8 * m - a1) a [] none 0 ⟨ha, Nat.zero_le _, OKB_nil, fun _ h => h⟩ (by repeat (first | exact trivial | refine ⟨rfl, ?_⟩ | refine ⟨lookI rfl (by omega), ?_⟩)) (fun _ h => infL_in (St.nilvec h)) ?_
  intro a1 l p c ⟨ha1, hll, hOl, hinv⟩ again
  by_cases hmany : many ≤ l.length
  · obtain rfl : many = l.length := by omega
    clear again
    repeat (refine sx ?_; try intro _)
    refine JS_ret Tryz.func235 rfl rfl ?_
    intro w hw
    exact ⟨.ok a1 l, hinv _ (.stop (by unfold lenF; rw [if_pos (Nat.le_refl _)])), ha1, rfl, hOl, p, c, rfl, hw⟩
  repeat (refine sx ?_; try intro _)
  refine JO_callE Tryz.func235 Tryz.call247 rfl rfl fun A hA w hw => (Sym_c hK a1 ha1 b C (hs.sub (by repeat (first | exact List.Sublist.refl _ | apply List.Sublist.cons))) w hw).mono ?_
  intro e w' h
  unfold symP at h
  cases hsy : symS (bitB B 0) (8 * m) C a1 with
  | err r =>
    rw [hsy] at h
    obtain ⟨rfl, hw'⟩ := h
    exact .inr ⟨_, rfl, .err r, hinv _ (.err (by unfold lenF; rw [if_neg hmany, hsy])), rfl, hw'.drop⟩
  | ok i a2 =>
  rw [hsy] at h
  obtain ⟨hi0, hiC, ha12, ha2, rfl, hw'⟩ := h
  refine .inl ⟨_, rfl, _, hw', ?_⟩
  clear hw' hw w w' hA A
  have hF : lenF (bitB B 0) (8 * m) C many a1 l = if i = 16 then (if l.length = 0 then .err 62 else if 8 * m < a2 + 2 then .err 20 else lenP many l (l.getD (l.length - 1) 0) (3 + nbt (bitB B 0) a2 2) (a2 + 2))
    else if i = 17 then (if 8 * m < a2 + 3 then .err 20 else lenP many l 0 (3 + nbt (bitB B 0) a2 3) (a2 + 3))
    else if i = 18 then (if 8 * m < a2 + 7 then .err 20 else lenP many l 0 (11 + nbt (bitB B 0) a2 7) (a2 + 7))
    else lenP many l i 1 a2 := by unfold lenF; rw [if_neg hmany, hsy]
  repeat (first | (apply gJR; (refine sx ?_; try intro _)) | (apply gJO; (refine sx ?_; try intro _)) | apply JS_seq | apply JS_region)
  rename_i p1
  refine JS_join5 (fun (t : Nat) (x : Int) (pa : Option Addr) (ca : Nat) (a3 : Nat) => [(0, .pointer (some ⟨bf, 0, none⟩)), (1, .pointer (some ⟨b, 0, none⟩)), (2, .int .i64 many), (7, .slice p l.length c), (9, .slice pa t ca)])
    (fun t x pa ca a3 => vec 5 1 (.slice pa t ca) t (ints .u8 (List.replicate t x)) :: infL bf br q d m B lim a3 po co o (vec 5 1 (.slice p l.length c) l.length (ints .u8 l) :: H))
    (fun t x pa ca a3 => t ≤ 1000 ∧ 0 ≤ x ∧ x < 256 ∧ a3 ≤ 8 * m ∧ a1 < a3 ∧ lenF (bitB B 0) (8 * m) C many a1 l = lenP many l x t a3) ?_ ?_
  · clear hF hsy hi0 hiC ha12 ha2 a2 i
    intro t x pa ca a3 ⟨ht, hx0, hx1, ha3, ha13, hF⟩
    unfold lenP at hF
    by_cases h : (many : Int) < l.length + t
    · rw [if_pos h] at hF
      repeat (refine sx ?_; try intro _)
      refine JO_callE Tryz.func235 Tryz.call210 rfl rfl fun A hA w hw => (Give_c 62 w hw).mono ?_
      rintro e w' (⟨h, rfl, hw'⟩ | ⟨_, rfl, hw'⟩)
      · exact absurd h (by decide)
      · exact .inr ⟨_, rfl, .err 62, hinv _ (.err hF), rfl, (infL_drop hw'.drop).drop⟩
    · rw [if_neg h, Int.toNat_natCast] at hF
      repeat (refine sx ?_; try intro _)
      refine JO_app (tb := tb) rfl rfl rfl rfl rfl rfl (by repeat (first | exact Sel.here _ _ | apply Sel.there)) (vec_rd (List.Mem.head _)) (by rw [ints_len, List.length_replicate]; omega) (by first | exact ints_one | (repeat (first | exact trivial | refine ⟨rfl, ?_⟩))) (by omega) rfl ?_
      intro p2 c2
      repeat (refine sx ?_; try intro _)
      exact JS_again4 again a3 (l ++ List.replicate t x) p2 c2 ⟨ha3, by rw [List.length_append, List.length_replicate]; omega, OKB_app hOl (OKB_rep ⟨hx0, hx1⟩ t), fun r hr => hinv r (.go hF hr)⟩ (by omega)
        (by rw [List.length_append, List.length_replicate]; exact ⟨rfl, rfl, rfl, rfl, trivial⟩) (fun w hw => by unfold infL; rw [List.length_append, List.length_replicate, ← ints_app]; exact dS hw)
  · clear again
    intro K
    by_cases h16 : i = 16
    · rw [if_pos h16] at hF
      by_cases hl0 : l.length = 0
      · rw [if_pos hl0] at hF
        repeat (refine sx ?_; try intro _)
        refine JO_callE Tryz.func235 Tryz.call210 rfl rfl fun A hA w hw => (Give_c 62 w hw).mono ?_
        rintro e w' (⟨h, rfl, hw'⟩ | ⟨_, rfl, hw'⟩)
        · exact absurd h (by decide)
        · exact .inr ⟨_, rfl, .err 62, hinv _ (.err hF), rfl, (infL_drop hw'.drop).drop⟩
      rw [if_neg hl0] at hF
      refine JS_fact (fun w hw => (Rd.lcap (vec_rd (e := 5) (size := 1) (v := .slice p l.length c) (n := l.length) (cs := ints .u8 l) (H := vec 5 1 (.slice (some p1) 1 1) 1 (ints .u8 [i]) :: infL bf br q d m B lim a2 po co o (vec 5 1 (.slice p l.length c) l.length (ints .u8 l) :: H)) (by repeat (first | apply List.Mem.head | apply List.Mem.tail))) hw).1) fun hcap => ?_
      repeat (first | (apply gJR; (refine sx ?_; try intro _)) | (apply gJO; (refine sx ?_; try intro _)) | apply JS_seq | apply JS_region | apply JS_block | refine JS_condT rfl ?_ | refine JS_condF rfl ?_ | apply JS_skip)
      refine JS_order2 (vec 5 1 (.slice p l.length c) l.length (ints .u8 l) :: H) [0, 1, 2, 3, 4, 5, 6, 7, 8, 9] [] (fun w hw => dS hw) (Picks.cons rfl (Picks.cons rfl (Picks.cons rfl (Picks.cons rfl (Picks.cons rfl (Picks.cons rfl (Picks.cons rfl (Picks.cons rfl (Picks.cons rfl (Picks.cons rfl (Picks.nil))))))))))) (by kernel_rfl) (by kernel_rfl) rfl (by decide +kernel) ?_
      repeat (first | (apply gQR2; apply QR2_un) | (apply gQO2; first | refine QO2_v rfl (V_slice (tb := tb) (lo := l.length - 1) (hi := l.length) rfl rfl rfl rfl rfl (by omega) (by omega) (fun w hw => ⟨by omega, hcap⟩) rfl) ?_ | refine aQ2 ?_))
      have e1 : l.length - (l.length - 1) = 1 := by omega
      simp only [e1]
      refine QO2_callE Tryz.call209 rfl rfl fun w hw => (Grp_c hK a2 2 (by omega) ha2 w (infL_in hw)).mono ?_
      rintro e w' (⟨h, rfl, hw'⟩ | ⟨h1, he, hw'⟩)
      · exact .inr ⟨_, rfl, QK_e Tryz.func235 ⟨.err 20, hinv _ (.err (by rw [hF, if_pos h])), rfl, hw'.drop.drop⟩⟩
      rw [if_neg (by omega)] at hF
      obtain ⟨n, hn⟩ := Int.eq_ofNat_of_zero_le (nbt_bd (bitB B 0) (bitB_01 B 0) a2 2).1
      have hn1 := (nbt_bd (bitB B 0) (bitB_01 B 0) a2 2).2
      rw [hn] at he hn1 hF
      subst he
      have hn2 : (n : Int) < 4 := hn1
      refine .inl ⟨_, rfl, vec 5 1 (.slice p l.length c) l.length (ints .u8 l) :: H, _, hw', fun w hw => dS hw, .inl fun w hw => hw, ?_⟩
      clear hw' hw w w'
      repeat (first | (apply gQR2; apply QR2_un) | (apply gQO2; refine aQ2 ?_))
      have hlst := hOl (l.length - 1)
      have hsub := Rd_sub (lo := l.length - 1) (hi := l.length) (sz := 1) (vec_rd (w0 := w0) (e := 5) (size := 1) (v := .slice p l.length c) (n := l.length) (cs := ints .u8 l) (H := infL bf br q d m B lim (a2 + 2) po co o (vec 5 1 (.slice (some p1) 1 1) 1 (ints .u8 [i]) :: vec 5 1 (.slice p l.length c) l.length (ints .u8 l) :: H)) (by repeat (first | apply List.Mem.head | apply List.Mem.tail))) (by omega) (by omega)
      rw [e1, show ((ints .u8 l).drop ((l.length - 1) * 1)).take (1 * 1) = ints .u8 [l.getD (l.length - 1) 0] by
        rw [Nat.mul_one, Nat.mul_one, ints_drop, ints_take]
        rw [last1 hl0]] at hsub
      refine QO2_callE Tryz.call213 rfl rfl fun w hw => (Repeat1_c _ _ (3 + n) hsub ⟨_, _, rfl⟩ (by omega) w hw).mono ?_
      rintro e w' ⟨p2, c2, rfl, hw'⟩
      refine .inl ⟨_, rfl, vec 5 1 (.slice p l.length c) l.length (ints .u8 l) :: H, _, hw', fun w hw => dS hw, .inl fun w hw => hw, ?_⟩
      clear hw' hw w w'
      repeat (first | (apply gQR2; first | apply QR2_un | apply QR2_nil) | (apply gQO2; refine aQ2 ?_))
      apply JS_inBlock
      exact JS_to5 K (3 + n) (l.getD (l.length - 1) 0) p2 c2 (a2 + 2) ⟨by omega, hlst.1, hlst.2, h1, by omega, hF⟩ (by repeat (first | exact trivial | refine ⟨rfl, ?_⟩ | refine ⟨lookI rfl (by omega), ?_⟩)) (fun w hw => dS hw)
    rw [if_neg h16] at hF
    by_cases h17 : i = 17
    · rw [if_pos h17] at hF
      repeat (refine sx ?_; try intro _)
      refine JO_callE Tryz.func235 Tryz.call209 rfl rfl fun A hA w hw => (Grp_c hK a2 3 (by omega) ha2 w (infL_in hw)).mono ?_
      rintro e w' (⟨h, rfl, hw'⟩ | ⟨h1, he, hw'⟩)
      · exact .inr ⟨_, rfl, .err 20, hinv _ (.err (by rw [hF, if_pos h])), rfl, hw'.drop.drop⟩
      rw [if_neg (by omega)] at hF
      obtain ⟨n, hn⟩ := Int.eq_ofNat_of_zero_le (nbt_bd (bitB B 0) (bitB_01 B 0) a2 3).1
      have hn1 := (nbt_bd (bitB B 0) (bitB_01 B 0) a2 3).2
      rw [hn] at he hn1 hF
      subst he
      have hn2 : (n : Int) < 8 := hn1
      refine .inl ⟨_, rfl, _, hw', ?_⟩
      clear hw' hw w w' hA A
      repeat (first | (apply gJR; (refine sx ?_; try intro _)) | (apply gJO; (refine sx ?_; try intro _)))
      rename_i p2
      apply JS_inBlock
      exact JS_to5 K (3 + n) 0 (some p2) (3 + n) (a2 + 3) ⟨by omega, by omega, by omega, h1, by omega, hF⟩ (by repeat (first | exact trivial | refine ⟨rfl, ?_⟩ | refine ⟨lookI rfl (by omega), ?_⟩)) (fun w hw => by rw [← ints_rep]; exact dS hw)
    rw [if_neg h17] at hF
    by_cases h18 : i = 18
    · rw [if_pos h18] at hF
      repeat (refine sx ?_; try intro _)
      refine JO_callE Tryz.func235 Tryz.call209 rfl rfl fun A hA w hw => (Grp_c hK a2 7 (by omega) ha2 w (infL_in hw)).mono ?_
      rintro e w' (⟨h, rfl, hw'⟩ | ⟨h1, he, hw'⟩)
      · exact .inr ⟨_, rfl, .err 20, hinv _ (.err (by rw [hF, if_pos h])), rfl, hw'.drop.drop⟩
      rw [if_neg (by omega)] at hF
      obtain ⟨n, hn⟩ := Int.eq_ofNat_of_zero_le (nbt_bd (bitB B 0) (bitB_01 B 0) a2 7).1
      have hn1 := (nbt_bd (bitB B 0) (bitB_01 B 0) a2 7).2
      rw [hn] at he hn1 hF
      subst he
      have hn2 : (n : Int) < 128 := hn1
      refine .inl ⟨_, rfl, _, hw', ?_⟩
      clear hw' hw w w' hA A
      repeat (first | (apply gJR; (refine sx ?_; try intro _)) | (apply gJO; (refine sx ?_; try intro _)))
      rename_i p2
      apply JS_inBlock
      exact JS_to5 K (11 + n) 0 (some p2) (11 + n) (a2 + 7) ⟨by omega, by omega, by omega, h1, by omega, hF⟩ (by repeat (first | exact trivial | refine ⟨rfl, ?_⟩ | refine ⟨lookI rfl (by omega), ?_⟩)) (fun w hw => by rw [← ints_rep]; exact dS hw)
    rw [if_neg h18] at hF
    repeat (first | (apply gJR; (refine sx ?_; try intro _)) | (apply gJO; (refine sx ?_; try intro _)) | apply JS_seq | apply JS_region | apply JS_block | refine JS_condF rfl ?_ | apply JS_skip)
    apply JS_inBlock
    exact JS_to5 K 1 i (some p1) 1 a2 ⟨by omega, hi0, by omega, ha2, ha12, hF⟩ (by repeat (first | exact trivial | refine ⟨rfl, ?_⟩ | refine ⟨lookI rfl (by omega), ?_⟩)) (fun w hw => hw)
end
end Go.Proofs.YteelffkghidpfaaGreat

namespace Go.Proofs.YteelffkghidpfaaGreat
open Sx Go
set_option linter.unusedVariables false
set_option linter.unusedSimpArgs false
set_option maxRecDepth 100000
attribute [local irreducible] syA fc tk cds
theorem IsSet.perm {w0 H H' b B} (h : IsSet w0 H b B) (p : H'.Perm H) : IsSet w0 H' b B := by
  obtain ⟨⟨q, d, s, e, h1, h2, h3⟩, hB, hl⟩ := h
  exact ⟨⟨q, d, s, e, p.mem_iff.2 h1, Rd_weak h2 fun w hw => hw.perm p, Rd_weak h3 fun w hw => hw.perm p⟩, hB, hl⟩
theorem ordL_get (i : Nat) (h : i < 19) : ordL.getD i 0 < 19 := by
  have : ∀ k : Fin 19, ordL.getD k.val 0 < 19 := by decide
  exact this ⟨i, h⟩
def ordI : List Int := [16, 17, 18, 0, 8, 7, 9, 6, 10, 5, 11, 4, 12, 3, 13, 2, 14, 1, 15]
theorem ordI_get (i : Nat) (h : i < 19) : ordI.getD i 0 = (ordL.getD i 0 : Nat) := by
  have : ∀ k : Fin 19, ordI.getD k.val 0 = (ordL.getD k.val 0 : Nat) := by decide
  exact this ⟨i, h⟩
theorem ccl_okb (bt : Nat → Int) (hb : ∀ j, bt j = 0 ∨ bt j = 1) (a : Nat) : ∀ n, OKB (ccl bt a n)
  | 0 => OKB_rep ⟨by decide, by decide⟩ 19
  | n + 1 => by
    intro j
    have h0 := ccl_okb bt hb a n
    have h1 := nbt_bd bt hb (a + 3 * n) 3
    have h2 : (2 : Int) ^ 3 = 8 := by decide
    simp only [ccl]
    rw [List.getD_eq_getElem?_getD, List.getElem?_set]
    split
    · split
      · simp only [Option.getD_some]; omega
      · exact ⟨by decide, by decide⟩
    · have := h0 j; rwa [List.getD_eq_getElem?_getD] at this
section
variable {w0 : World} {H : List Asn} {bf br : Nat} {q : Option Addr} {d m : Nat} {B : List Int} {lim : Nat} {po : Option Addr} {co : Nat} {o : List Int}
theorem infL_ins {w : World} {a : Nat} (X : List Asn) (h : St w0 (X ++ infL bf br q d m B lim a po co o H) w) : St w0 (infL bf br q d m B lim a po co o (X ++ H)) w :=
  h.perm (List.perm_append_comm_assoc X [_, _, _, _] H)
theorem Fix_c (hK : InfK m B lim) (a : Nat) (ha : a ≤ 8 * m) (ho : o.length ≤ lim) (w : World) (hw : St w0 (infL bf br q d m B lim a po co o H) w) :
    Calls Tryz.prog 207 #[.pointer (some ⟨bf, 0, none⟩)] w fun e w' => ∃ r, It (blkF (bitB B 0) (8 * m) lim (tab 288 fixF) (List.replicate 32 5)) a o r ∧ resP r (fun r => e = .panicked (FLT r) ∧ St w0 H w')
      (fun a' o' => a' ≤ 8 * m ∧ o'.length ≤ lim ∧ e = .returned (.tuple #[]) ∧ ∃ po co, St w0 (infL bf br q d m B lim a' po co o' H) w') := by
  refine enter (vs := [.pointer (some ⟨bf, 0, none⟩)]) Tryz.func207 rfl rfl rfl hw ?_
  repeat (refine sx ?_; try intro _)
  refine JO_call Tryz.call159 rfl rfl fun w hw => (Fixed_c w hw).mono ?_
  rintro e w' ⟨p1, c1, rfl, hw'⟩
  refine ⟨_, rfl, _, hw', ?_⟩
  clear hw' hw w w'
  repeat (refine sx ?_; try intro _)
  refine JO_callE Tryz.func207 Tryz.call233 rfl rfl fun A hA w hw => (Made_c p1 c1 288 _ (vec_rd (List.Mem.head _)) (tab_len _ _) fix_okb (by omega) w hw).mono ?_
  rintro e w' (⟨h, _⟩ | ⟨_, b1, a1, a2, a3, rfl, hs1, hw'⟩)
  · exact absurd fix_okl h
  refine .inl ⟨_, rfl, _, hw', ?_⟩
  clear hw' hw w w' hA A
  repeat (refine sx ?_; try intro _)
  refine JO_call Tryz.call160 rfl rfl fun w hw => (Spans_c w hw).mono ?_
  rintro e w' ⟨p2, c2, rfl, hw'⟩
  refine ⟨_, rfl, _, hw', ?_⟩
  clear hw' hw w w'
  repeat (refine sx ?_; try intro _)
  refine JO_callE Tryz.func207 Tryz.call233 rfl rfl fun A hA w hw => (Made_c p2 c2 32 _ (vec_rd (List.Mem.head _)) (List.length_replicate ..) spans_okb (by omega) w hw).mono ?_
  rintro e w' (⟨h, _⟩ | ⟨_, b2, a4, a5, a6, rfl, hs2, hw'⟩)
  · exact absurd spans_okl h
  refine .inl ⟨_, rfl, _, hw', ?_⟩
  clear hw' hw w w' hA A
  repeat (refine sx ?_; try intro _)
  refine JO_callE Tryz.func207 Tryz.call232 rfl rfl fun A hA w hw => (Blk_c hK a ha ho b1 b2 _ _ (hs1.sub (by repeat (first | exact List.nil_sublist _ | apply List.Sublist.cons_cons | apply List.Sublist.cons))) (hs2.sub (by repeat (first | exact List.nil_sublist _ | apply List.Sublist.cons_cons | apply List.Sublist.cons))) w (infL_ins [a4, a5, a6, vec 5 1 (.slice p2 32 c2) 32 (ints .u8 (List.replicate 32 5)), a1, a2, a3, vec 5 1 (.slice p1 288 c1) 288 (ints .u8 (tab 288 fixF))] hw)).mono ?_
  rintro e w' ⟨r, hr, h⟩
  cases r with
  | err r =>
    obtain ⟨rfl, hw'⟩ := h
    exact .inr ⟨_, rfl, .err r, hr, rfl, dS hw'⟩
  | ok a' o' =>
    obtain ⟨h1, h2, rfl, p', c', hw'⟩ := h
    refine .inl ⟨_, rfl, _, hw', ?_⟩
    clear hw' hw w w' hA A
    repeat (refine sx ?_; try intro _)
    refine JS_fin Tryz.func207 rfl rfl ?_
    intro w hw
    exact ⟨.ok a' o', hr, h1, h2, rfl, p', c', dS hw⟩
end
end Go.Proofs.YteelffkghidpfaaGreat

namespace Go.Proofs.YteelffkghidpfaaGreat
open Sx Go
set_option linter.unusedVariables false
set_option linter.unusedSimpArgs false
set_option maxRecDepth 100000
attribute [local irreducible] syA fc tk cds
section
variable {w0 : World} {H : List Asn} {bf br : Nat} {q : Option Addr} {d m : Nat} {B : List Int} {lim : Nat} {po : Option Addr} {co : Nat} {o : List Int}
set_option maxRecDepth 10000 in
set_option maxHeartbeats 4000000 in
theorem Des_c (hK : InfK m B lim) (a : Nat) (ha : a ≤ 8 * m) (ho : o.length ≤ lim) (w : World) (hw : St w0 (infL bf br q d m B lim a po co o H) w) :
    Calls Tryz.prog 208 #[.pointer (some ⟨bf, 0, none⟩)] w fun e w' => resP (desF (bitB B 0) (8 * m) lim a o) (fun r => e = .panicked (FLT r) ∧ St w0 H w')
      (fun a' o' => a' ≤ 8 * m ∧ o'.length ≤ lim ∧ e = .returned (.tuple #[]) ∧ ∃ po co, St w0 (infL bf br q d m B lim a' po co o' H) w') := by
  have hl := hK.hl
  have hm1 := hK.hm1
  refine enter (vs := [.pointer (some ⟨bf, 0, none⟩)]) Tryz.func208 rfl rfl rfl hw ?_
  unfold desF
  obtain ⟨n1, hn1⟩ := Int.eq_ofNat_of_zero_le (nbt_bd (bitB B 0) (bitB_01 B 0) a 5).1
  have hb1 := (nbt_bd (bitB B 0) (bitB_01 B 0) a 5).2
  obtain ⟨n2, hn2⟩ := Int.eq_ofNat_of_zero_le (nbt_bd (bitB B 0) (bitB_01 B 0) (a + 5) 5).1
  have hb2 := (nbt_bd (bitB B 0) (bitB_01 B 0) (a + 5) 5).2
  obtain ⟨n3, hn3⟩ := Int.eq_ofNat_of_zero_le (nbt_bd (bitB B 0) (bitB_01 B 0) (a + 10) 4).1
  have hb3 := (nbt_bd (bitB B 0) (bitB_01 B 0) (a + 10) 4).2
  rw [hn1] at hb1
  rw [hn2] at hb2
  rw [hn3] at hb3
  have hb1 : (n1 : Int) < 32 := hb1
  have hb2 : (n2 : Int) < 32 := hb2
  have hb3 : (n3 : Int) < 16 := hb3
  rw [hn1, hn2, hn3, show ((n1 : Int) + 257).toNat = n1 + 257 by omega, show ((n2 : Int) + 1).toNat = n2 + 1 by omega, show ((n3 : Int) + 4).toNat = n3 + 4 by omega]
  repeat (refine sx ?_; try intro _)
  refine JO_callE Tryz.func208 Tryz.call209 rfl rfl fun A hA w hw => (Grp_c hK a 5 (by omega) (by omega) w hw).mono ?_
  rintro e w' (⟨h, rfl, hw'⟩ | ⟨h1, he, hw'⟩)
  · refine .inr ⟨_, rfl, ?_⟩
    show resP _ _ _
    rw [if_pos h]; exact ⟨rfl, hw'⟩
  rw [hn1] at he; subst he
  refine .inl ⟨_, rfl, _, hw', ?_⟩
  clear hw' hw w w' hA A
  rw [if_neg (by omega)]
  repeat (refine sx ?_; try intro _)
  refine JO_callE Tryz.func208 Tryz.call209 rfl rfl fun A hA w hw => (Grp_c hK (a + 5) 5 (by omega) (by omega) w hw).mono ?_
  rintro e w' (⟨h, rfl, hw'⟩ | ⟨h2, he, hw'⟩)
  · refine .inr ⟨_, rfl, ?_⟩
    show resP _ _ _
    rw [if_pos h]; exact ⟨rfl, hw'⟩
  rw [hn2] at he; subst he
  refine .inl ⟨_, rfl, _, hw', ?_⟩
  clear hw' hw w w' hA A
  rw [if_neg (by omega)]
  repeat (refine sx ?_; try intro _)
  refine JO_callE Tryz.func208 Tryz.call209 rfl rfl fun A hA w hw => (Grp_c hK (a + 10) 4 (by omega) (by omega) w hw).mono ?_
  rintro e w' (⟨h, rfl, hw'⟩ | ⟨h3, he, hw'⟩)
  · refine .inr ⟨_, rfl, ?_⟩
    show resP _ _ _
    rw [if_pos h]; exact ⟨rfl, hw'⟩
  rw [hn3] at he; subst he
  refine .inl ⟨_, rfl, _, hw', ?_⟩
  clear hw' hw w w' hA A
  rw [if_neg (by omega)]
  unfold des1
  obtain ⟨lit, hlit⟩ : ∃ x, n1 + 257 = x := ⟨_, rfl⟩
  obtain ⟨sp, hsp⟩ : ∃ x, n2 + 1 = x := ⟨_, rfl⟩
  obtain ⟨ln, hln⟩ : ∃ x, n3 + 4 = x := ⟨_, rfl⟩
  rw [hlit, hsp, hln]
  have hlit' : (n1 : Int) + 257 = (lit : Int) := by omega
  have hsp' : (n2 : Int) + 1 = (sp : Int) := by omega
  have hln' : (n3 : Int) + 4 = (ln : Int) := by omega
  repeat (first | (apply gJR; (refine sx ?_; try intro _)) | (apply gJO; (refine sx ?_; try intro _)))
  simp only [hlit', hsp', hln']
  clear hlit' hsp' hln' hn1 hn2 hn3
  by_cases hbig : 286 < lit ∨ 30 < sp
  · have : (286 < lit) ∨ (¬ 286 < lit ∧ 30 < sp) := by omega
    rcases this with h | ⟨h, h'⟩
    · repeat (refine sx ?_; try intro _)
      refine JO_callE Tryz.func208 Tryz.call210 rfl rfl fun A hA w hw => (Give_c 62 w hw).mono ?_
      rintro e w' (⟨h, rfl, hw'⟩ | ⟨_, rfl, hw'⟩)
      · exact absurd h (by decide)
      · refine .inr ⟨_, rfl, ?_⟩
        show resP _ _ _
        rw [if_pos hbig]; exact ⟨rfl, infL_drop hw'⟩
    · repeat (refine sx ?_; try intro _)
      refine JO_callE Tryz.func208 Tryz.call210 rfl rfl fun A hA w hw => (Give_c 62 w hw).mono ?_
      rintro e w' (⟨h, rfl, hw'⟩ | ⟨_, rfl, hw'⟩)
      · exact absurd h (by decide)
      · refine .inr ⟨_, rfl, ?_⟩
        show resP _ _ _
        rw [if_pos hbig]; exact ⟨rfl, infL_drop hw'⟩
  rw [if_neg hbig]
  repeat (first | (apply gJR; (refine sx ?_; try intro _)) | (apply gJO; first | (refine JO_v (V_buildA (tb := tb) rfl rfl rfl rfl rfl) ?_) | (refine JO_v (V_sliceP (tb := tb) (lo := 0) (hi := ln) rfl rfl rfl rfl rfl (by rfl) (by rfl) (by omega) rfl) ?_) | (refine sx ?_; try intro _)) | apply JS_seq | apply JS_region | refine JS_condF rfl ?_ | refine JS_cond_F rfl (by omega) ?_ | apply JS_skip)
  rename_i b5 b6
  simp only [subB_0, Nat.sub_zero]
  refine JS_block ?_
  refine JS_loop1 (fun (i : Nat) => [(0, .pointer (some ⟨bf, 0, none⟩)), (2, .int .i64 lit), (3, .int .i64 sp), (6, .pointer (some ⟨b6, 0, none⟩)), (29, .slice (some ⟨b5, 0, none⟩) ln 19), (30, .int .i64 ln), (31, .int .i64 i)])
    (fun i => infL bf br q d m B lim (a + 14 + 3 * i) po co o (blk b6 (ints .u8 (ccl (bitB B 0) (a + 14) i)) :: blk b5 (ints .i64 ordI) :: H)) (fun i => i ≤ ln ∧ a + 14 + 3 * i ≤ 8 * m) (fun i => ln - i) 0 ⟨Nat.zero_le _, by omega⟩ (by repeat (first | exact trivial | refine ⟨rfl, ?_⟩ | refine ⟨lookI rfl (by omega), ?_⟩))
    (fun w h => infL_ins [blk b6 (ints .u8 (ccl (bitB B 0) (a + 14) 0)), blk b5 (ints .i64 ordI)] h) ?_
  intro i ⟨hi, hai⟩ again
  by_cases hil : i < ln
  · have gi : (ints .i64 ordI)[i]? = some (.int .i64 (ordI.getD i 0)) := ints_get (by show i < 19; omega)
    have ho19 := ordL_get i (by omega)
    have hcc := ccl_len (bitB B 0) (a + 14) i
    have hcs : ccl (bitB B 0) (a + 14) (i + 1) = (ccl (bitB B 0) (a + 14) i).set (ordL.getD i 0) (nbt (bitB B 0) (a + 14 + 3 * i) 3) := rfl
    rw [ordI_get i (by omega)] at gi
    generalize ordL.getD i 0 = k at *
    generalize ccl (bitB B 0) (a + 14) i = C at *
    repeat (first | (apply gJO; first | refine JO_v (V_index (tb := tb) (j := i) rfl rfl rfl rfl (Rd.sl (blk_rd (cs := ints .i64 ordI) (by repeat (first | apply List.Mem.head | apply List.Mem.tail)) (by omega))) (by omega) (by (try simp only [tn, tna, tn1, tn2, tn3, tn4, tnd16, tnd8, Int.reduceToNat]); first | exact Nat.mul_one _ | exact rfl) rfl) ?_ | refine JO_v (V_loadC (tb := tb) rfl (blk_rd (cs := ints .i64 ordI) (by repeat (first | apply List.Mem.head | apply List.Mem.tail)) (show ln ≤ 19 by omega)) rfl rfl gi rfl) ?_) | (refine sx ?_; try intro _))
    refine JO_callE Tryz.func208 Tryz.call209 rfl rfl fun A hA w hw => (Grp_c hK (a + 14 + 3 * i) 3 (by omega) (by omega) w hw).mono ?_
    rintro e w' (⟨h, rfl, hw'⟩ | ⟨h1, he, hw'⟩)
    · refine .inr ⟨_, rfl, ?_⟩
      show resP _ _ _
      rw [if_pos (by omega)]; exact ⟨rfl, hw'.drop.drop⟩
    obtain ⟨x, hx⟩ := Int.eq_ofNat_of_zero_le (nbt_bd (bitB B 0) (bitB_01 B 0) (a + 14 + 3 * i) 3).1
    have hx1 := (nbt_bd (bitB B 0) (bitB_01 B 0) (a + 14 + 3 * i) 3).2
    rw [hx] at he hx1 hcs
    subst he
    have hx2 : (x : Int) < 8 := hx1
    refine .inl ⟨_, rfl, _, hw', ?_⟩
    clear hw' hw w w' hA A
    repeat (first | (apply kS; refine JO_k (K_store (tb := tb) rfl rfl (by repeat (first | apply Upd.here | apply Upd.there)) rfl rfl rfl (by repeat (first | exact trivial | refine ⟨rfl, ?_⟩)) (by rw [show 0 + ((k : Nat) : Int).toNat * 1 = k by omega]; exact setSeg_ints (by omega)) rfl) ?_) | (refine sx ?_; try intro _))
    exact JS_again1 again (i + 1) ⟨by omega, by omega⟩ (by omega) (by repeat (first | exact trivial | refine ⟨rfl, ?_⟩ | refine ⟨lookI rfl (by omega), ?_⟩)) (fun w hw => by rw [hcs]; exact hw)
  obtain rfl : i = ln := by omega
  clear again
  rw [if_neg (by omega)]
  have hcc := ccl_len (bitB B 0) (a + 14) i
  have hco := ccl_okb (bitB B 0) (bitB_01 B 0) (a + 14) i
  generalize ccl (bitB B 0) (a + 14) i = C at *
  repeat (first | (apply gJO; refine JO_v (V_sliceP (tb := tb) (lo := 0) (hi := 19) rfl rfl rfl rfl rfl (by rfl) (by rfl) (by omega) rfl) ?_) | (refine sx ?_; try intro _))
  simp only [subB_0, Nat.sub_zero]
  refine JO_callE Tryz.func208 Tryz.call233 rfl rfl fun A hA w hw => (Made_c (some ⟨b6, 0, none⟩) 19 19 C (blk_rd (by repeat (first | apply List.Mem.head | apply List.Mem.tail)) (by omega)) hcc hco (by omega) w hw).mono ?_
  rintro e w' (⟨hno, rfl, hw'⟩ | ⟨hyes, b7, x1, x2, x3, rfl, hs7, hw'⟩)
  · refine .inr ⟨_, rfl, ?_⟩
    show resP _ _ _
    rw [if_pos (.inl hno)]; exact ⟨rfl, (infL_drop hw').drop.drop⟩
  refine .inl ⟨_, rfl, _, hw', ?_⟩
  clear hw' hw w w' hA A
  repeat (refine sx ?_; try intro _)
  refine JO_call Tryz.call234 rfl rfl fun w hw => (Full2_c b7 C (hs7.sub (by repeat (first | exact List.nil_sublist _ | apply List.Sublist.cons_cons | apply List.Sublist.cons))) w hw).mono ?_
  rintro e w' ⟨rfl, hw'⟩
  refine ⟨_, rfl, _, hw', ?_⟩
  clear hw' hw w w'
  by_cases hfull : tk C = 32768
  rotate_left
  · repeat (refine sx ?_; try intro _)
    refine JO_callE Tryz.func208 Tryz.call210 rfl rfl fun A hA w hw => (Give_c 62 w hw).mono ?_
    rintro e w' (⟨h, rfl, hw'⟩ | ⟨_, rfl, hw'⟩)
    · exact absurd h (by decide)
    · refine .inr ⟨_, rfl, ?_⟩
      show resP _ _ _
      rw [if_pos (.inr hfull)]; exact ⟨rfl, (infL_drop hw'.drop.drop.drop).drop.drop⟩
  rw [if_neg (by rintro (h | h); exact h hyes; exact h hfull)]
  have hls : (lit : Int) + sp = ((lit + sp : Nat) : Int) := by omega
  repeat (refine sx ?_; try intro _)
  simp only [hls]
  refine JO_callE Tryz.func208 Tryz.call235 rfl rfl fun A hA w hw => (Lens_c hK (a + 14 + 3 * i) (by omega) (lit + sp) (by omega) b7 C (hs7.sub (by repeat (first | exact List.nil_sublist _ | apply List.Sublist.cons_cons | apply List.Sublist.cons))) hcc w (infL_ins [x1, x2, x3] hw)).mono ?_
  rintro e w' ⟨r, hr, h⟩
  rw [itF_of hr]
  clear hr
  cases r with
  | err r =>
    obtain ⟨rfl, hw'⟩ := h
    exact .inr ⟨_, rfl, rfl, hw'.drop.drop.drop.drop.drop⟩
  | ok a' l =>
  obtain ⟨ha', hll, hol, p, c, rfl, hw'⟩ := h
  have hcap : lit + sp ≤ c := (Rd.lcap (vec_rd (e := 5) (size := 1) (v := .slice p (lit + sp) c) (n := lit + sp) (cs := ints .u8 l) (by repeat (first | apply List.Mem.head | apply List.Mem.tail))) hw').1
  refine .inl ⟨_, rfl, _, hw', ?_⟩
  clear hw' hw w w' hA A
  simp only
  unfold des2
  have g256 : (ints .u8 l)[256]? = some (.int .u8 (l.getD 256 0)) := ints_get (by omega)
  have h256 := hol 256
  by_cases hz : l.getD 256 0 = 0
  · repeat (first | (apply gJO; refine JO_v (V_loadC (tb := tb) rfl (vec_rd (e := 5) (size := 1) (v := .slice p (lit + sp) c) (n := lit + sp) (cs := ints .u8 l) (by repeat (first | apply List.Mem.head | apply List.Mem.tail))) rfl rfl g256 rfl) ?_) | (refine sx ?_; try intro _))
    refine JO_callE Tryz.func208 Tryz.call210 rfl rfl fun A hA w hw => (Give_c 62 w hw).mono ?_
    rintro e w' (⟨h, rfl, hw'⟩ | ⟨_, rfl, hw'⟩)
    · exact absurd h (by decide)
    · refine .inr ⟨_, rfl, ?_⟩
      show resP _ _ _
      rw [if_pos hz]; exact ⟨rfl, (infL_drop hw').drop.drop.drop.drop.drop.drop⟩
  rw [if_neg hz]
  repeat (first | (apply gJO; refine JO_v (V_loadC (tb := tb) rfl (vec_rd (e := 5) (size := 1) (v := .slice p (lit + sp) c) (n := lit + sp) (cs := ints .u8 l) (by repeat (first | apply List.Mem.head | apply List.Mem.tail))) rfl rfl g256 rfl) ?_) | (apply gJR; (refine sx ?_; try intro _)) | (apply gJO; (refine sx ?_; try intro _)) | apply JS_seq | apply JS_region | refine JS_condF rfl ?_ | refine JS_cond_F rfl (by omega) ?_ | apply JS_skip)
  refine JS_order2 [] [0, 1, 2, 3, 5, 6, 7, 4, 8, 9] [] (fun w hw => St.sub (List.nil_sublist _) hw) (Picks.cons rfl (Picks.cons rfl (Picks.cons rfl (Picks.cons rfl (Picks.cons rfl (Picks.cons rfl (Picks.cons rfl (Picks.cons rfl (Picks.cons rfl (Picks.cons rfl (Picks.nil))))))))))) (by kernel_rfl) (by kernel_rfl) rfl (by decide +kernel) ?_
  repeat (first | (apply gQR2; apply QR2_un) | (apply gQO2; first | refine QO2_v rfl (V_slice (tb := tb) (lo := 0) (hi := lit) rfl rfl rfl rfl rfl (by rfl) (by rfl) (fun w hw => ⟨by omega, by omega⟩) rfl) ?_ | refine QO2_v rfl (V_slice (tb := tb) (lo := lit) (hi := lit + sp) rfl rfl rfl rfl rfl (by rfl) (by rfl) (fun w hw => ⟨by omega, by omega⟩) rfl) ?_ | refine aQ2 ?_))
  have e2 : lit + sp - lit = sp := by omega
  simp only [subB_0, Nat.sub_zero, e2]
  have hl1 : (l.take lit).length = lit := by rw [List.length_take]; omega
  have hl2 : (l.drop lit).length = sp := by rw [List.length_drop]; omega
  have ho1 : OKB (l.take lit) := Byt_take hol _
  have ho2 : OKB (l.drop lit) := Byt_drop hol _
  refine QO2_callE Tryz.call233 rfl rfl fun w hw => (Made_c p c lit (l.take lit) (by
    have := Rd_sub (lo := 0) (hi := lit) (sz := 1) (vec_rd (w0 := w0) (H := infL bf br q d m B lim a' po co o (vec 5 1 (.slice p (lit + sp) c) (lit + sp) (ints .u8 l) :: ([x1, x2, x3] ++ blk b6 (ints .u8 C) :: blk b5 (ints .i64 ordI) :: H))) (e := 5) (size := 1) (v := .slice p (lit + sp) c) (n := lit + sp) (cs := ints .u8 l) (by repeat (first | apply List.Mem.head | apply List.Mem.tail))) (by omega) (by omega)
    simp only [subB_0, Nat.sub_zero, Nat.zero_mul, Nat.mul_one, List.drop_zero, ints_take] at this
    exact this) hl1 ho1 (by omega) w hw).mono ?_
  rintro e w' (⟨hno, rfl, hw'⟩ | ⟨hyes1, b8, y1, y2, y3, rfl, hs8, hw'⟩)
  · refine .inr ⟨_, rfl, QK_e Tryz.func208 ?_⟩
    show resP _ _ _
    rw [if_pos hno]; exact ⟨rfl, (infL_drop hw').drop.drop.drop.drop.drop.drop⟩
  refine .inl ⟨_, rfl, [], _, hw', fun w hw => St.sub (List.nil_sublist _) hw, .inl fun w hw => hw, ?_⟩
  clear hw' hw w w'
  rw [if_neg (fun h => h hyes1)]
  repeat (first | (apply gQR2; apply QR2_un) | (apply gQO2; refine aQ2 ?_))
  refine QO2_callE Tryz.call233 rfl rfl fun w hw => (Made_c (subB p lit c 1) (c - lit) sp (l.drop lit) (by
    have := Rd_sub (lo := lit) (hi := lit + sp) (sz := 1) (vec_rd (w0 := w0) (H := y1 :: y2 :: y3 :: infL bf br q d m B lim a' po co o (vec 5 1 (.slice p (lit + sp) c) (lit + sp) (ints .u8 l) :: ([x1, x2, x3] ++ blk b6 (ints .u8 C) :: blk b5 (ints .i64 ordI) :: H))) (e := 5) (size := 1) (v := .slice p (lit + sp) c) (n := lit + sp) (cs := ints .u8 l) (by repeat (first | apply List.Mem.head | apply List.Mem.tail))) (by omega) (by omega)
    simp only [e2, Nat.mul_one, ints_drop, ints_take] at this
    rw [List.take_of_length_le (by omega)] at this
    exact this) hl2 ho2 (by omega) w hw).mono ?_
  rintro e w' (⟨hno, rfl, hw'⟩ | ⟨hyes2, b9, y4, y5, y6, rfl, hs9, hw'⟩)
  · refine .inr ⟨_, rfl, QK_e Tryz.func208 ?_⟩
    show resP _ _ _
    rw [if_pos hno]; exact ⟨rfl, (infL_drop hw'.drop.drop.drop).drop.drop.drop.drop.drop.drop⟩
  refine .inl ⟨_, rfl, [], _, hw', fun w hw => St.sub (List.nil_sublist _) hw, .inl fun w hw => hw, ?_⟩
  clear hw' hw w w'
  rw [if_neg (fun h => h hyes2)]
  repeat (first | (apply gQR2; apply QR2_un) | (apply gQO2; refine aQ2 ?_))
  refine QO2_callE Tryz.call232 rfl rfl fun w hw => (Blk_c hK a' ha' ho b8 b9 _ _ (hs8.sub (by repeat (first | exact List.nil_sublist _ | apply List.Sublist.cons_cons | apply List.Sublist.cons))) (hs9.sub (by repeat (first | exact List.nil_sublist _ | apply List.Sublist.cons_cons | apply List.Sublist.cons))) w (infL_ins [y4, y5, y6, y1, y2, y3] hw)).mono ?_
  rintro e w' ⟨r, hr, h⟩
  rw [itF_of hr]
  clear hr
  cases r with
  | err r =>
    obtain ⟨rfl, hw'⟩ := h
    exact .inr ⟨_, rfl, QK_e Tryz.func208 ⟨rfl, dS hw'⟩⟩
  | ok a2 o2 =>
  obtain ⟨h1, h2, rfl, p', c', hw'⟩ := h
  refine .inl ⟨_, rfl, [], _, hw', fun w hw => St.sub (List.nil_sublist _) hw, .inl fun w hw => hw, ?_⟩
  clear hw' hw w w'
  repeat (first | (apply gQR2; first | apply QR2_un | apply QR2_nil) | (apply gQO2; refine aQ2 ?_))
  refine JS_fin Tryz.func208 rfl rfl ?_
  intro w hw
  exact ⟨h1, h2, rfl, p', c', dS hw⟩
end
end Go.Proofs.YteelffkghidpfaaGreat

namespace Go.Proofs.YteelffkghidpfaaGreat
open Sx Go
set_option linter.unusedVariables false
set_option maxRecDepth 10000
set_option linter.unusedSimpArgs false
set_option maxRecDepth 100000
attribute [local irreducible] syA fc tk cds
section
variable {w0 : World} {H : List Asn}
theorem inv_fn {q : Nat} {cap args : Array Value} {w : World} (hc : ∀ args w, (callFunc q args).run Tryz.prog w = .ok (.enter q args) w) : (invoke (.fn (.func q) cap) args).run Tryz.prog w = .ok (.enter q (args ++ cap)) w := by
  simp only [invoke]
  simpa using hc (args ++ cap) w
theorem Catch_idle (be : Nat) (w : World) (hw : St w0 H w) :
    CallsD Tryz.prog 204 #[.pointer (some ⟨be, 0, none⟩)] .returning w fun e u' w' => u' = .returning ∧ e = .returned (.tuple #[]) ∧ St w0 H w' := by
  refine enterR (vs := [.pointer (some ⟨be, 0, none⟩)]) Tryz.func204 rfl rfl rfl rfl hw (.inl ⟨rfl, rfl, rfl⟩) ?_
  repeat (first | (apply gJO; refine JO_v (V_eqIN (tb := tb) rfl rfl rfl) ?_) | (refine sx ?_; try intro _))
  exact JS_fin Tryz.func204 rfl rfl fun w hw => ⟨rfl, hw⟩
theorem Catch_got (be : Nat) (r x : Int) (w : World) (hw : St w0 (blk be [.int .i64 x] :: H) w) :
    CallsD Tryz.prog 204 #[.pointer (some ⟨be, 0, none⟩)] (.panicking (FLT r)) w fun e u' w' => u' = .panicking [{ v := .iface 264 (.int .i64 r), recovered := true }] ∧ e = .returned (.tuple #[]) ∧ St w0 (blk be [.int .i64 r] :: H) w' := by
  refine enterR (vs := [.pointer (some ⟨be, 0, none⟩)]) Tryz.func204 rfl rfl rfl rfl hw (.inr ⟨[], rfl, rfl⟩) ?_
  repeat (first | (apply gJO; first | refine JO_v (V_eqIV (tb := tb) rfl rfl rfl) ?_ | refine JO_v (V_assertT (tb := tb) rfl rfl (by simp) rfl) ?_) | (refine sx ?_; try intro _))
  exact JS_fin Tryz.func204 rfl rfl fun w hw => ⟨rfl, hw⟩
theorem Clos_ok (be bo bu : Nat) (u : FrameMode) (w : World) (hb : blk be [.int .i64 0] ∈ H) (hw : St w0 H w) :
    CallsD Tryz.prog 203 #[.pointer (some ⟨be, 0, none⟩), .pointer (some ⟨bo, 0, none⟩), .pointer (some ⟨bu, 0, none⟩)] u w fun e u' w' => u' = u ∧ e = .returned (.tuple #[]) ∧ St w0 H w' := by
  refine enterD (vs := [.pointer (some ⟨be, 0, none⟩), .pointer (some ⟨bo, 0, none⟩), .pointer (some ⟨bu, 0, none⟩)]) Tryz.func203 rfl rfl rfl hw ?_
  repeat (first | (apply gJO; refine JO_v (V_load (tb := tb) rfl hb rfl rfl rfl rfl) ?_) | (refine sx ?_; try intro _))
  exact JS_fin Tryz.func203 rfl rfl fun w hw => ⟨rfl, hw⟩
theorem Clos_err (be bo bu : Nat) (r x2 : Int) (v1 : Value) (hr : r ≠ 0) (hv : Sx.one v1) (u : FrameMode) (w : World) (hw : St w0 (blk be [.int .i64 r] :: blk bu [.int .i64 x2] :: blk bo [v1] :: H) w) :
    CallsD Tryz.prog 203 #[.pointer (some ⟨be, 0, none⟩), .pointer (some ⟨bo, 0, none⟩), .pointer (some ⟨bu, 0, none⟩)] u w fun e u' w' => u' = u ∧ e = .returned (.tuple #[]) ∧ St w0 (blk be [.int .i64 r] :: blk bu [.int .i64 0] :: blk bo [.slice none 0 0] :: H) w' := by
  refine enterD (vs := [.pointer (some ⟨be, 0, none⟩), .pointer (some ⟨bo, 0, none⟩), .pointer (some ⟨bu, 0, none⟩)]) Tryz.func203 rfl rfl rfl hw ?_
  repeat (refine sx ?_; try intro _)
  exact JS_fin Tryz.func203 rfl rfl fun w hw => ⟨rfl, hw⟩
abbrev resC (be bu bo : Nat) (H : List Asn) : List Asn := blk be [.int .i64 0] :: blk bu [.int .i64 0] :: blk bo [.slice none 0 0] :: H
abbrev defs (be bu bo : Nat) : List Deferred := [⟨.fn (.func 204) #[], #[.pointer (some ⟨be, 0, none⟩)]⟩, ⟨.fn (.func 203) #[.pointer (some ⟨be, 0, none⟩), .pointer (some ⟨bo, 0, none⟩), .pointer (some ⟨bu, 0, none⟩)], #[]⟩]
theorem Lv_err {R : Ending → World → Prop} {n : Nat} {be bu bo : Nat} {r : Int} {a : Act} {D : List Deferred} (ha : Rep n D [(4, .pointer (some ⟨bo, 0, none⟩)), (5, .pointer (some ⟨bu, 0, none⟩)), (6, .pointer (some ⟨be, 0, none⟩))] a) {w : World} (hw : St w0 (resC be bu bo H) w)
    (hR : ∀ w, St w0 H w → R (.returned (.tuple #[.slice none 0 0, .int .i64 0, .int .i64 r])) w) : Leaves Tryz.prog Tryz.f153 a.tmps R (defs be bu bo) (.panicking (FLT r)) w := by
  refine leaves_cons (f := 204) (args := #[.pointer (some ⟨be, 0, none⟩)]) (by simp) (inv_fn Tryz.call204) ?_
  refine (Catch_got be r 0 w hw).mono ?_
  rintro e u' w' ⟨rfl, rfl, hw'⟩
  show Leaves _ _ _ _ _ (settle _) _
  rw [show settle (.panicking [{ v := .iface 264 (.int .i64 r), recovered := true }]) = .returning from rfl]
  refine leaves_cons (f := 203) (args := #[.pointer (some ⟨be, 0, none⟩), .pointer (some ⟨bo, 0, none⟩), .pointer (some ⟨bu, 0, none⟩)]) (by simp) (inv_fn Tryz.call203) ?_
  have fin : ∀ w, St w0 (blk be [.int .i64 r] :: blk bu [.int .i64 0] :: blk bo [.slice none 0 0] :: H) w → Leaves Tryz.prog Tryz.f153 a.tmps R [] .returning w := by
    intro w hw
    exact ⟨_, results_cells (tb := tb) (vs := [.slice none 0 0, .int .i64 0, .int .i64 r]) (ResV.one (tb := tb) rfl (by repeat (first | apply List.Mem.head | apply List.Mem.tail)) rfl rfl rfl (ResV.one (tb := tb) rfl (by repeat (first | apply List.Mem.head | apply List.Mem.tail)) rfl rfl rfl (ResV.one (tb := tb) rfl (by repeat (first | apply List.Mem.head | apply List.Mem.tail)) rfl rfl rfl ResV.nil))) ha hw, hR w hw.drop.drop.drop⟩
  by_cases hr : r = 0
  · subst hr
    refine (Clos_ok be bo bu .returning w' (List.Mem.head _) hw').mono ?_
    rintro e u' w'' ⟨rfl, rfl, hw''⟩
    exact fin w'' hw''
  · refine (Clos_err be bo bu r 0 (.slice none 0 0) hr rfl .returning w' hw').mono ?_
    rintro e u' w'' ⟨rfl, rfl, hw''⟩
    exact fin w'' hw''
theorem Lv_ok {R : Ending → World → Prop} {n : Nat} {be bu bo : Nat} {x : Int} {v1 : Value} {a : Act} {D : List Deferred} (ha : Rep n D [(4, .pointer (some ⟨bo, 0, none⟩)), (5, .pointer (some ⟨bu, 0, none⟩)), (6, .pointer (some ⟨be, 0, none⟩))] a) {w : World} (hw : St w0 (blk be [.int .i64 0] :: blk bu [.int .i64 x] :: blk bo [v1] :: H) w)
    (hR : ∀ w, St w0 H w → R (.returned (.tuple #[v1, .int .i64 x, .int .i64 0])) w) : Leaves Tryz.prog Tryz.f153 a.tmps R (defs be bu bo) .returning w := by
  refine leaves_cons (f := 204) (args := #[.pointer (some ⟨be, 0, none⟩)]) (by simp) (inv_fn Tryz.call204) ?_
  refine (Catch_idle be w hw).mono ?_
  rintro e u' w' ⟨rfl, rfl, hw'⟩
  show Leaves _ _ _ _ _ (settle _) _
  rw [show settle .returning = .returning from rfl]
  refine leaves_cons (f := 203) (args := #[.pointer (some ⟨be, 0, none⟩), .pointer (some ⟨bo, 0, none⟩), .pointer (some ⟨bu, 0, none⟩)]) (by simp) (inv_fn Tryz.call203) ?_
  refine (Clos_ok be bo bu .returning w' (List.Mem.head _) hw').mono ?_
  rintro e u' w'' ⟨rfl, rfl, hw''⟩
  exact ⟨_, results_cells (tb := tb) (vs := [v1, .int .i64 x, .int .i64 0]) (ResV.one (tb := tb) rfl (by repeat (first | apply List.Mem.head | apply List.Mem.tail)) rfl rfl rfl (ResV.one (tb := tb) rfl (by repeat (first | apply List.Mem.head | apply List.Mem.tail)) rfl rfl rfl (ResV.one (tb := tb) rfl (by repeat (first | apply List.Mem.head | apply List.Mem.tail)) rfl rfl rfl ResV.nil))) ha hw'', hR w'' hw''.drop.drop.drop⟩
end
end Go.Proofs.YteelffkghidpfaaGreat

namespace Go.Proofs.YteelffkghidpfaaGreat
open Sx Go
set_option linter.unusedVariables false
set_option linter.unusedSimpArgs false
set_option maxRecDepth 100000
attribute [local irreducible] syA fc tk cds
theorem itF_ok {f : Nat → List Int → Stp} {a a' : Nat} {o o' : List Int} (h : itF f a o = .ok a' o') : It f a o (.ok a' o') := by
  unfold itF at h
  split at h
  · rename_i hex; rw [← h]; exact hex.choose_spec
  · cases h
theorem symS_ge {bt : Nat → Int} {N a a1 : Nat} {L : List Int} {i : Int} (h : symS bt N L a = .ok i a1) : a ≤ a1 := by
  unfold symS at h
  split at h
  · split at h
    · simp only [Sy.ok.injEq] at h; omega
    · cases h
  · cases h
theorem blk2_ge {bt : Nat → Int} {N lim a a' : Nat} {D o o' : List Int} {len : Int} (h : blk2 bt N lim D o len a = .go a' o') : a ≤ a' := by
  unfold blk2 at h
  split at h
  · cases h
  · rename_i d a2 hs
    have := symS_ge hs
    split at h
    · cases h
    · split at h
      · cases h
      · split at h
        · cases h
        · split at h
          · cases h
          · simp only [Stp.go.injEq] at h; omega
theorem blk2_stop {bt : Nat → Int} {N lim a a' : Nat} {D o o' : List Int} {len : Int} (h : blk2 bt N lim D o len a = .stop a' o') : False := by
  unfold blk2 at h
  split at h
  · cases h
  · split at h
    · cases h
    · split at h
      · cases h
      · split at h
        · cases h
        · split at h <;> cases h
theorem blkF_ge {bt : Nat → Int} {N lim a a' : Nat} {L D o o' : List Int} (h : blkF bt N lim L D a o = .go a' o' ∨ blkF bt N lim L D a o = .stop a' o') : a ≤ a' := by
  unfold blkF at h
  split at h
  · rcases h with h | h <;> cases h
  · rename_i i a1 hs
    have := symS_ge hs
    split at h
    · rcases h with h | h
      · cases h
      · simp only [Stp.stop.injEq] at h; omega
    · split at h
      · split at h
        · rcases h with h | h <;> cases h
        · rcases h with h | h
          · simp only [Stp.go.injEq] at h; omega
          · cases h
      · split at h
        · rcases h with h | h <;> cases h
        · split at h
          · rcases h with h | h <;> cases h
          · rcases h with h | h
            · have := blk2_ge h; omega
            · exact (blk2_stop h).elim
theorem It_ge {f : Nat → List Int → Stp} (hf : ∀ a o a' o', f a o = .go a' o' ∨ f a o = .stop a' o' → a ≤ a') {a : Nat} {o : List Int} {r : Res} (h : It f a o r) : ∀ a' o', r = .ok a' o' → a ≤ a' := by
  induction h with
  | err _ => intro a' o' h; cases h
  | stop h => intro a' o' h'; cases h'; exact hf _ _ _ _ (.inr h)
  | go h _ ih => intro a' o' h'; exact Nat.le_trans (hf _ _ _ _ (.inl h)) (ih a' o' h')
theorem lenP_ge {many : Nat} {l l' : List Int} {x t : Int} {a a' : Nat} (h : lenP many l x t a = .go a' l' ∨ lenP many l x t a = .stop a' l') : a = a' := by
  unfold lenP at h
  split at h
  · rcases h with h | h <;> cases h
  · rcases h with h | h
    · simp only [Stp.go.injEq] at h; exact h.1
    · cases h
theorem lenF_ge {bt : Nat → Int} {N a a' many : Nat} {C l l' : List Int} (h : lenF bt N C many a l = .go a' l' ∨ lenF bt N C many a l = .stop a' l') : a ≤ a' := by
  unfold lenF at h
  split at h
  · rcases h with h | h
    · cases h
    · simp only [Stp.stop.injEq] at h; omega
  · split at h
    · rcases h with h | h <;> cases h
    · rename_i i a1 hs
      have := symS_ge hs
      split at h
      · split at h
        · rcases h with h | h <;> cases h
        · split at h
          · rcases h with h | h <;> cases h
          · have := lenP_ge h; omega
      · split at h
        · split at h
          · rcases h with h | h <;> cases h
          · have := lenP_ge h; omega
        · split at h
          · split at h
            · rcases h with h | h <;> cases h
            · have := lenP_ge h; omega
          · have := lenP_ge h; omega
theorem kndF_ge {bt : Nat → Int} {N lim a a' : Nat} {o o' : List Int} {k : Int} (h : kndF bt N lim k a o = .ok a' o') : a ≤ a' := by
  unfold kndF at h
  split at h
  · unfold stoF at h
    split at h
    · cases h
    · split at h
      · cases h
      · split at h
        · cases h
        · split at h
          · cases h
          · split at h
            · cases h
            · simp only [Res.ok.injEq] at h
              have : a ≤ upto8 a := by unfold upto8; omega
              omega
  · split at h
    · exact It_ge (fun a o a' o' => blkF_ge) (itF_ok h) _ _ rfl
    · split at h
      · unfold desF at h
        split at h
        · cases h
        · split at h
          · cases h
          · split at h
            · cases h
            · unfold des1 at h
              split at h
              · cases h
              · split at h
                · cases h
                · split at h
                  · cases h
                  · split at h
                    · cases h
                    · rename_i a1 l1 hl1
                      have h1 := It_ge (fun a o a' o' => lenF_ge) (itF_ok hl1) _ _ rfl
                      unfold des2 at h
                      split at h
                      · cases h
                      · split at h
                        · cases h
                        · split at h
                          · cases h
                          · have := It_ge (fun a o a' o' => blkF_ge) (itF_ok h) _ _ rfl
                            omega
      · cases h
theorem perm5 (a b c d e : Asn) (L : List Asn) : (a :: b :: c :: d :: e :: L).Perm (d :: c :: a :: e :: b :: L) :=
  List.Perm.trans (List.perm_append_comm_assoc [a, b, c] [d] (e :: L)) (List.Perm.cons _ (List.Perm.trans (List.perm_append_comm_assoc [a, b] [c] (e :: L)) (List.Perm.cons _ (List.Perm.cons _ (List.Perm.swap _ _ _)))))
section
variable {w0 : World} {H : List Asn}
def kindC : List Value := [.func (.func 206) #[] #[], .func (.func 207) #[] #[], .func (.func 208) #[] #[]]
set_option maxRecDepth 10000 in
set_option maxHeartbeats 4000000 in
theorem IRead_c (p : Option Addr) (c m : Nat) (B : List Int) (hr : Rd w0 H (.slice p m c) m (ints .u8 B)) (hm : B.length = m) (hB : OKB B) (hm1 : m ≤ 140737488355328) (L : Int) (hL : -9223372036854775808 ≤ L ∧ L < 9223372036854775808) (w : World) (hw : St w0 H w) :
    Calls Tryz.prog 153 #[.slice p m c, .int .i64 L] w fun e w' => ((L < 0 ∨ 1048576 < L) ∧ e = .returned (.tuple #[.slice none 0 0, .int .i64 0, .int .i64 1]) ∧ St w0 H w') ∨
      (0 ≤ L ∧ L ≤ 1048576 ∧ ∃ r, ALLR B L.toNat r ∧ resP r (fun x => e = .returned (.tuple #[.slice none 0 0, .int .i64 0, .int .i64 x]) ∧ St w0 H w')
        (fun a o => a ≤ 8 * m ∧ o.length ≤ L.toNat ∧ ∃ p c, e = .returned (.tuple #[.slice p o.length c, .int .i64 ((a + 7) / 8 : Nat), .int .i64 0]) ∧ St w0 (vec 5 1 (.slice p o.length c) o.length (ints .u8 o) :: H) w')) := by
  refine enter (vs := [.slice p m c, .int .i64 L]) Tryz.func153 rfl rfl rfl hw ?_
  subst hm
  obtain ⟨m, hm⟩ : ∃ m, B.length = m := ⟨_, rfl⟩
  unfold ALLR
  rw [hm] at hr hm1 ⊢
  by_cases hbad : L < 0 ∨ 1048576 < L
  · have : (L < 0) ∨ (¬ L < 0 ∧ 1048576 < L) := by omega
    rcases this with h | ⟨h, h'⟩
    · repeat (refine sx ?_; try intro _)
      exact JS_retC (tb := tb) (vs := [.slice none 0 0, .int .i64 0, .int .i64 1]) Tryz.func153 rfl (ResV.one (tb := tb) rfl (by repeat (first | apply List.Mem.head | apply List.Mem.tail)) rfl rfl rfl (ResV.one (tb := tb) rfl (by repeat (first | apply List.Mem.head | apply List.Mem.tail)) rfl rfl rfl (ResV.one (tb := tb) rfl (by repeat (first | apply List.Mem.head | apply List.Mem.tail)) rfl rfl rfl ResV.nil))) fun w hw => .inl ⟨hbad, rfl, hw.drop.drop.drop⟩
    · repeat (refine sx ?_; try intro _)
      exact JS_retC (tb := tb) (vs := [.slice none 0 0, .int .i64 0, .int .i64 1]) Tryz.func153 rfl (ResV.one (tb := tb) rfl (by repeat (first | apply List.Mem.head | apply List.Mem.tail)) rfl rfl rfl (ResV.one (tb := tb) rfl (by repeat (first | apply List.Mem.head | apply List.Mem.tail)) rfl rfl rfl (ResV.one (tb := tb) rfl (by repeat (first | apply List.Mem.head | apply List.Mem.tail)) rfl rfl rfl ResV.nil))) fun w hw => .inl ⟨hbad, rfl, hw.drop.drop.drop⟩
  obtain ⟨lim, rfl⟩ : ∃ lim : Nat, L = lim := ⟨L.toNat, by omega⟩
  have hK : InfK m B lim := ⟨hm, hB, hm1, by omega⟩
  rw [Int.toNat_natCast]
  repeat (first | (apply gJR; (refine sx ?_; try intro _)) | (apply gJO; first | (refine JO_deferv rfl rfl rfl ?_) | (refine JO_defer rfl rfl ?_) | (refine JO_v (V_buildA (tb := tb) rfl rfl rfl rfl rfl) ?_) | (refine sx ?_; try intro _)) | apply JS_seq | apply JS_region | refine JS_condF rfl ?_ | refine JS_cond_F rfl (by omega) ?_ | apply JS_skip)
  rename_i bo bu be
  refine JO_call Tryz.call205 rfl rfl fun w hw => (New_c p c m B (Rd_weak hr fun w hw => dS hw) hm hB hm1 (hr.nil hw.drop.drop.drop) w hw).mono ?_
  rintro e w' ⟨br, q, d, rfl, hw'⟩
  refine ⟨_, rfl, _, hw', ?_⟩
  clear hw' hw w w'
  repeat (first | (apply gJR; (refine sx ?_; try intro _)) | (apply gJO; first | (refine JO_v (V_buildA (tb := tb) rfl rfl rfl rfl rfl) ?_) | (refine sx ?_; try intro _)) | apply JS_seq | apply JS_region)
  rename_i bf bk
  refine JS_block ?_
  refine JS_loop5 (fun (a : Nat) (o : List Int) (po : Option Addr) (co : Nat) (last : Int) => [(4, .pointer (some ⟨bo, 0, none⟩)), (5, .pointer (some ⟨bu, 0, none⟩)), (6, .pointer (some ⟨be, 0, none⟩)), (7, .pointer (some ⟨bf, 0, none⟩)), (8, .pointer (some ⟨bk, 0, none⟩)), (9, .int .i64 last)])
    (fun a o po co _ => infL bf br q d m B lim a po co o (blk bk kindC :: resC be bu bo H))
    (fun a o _ _ last => a ≤ 8 * m ∧ o.length ≤ lim ∧ ((last = 0 ∧ ∀ r, It (rdF (bitB B 0) (8 * m) lim) a o r → It (rdF (bitB B 0) (8 * m) lim) 0 [] r) ∨ (last ≠ 0 ∧ It (rdF (bitB B 0) (8 * m) lim) 0 [] (.ok a o))))
    (fun a _ _ _ _ => 8 * m - a) 0 [] none 0 0 ⟨Nat.zero_le _, Nat.zero_le _, .inl ⟨rfl, fun _ h => h⟩⟩ (by repeat (first | exact trivial | refine ⟨rfl, ?_⟩ | refine ⟨lookI rfl (by omega), ?_⟩)) ?_ ?_
  · intro w h
    exact (St.nilvec (e := 5) (sz := 1) (base := none) h).perm (perm5 _ _ _ _ _ _)
  intro a o po co last ⟨ha, ho, hinv⟩ again
  rcases hinv with ⟨rfl, hinv⟩ | ⟨hl0, hfin⟩
  · have hF : rdF (bitB B 0) (8 * m) lim a o = if 8 * m < a + 1 then .err 20
      else if 8 * m < a + 3 then .err 20
      else match kndF (bitB B 0) (8 * m) lim (nbt (bitB B 0) (a + 1) 2) (a + 3) o with
        | .err e => .err e
        | .ok a' o' => if nbt (bitB B 0) a 1 = 0 then .go a' o' else .stop a' o' := rfl
    obtain ⟨x1, hx1⟩ := Int.eq_ofNat_of_zero_le (nbt_bd (bitB B 0) (bitB_01 B 0) a 1).1
    have hb1 := (nbt_bd (bitB B 0) (bitB_01 B 0) a 1).2
    obtain ⟨k, hk⟩ := Int.eq_ofNat_of_zero_le (nbt_bd (bitB B 0) (bitB_01 B 0) (a + 1) 2).1
    have hb2 := (nbt_bd (bitB B 0) (bitB_01 B 0) (a + 1) 2).2
    rw [hx1] at hb1 hF
    rw [hk] at hb2 hF
    have hb1 : (x1 : Int) < 2 := hb1
    have hb2 : (k : Int) < 4 := hb2
    have err : ∀ {A : Act} {ov : Ov} {r : Int} {w' : World} {D : List Deferred}, It (rdF (bitB B 0) (8 * m) lim) 0 [] (.err r) → Rep Tryz.f153.ntmps D ov A → Sx.sub [(4, .pointer (some ⟨bo, 0, none⟩)), (5, .pointer (some ⟨bu, 0, none⟩)), (6, .pointer (some ⟨be, 0, none⟩))] ov → St w0 (blk bk kindC :: resC be bu bo H) w' →
        Leaves Tryz.prog Tryz.f153 A.tmps (fun e w' => (((lim : Int) < 0 ∨ 1048576 < (lim : Int)) ∧ e = .returned (.tuple #[.slice none 0 0, .int .i64 0, .int .i64 1]) ∧ St w0 H w') ∨
      (0 ≤ (lim : Int) ∧ (lim : Int) ≤ 1048576 ∧ ∃ r, It (rdF (bitB B 0) (8 * m) lim) 0 [] r ∧ resP r (fun x => e = .returned (.tuple #[.slice none 0 0, .int .i64 0, .int .i64 x]) ∧ St w0 H w')
        (fun a o => a ≤ 8 * m ∧ o.length ≤ lim ∧ ∃ p c, e = .returned (.tuple #[.slice p o.length c, .int .i64 ((a + 7) / 8 : Nat), .int .i64 0]) ∧ St w0 (vec 5 1 (.slice p o.length c) o.length (ints .u8 o) :: H) w'))) (defs be bu bo) (.panicking (FLT r)) w' := by
      intro A ov r w' D hi hA hs hw
      exact Lv_err (hA.sub hs) hw.drop fun w hw => .inr ⟨by omega, by omega, .err r, hi, rfl, hw⟩
    repeat (refine sx ?_; try intro _)
    refine JO_callE Tryz.func153 Tryz.call209 rfl rfl fun A hA w hw => (Grp_c hK a 1 (by omega) ha w hw).mono ?_
    rintro e w' (⟨h, rfl, hw'⟩ | ⟨h1, he, hw'⟩)
    · exact .inr ⟨_, rfl, err (hinv _ (.err (by rw [hF, if_pos h]))) hA (by repeat (first | exact trivial | refine ⟨rfl, ?_⟩ | refine ⟨lookI rfl (by omega), ?_⟩)) hw'⟩
    rw [hx1] at he; subst he
    refine .inl ⟨_, rfl, _, hw', ?_⟩
    clear hw' hw w w' hA A
    rw [if_neg (by omega)] at hF
    repeat (refine sx ?_; try intro _)
    refine JO_callE Tryz.func153 Tryz.call209 rfl rfl fun A hA w hw => (Grp_c hK (a + 1) 2 (by omega) h1 w hw).mono ?_
    rintro e w' (⟨h, rfl, hw'⟩ | ⟨h2, he, hw'⟩)
    · exact .inr ⟨_, rfl, err (hinv _ (.err (by rw [hF, if_pos (by omega)]))) hA (by repeat (first | exact trivial | refine ⟨rfl, ?_⟩ | refine ⟨lookI rfl (by omega), ?_⟩)) hw'⟩
    rw [hk] at he; subst he
    refine .inl ⟨_, rfl, _, hw', ?_⟩
    clear hw' hw w w' hA A
    rw [if_neg (by omega)] at hF
    have hgo : ∀ a' o', kndF (bitB B 0) (8 * m) lim k (a + 3) o = .ok a' o' → a' ≤ 8 * m → o'.length ≤ lim → (a' ≤ 8 * m ∧ o'.length ≤ lim ∧ (((x1 : Int) = 0 ∧ ∀ r, It (rdF (bitB B 0) (8 * m) lim) a' o' r → It (rdF (bitB B 0) (8 * m) lim) 0 [] r) ∨ ((x1 : Int) ≠ 0 ∧ It (rdF (bitB B 0) (8 * m) lim) 0 [] (.ok a' o')))) ∧ 8 * m - a' < 8 * m - a := by
      intro a' o' hkn h3 h4
      have hge := kndF_ge hkn
      rw [hkn] at hF
      simp only at hF
      refine ⟨⟨h3, h4, ?_⟩, by omega⟩
      by_cases h0 : (x1 : Int) = 0
      · rw [if_pos h0] at hF
        exact .inl ⟨h0, fun r hr => hinv r (.go hF hr)⟩
      · rw [if_neg h0] at hF
        exact .inr ⟨h0, hinv _ (.stop hF)⟩
    have herr : ∀ r, kndF (bitB B 0) (8 * m) lim k (a + 3) o = .err r → It (rdF (bitB B 0) (8 * m) lim) 0 [] (.err r) := by
      intro r hkn
      rw [hkn] at hF
      exact hinv _ (.err hF)
    clear hF hinv
    rcases (show k = 0 ∨ k = 1 ∨ k = 2 ∨ k = 3 by omega) with rfl | rfl | rfl | rfl
    · repeat (refine sx ?_; try intro _)
      refine JO_callvE (us := []) (cs := []) Tryz.func153 rfl Tryz.call206 rfl rfl fun A hA w hw => (Sto_c hK (a + 3) (by omega) ho w hw).mono ?_
      intro e w' h
      obtain ⟨r, hr⟩ : ∃ r, stoF (bitB B 0) (8 * m) lim (a + 3) o = r := ⟨_, rfl⟩
      rw [hr] at h
      cases r with
      | err r =>
        obtain ⟨rfl, hw'⟩ := h
        exact .inr ⟨_, rfl, err (herr r hr) hA (by repeat (first | exact trivial | refine ⟨rfl, ?_⟩ | refine ⟨lookI rfl (by omega), ?_⟩)) hw'⟩
      | ok a' o' =>
      obtain ⟨h3, h4, rfl, p', c', hw'⟩ := h
      obtain ⟨g1, g2⟩ := hgo a' o' hr h3 h4
      refine .inl ⟨_, rfl, _, hw', ?_⟩
      clear hw' hw w w' hA A
      repeat (refine sx ?_; try intro _)
      exact JS_again5 again a' o' p' c' x1 g1 g2 (by repeat (first | exact trivial | refine ⟨rfl, ?_⟩ | refine ⟨lookI rfl (by omega), ?_⟩)) (fun w hw => hw)
    · repeat (refine sx ?_; try intro _)
      refine JO_callvE (us := []) (cs := []) Tryz.func153 rfl Tryz.call207 rfl rfl fun A hA w hw => (Fix_c hK (a + 3) (by omega) ho w hw).mono ?_
      rintro e w' ⟨r, hr, h⟩
      cases r with
      | err r =>
        obtain ⟨rfl, hw'⟩ := h
        exact .inr ⟨_, rfl, err (herr r (itF_of hr)) hA (by repeat (first | exact trivial | refine ⟨rfl, ?_⟩ | refine ⟨lookI rfl (by omega), ?_⟩)) hw'⟩
      | ok a' o' =>
      obtain ⟨h3, h4, rfl, p', c', hw'⟩ := h
      obtain ⟨g1, g2⟩ := hgo a' o' (itF_of hr) h3 h4
      refine .inl ⟨_, rfl, _, hw', ?_⟩
      clear hw' hw w w' hA A
      repeat (refine sx ?_; try intro _)
      exact JS_again5 again a' o' p' c' x1 g1 g2 (by repeat (first | exact trivial | refine ⟨rfl, ?_⟩ | refine ⟨lookI rfl (by omega), ?_⟩)) (fun w hw => hw)
    · repeat (refine sx ?_; try intro _)
      refine JO_callvE (us := []) (cs := []) Tryz.func153 rfl Tryz.call208 rfl rfl fun A hA w hw => (Des_c hK (a + 3) (by omega) ho w hw).mono ?_
      intro e w' h
      obtain ⟨r, hr⟩ : ∃ r, desF (bitB B 0) (8 * m) lim (a + 3) o = r := ⟨_, rfl⟩
      rw [hr] at h
      cases r with
      | err r =>
        obtain ⟨rfl, hw'⟩ := h
        exact .inr ⟨_, rfl, err (herr r hr) hA (by repeat (first | exact trivial | refine ⟨rfl, ?_⟩ | refine ⟨lookI rfl (by omega), ?_⟩)) hw'⟩
      | ok a' o' =>
      obtain ⟨h3, h4, rfl, p', c', hw'⟩ := h
      obtain ⟨g1, g2⟩ := hgo a' o' hr h3 h4
      refine .inl ⟨_, rfl, _, hw', ?_⟩
      clear hw' hw w w' hA A
      repeat (refine sx ?_; try intro _)
      exact JS_again5 again a' o' p' c' x1 g1 g2 (by repeat (first | exact trivial | refine ⟨rfl, ?_⟩ | refine ⟨lookI rfl (by omega), ?_⟩)) (fun w hw => hw)
    · repeat (refine sx ?_; try intro _)
      refine JO_callE Tryz.func153 Tryz.call210 rfl rfl fun A hA w hw => (Give_c 60 w hw).mono ?_
      rintro e w' (⟨h, rfl, hw'⟩ | ⟨_, rfl, hw'⟩)
      · exact absurd h (by decide)
      · exact .inr ⟨_, rfl, err (herr 60 rfl) hA (by repeat (first | exact trivial | refine ⟨rfl, ?_⟩ | refine ⟨lookI rfl (by omega), ?_⟩)) (infL_drop hw')⟩
  · clear again
    repeat (first | (apply gJR; (refine sx ?_; try intro _)) | (apply gJO; (refine sx ?_; try intro _)) | apply JS_seq | apply JS_region | apply JS_skip | apply JS_block | apply JS_inBlock | refine JS_exit rfl ?_ | refine JS_condF rfl ?_)
    refine JS_order2 (infL bf br q d m B lim a po co o []) [0, 1, 2, 3, 4, 5, 6, 7, 8, 9, 10, 11, 12, 13] [] (fun w hw => St.sub (by repeat (first | exact List.nil_sublist _ | apply List.Sublist.cons_cons | apply List.Sublist.cons)) hw) (Picks.cons rfl (Picks.cons rfl (Picks.cons rfl (Picks.cons rfl (Picks.cons rfl (Picks.cons rfl (Picks.cons rfl (Picks.cons rfl (Picks.cons rfl (Picks.cons rfl (Picks.cons rfl (Picks.cons rfl (Picks.cons rfl (Picks.cons rfl (Picks.nil))))))))))))))) (by kernel_rfl) (by kernel_rfl) rfl (by decide +kernel) ?_
    repeat (first | (apply gQR2; apply QR2_un) | (apply gQO2; refine aQ2 ?_))
    refine QO2_callE Tryz.call211 rfl rfl fun w hw => (ReaderAt_c br _ a (by repeat (first | apply List.Mem.head | apply List.Mem.tail)) w hw).mono ?_
    rintro e w' ⟨rfl, hw'⟩
    refine .inl ⟨_, rfl, _, _, hw', fun w hw => St.sub (by repeat (first | exact List.nil_sublist _ | apply List.Sublist.cons_cons | apply List.Sublist.cons)) hw, .inl fun w hw => hw, ?_⟩
    clear hw' hw w w'
    repeat (first | (apply gQR2; first | apply QR2_un | apply QR2_nil) | (apply gQO2; first | refine aQ2 ?_ | (refine aK2 ?_ ?_; exact fun w hw => St.sub (by repeat (first | exact List.nil_sublist _ | apply List.Sublist.cons_cons | apply List.Sublist.cons)) hw)))
    have hx : ((a : Int) + 7) / 8 = (((a + 7) / 8 : Nat) : Int) := by omega
    simp only [hx]
    refine JS_retD Tryz.func153 fun A w hA hw => Lv_ok (H := vec 5 1 (.slice po o.length co) o.length (ints .u8 o) :: H) (hA.sub (by repeat (first | exact trivial | refine ⟨rfl, ?_⟩ | refine ⟨lookI rfl (by omega), ?_⟩))) (St.perm (H := vec 5 1 (.slice po o.length co) o.length (ints .u8 o) :: blk be [.int .i64 0] :: blk bu [.int .i64 ((a + 7) / 8 : Nat)] :: blk bo [.slice po o.length co] :: H) (dS hw) (List.perm_append_comm_assoc [_] [_, _, _] H)) fun w hw => ?_
    exact .inr ⟨by omega, by omega, .ok a o, hfin, ha, ho, po, co, rfl, hw⟩
end
end Go.Proofs.YteelffkghidpfaaGreat

namespace Go.Proofs.YteelffkghidpfaaGreat
open Sx Go
set_option linter.unusedVariables false
set_option linter.unusedSimpArgs false
set_option maxRecDepth 100000
attribute [local irreducible] syA fc tk cds
section
variable {w0 : World} {H : List Asn}
theorem RUp_c (a : Nat) (ha : a ≤ 4611686018427387904) (w : World) (hw : St w0 H w) :
    Calls Tryz.prog 179 #[.int .i64 a] w fun e w' => e = .returned (.int .i64 (upto8 a : Nat)) ∧ St w0 H w' := by
  refine enter (vs := [.int .i64 a]) Tryz.func179 rfl rfl rfl hw ?_
  repeat (first | (apply gJR; (refine sx ?_; try intro _)) | (apply gJO; (refine sx ?_; try intro _)) | apply JS_seq | apply JS_region)
  refine JS_block ?_
  refine JS_loop1 (fun (x : Nat) => [(0, .int .i64 x)]) (fun _ => H) (fun x => x ≤ upto8 a ∧ upto8 x = upto8 a) (fun x => upto8 a - x) a ⟨by unfold upto8; omega, rfl⟩ (by repeat (first | exact trivial | refine ⟨rfl, ?_⟩ | refine ⟨lookI rfl (by omega), ?_⟩)) (fun _ h => h) ?_
  intro x ⟨hx, hxu⟩ again
  have hu : upto8 a ≤ a + 7 := by unfold upto8; omega
  by_cases h : x % 8 = 0
  · clear again
    have hxe : upto8 x = x := by unfold upto8; omega
    repeat (refine sx ?_; try intro _)
    refine JS_ret Tryz.func179 rfl rfl fun w hw => ⟨?_, hw⟩
    rw [← hxu, hxe]; rfl
  · have hxe : upto8 (x + 1) = upto8 x ∧ x + 1 ≤ upto8 x := by unfold upto8; omega
    repeat (refine sx ?_; try intro _)
    exact JS_again1 again (x + 1) ⟨by omega, by omega⟩ (by omega) (by repeat (first | exact trivial | refine ⟨rfl, ?_⟩ | refine ⟨lookI rfl (by omega), ?_⟩)) (fun w hw => hw)
theorem nbt_low (bt : Nat → Int) (a : Nat) : ∀ c, nbt bt a (c + 1) = bt a + 2 * nbt bt (a + 1) c
  | 0 => by simp [nbt]
  | c + 1 => by
    have ih := nbt_low bt a c
    rw [nbt, ih, nbt, show a + 1 + c = a + (c + 1) by omega, Int.pow_succ, ← Int.mul_assoc, Int.mul_add]
    omega
theorem pw31 (i : Nat) (h : i ≤ 31) : (1 : Int) ≤ 2 ^ i ∧ (2 : Int) ^ i ≤ 2147483648 := by
  have : ∀ k : Fin 32, (1 : Int) ≤ 2 ^ k.val ∧ (2 : Int) ^ k.val ≤ 2147483648 := by decide
  exact this ⟨i, by omega⟩
set_option maxHeartbeats 1000000 in
theorem RNum_c (p : Option Addr) (c k : Nat) (X : List Int) (hr : Rd w0 H (.slice p k c) k (ints .u8 X)) (hX : X.length = k) (h01 : ∀ j, X.getD j 0 = 0 ∨ X.getD j 0 = 1) (hk : k ≤ 31) (w : World) (hw : St w0 H w) :
    Calls Tryz.prog 178 #[.slice p k c] w fun e w' => e = .returned (.int .u32 (nbt (fun j => X.getD j 0) 0 k)) ∧ St w0 H w' := by
  refine enter (vs := [.slice p k c]) Tryz.func178 rfl rfl rfl hw ?_
  repeat (first | (apply gJR; (refine sx ?_; try intro _)) | (apply gJO; (refine sx ?_; try intro _)) | apply JS_seq | apply JS_region)
  refine JS_block ?_
  refine JS_loop1 (fun (r : Nat) => [(0, .slice p k c), (3, .int .u32 (nbt (fun j => X.getD j 0) r (k - r))), (4, .int .i64 ((r : Int) - 1))]) (fun _ => H) (fun r => r ≤ k) (fun r => r) k (Nat.le_refl _) (by rw [Nat.sub_self]; exact ⟨rfl, rfl, rfl, trivial⟩) (fun _ h => h) ?_
  intro r hrk again
  by_cases h0 : r = 0
  · subst h0
    clear again
    repeat (refine sx ?_; try intro _)
    exact JS_ret Tryz.func178 rfl rfl fun w hw => ⟨rfl, hw⟩
  · obtain ⟨s, rfl⟩ : ∃ s, r = s + 1 := ⟨r - 1, by omega⟩
    have hlo := nbt_low (fun j => X.getD j 0) s (k - (s + 1))
    rw [show k - (s + 1) + 1 = k - s by omega] at hlo
    obtain ⟨b0, b1⟩ := nbt_bd (fun j => X.getD j 0) h01 (s + 1) (k - (s + 1))
    obtain ⟨q0, q1⟩ := pw31 (k - (s + 1)) (by omega)
    have hpw : (2 : Int) ^ (k - (s + 1)) ≤ 1073741824 := by
      have : ∀ k : Fin 31, (2 : Int) ^ k.val ≤ 1073741824 := by decide
      exact this ⟨k - (s + 1), by omega⟩
    have gi : (ints .u8 X)[s]? = some (.int .u8 (X.getD s 0)) := ints_get (by omega)
    have hs01 := h01 s
    try simp only at hlo
    have es : (((s + 1 : Nat) : Int) - 1) = s := by omega
    simp only [es]
    generalize nbt (fun j => X.getD j 0) (s + 1) (k - (s + 1)) = v at *
    generalize X.getD s 0 = y at *
    repeat (first | (apply gJO; refine JO_v (V_loadC (tb := tb) rfl hr rfl rfl gi rfl) ?_) | (refine sx ?_; try intro _))
    refine JS_again1 again s (by omega) (by omega) ?_ (fun w hw => hw)
    refine ⟨rfl, ?_, rfl, trivial⟩
    exact lookI rfl (by rw [hlo]; omega)
abbrev strL (bs : Nat) (q : Option Addr) (d m : Nat) (B : List Int) (lim : Int) (a : Nat) (po : Option Addr) (co : Nat) (o : List Int) (E : Int) (H : List Asn) : List Asn :=
  blk bs [.slice q (8 * m) d, .int .i64 a, .slice po o.length co, .int .i64 lim, .int .i64 E] :: vec 5 1 (.slice po o.length co) o.length (ints .u8 o) :: vec 5 1 (.slice q (8 * m) d) (8 * m) (ints .u8 (bitsL B m)) :: H
variable {bs : Nat} {q : Option Addr} {d m : Nat} {B : List Int} {lim : Nat} {po : Option Addr} {co : Nat} {o : List Int}
theorem RFail_c (x : Int) (a : Nat) (E : Int) (w : World) (hw : St w0 (strL bs q d m B lim a po co o E H) w) :
    Calls Tryz.prog 183 #[.pointer (some ⟨bs, 0, none⟩), .int .i64 x] w fun e w' => e = .returned (.tuple #[]) ∧ St w0 (strL bs q d m B lim a po co o (if E = 0 then x else E) H) w' := by
  refine enter (vs := [.pointer (some ⟨bs, 0, none⟩), .int .i64 x]) Tryz.func183 rfl rfl rfl hw ?_
  by_cases h : E = 0
  · rw [if_pos h]
    repeat (refine sx ?_; try intro _)
    exact JS_fin Tryz.func183 rfl rfl fun w hw => ⟨rfl, hw⟩
  · rw [if_neg h]
    repeat (refine sx ?_; try intro _)
    exact JS_fin Tryz.func183 rfl rfl fun w hw => ⟨rfl, hw⟩
theorem RGrpE_c (c : Int) (a : Nat) (E : Int) (hE : E ≠ 0) (w : World) (hw : St w0 (strL bs q d m B lim a po co o E H) w) :
    Calls Tryz.prog 132 #[.pointer (some ⟨bs, 0, none⟩), .int .i64 c] w fun e w' => e = .returned (.int .i64 0) ∧ St w0 (strL bs q d m B lim a po co o E H) w' := by
  refine enter (vs := [.pointer (some ⟨bs, 0, none⟩), .int .i64 c]) Tryz.func132 rfl rfl rfl hw ?_
  repeat (refine sx ?_; try intro _)
  exact JS_ret Tryz.func132 rfl rfl fun w hw => ⟨rfl, hw⟩
set_option maxHeartbeats 1000000 in
theorem RGrp4_c (hK : InfK m B lim) (a c : Nat) (hc : c ≤ 16) (ha : a ≤ 8 * m) (hm2 : m ≤ 17592186044410) (w : World) (hw : St w0 (strL bs q d m B lim a po co o 0 H) w) :
    Calls Tryz.prog 132 #[.pointer (some ⟨bs, 0, none⟩), .int .i64 c] w fun e w' => (8 * m < a + c ∧ e = .returned (.int .i64 0) ∧ St w0 (strL bs q d m B lim a po co o 20 H) w') ∨
      (a + c ≤ 8 * m ∧ e = .returned (.int .i64 (nbt (bitB B 0) a c)) ∧ St w0 (strL bs q d m B lim (a + c) po co o 0 H) w') := by
  refine enter (vs := [.pointer (some ⟨bs, 0, none⟩), .int .i64 c]) Tryz.func132 rfl rfl rfl hw ?_
  have hbl := bitsL_len B m
  by_cases h : 8 * m < a + c
  · repeat (refine sx ?_; try intro _)
    exact JS_ret Tryz.func132 rfl rfl fun w hw => .inl ⟨h, rfl, hw⟩
  have hcap : ∀ w, St w0 (strL bs q d m B lim a po co o 0 H) w → a + c ≤ d := fun w hw => by
    have := (Rd.lcap (vec_rd (e := 5) (size := 1) (v := .slice q (8 * m) d) (n := 8 * m) (cs := ints .u8 (bitsL B m)) (by repeat (first | apply List.Mem.head | apply List.Mem.tail))) hw).1; omega
  repeat (first | (apply gJR; (refine sx ?_; try intro _)) | (apply gJO; (refine sx ?_; try intro _)) | (apply gQR; (refine sx ?_; try intro _)) | (apply gQO; first | refine QO_v rfl (V_slice (tb := tb) (lo := a) (hi := a + c) rfl rfl rfl rfl rfl (by rfl) (by rfl) (fun w hw => ⟨by omega, hcap w hw⟩) rfl) ?_ | (refine sx ?_; try intro _)) | (apply gJS; (refine sx ?_; try intro _)))
  have e1 : a + c - a = c := by omega
  simp only [e1]
  have hrs := Rd_sub (lo := a) (hi := a + c) (sz := 1) (vec_rd (w0 := w0) (H := strL bs q d m B lim a po co o 0 H) (e := 5) (size := 1) (v := .slice q (8 * m) d) (n := 8 * m) (cs := ints .u8 (bitsL B m)) (by repeat (first | apply List.Mem.head | apply List.Mem.tail))) (by omega) (by omega)
  simp only [e1, Nat.mul_one, ints_drop, ints_take] at hrs
  have hget : ∀ j, j < c → (((bitsL B m).drop a).take c).getD j 0 = bitB B 0 (a + j) := fun j hj => by
    rw [List.getD_eq_getElem?_getD, List.getElem?_take, if_pos hj, List.getElem?_drop, ← List.getD_eq_getElem?_getD]
    exact bitsL_get B m (a + j) (by omega)
  have h01 : ∀ j, (((bitsL B m).drop a).take c).getD j 0 = 0 ∨ (((bitsL B m).drop a).take c).getD j 0 = 1 := fun j => by
    by_cases hj : j < c
    · rw [hget j hj]; exact bitB_01 _ _ _
    · left; rw [List.getD_eq_getElem?_getD, List.getElem?_eq_none (by rw [List.length_take, List.length_drop]; omega)]; rfl
  have hnum : nbt (fun j => (((bitsL B m).drop a).take c).getD j 0) 0 c = nbt (bitB B 0) a c := nbt_congr (fun j hj => by rw [Nat.zero_add]; exact hget j hj)
  refine QO_call Tryz.call178 rfl rfl fun w hw => (RNum_c _ _ c _ hrs (by rw [List.length_take, List.length_drop]; omega) h01 (by omega) w hw).mono ?_
  rintro e w' ⟨rfl, hw'⟩
  rw [hnum]
  refine ⟨_, rfl, _, hw', .inl fun w hw => hw, ?_⟩
  clear hw' hw w w' hrs
  obtain ⟨b0, b1⟩ := nbt_bd (bitB B 0) (bitB_01 B 0) a c
  have hp := (pw16 c hc).2
  generalize nbt (bitB B 0) a c = v at *
  repeat (refine sx ?_; try intro _)
  exact JS_ret Tryz.func132 rfl rfl fun w hw => .inr ⟨by omega, rfl, hw⟩
end
end Go.Proofs.YteelffkghidpfaaGreat

set_option linter.unusedVariables false
set_option linter.unusedSimpArgs false
set_option maxRecDepth 100000
namespace Go.Proofs.YteelffkghidpfaaGreat
open Sx Go
theorem bnum_cut (f : Nat → Int) : ∀ (k d : Nat), (∀ t, k ≤ t → f t = 0) → bnum f (k + d) = bnum f k
  | k, 0, _ => rfl
  | k, d + 1, h => by
    rw [← Nat.add_assoc, bnum, bnum_cut f k d h, h (k + d) (by omega)]; simp
theorem byteAt_cut (L : List Int) (j k : Nat) (hk : k = min L.length (8 * j + 8) - 8 * j) (hj : 8 * j ≤ L.length) : nbt (fun t => ((L.drop (8 * j)).take k).getD t 0) 0 k = byteAt L j := by
  have e : ∀ t, t < k → ((L.drop (8 * j)).take k).getD (0 + t) 0 = L.getD (8 * j + t) 0 := fun t ht => by
    rw [Nat.zero_add, List.getD_eq_getElem?_getD, List.getElem?_take, if_pos ht, List.getElem?_drop, ← List.getD_eq_getElem?_getD]
  rw [← bnum_nbt, num_congr k e]
  unfold byteAt
  have h8 : k ≤ 8 := by omega
  rcases Nat.lt_or_ge k 8 with h | h
  · have hz : ∀ t, k ≤ t → L.getD (8 * j + t) 0 = 0 := fun t ht => by
      rw [List.getD_eq_getElem?_getD, List.getElem?_eq_none (by omega)]; rfl
    rw [← bnum_cut (fun t => L.getD (8 * j + t) 0) k (8 - k) hz, show k + (8 - k) = 8 by omega]
  · rw [show k = 8 by omega]
section
attribute [local irreducible] byteAt
variable {w0 : World} {H : List Asn}
set_option maxRecDepth 10000 in
set_option maxHeartbeats 2000000 in
theorem RBytes_c (p : Option Addr) (c m : Nat) (L : List Int) (hr : Rd w0 H (.slice p m c) m (ints .u8 L)) (hm : L.length = m) (hL : ∀ j, L.getD j 0 = 0 ∨ L.getD j 0 = 1) (h4 : m ≤ 100000000) (w : World) (hw : St w0 H w) :
    Calls Tryz.prog 175 #[.slice p m c] w fun e w' => ∃ q d, e = .returned (.slice q (pack L).length d) ∧ St w0 (vec 5 1 (.slice q (pack L).length d) (pack L).length (ints .u8 (pack L)) :: H) w' := by
  have hmc : m ≤ c := (hr.lcap hw).1
  refine enter (vs := [.slice p m c]) Tryz.func175 rfl rfl rfl hw ?_
  clear hw w
  repeat (refine sx ?_; try intro _)
  refine JS_loop3 (fun (j : Nat) (q : Option Addr) (d : Nat) => [(0, .slice p m c), (3, .slice q j d), (4, .int .i64 ((8 * j : Nat) : Int))]) (fun j q d => vec 5 1 (.slice q j d) j (ints .u8 (tab j (byteAt L))) :: H) (fun j q d => j ≤ (m + 7) / 8) (fun j _ _ => (m + 7) / 8 - j) 0 none 0 (by omega) (by repeat (first | exact trivial | refine ⟨rfl, ?_⟩ | refine ⟨lookI rfl (by omega), ?_⟩)) (fun w h => St.nilvec h) ?_
  intro j q d hj again
  by_cases hjm : 8 * j < m
  · obtain ⟨k, hk⟩ : ∃ k, min m (8 * j + 8) = 8 * j + k := ⟨min m (8 * j + 8) - 8 * j, by omega⟩
    have hmin : min (m : Int) (((8 * j : Nat) : Int) + 8) = ((8 * j + k : Nat) : Int) := by omega
    have hrow : Rd w0 H (.slice (subB p (8 * j) c 1) (8 * j + k - 8 * j) (c - 8 * j)) (8 * j + k - 8 * j) (ints .u8 ((L.drop (8 * j)).take k)) := by
      have := Rd_sub (lo := 8 * j) (hi := 8 * j + k) (sz := 1) hr (by omega) (by omega)
      rw [Nat.mul_one, Nat.mul_one] at this
      unfold ints at this ⊢
      rw [List.map_take, List.map_drop]
      rwa [Nat.add_sub_cancel_left] at this ⊢
    rw [Nat.add_sub_cancel_left] at hrow
    have hby := byteAt_cut L j k (by omega) (by omega)
    have hbd := byteAt_bd L hL j
    have hX01 : ∀ t, ((L.drop (8 * j)).take k).getD t 0 = 0 ∨ ((L.drop (8 * j)).take k).getD t 0 = 1 := fun t => by
      rw [List.getD_eq_getElem?_getD, List.getElem?_take]
      split
      · rw [List.getElem?_drop, ← List.getD_eq_getElem?_getD]; exact hL _
      · exact .inl rfl
    have hXl : ((L.drop (8 * j)).take k).length = k := by rw [List.length_take, List.length_drop]; omega
    repeat (first | (apply gJO; refine JO_v (oc_min (V_min rfl rfl hmin rfl)) ?_) | (apply gJO; refine JO_v (V_slice (tb := tb) (lo := 8 * j) (hi := 8 * j + k) rfl rfl rfl rfl rfl rfl rfl (fun w hw => ⟨by omega, by omega⟩) rfl) ?_) | (refine sx ?_; try intro _))
    rw [Nat.add_sub_cancel_left]
    have htl : (tab j (byteAt L)).length = j := tab_len _ _
    refine JO_call Tryz.call178 rfl rfl fun w hw => (RNum_c (subB p (8 * j) c 1) (c - 8 * j) k ((L.drop (8 * j)).take k) (Rd_weak hrow fun w hw => dS hw) hXl hX01 (by omega) w hw).mono ?_
    rw [hby]
    rintro e w' ⟨rfl, hw'⟩
    refine ⟨_, rfl, _, hw', ?_⟩
    clear hw' hw w w'
    repeat (first | (apply gJO; (refine JO_app (tb := tb) rfl rfl rfl rfl rfl rfl (by repeat (first | exact Sel.here _ _ | apply Sel.there)) (by first | exact vec_rd (by repeat (first | apply List.Mem.head | apply List.Mem.tail)) | assumption | exact ArgRd.rd (by assumption) _ | (apply Rd_weak; assumption; intro _ hx; exact dS hx)) (by simp only [ints_len, List.length_cons, List.length_nil]; first | omega | rfl) (by first | exact ints_one | (repeat (first | exact trivial | refine ⟨rfl, ?_⟩))) (by omega) rfl ?_; intro _ _)) | (refine sx ?_; try intro _))
    rename_i ps q2 d2
    rw [show ((8 * j : Nat) : Int) + 8 = ((8 * (j + 1) : Nat) : Int) by omega]
    exact JS_again3 again (j + 1) q2 d2 (by omega) (by omega) (by repeat (first | exact trivial | refine ⟨rfl, ?_⟩ | refine ⟨lookI rfl (by omega), ?_⟩)) (fun w hw => by rw [tab_succ, ← ints_app]; exact dS hw)
  · clear again
    have hjf : j = (m + 7) / 8 := by omega
    have hpk : tab j (byteAt L) = pack L := by unfold pack; rw [hm, hjf]
    have hpl : (pack L).length = j := by rw [pack_len, hm, hjf]
    rw [hpk, hpl]
    repeat (refine sx ?_; try intro _)
    refine JS_ret Tryz.func175 rfl rfl fun w hw => ⟨q, d, rfl, hw⟩
end
end Go.Proofs.YteelffkghidpfaaGreat

namespace Go.Proofs.YteelffkghidpfaaGreat
open Sx Go
set_option linter.unusedVariables false
set_option linter.unusedSimpArgs false
set_option maxRecDepth 100000
attribute [local irreducible] syA
theorem V_eqStr1 {n : Nat} {D : List Deferred} {w0 : World} {ov : Ov} {H : List Asn} {d : Option Nat} {T T1 T2 : Nat} {pos : String} {af : Array Edge} {g : Option (Nat × Bool)} {x y : Operand} {s : ByteArray}
    (hx : ev ov x = some (.string s)) (hy : ev ov y = some (.string s)) (hd : dOk d n = true) : OpV Tryz.prog n D w0 ov H ⟨d, .binOp .eql T1 x y T2, T, pos, af, g⟩ (.bool true) := by
  unfold OpV
  exact ⟨hd, fun a w ha _ => by simp [execOp, ha.ev hx, ha.ev hy, eqGuard, binOp, Op.stringOp]⟩
theorem ALLR.one {B : List Int} {lim : Nat} {r r' : Res} (h : ALLR B lim r) (h' : ALLR B lim r') : r = r' := It.one h h'
theorem okb_small {B : List Int} (h : B.all (fun x => decide (0 ≤ x ∧ x < 256)) = true) : OKB B := OKB_of h
section
variable {w0 : World} {H : List Asn}
end
end Go.Proofs.YteelffkghidpfaaGreat

set_option linter.unusedVariables false
set_option linter.unusedSimpArgs false
set_option maxRecDepth 100000
namespace Go.Proofs.YteelffkghidpfaaGreat
open Sx Go
def bestB (B : List Int) : List Int := if (sbs B).length < (pack (fixL B)).length then sbs B else pack (fixL B)
section
attribute [local irreducible] sbs pack fixL
variable {w0 : World} {H : List Asn}
set_option maxRecDepth 10000 in
theorem DBest_c (p : Option Addr) (c m : Nat) (B : List Int) (hr : Rd w0 H (.slice p m c) m (ints .u8 B)) (hm : B.length = m) (hB : OKB B) (h4 : m ≤ 1100000) (w : World) (hw : St w0 H w) :
    Calls Tryz.prog 80 #[.slice p m c] w fun e w' => ∃ q d, e = .returned (.slice q (bestB B).length d) ∧ St w0 (vec 5 1 (.slice q (bestB B).length d) (bestB B).length (ints .u8 (bestB B)) :: H) w' := by
  refine enter (vs := [.slice p m c]) Tryz.func80 rfl rfl rfl hw ?_
  clear hw w
  repeat (refine sx ?_; try intro _)
  refine JO_call Tryz.call121 rfl rfl fun w hw => (DFixed_c p c m B hr hm hB h4 w hw).mono ?_
  rintro e w' ⟨q1, d1, rfl, hw'⟩
  refine ⟨_, rfl, _, hw', ?_⟩
  clear hw' hw w w'
  repeat (refine sx ?_; try intro _)
  refine JO_call Tryz.call122 rfl rfl fun w hw => (DStored_c p c m B (Rd_weak hr fun w hw => dS hw) hm hB h4 w hw).mono ?_
  rintro e w' ⟨q2, d2, rfl, hw'⟩
  refine ⟨_, rfl, _, hw', ?_⟩
  clear hw' hw w w'
  unfold bestB
  by_cases hlt : (sbs B).length < (pack (fixL B)).length
  · rw [if_pos hlt]
    repeat (refine sx ?_; try intro _)
    exact JS_ret Tryz.func80 rfl rfl fun w hw => ⟨q2, d2, rfl, dS hw⟩
  · rw [if_neg hlt]
    repeat (refine sx ?_; try intro _)
    exact JS_ret Tryz.func80 rfl rfl fun w hw => ⟨q1, d1, rfl, dS hw⟩
end
end Go.Proofs.YteelffkghidpfaaGreat

set_option linter.unusedVariables false
set_option linter.unusedSimpArgs false
set_option maxRecDepth 100000
namespace Go.Proofs.YteelffkghidpfaaGreat
open Sx Go
theorem fx_bits (k : Nat) (hk : k < 288) : ∃ x : Nat, fxB.getD k 0 = x ∧ 7 ≤ x ∧ x ≤ 9 ∧ 0 ≤ fxC.getD k 0 ∧ fxC.getD k 0 < 2 ^ x ∧ fxC.getD k 0 < 4294967296 ∧ fxS k = bms (fxC.getD k 0) x := by
  obtain ⟨x, h1, h2, h3, h4, h5⟩ := fx_at k hk
  have : ∀ k : Fin 10, (2 : Int) ^ k.val ≤ 512 := by decide
  have := this ⟨x, by omega⟩
  simp only [] at this
  exact ⟨x, h1, h2, h3, h4, h5, by omega, by unfold fxS; rw [h1, Int.toNat_natCast]⟩
theorem spC_id : ∀ k : Fin 32, spC.getD k.val 0 = k.val := by decide +kernel
theorem sp_bits (k : Nat) (hk : k < 32) : spS k = bms k 5 := by
  unfold spS; rw [spC_id ⟨k, hk⟩]
theorem grp_3 : grp 1 1 ++ grp 1 2 = [1, 1, 0] := by decide +kernel
theorem tkv_get {l : List (Int × Nat × Nat)} {i : Nat} (h : i < l.length) : (tkv l)[i * 3 + 0]? = some (.int .u8 (l[i]'h).1) ∧ (tkv l)[i * 3 + 1]? = some (.int .i64 (l[i]'h).2.1) ∧ (tkv l)[i * 3 + 2]? = some (.int .i64 (l[i]'h).2.2) := by
  have ha := tkv_at h
  have hg : ∀ j, j < 3 → (tkv l)[i * 3 + j]? = ([.int .u8 (l[i]'h).1, .int .i64 (l[i]'h).2.1, .int .i64 (l[i]'h).2.2] : List Value)[j]? := fun j hj => by
    rw [← ha, List.getElem?_take, if_pos hj, List.getElem?_drop]
  exact ⟨hg 0 (by omega), hg 1 (by omega), hg 2 (by omega)⟩
section
attribute [local irreducible] grp bms fxS spS lenS spanS toks tkv tkb cds pack
variable {w0 : World} {H : List Asn}
set_option maxRecDepth 10000 in
set_option maxHeartbeats 4000000 in
theorem RFixed8_c (p : Option Addr) (c m : Nat) (B : List Int) (hr : Rd w0 H (.slice p m c) m (ints .u8 B)) (hm : B.length = m) (hB : OKB B) (h4 : m ≤ 1100000) (w : World) (hw : St w0 H w) :
    Calls Tryz.prog 124 #[.slice p m c] w fun e w' => ∃ q d, e = .returned (.slice q (pack (fixL B)).length d) ∧ St w0 (vec 5 1 (.slice q (pack (fixL B)).length d) (pack (fixL B)).length (ints .u8 (pack (fixL B))) :: H) w' := by
  refine enter (vs := [.slice p m c]) Tryz.func124 rfl rfl rfl hw ?_
  clear hw w
  repeat (refine sx ?_; try intro _)
  refine JO_call Tryz.call135 rfl rfl fun w hw => (RFixed_c w hw).mono ?_
  rintro e w' ⟨pl, cl, rfl, hw'⟩
  rw [fxB_eq] at hw'
  refine ⟨_, rfl, _, hw', ?_⟩
  clear hw' hw w w'
  repeat (refine sx ?_; try intro _)
  refine JO_call Tryz.call169 rfl rfl fun w hw => (RCodes_c pl cl 288 fxB (vec_rd (e := 5) (size := 1) (by repeat (first | apply List.Mem.head | apply List.Mem.tail))) fxB_len fxB_okb (by omega) w hw).mono ?_
  rw [fxC_eq]
  rintro e w' ⟨pa, ca, rfl, hw'⟩
  refine ⟨_, rfl, _, hw', ?_⟩
  clear hw' hw w w'
  repeat (refine sx ?_; try intro _)
  refine JO_call Tryz.call170 rfl rfl fun w hw => (RFind_c p c m B (Rd_weak hr fun w hw => dS hw) hm hB h4 w hw).mono ?_
  rintro e w' ⟨qt, dt, rfl, hw'⟩
  have hT := toks_TOK hB m 0
  have hTl := toks_len (B := B) m 0
  have hfix : fixL B = grp 1 1 ++ grp 1 2 ++ (toks B m 0).flatMap tkb ++ fxS 256 := by unfold fixL; rw [hm]
  obtain ⟨l, hl⟩ : ∃ l, toks B m 0 = l := ⟨_, rfl⟩
  rw [hl] at hT hTl hfix hw' ⊢
  refine ⟨_, rfl, _, hw', ?_⟩
  clear hw' hw w w'
  repeat (refine sx ?_; try intro _)
  rename_i p3
  have h0 : grp 1 1 ++ grp 1 2 ++ (l.take 0).flatMap tkb = [1, 1, 0] := by rw [List.take_zero, List.flatMap_nil, List.append_nil, grp_3]
  refine JS_loop4 (fun (i : Nat) (O : List Int) (q : Option Addr) (d : Nat) => [(0, .slice p m c), (3, .slice pl 288 cl), (4, .slice pa 288 ca), (5, .slice q O.length d), (6, .slice qt l.length dt), (7, .int .i64 i)])
    (fun i O q d => vec 5 1 (.slice q O.length d) O.length (ints .u8 O) :: vec 218 3 (.slice qt l.length dt) l.length (tkv l) :: vec 31 1 (.slice pa 288 ca) 288 (ints .u32 fxC) :: vec 5 1 (.slice pl 288 cl) 288 (ints .u8 fxB) :: H)
    (fun i O q d => i ≤ l.length ∧ O = grp 1 1 ++ grp 1 2 ++ (l.take i).flatMap tkb ∧ O.length ≤ 32 * i + 3) (fun i _ _ _ => l.length - i) 0 [1, 1, 0] (some p3) 3 ⟨Nat.zero_le _, h0.symm, by simp⟩ (by repeat (first | exact trivial | refine ⟨rfl, ?_⟩ | refine ⟨lookI rfl (by omega), ?_⟩)) (fun w hw => hw.perm (by (repeat (first | exact List.Perm.refl _ | refine List.Perm.cons _ ?_ | refine (List.perm_middle (l₁ := [_])).trans (List.Perm.cons _ ?_) | refine (List.perm_middle (l₁ := [_, _])).trans (List.Perm.cons _ ?_) | refine (List.perm_middle (l₁ := [_, _, _])).trans (List.Perm.cons _ ?_) | refine (List.perm_middle (l₁ := [_, _, _, _])).trans (List.Perm.cons _ ?_) | refine (List.perm_middle (l₁ := [_, _, _, _, _])).trans (List.Perm.cons _ ?_) | refine (List.perm_middle (l₁ := [_, _, _, _, _, _])).trans (List.Perm.cons _ ?_) | refine (List.perm_middle (l₁ := [_, _, _, _, _, _, _])).trans (List.Perm.cons _ ?_) | refine (List.perm_middle (l₁ := [_, _, _, _, _, _, _, _])).trans (List.Perm.cons _ ?_) | refine (List.perm_middle (l₁ := [_, _, _, _, _, _, _, _, _])).trans (List.Perm.cons _ ?_) | refine (List.perm_middle (l₁ := [_, _, _, _, _, _, _, _, _, _])).trans (List.Perm.cons _ ?_) | refine (List.perm_middle (l₁ := [_, _, _, _, _, _, _, _, _, _, _])).trans (List.Perm.cons _ ?_) | refine (List.perm_middle (l₁ := [_, _, _, _, _, _, _, _, _, _, _, _])).trans (List.Perm.cons _ ?_) | refine (List.perm_middle (l₁ := [_, _, _, _, _, _, _, _, _, _, _, _, _])).trans (List.Perm.cons _ ?_))))) ?_
  intro i O q d ⟨hi, hO, hOl⟩ again
  by_cases hil : i < l.length
  · obtain ⟨g0, g1, g2⟩ := tkv_get hil
    have htk := tkbs_take hil
    have hTi := hT _ (List.getElem_mem hil)
    obtain ⟨t, ht⟩ : ∃ t, l[i] = t := ⟨_, rfl⟩
    rw [ht] at g0 g1 g2 htk hTi
    have hO2 : O ++ tkb t = grp 1 1 ++ grp 1 2 ++ (l.take (i + 1)).flatMap tkb := by rw [htk, hO, List.append_assoc]
    have htl := tkb_len hTi
    have hO3 : (O ++ tkb t).length ≤ 32 * (i + 1) + 3 := by rw [List.length_append]; omega
    obtain ⟨x, n, k⟩ := t
    obtain ⟨o, ho⟩ : ∃ o, O.length = o := ⟨_, rfl⟩
    rw [ho] at hOl ⊢
    simp only [] at g0 g1 g2
    rcases hTi with ⟨h1, h2, h3, h5⟩ | ⟨h1, h2, h3, h5, h6⟩
    · simp only [] at h1 h2 h3 h5
      subst h3; subst h5
      obtain ⟨x', rfl⟩ : ∃ x' : Nat, x = x' := ⟨x.toNat, by omega⟩
      obtain ⟨xl, f1, f2, f3, f4, f5, f6, f7⟩ := fx_bits x' (by omega)
      have gC : (ints .u32 fxC)[x']? = some (.int .u32 (fxC.getD x' 0)) := ints_get (by rw [fxC_len]; omega)
      have gL : (ints .u8 fxB)[x']? = some (.int .u8 xl) := by rw [← f1]; exact ints_get (by rw [fxB_len]; omega)
      have htb : tkb ((x' : Int), 0, 0) = bms (fxC.getD x' 0) xl := by unfold tkb; rw [if_pos rfl, ← f7]; rfl
      rw [htb] at hO2 hO3
      have hbl := bms_ln (fxC.getD x' 0) xl
      repeat (first | (apply gJO; refine JO_v (oL (V_loadC (tb := tb) rfl (vec_rd (e := 218) (size := 3) (by repeat (first | apply List.Mem.head | apply List.Mem.tail))) rfl rfl g2 rfl)) ?_) | (apply gQO; refine QO_v rfl (oL (V_loadC (tb := tb) rfl (vec_rd (e := 218) (size := 3) (by repeat (first | apply List.Mem.head | apply List.Mem.tail))) rfl rfl g0 rfl)) ?_) | (apply gQO; refine QO_v rfl (oL (V_loadC (tb := tb) rfl (vec_rd (e := 31) (size := 1) (by repeat (first | apply List.Mem.head | apply List.Mem.tail))) rfl rfl gC rfl)) ?_) | (apply gQO; refine QO_v rfl (oL (V_loadC (tb := tb) rfl (vec_rd (e := 5) (size := 1) (n := 288) (by repeat (first | apply List.Mem.head | apply List.Mem.tail))) rfl rfl gL rfl)) ?_) | (refine sx ?_; try intro _))
      refine QO_call Tryz.call171 rfl rfl fun w hw => (Bits5_c (fxC.getD x' 0) xl ⟨f4, f6⟩ (by omega) w hw).mono ?_
      rintro e w' ⟨qb, db, rfl, hw'⟩
      refine ⟨_, rfl, _, hw', .inl fun w hw => dS hw, ?_⟩
      clear hw' hw w w'
      repeat (first | (apply gQO; (refine QO_e (E_appendB (tb := tb) rfl rfl rfl rfl rfl rfl (by repeat (first | exact Sel.here _ _ | apply Sel.there)) (by first | exact vec_rd (by repeat (first | apply List.Mem.head | apply List.Mem.tail)) | assumption | exact ArgRd.rd (by assumption) _ | (apply Rd_weak; assumption; intro _ hx; exact dS hx)) (by simp only [ints_len, List.length_cons, List.length_nil]; first | omega | rfl) (by first | exact ints_one | (repeat (first | exact trivial | refine ⟨rfl, ?_⟩))) (by omega) (by omega) rfl) rfl (.inr fun _ _ hw => vecB_back (by repeat (first | exact Sel.here _ _ | apply Sel.there)) hw) ?_; intro _)) | (refine sx ?_; try intro _))
      rename_i pc
      have hlq : (O ++ bms (fxC.getD x' 0) xl).length = o + xl := by rw [List.length_append, ho, hbl]
      exact JS_again4 again (i + 1) (O ++ bms (fxC.getD x' 0) xl) pc.1 pc.2 ⟨by omega, hO2, hO3⟩ (by omega) (by rw [hlq]; exact (by repeat (first | exact trivial | refine ⟨rfl, ?_⟩ | refine ⟨lookI rfl (by omega), ?_⟩))) (fun w hw => by rw [hlq, ← ints_app]; exact dS (vecB_fwd (Sel.there _ _ _ _ (Sel.here _ _)) hw))
    · simp only [] at h1 h2 h3 h5 h6
      obtain ⟨s, nb, r, e1, a1, a2, a3, a4, a5, _⟩ := lenS_bd n (by omega) (by omega)
      obtain ⟨s', nb', r', e2, c1, c3, c4, c5, _⟩ := spanS_bd k (by omega) (by omega)
      have htb : tkb (x, n, k) = fxS s ++ grp r nb ++ spS s' ++ grp r' nb' := by
        unfold tkb
        simp only []
        rw [if_neg (by omega), e1, e2]
        simp only [Int.toNat_natCast]
      obtain ⟨xl, f1, f2, f3, f4, f5, f6, f7⟩ := fx_bits s (by omega)
      have hs5 := sp_bits s' (by omega)
      rw [htb, f7, hs5] at hO2 hO3
      have gC : (ints .u32 fxC)[s]? = some (.int .u32 (fxC.getD s 0)) := ints_get (by rw [fxC_len]; omega)
      have gL : (ints .u8 fxB)[s]? = some (.int .u8 xl) := by rw [← f1]; exact ints_get (by rw [fxB_len]; omega)
      have p5 : ∀ k : Fin 14, (2 : Int) ^ k.val ≤ 8192 := by decide
      have q1 := p5 ⟨nb, by omega⟩
      have q2 := p5 ⟨nb', by omega⟩
      simp only [] at q1 q2
      have hbl := bms_ln (fxC.getD s 0) xl
      have hgl := grp_len r nb
      have hbl2 := bms_ln s' 5
      have hgl2 := grp_len r' nb'
      have r1 : r < 4294967296 := by omega
      have r2 : r' < 4294967296 := by omega
      repeat (first | (apply gJO; refine JO_v (oL (V_loadC (tb := tb) rfl (vec_rd (e := 218) (size := 3) (by repeat (first | apply List.Mem.head | apply List.Mem.tail))) rfl rfl g2 rfl)) ?_) | (apply gJO; refine JO_v (oL (V_loadC (tb := tb) rfl (vec_rd (e := 218) (size := 3) (by repeat (first | apply List.Mem.head | apply List.Mem.tail))) rfl rfl g1 rfl)) ?_) | (refine sx ?_; try intro _))
      refine JO_call Tryz.call172 rfl rfl fun w hw => (RLength_c n (by omega) w hw).mono ?_
      rw [e1]
      dsimp only
      rintro e w' ⟨rfl, hw'⟩
      refine ⟨_, rfl, _, hw', ?_⟩
      clear hw' hw w w'
      repeat (first | (apply gQO; refine QO_v rfl (oL (V_loadC (tb := tb) rfl (vec_rd (e := 31) (size := 1) (by repeat (first | apply List.Mem.head | apply List.Mem.tail))) rfl rfl gC rfl)) ?_) | (apply gQO; refine QO_v rfl (oL (V_loadC (tb := tb) rfl (vec_rd (e := 5) (size := 1) (n := 288) (by repeat (first | apply List.Mem.head | apply List.Mem.tail))) rfl rfl gL rfl)) ?_) | (refine sx ?_; try intro _))
      refine QO_call Tryz.call171 rfl rfl fun w hw => (Bits5_c (fxC.getD s 0) xl ⟨f4, f6⟩ (by omega) w hw).mono ?_
      rintro e w' ⟨qb, db, rfl, hw'⟩
      refine ⟨_, rfl, _, hw', .inl fun w hw => dS hw, ?_⟩
      clear hw' hw w w'
      repeat (first | apply hIx 12 | (apply gQO; (refine QO_e (E_appendB (tb := tb) rfl rfl rfl rfl rfl rfl (by repeat (first | exact Sel.here _ _ | apply Sel.there)) (by first | exact vec_rd (by repeat (first | apply List.Mem.head | apply List.Mem.tail)) | assumption | exact ArgRd.rd (by assumption) _ | (apply Rd_weak; assumption; intro _ hx; exact dS hx)) (by simp only [ints_len, List.length_cons, List.length_nil]; first | omega | rfl) (by first | exact ints_one | (repeat (first | exact trivial | refine ⟨rfl, ?_⟩))) (by omega) (by omega) rfl) rfl (.inr fun _ _ hw => vecB_back (by repeat (first | exact Sel.here _ _ | apply Sel.there)) hw) ?_; intro _)) | (refine sx ?_; try intro _))
      refine Hold.go ?_
      rename_i pc
      refine JS_H (fun w hw => vecB_fwd (Sel.there _ _ _ _ (Sel.here _ _)) hw) ?_
      rw [ints_app]
      have l1 : (O ++ bms (fxC.getD s 0) xl).length = o + xl := by rw [List.length_append, ho, hbl]
      repeat (refine sx ?_; try intro _)
      refine JO_call Tryz.call173 rfl rfl fun w hw => (Group4_c r nb ⟨a4, r1⟩ (by omega) (by omega) w hw).mono ?_
      rintro e w' ⟨qg, dg, rfl, hw'⟩
      refine ⟨_, rfl, _, hw', ?_⟩
      clear hw' hw w w'
      repeat (first | (apply gJO; (refine JO_app (tb := tb) rfl rfl rfl rfl rfl rfl (by repeat (first | exact Sel.here _ _ | apply Sel.there)) (by first | exact vec_rd (by repeat (first | apply List.Mem.head | apply List.Mem.tail)) | assumption | exact ArgRd.rd (by assumption) _ | (apply Rd_weak; assumption; intro _ hx; exact dS hx)) (by simp only [ints_len, List.length_cons, List.length_nil]; first | omega | rfl) (by first | exact ints_one | (repeat (first | exact trivial | refine ⟨rfl, ?_⟩))) (by omega) rfl ?_; intro _ _)) | (apply gJO; refine JO_v (oL (V_loadC (tb := tb) rfl (vec_rd (e := 218) (size := 3) (by repeat (first | apply List.Mem.head | apply List.Mem.tail))) rfl rfl g2 rfl)) ?_) | (refine sx ?_; try intro _))
      rename_i qh dh
      rw [ints_app]
      have l2 : (O ++ bms (fxC.getD s 0) xl ++ grp r nb).length = o + xl + nb := by rw [List.length_append, l1, hgl]
      refine JO_call Tryz.call174 rfl rfl fun w hw => (RSpan_c k (by omega) w hw).mono ?_
      rw [e2]
      dsimp only
      rintro e w' ⟨rfl, hw'⟩
      refine ⟨_, rfl, _, hw', ?_⟩
      clear hw' hw w w'
      repeat (refine sx ?_; try intro _)
      refine JO_call Tryz.call171 rfl rfl fun w hw => (Bits5_c s' 5 (by omega) (by omega) w hw).mono ?_
      rintro e w' ⟨qi, di, rfl, hw'⟩
      refine ⟨_, rfl, _, hw', ?_⟩
      clear hw' hw w w'
      repeat (first | (apply gJO; (refine JO_app (tb := tb) rfl rfl rfl rfl rfl rfl (by repeat (first | exact Sel.here _ _ | apply Sel.there)) (by first | exact vec_rd (by repeat (first | apply List.Mem.head | apply List.Mem.tail)) | assumption | exact ArgRd.rd (by assumption) _ | (apply Rd_weak; assumption; intro _ hx; exact dS hx)) (by simp only [ints_len, List.length_cons, List.length_nil]; first | omega | rfl) (by first | exact ints_one | (repeat (first | exact trivial | refine ⟨rfl, ?_⟩))) (by omega) rfl ?_; intro _ _)) | (refine sx ?_; try intro _))
      rename_i qj dj
      rw [ints_app]
      have l3 : (O ++ bms (fxC.getD s 0) xl ++ grp r nb ++ bms s' 5).length = o + xl + nb + 5 := by rw [List.length_append, l2, hbl2]
      refine JO_call Tryz.call173 rfl rfl fun w hw => (Group4_c r' nb' ⟨c4, r2⟩ (by omega) (by omega) w hw).mono ?_
      rintro e w' ⟨qk, dk, rfl, hw'⟩
      refine ⟨_, rfl, _, hw', ?_⟩
      clear hw' hw w w'
      repeat (first | (apply gJO; (refine JO_app (tb := tb) rfl rfl rfl rfl rfl rfl (by repeat (first | exact Sel.here _ _ | apply Sel.there)) (by first | exact vec_rd (by repeat (first | apply List.Mem.head | apply List.Mem.tail)) | assumption | exact ArgRd.rd (by assumption) _ | (apply Rd_weak; assumption; intro _ hx; exact dS hx)) (by simp only [ints_len, List.length_cons, List.length_nil]; first | omega | rfl) (by first | exact ints_one | (repeat (first | exact trivial | refine ⟨rfl, ?_⟩))) (by omega) rfl ?_; intro _ _)) | (refine sx ?_; try intro _))
      rename_i qm dm
      rw [ints_app]
      have l4 : (O ++ bms (fxC.getD s 0) xl ++ grp r nb ++ bms s' 5 ++ grp r' nb').length = o + xl + nb + 5 + nb' := by rw [List.length_append, l3, hgl2]
      have ea : O ++ (bms (fxC.getD s 0) xl ++ grp r nb ++ bms s' 5 ++ grp r' nb') = O ++ bms (fxC.getD s 0) xl ++ grp r nb ++ bms s' 5 ++ grp r' nb' := by simp only [List.append_assoc]
      rw [ea] at hO2 hO3
      exact JS_again4 again (i + 1) (O ++ bms (fxC.getD s 0) xl ++ grp r nb ++ bms s' 5 ++ grp r' nb') qm dm ⟨by omega, hO2, hO3⟩ (by omega) (by rw [l4]; exact (by repeat (first | exact trivial | refine ⟨rfl, ?_⟩ | refine ⟨lookI rfl (by omega), ?_⟩))) (fun w hw => by rw [l4]; exact dS hw)
  · obtain rfl : i = l.length := by omega
    clear again
    rw [List.take_length] at hO
    obtain ⟨xl, f1, f2, f3, f4, f5, f6, f7⟩ := fx_bits 256 (by omega)
    have gC : (ints .u32 fxC)[256]? = some (.int .u32 (fxC.getD 256 0)) := ints_get (by rw [fxC_len]; omega)
    have gL : (ints .u8 fxB)[256]? = some (.int .u8 xl) := by rw [← f1]; exact ints_get (by rw [fxB_len]; omega)
    have hbl := bms_ln (fxC.getD 256 0) xl
    have hO2 : O ++ bms (fxC.getD 256 0) xl = fixL B := by rw [← f7, hO, hfix]
    obtain ⟨o, ho⟩ : ∃ o, O.length = o := ⟨_, rfl⟩
    rw [ho] at hOl ⊢
    have hln : (fixL B).length = o + xl := by rw [← hO2, List.length_append, ho, hbl]
    repeat (first | (apply gQO; refine QO_v rfl (oL (V_loadC (tb := tb) rfl (vec_rd (e := 31) (size := 1) (by repeat (first | apply List.Mem.head | apply List.Mem.tail))) rfl rfl gC rfl)) ?_) | (apply gQO; refine QO_v rfl (oL (V_loadC (tb := tb) rfl (vec_rd (e := 5) (size := 1) (n := 288) (by repeat (first | apply List.Mem.head | apply List.Mem.tail))) rfl rfl gL rfl)) ?_) | (refine sx ?_; try intro _))
    refine QO_call Tryz.call171 rfl rfl fun w hw => (Bits5_c (fxC.getD 256 0) xl ⟨f4, f6⟩ (by omega) w hw).mono ?_
    rintro e w' ⟨qb, db, rfl, hw'⟩
    refine ⟨_, rfl, _, hw', .inl fun w hw => dS hw, ?_⟩
    clear hw' hw w w'
    repeat (first | apply hIx 17 | (apply gQO; (refine QO_e (E_appendB (tb := tb) rfl rfl rfl rfl rfl rfl (by repeat (first | exact Sel.here _ _ | apply Sel.there)) (by first | exact vec_rd (by repeat (first | apply List.Mem.head | apply List.Mem.tail)) | assumption | exact ArgRd.rd (by assumption) _ | (apply Rd_weak; assumption; intro _ hx; exact dS hx)) (by simp only [ints_len, List.length_cons, List.length_nil]; first | omega | rfl) (by first | exact ints_one | (repeat (first | exact trivial | refine ⟨rfl, ?_⟩))) (by omega) (by omega) rfl) rfl (.inr fun _ _ hw => vecB_back (by repeat (first | exact Sel.here _ _ | apply Sel.there)) hw) ?_; intro _)) | (refine sx ?_; try intro _))
    refine Hold.go ?_
    rename_i pc
    refine JS_H (fun w hw => vecB_fwd (Sel.there _ _ _ _ (Sel.here _ _)) hw) ?_
    rw [ints_app, hO2]
    repeat (refine sx ?_; try intro _)
    refine JO_call Tryz.call175 rfl rfl fun w hw => (RBytes_c pc.1 pc.2 (o + xl) (fixL B) (vec_rd (by repeat (first | apply List.Mem.head | apply List.Mem.tail))) hln (fixL_01 B) (by omega) w hw).mono ?_
    rintro e w' ⟨q4, d4, rfl, hw'⟩
    refine ⟨_, rfl, _, hw', ?_⟩
    clear hw' hw w w'
    repeat (refine sx ?_; try intro _)
    refine JS_ret Tryz.func124 rfl rfl fun w hw => ⟨q4, d4, rfl, dS hw⟩
end
end Go.Proofs.YteelffkghidpfaaGreat

namespace Go.Proofs.YteelffkghidpfaaGreat
open Sx Go
set_option linter.unusedVariables false
set_option linter.unusedSimpArgs false
set_option maxRecDepth 100000
attribute [local irreducible] syA
theorem nbt_app (bt : Nat → Int) (a c : Nat) : ∀ d, nbt bt a (c + d) = nbt bt a c + nbt bt (a + c) d * 2 ^ c
  | 0 => by simp [nbt]
  | d + 1 => by
    rw [← Nat.add_assoc, nbt, nbt_app bt a c d, nbt, show a + (c + d) = a + c + d by omega, Int.pow_add, Int.add_mul, Int.add_assoc, Int.mul_assoc, Int.mul_comm (2 ^ d) (2 ^ c)]
theorem nbt_16 (B : List Int) (hB : OKB B) (j : Nat) : nbt (bitB B 0) (8 * j) 16 = B.getD j 0 + 256 * B.getD (j + 1) 0 := by
  rw [show (16 : Nat) = 8 + 8 from rfl, nbt_app, nbt_byte B hB j, show 8 * j + 8 = 8 * (j + 1) by omega, nbt_byte B hB (j + 1)]
  have : (2 : Int) ^ 8 = 256 := by decide
  rw [this]; omega
theorem nbt_hd (B : List Int) (hB : OKB B) (j : Nat) : nbt (bitB B 0) (8 * j) 1 = B.getD j 0 % 2 ∧ nbt (bitB B 0) (8 * j + 1) 2 = B.getD j 0 / 2 % 4 := by
  have h := hB j
  simp only [nbt, bitB, Nat.zero_add]
  have e : ∀ t, t < 8 → (8 * j + t) / 8 = j ∧ (8 * j + t) % 8 = t := fun t ht => by omega
  rw [(e 0 (by omega)).1, (e 0 (by omega)).2, show 8 * j + 1 + 0 = 8 * j + 1 from rfl, show 8 * j + 1 + 1 = 8 * j + 2 from rfl, (e 1 (by omega)).1, (e 1 (by omega)).2, (e 2 (by omega)).1, (e 2 (by omega)).2]
  simp only [Int.reducePow]
  omega
def stb (X : List Int) : List Int := [0, (X.length : Int) % 256, (X.length : Int) / 256, 255 - (X.length : Int) % 256, 255 - (X.length : Int) / 256] ++ X
def stbs : List (List Int) → List Int
  | [] => []
  | X :: r => stb X ++ stbs r
def alls : List (List Int) → List Int
  | [] => []
  | X :: r => X ++ alls r
theorem getD_app_r {A C : List Int} {k : Nat} : (A ++ C).getD (A.length + k) 0 = C.getD k 0 := by
  rw [List.getD_eq_getElem?_getD, List.getElem?_append_right (by omega), ← List.getD_eq_getElem?_getD]
  congr 1; omega
end Go.Proofs.YteelffkghidpfaaGreat

set_option linter.unusedVariables false
set_option linter.unusedSimpArgs false
set_option maxRecDepth 100000
namespace Go.Proofs.YteelffkghidpfaaGreat
open Sx Go
attribute [local irreducible] syA
theorem hd5_len (la n : Int) : (hd5 la n).length = 5 := rfl
theorem sto_stepL {P X S : List Int} {lim : Nat} {o : List Int} {la : Int} (hla : la = 0 ∨ la = 1) (hB : OKB (P ++ (hd5 la X.length ++ X ++ S))) (hX : X.length ≤ 65535) (hl : o.length + X.length ≤ lim) :
    rdF (bitB (P ++ (hd5 la X.length ++ X ++ S)) 0) (8 * (P ++ (hd5 la X.length ++ X ++ S)).length) lim (8 * P.length) o = if la = 0 then .go (8 * (P.length + (5 + X.length))) (o ++ X) else .stop (8 * (P.length + (5 + X.length))) (o ++ X) := by
  obtain ⟨B, hBe⟩ : ∃ B, P ++ (hd5 la X.length ++ X ++ S) = B := ⟨_, rfl⟩
  have hlen : B.length = P.length + (5 + X.length) + S.length := by rw [← hBe]; simp only [List.length_append, hd5_len]; omega
  have g : ∀ k, k < 5 → B.getD (P.length + k) 0 = (hd5 la X.length).getD k 0 := by
    intro k hk
    rw [← hBe, getD_app_r, List.append_assoc, List.getD_eq_getElem?_getD, List.getElem?_append_left (by rw [hd5_len]; omega), ← List.getD_eq_getElem?_getD]
  have g0 : B.getD P.length 0 = la := by have := g 0 (by omega); simpa [hd5] using this
  have g1 : B.getD (P.length + 1) 0 = (X.length : Int) % 256 := by rw [g 1 (by omega)]; simp [hd5]
  have g2 : B.getD (P.length + 2) 0 = (X.length : Int) / 256 := by rw [g 2 (by omega)]; simp [hd5]
  have g3 : B.getD (P.length + 3) 0 = 255 - (X.length : Int) % 256 := by rw [g 3 (by omega)]; simp [hd5]
  have g4 : B.getD (P.length + 4) 0 = 255 - (X.length : Int) / 256 := by rw [g 4 (by omega)]; simp [hd5]
  rw [hBe] at hB ⊢
  have hrow : (B.drop (P.length + 5)).take X.length = X := by
    rw [← hBe, ← List.drop_drop, List.drop_left, List.append_assoc, show (5 : Nat) = (hd5 la X.length).length from rfl, List.drop_left, List.take_left]
  obtain ⟨h1, h2⟩ := nbt_hd B hB P.length
  have hu : upto8 (8 * P.length + 3) = 8 * (P.length + 1) := by unfold upto8; omega
  have n1 : nbt (bitB B 0) (8 * (P.length + 1)) 16 = X.length := by rw [nbt_16 B hB, g1, show P.length + 1 + 1 = P.length + 2 from rfl, g2]; omega
  have n2 : nbt (bitB B 0) (8 * (P.length + 1) + 16) 16 = 65535 - X.length := by rw [show 8 * (P.length + 1) + 16 = 8 * (P.length + 3) by omega, nbt_16 B hB, g3, show P.length + 3 + 1 = P.length + 4 from rfl, g4]; omega
  have hby : byts (bitB B 0) (8 * (P.length + 1) + 32) X.length = X := by
    rw [show 8 * (P.length + 1) + 32 = 8 * (P.length + 5) by omega, byts_eq B hB _ _ (by omega), hrow]
  have hk : kndF (bitB B 0) (8 * B.length) lim 0 (8 * P.length + 3) o = .ok (8 * (P.length + (5 + X.length))) (o ++ X) := by
    unfold kndF
    rw [if_pos rfl]
    unfold stoF
    rw [hu, n1, n2, if_neg (by omega), if_neg (by omega), if_neg (by omega), if_neg (by omega), if_neg (by omega), Int.toNat_natCast, hby]
    congr 1; omega
  unfold rdF
  have hla2 : la / 2 % 4 = 0 := by omega
  rw [if_neg (by omega), if_neg (by omega), h1, h2, g0, hla2, hk]
  simp only
  rcases hla with rfl | rfl
  · rw [if_pos (by decide), if_pos rfl]
  · rw [if_neg (by decide), if_neg (by decide)]
theorem sb_len : ∀ f X, X.length < f → (sb f X).length = X.length + 5 * (if X.length ≤ 65535 then 1 else 1 + (X.length - 1) / 65535) := by
  intro f
  induction f with
  | zero => intro X h; omega
  | succ f ih =>
    intro X h
    rw [sb]
    split
    · rw [List.length_append, hd5_len]; omega
    · have := ih (X.drop 65535) (by rw [List.length_drop]; omega)
      rw [List.length_append, List.length_append, hd5_len, List.length_take, this, List.length_drop]
      split <;> omega
theorem stored_ItL {lim : Nat} {S : List Int} : ∀ (f : Nat) (X P o : List Int), X.length < f → OKB (P ++ (sb f X ++ S)) → o.length + X.length ≤ lim →
    It (rdF (bitB (P ++ (sb f X ++ S)) 0) (8 * (P ++ (sb f X ++ S)).length) lim) (8 * P.length) o (.ok (8 * (P.length + (sb f X).length)) (o ++ X))
  | 0, X, P, o, h, _, _ => absurd h (by omega)
  | f + 1, X, P, o, h, hB, hl => by
    rw [sb] at hB ⊢
    by_cases hX : X.length ≤ 65535
    · rw [if_pos hX] at hB ⊢
      have h1 := sto_stepL (P := P) (X := X) (S := S) (o := o) (lim := lim) (.inr rfl) hB hX hl
      rw [if_neg (by decide)] at h1
      have e : P.length + (hd5 1 X.length ++ X).length = P.length + (5 + X.length) := by rw [List.length_append, hd5_len]
      rw [e]
      exact .stop h1
    · rw [if_neg hX] at hB ⊢
      have ht : (X.take 65535).length = 65535 := by rw [List.length_take]; omega
      have hd : (X.drop 65535).length = X.length - 65535 := List.length_drop ..
      have e0 : P ++ (hd5 0 65535 ++ X.take 65535 ++ sb f (X.drop 65535) ++ S) = P ++ (hd5 0 (X.take 65535).length ++ X.take 65535 ++ (sb f (X.drop 65535) ++ S)) := by
        rw [ht]; simp only [List.append_assoc]; rfl
      have e1 : P ++ (hd5 0 (X.take 65535).length ++ X.take 65535 ++ (sb f (X.drop 65535) ++ S)) = (P ++ (hd5 0 65535 ++ X.take 65535)) ++ (sb f (X.drop 65535) ++ S) := by
        rw [ht]; simp only [List.append_assoc]; rfl
      rw [e0] at hB ⊢
      have h1 := sto_stepL (P := P) (X := X.take 65535) (S := sb f (X.drop 65535) ++ S) (o := o) (lim := lim) (.inl rfl) hB (by omega) (by omega)
      rw [if_pos rfl] at h1
      have h2 := stored_ItL (S := S) (lim := lim) f (X.drop 65535) (P ++ (hd5 0 65535 ++ X.take 65535)) (o ++ X.take 65535) (by omega) (by rw [← e1]; exact hB) (by rw [List.length_append]; omega)
      rw [← e1] at h2
      have e2 : (P ++ (hd5 0 65535 ++ X.take 65535)).length = P.length + (5 + (X.take 65535).length) := by rw [List.length_append, List.length_append, hd5_len]
      have e3 : o ++ X.take 65535 ++ X.drop 65535 = o ++ X := by rw [List.append_assoc, List.take_append_drop]
      rw [e2, e3] at h2
      refine .go h1 ?_
      have e4 : P.length + (hd5 0 65535 ++ X.take 65535 ++ sb f (X.drop 65535)).length = P.length + (5 + (X.take 65535).length) + (sb f (X.drop 65535)).length := by
        rw [List.length_append, List.length_append, hd5_len]; omega
      rw [e4]
      exact h2
theorem ALLR_sbs {X S : List Int} {lim : Nat} (hB : OKB (sbs X ++ S)) (hl : X.length ≤ lim) : ALLR (sbs X ++ S) lim (.ok (8 * (sbs X).length) X) := by
  have := stored_ItL (S := S) (lim := lim) (X.length + 1) X [] [] (by omega) (by rw [List.nil_append]; exact hB) (by simpa using hl)
  unfold ALLR
  have e : 8 * (([] : List Int).length + (sb (X.length + 1) X).length) = 8 * (sbs X).length := by simp [sbs]
  rw [e] at this
  exact this
theorem sbs_okb {X : List Int} (hX : OKB X) : OKB (sbs X) := by
  have key : ∀ f X, OKB X → ∀ x ∈ sb f X, 0 ≤ x ∧ x < 256 := by
    intro f
    induction f with
    | zero => intro X _ x hx; rw [sb] at hx; simp at hx
    | succ f ih =>
      intro X hX x hx
      have hmem : ∀ Y : List Int, OKB Y → ∀ y ∈ Y, 0 ≤ y ∧ y < 256 := fun Y hY y hy => by
        obtain ⟨i, hi, rfl⟩ := List.mem_iff_getElem.1 hy
        have := hY i
        rwa [List.getD_eq_getElem?_getD, List.getElem?_eq_getElem hi] at this
      rw [sb] at hx
      split at hx
      · rcases List.mem_append.1 hx with h | h
        · exact hd5_okb (.inr rfl) ⟨by omega, by omega⟩ x h
        · exact hmem X hX x h
      · rcases List.mem_append.1 hx with h | h
        · rcases List.mem_append.1 h with h | h
          · exact hd5_okb (.inl rfl) ⟨by omega, by omega⟩ x h
          · exact hmem X hX x (List.mem_of_mem_take h)
        · exact ih (X.drop 65535) (fun j => by rw [List.getD_eq_getElem?_getD, List.getElem?_drop, ← List.getD_eq_getElem?_getD]; exact hX _) x h
  intro j
  rcases Nat.lt_or_ge j (sbs X).length with h | h
  · rw [List.getD_eq_getElem?_getD, List.getElem?_eq_getElem h]
    exact key _ X hX _ (List.getElem_mem h)
  · rw [List.getD_eq_getElem?_getD, List.getElem?_eq_none h]; decide
end Go.Proofs.YteelffkghidpfaaGreat

set_option linter.unusedVariables false
set_option linter.unusedSimpArgs false
set_option maxRecDepth 100000
namespace Go.Proofs.YteelffkghidpfaaGreat
open Sx Go
def txt (B : List Int) (wide : Bool) : List Int := (B.take 300).map fun x => if wide then x else x % 3
theorem pack_okb' (L : List Int) (hL : ∀ j, L.getD j 0 = 0 ∨ L.getD j 0 = 1) : OKB (pack L) := fun j => by
  unfold pack tab
  rw [List.getD_eq_getElem?_getD, List.getElem?_map]
  rcases Nat.lt_or_ge j ((L.length + 7) / 8) with h | h
  · rw [List.getElem?_range h]; exact byteAt_bd L hL j
  · rw [List.getElem?_eq_none (by simpa using h)]; simp
section
variable {w0 : World} {H : List Asn}
set_option maxRecDepth 10000 in
theorem RBest_c (p : Option Addr) (c m : Nat) (B : List Int) (hr : Rd w0 H (.slice p m c) m (ints .u8 B)) (hm : B.length = m) (hB : OKB B) (h4 : m ≤ 1100000) (w : World) (hw : St w0 H w) :
    Calls Tryz.prog 82 #[.slice p m c] w fun e w' => ∃ q d, e = .returned (.slice q (bestB B).length d) ∧ St w0 (vec 5 1 (.slice q (bestB B).length d) (bestB B).length (ints .u8 (bestB B)) :: H) w' := by
  refine enter (vs := [.slice p m c]) Tryz.func82 rfl rfl rfl hw ?_
  clear hw w
  repeat (refine sx ?_; try intro _)
  refine JO_call Tryz.call124 rfl rfl fun w hw => (RFixed8_c p c m B hr hm hB h4 w hw).mono ?_
  rintro e w' ⟨q1, d1, rfl, hw'⟩
  refine ⟨_, rfl, _, hw', ?_⟩
  clear hw' hw w w'
  repeat (refine sx ?_; try intro _)
  refine JO_call Tryz.call125 rfl rfl fun w hw => (RStored_c p c m B (Rd_weak hr fun w hw => dS hw) hm hB h4 w hw).mono ?_
  rintro e w' ⟨q2, d2, rfl, hw'⟩
  refine ⟨_, rfl, _, hw', ?_⟩
  clear hw' hw w w'
  unfold bestB
  by_cases hlt : (sbs B).length < (pack (fixL B)).length
  · rw [if_pos hlt]
    repeat (refine sx ?_; try intro _)
    exact JS_ret Tryz.func82 rfl rfl fun w hw => ⟨q2, d2, rfl, dS hw⟩
  · rw [if_neg hlt]
    repeat (refine sx ?_; try intro _)
    exact JS_ret Tryz.func82 rfl rfl fun w hw => ⟨q1, d1, rfl, dS hw⟩
end
end Go.Proofs.YteelffkghidpfaaGreat

set_option linter.unusedVariables false
set_option linter.unusedSimpArgs false
set_option maxRecDepth 100000
namespace Go.Proofs.YteelffkghidpfaaGreat
open Sx Go
theorem OpE.pre {ι : Type} {P : Program} {n : Nat} {D : List Deferred} {w0 : World} {ov : Ov} {H H1 : List Asn} {o : Oper} {v : ι → Value} {H' : ι → List Asn} (hp : ∀ w, St w0 H w → St w0 H1 w) (h : OpE P n D w0 ov H1 o v H') : OpE P n D w0 ov H o v H' :=
  ⟨h.1, fun a w ha hw => h.2 a w ha (hp w hw)⟩
theorem OpE.post {ι : Type} {P : Program} {n : Nat} {D : List Deferred} {w0 : World} {ov : Ov} {H : List Asn} {o : Oper} {v : ι → Value} {H' H2 : ι → List Asn} (h : OpE P n D w0 ov H o v H') (hp : ∀ c w, St w0 (H' c) w → St w0 (H2 c) w) : OpE P n D w0 ov H o v H2 :=
  ⟨h.1, fun a w ha hw => let ⟨c, w', h1, h2⟩ := h.2 a w ha hw; ⟨c, w', h1, hp c w' h2⟩⟩
section
variable {w0 : World} {H : List Asn}
theorem bestB_len {B : List Int} (hB : OKB B) : (bestB B).length ≤ (32 * B.length + 19) / 8 := by
  have h1 := fixL_len hB
  have h2 := pack_len (fixL B)
  unfold bestB; split <;> omega
theorem bestB_pos (B : List Int) : 0 < (bestB B).length := by
  have h1 := sb_len (B.length + 1) B (by omega)
  have h2 := pack_len (fixL B)
  have h3 : 0 < (fixL B).length := by unfold fixL; simp only [List.length_append, grp_len]; omega
  unfold bestB; split
  · show 0 < (sb (B.length + 1) B).length; split at h1 <;> omega
  · omega
def pkB (B : List Int) : List Int := [120, 1] ++ bestB B ++ sb4 (adl B)
set_option maxRecDepth 10000 in
theorem ZPack_c (p : Option Addr) (c m : Nat) (B : List Int) (hr : Rd w0 H (.slice p m c) m (ints .u8 B)) (hm : B.length = m) (hB : OKB B) (h4 : m ≤ 1100000) (w : World) (hw : St w0 H w) :
    Calls Tryz.prog 46 #[.slice p m c] w fun e w' => ∃ q d, e = .returned (.slice q (pkB B).length d) ∧ St w0 (vec 5 1 (.slice q (pkB B).length d) (pkB B).length (ints .u8 (pkB B)) :: H) w' := by
  refine enter (vs := [.slice p m c]) Tryz.func46 rfl rfl rfl hw ?_
  clear hw w
  repeat (refine sx ?_; try intro _)
  refine JO_call Tryz.call78 rfl rfl fun w hw => (ZSum_c p c m B hr hm hB (by omega) w hw).mono ?_
  rintro e w' ⟨rfl, hw'⟩
  refine ⟨_, rfl, _, hw', ?_⟩
  clear hw' hw w w'
  obtain ⟨s, hs⟩ : ∃ s, adl B = s := ⟨_, rfl⟩
  rw [hs]
  repeat (first | apply hIx 2 | (refine sx ?_; try intro _))
  refine Hold.go ?_
  refine JS_seq ?_
  refine JS_tree (.node [1, 4] 0 (.leaf [2, 3, 5, 6]) 2 (.leaf [0, 3, 5, 6])) [1] (.node (Picks.cons rfl (Picks.cons rfl (Picks.nil))) rfl (.leaf (Picks.cons rfl (Picks.cons rfl (Picks.cons rfl (Picks.cons rfl (Picks.nil)))))) rfl (.leaf (Picks.cons rfl (Picks.cons rfl (Picks.cons rfl (Picks.cons rfl (Picks.nil))))))) (by kernel_rfl) (by kernel_rfl) rfl (by decide +kernel) ?_
  rename_i b
  refine QR_node ?_
  repeat (first | (apply gQO; refine QO_v rfl (V_sliceP (tb := tb) (lo := 0) (hi := 4) rfl rfl rfl rfl rfl (by rfl) (by rfl) (by omega) rfl) ?_) | (refine sx ?_; try intro _))
  have o3 : OKB (bestB B) := by have o1 := pack_okb' (fixL B) (fixL_01 B); have o2 := sbs_okb hB; unfold bestB; split <;> assumption
  have o4 := bestB_pos B
  have o5 := bestB_len hB
  obtain ⟨E, hE⟩ : ∃ E, bestB B = E := ⟨_, rfl⟩
  have hD := fun {H} hr w hw => DBest_c (H := H) (w0 := w0) p c m B hr hm hB h4 w hw
  have hP : pkB B = [120, 1] ++ E ++ sb4 s := by unfold pkB; rw [hE, hs]
  rw [hE] at o3 o4 o5 hD
  have hl : ([120, 1] ++ E ++ sb4 s).length = 2 + E.length + 4 := by simp [sb4]; omega
  rw [hP, hl, ← ints_app]
  refine QR_both ?_ ?_
  · apply QR_un
    (refine QO_e (E_buildSlice (tb := tb) rfl rfl rfl rfl rfl rfl rfl rfl rfl) rfl (.inr fun _ _ hw => dS hw) ?_; intro _)
    refine QR_leaf ?_
    apply QR_un
    refine QO_call Tryz.call80 rfl rfl fun w hw => (hD (Rd_weak hr fun w hw => dS hw) w hw).mono ?_
    rintro e w' ⟨q1, d1, rfl, hw'⟩
    refine ⟨_, rfl, _, hw', .inl fun w hw => dS hw, ?_⟩
    clear hw' hw w w'
    apply QR_un
    (refine QO_e (E_appendB (tb := tb) rfl rfl rfl rfl rfl rfl (by repeat (first | exact Sel.here _ _ | apply Sel.there)) (by first | exact vec_rd (by repeat (first | apply List.Mem.head | apply List.Mem.tail)) | assumption | exact ArgRd.rd (by assumption) _ | (apply Rd_weak; assumption; intro _ hx; exact dS hx)) (by simp only [ints_len, List.length_cons, List.length_nil]; first | omega | rfl) (by first | exact ints_one | (repeat (first | exact trivial | refine ⟨rfl, ?_⟩))) (by omega) (by omega) rfl) rfl (.inr fun _ _ hw => vecB_back (by repeat (first | exact Sel.here _ _ | apply Sel.there)) hw) ?_; intro _)
    apply QR_un
    rename_i pc
    (refine QO_e (OpE.post (OpE.pre (H1 := vec 5 1 (.slice pc.1 (2 + E.length) pc.2) (2 + E.length) (ints .u8 ([120, 1] ++ E)) :: blk b [.int .u8 (s / 16777216), .int .u8 (s / 65536 % 256), .int .u8 (s / 256 % 256), .int .u8 (s % 256)] :: H) (fun w hw => by rw [← ints_app]; have g := vecB_fwd (by repeat (first | exact Sel.here _ _ | apply Sel.there)) hw; exact dS g) (E_appendB (tb := tb) (q := 4) (news := ints .u8 (sb4 s)) rfl rfl rfl rfl rfl rfl (Sel.here _ _) (blk_rd (by repeat (first | apply List.Mem.head | apply List.Mem.tail)) (by omega)) rfl (by first | exact ints_one | (repeat (first | exact trivial | refine ⟨rfl, ?_⟩))) (by omega) (by omega) rfl)) fun c w hw => vecB_fwd (Sel.here _ _) hw) rfl (.inl rfl) ?_; intro _)
    repeat (refine sx ?_; try intro _)
    rename_i pd
    exact JS_ret Tryz.func46 rfl rfl fun w hw => ⟨pd.1, pd.2, rfl, dS hw⟩
  · apply QR_un
    refine QO_call Tryz.call80 rfl rfl fun w hw => (hD (Rd_weak hr fun w hw => dS hw) w hw).mono ?_
    rintro e w' ⟨q1, d1, rfl, hw'⟩
    refine ⟨_, rfl, _, hw', .inl fun w hw => dS hw, ?_⟩
    clear hw' hw w w'
    refine QR_leaf ?_
    apply QR_un
    (refine QO_e (E_buildSlice (tb := tb) rfl rfl rfl rfl rfl rfl rfl rfl rfl) rfl (.inr fun _ _ hw => dS hw) ?_; intro _)
    apply QR_un
    (refine QO_e (E_appendB (tb := tb) rfl rfl rfl rfl rfl rfl (by repeat (first | exact Sel.here _ _ | apply Sel.there)) (by first | exact vec_rd (by repeat (first | apply List.Mem.head | apply List.Mem.tail)) | assumption | exact ArgRd.rd (by assumption) _ | (apply Rd_weak; assumption; intro _ hx; exact dS hx)) (by simp only [ints_len, List.length_cons, List.length_nil]; first | omega | rfl) (by first | exact ints_one | (repeat (first | exact trivial | refine ⟨rfl, ?_⟩))) (by omega) (by omega) rfl) rfl (.inr fun _ _ hw => vecB_back (by repeat (first | exact Sel.here _ _ | apply Sel.there)) hw) ?_; intro _)
    apply QR_un
    rename_i pc
    (refine QO_e (OpE.post (OpE.pre (H1 := vec 5 1 (.slice pc.1 (2 + E.length) pc.2) (2 + E.length) (ints .u8 ([120, 1] ++ E)) :: blk b [.int .u8 (s / 16777216), .int .u8 (s / 65536 % 256), .int .u8 (s / 256 % 256), .int .u8 (s % 256)] :: H) (fun w hw => by rw [← ints_app]; have g := vecB_fwd (by repeat (first | exact Sel.here _ _ | apply Sel.there)) hw; exact dS g) (E_appendB (tb := tb) (q := 4) (news := ints .u8 (sb4 s)) rfl rfl rfl rfl rfl rfl (Sel.here _ _) (blk_rd (by repeat (first | apply List.Mem.head | apply List.Mem.tail)) (by omega)) rfl (by first | exact ints_one | (repeat (first | exact trivial | refine ⟨rfl, ?_⟩))) (by omega) (by omega) rfl)) fun c w hw => vecB_fwd (Sel.here _ _) hw) rfl (.inl rfl) ?_; intro _)
    repeat (refine sx ?_; try intro _)
    rename_i pd
    exact JS_ret Tryz.func46 rfl rfl fun w hw => ⟨pd.1, pd.2, rfl, dS hw⟩
end
end Go.Proofs.YteelffkghidpfaaGreat
