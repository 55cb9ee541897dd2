import Derived.Test.YtjgjppgocheklaaX19
import Derived.Test.YtjgjppgocheklaaX16
import Derived.Test.YtjgjppgocheklaaX18
namespace Go.Proofs.Ytjgjppgocheklaa
open Sx Go
set_option linter.unusedVariables false
set_option linter.unusedSimpArgs false
attribute [local irreducible] syA fc tk cds
theorem Byt_of {B : List Int} (h : OKB B) : Byt B := h
theorem bms_Byt (c : Int) (n : Nat) : Byt (bms c n) := by
  intro j
  unfold bms
  rcases Nat.lt_or_ge j n with h | h
  · simp only [List.getD_eq_getElem?_getD, List.getElem?_map, List.getElem?_range h, Option.map_some, Option.getD_some]; omega
  · rw [List.getD_eq_getElem?_getD, List.getElem?_eq_none (by simp; omega)]; decide
theorem Byt_take {B : List Int} (h : Byt B) (n : Nat) : Byt (B.take n) := by
  intro j
  rcases Nat.lt_or_ge j n with hj | hj
  · have := h j
    rwa [List.getD_eq_getElem?_getD, List.getElem?_take, if_pos hj, ← List.getD_eq_getElem?_getD]
  · rw [List.getD_eq_getElem?_getD, List.getElem?_eq_none (by rw [List.length_take]; omega)]; decide
theorem Byt_drop {B : List Int} (h : Byt B) (n : Nat) : Byt (B.drop n) := by
  intro j
  have := h (n + j)
  rwa [List.getD_eq_getElem?_getD, List.getElem?_drop, ← List.getD_eq_getElem?_getD]
theorem ints_take {K : IntKind} {l : List Int} {n : Nat} : (ints K l).take n = ints K (l.take n) := by simp [ints, List.map_take]
theorem ints_drop {K : IntKind} {l : List Int} {n : Nat} : (ints K l).drop n = ints K (l.drop n) := by simp [ints, List.map_drop]
set_option maxHeartbeats 1000000 in
/-- do bits begin with others? -/
theorem Begins_c {w0 : World} {H : List Asn} (p q : Option Addr) (c d m n : Nat) (L W : List Int) (hr : Rd w0 H (.slice p m c) m (ints .u8 L)) (hm : L.length = m) (hL : Byt L) (hr2 : Rd w0 H (.slice q n d) n (ints .u8 W)) (hn : W.length = n) (hW : Byt W) (hb1 : m ≤ 140737488355328) (hb2 : n ≤ 140737488355328) (w : World) (hw : St w0 H w) :
    Calls Try.prog 57 #[.slice p m c, .slice q n d] w fun e w' => ∃ o, e = .returned (.bool o) ∧ St w0 H w' ∧ (o = true ↔ n ≤ m ∧ L.take n = W) := by
  have hcap := (hr.lcap hw).1
  refine enter (vs := [.slice p m c, .slice q n d]) Try.func57 rfl rfl rfl hw ?_
  by_cases hle : n ≤ m
  · have hrs := Rd_sub (lo := 0) (hi := n) (sz := 1) hr (by omega) hle
    rw [Nat.zero_mul, List.drop_zero, Nat.mul_one, Nat.sub_zero, ints_take] at hrs
    have hlt : (L.take n).length = n := by rw [List.length_take]; omega
    have hLt := Byt_take hL n
    repeat (first | (apply gQO; first | refine QO_v rfl (V_slice (tb := tb) (lo := 0) (hi := n) rfl rfl rfl rfl rfl (by rfl) (by rfl) (fun _ _ => ⟨by omega, by omega⟩) rfl) ?_ | refine QO_v rfl (V_str (tb := tb) rfl hrs hlt rfl rfl rfl rfl) ?_ | refine QO_v rfl (V_str (tb := tb) rfl hr2 hn rfl rfl rfl rfl) ?_) | (first | (apply gJO; first | (apply kS; refine aK ?_) | (apply kX; refine JO_box rfl rfl rfl ?_; intro _) | (apply kA; refine JO_alloc (tb := tb) rfl rfl ?_; intro _) | (apply kBs; refine JO_buildSlice (tb := tb) rfl rfl rfl rfl rfl rfl rfl rfl rfl ?_; intro _) | (apply kM; refine JO_make (tb := tb) rfl rfl rfl rfl rfl rfl (by omega) rfl ?_; intro _) | refine aO ?_) | (apply gJR; first | apply JR_un | apply JR_nil | refine JR_yes rfl rfl ?_ | refine JR_no rfl rfl rfl rfl ?_ | refine JR_noU rfl rfl rfl ?_) | (apply gJS; first | apply JS_seq | apply JS_region | apply JS_skip | apply JS_block | apply JS_inBlock | apply JS_label | refine JS_exit rfl ?_ | refine JS_condT rfl ?_ | refine JS_condF rfl ?_ | refine JS_draw [0] (by kernel_rfl) (by kernel_rfl) (by decide +kernel) ?_ | refine JS_draw [] (by kernel_rfl) (by kernel_rfl) (by decide +kernel) ?_ | refine JS_cond_T rfl (by omega) ?_ | refine JS_cond_F rfl (by omega) ?_) | (apply gQR; first | apply QR_un | apply QR_nil | refine QR_yes rfl rfl ?_ | refine QR_no rfl rfl rfl rfl ?_ | refine QR_noU rfl rfl rfl ?_) | (apply gQO; first | refine aQ ?_ | refine aQK rfl ?_)))
    refine JS_ret Try.func57 rfl rfl ?_
    intro w hw
    exact ⟨_, rfl, hw, by simp [hle]⟩
  · repeat (first | (apply gJO; first | (apply kS; refine aK ?_) | (apply kX; refine JO_box rfl rfl rfl ?_; intro _) | (apply kA; refine JO_alloc (tb := tb) rfl rfl ?_; intro _) | (apply kBs; refine JO_buildSlice (tb := tb) rfl rfl rfl rfl rfl rfl rfl rfl rfl ?_; intro _) | (apply kM; refine JO_make (tb := tb) rfl rfl rfl rfl rfl rfl (by omega) rfl ?_; intro _) | refine aO ?_) | (apply gJR; first | apply JR_un | apply JR_nil | refine JR_yes rfl rfl ?_ | refine JR_no rfl rfl rfl rfl ?_ | refine JR_noU rfl rfl rfl ?_) | (apply gJS; first | apply JS_seq | apply JS_region | apply JS_skip | apply JS_block | apply JS_inBlock | apply JS_label | refine JS_exit rfl ?_ | refine JS_condT rfl ?_ | refine JS_condF rfl ?_ | refine JS_draw [0] (by kernel_rfl) (by kernel_rfl) (by decide +kernel) ?_ | refine JS_draw [] (by kernel_rfl) (by kernel_rfl) (by decide +kernel) ?_ | refine JS_cond_T rfl (by omega) ?_ | refine JS_cond_F rfl (by omega) ?_) | (apply gQR; first | apply QR_un | apply QR_nil | refine QR_yes rfl rfl ?_ | refine QR_no rfl rfl rfl rfl ?_ | refine QR_noU rfl rfl rfl ?_) | (apply gQO; first | refine aQ ?_ | refine aQK rfl ?_))
    refine JS_ret Try.func57 rfl rfl ?_
    intro w hw
    exact ⟨_, rfl, hw, by simp; omega⟩
theorem RD_fun {B : List Int} (hB : OKB B) (hk : OKL B) {b : Nat → Int} (hb : ∀ j, b j = 0 ∨ b j = 1) {left : Nat} {i i' : Int} {u u' : Nat} {r r' : Int} (h : RD B b left i u r) (h' : RD B b left i' u' r') : i = i' ∧ u = u' ∧ r = r' := by
  rcases h with ⟨j, rfl, rfl, h1, h2⟩ | ⟨h1, rfl, h2⟩ <;> rcases h' with ⟨j', rfl, rfl, h3, h4⟩ | ⟨h3, rfl, h4⟩
  · have := DEC_one B hB hk.2.1 hk.2.2 b hb left j j' h1 h3
    subst this
    exact ⟨rfl, by omega, rfl⟩
  · exact absurd h1 (h3 j)
  · exact absurd h3 (h1 j')
  · refine ⟨rfl, ?_⟩
    omega
theorem DEC_congr {B : List Int} {b b' : Nat → Int} {left i : Nat} (h : ∀ j, j < left → b j = b' j) (hd : DEC B b left i) : DEC B b' left i := by
  obtain ⟨n, h1, h2, h3, h4, h5⟩ := hd
  refine ⟨n, h1, h2, h3, h4, ?_⟩
  rw [← h5]
  have : ∀ k, k ≤ left → bval b' k = bval b k := by
    intro k
    induction k with
    | zero => intro _; rfl
    | succ k ih =>
      intro hk
      show 2 * bval b' k + b' k = 2 * bval b k + b k
      rw [ih (by omega), h k (by omega)]
  exact this n h4
theorem cd_lt (B : List Int) (hB : OKB B) (hk : OKL B) (i n : Nat) (hi : i < B.length) (h0 : 0 < n) (hn : B.getD i 0 = (n : Int)) : 0 ≤ cd B i ∧ cd B i < 2 ^ n := by
  obtain ⟨h1, h2⟩ := cd_eq B hB hk.2.1 hk.2.2 i n hi h0 hn
  have h3 := hk.2.1 i
  have h4 := fc_bd B hB hk.2.1 hk.2.2 n (by omega)
  have h5 := cd_bd B i
  omega
theorem sm_pos (B : List Int) (i : Nat) (hi : i < B.length) (h : 0 < B.getD i 0) : sm B ≠ 0 := by
  unfold sm
  rw [Ne, List.countP_eq_zero]
  intro h1
  have := h1 (B.getD i 0) (by rw [List.getD_eq_getElem?_getD, List.getElem?_eq_getElem hi]; exact List.getElem_mem hi)
  exact this (decide_eq_true h)
theorem take_range (L : List Int) (n : Nat) (h : n ≤ L.length) : L.take n = (List.range n).map fun j => L.getD j 0 := by
  apply List.ext_getElem?
  intro j
  by_cases hj : j < n
  · rw [List.getElem?_take, if_pos hj, List.getElem?_map, List.getElem?_range hj, Option.map_some, List.getD_eq_getElem?_getD, List.getElem?_eq_getElem (by omega), Option.getD_some]
  · rw [List.getElem?_take, if_neg hj, List.getElem?_eq_none (by simp; omega)]
theorem begins_dec (B L : List Int) (hB : OKB B) (hk : OKL B) (hL : ∀ j, L.getD j 0 = 0 ∨ L.getD j 0 = 1) (i n : Nat) (hi : i < B.length) (h0 : 0 < n) (hn : B.getD i 0 = (n : Int)) : (n ≤ L.length ∧ L.take n = bms (cd B i) n) ↔ DEC B (fun j => L.getD j 0) L.length i := by
  have hcd := cd_lt B hB hk i n hi h0 hn
  constructor
  · rintro ⟨h1, h2⟩
    rw [take_range L n h1] at h2
    exact ⟨n, hi, h0, hn, h1, (val_bms _ hL _ n hcd).1 h2⟩
  · rintro ⟨n', _, _, h3, h4, h5⟩
    obtain rfl : n' = n := by omega
    refine ⟨h4, ?_⟩
    rw [take_range L n' h4]
    exact (val_bms _ hL _ n' hcd).2 h5
set_option maxHeartbeats 4000000 in
/-- the reference reads a symbol -/
theorem RRead_c {w0 : World} {H : List Asn} (p q : Option Addr) (c d m left : Nat) (B L : List Int) (hr : Rd w0 H (.slice p m c) m (ints .u8 B)) (hm : B.length = m) (hB : OKB B) (hk : OKL B) (hr2 : Rd w0 H (.slice q left d) left (ints .u8 L)) (hl : L.length = left) (hL01 : ∀ j, L.getD j 0 = 0 ∨ L.getD j 0 = 1) (hb : left ≤ 140737488355328) (w : World) (hw : St w0 H w) :
    Calls Try.prog 19 #[.slice p m c, .slice q left d] w fun e w' => ∃ (i : Int) (used : Nat) (r : Int), e = .returned (.tuple #[.int .i64 i, .int .i64 used, .int .i64 r]) ∧ St w0 H w' ∧ RD B (fun j => L.getD j 0) left i used r := by
  have hm320 := hk.1
  have hL : Byt L := fun j => by have := hL01 j; omega
  refine enter (vs := [.slice p m c, .slice q left d]) Try.func19 rfl rfl rfl hw ?_
  repeat (first | (apply gJO; first | (apply kS; refine aK ?_) | (apply kX; refine JO_box rfl rfl rfl ?_; intro _) | (apply kA; refine JO_alloc (tb := tb) rfl rfl ?_; intro _) | (apply kBs; refine JO_buildSlice (tb := tb) rfl rfl rfl rfl rfl rfl rfl rfl rfl ?_; intro _) | (apply kM; refine JO_make (tb := tb) rfl rfl rfl rfl rfl rfl (by omega) rfl ?_; intro _) | refine aO ?_) | (apply gJR; first | apply JR_un | apply JR_nil | refine JR_yes rfl rfl ?_ | refine JR_no rfl rfl rfl rfl ?_ | refine JR_noU rfl rfl rfl ?_) | (apply gJS; first | apply JS_seq | apply JS_region | apply JS_skip | apply JS_block | apply JS_inBlock | apply JS_label | refine JS_exit rfl ?_ | refine JS_condT rfl ?_ | refine JS_condF rfl ?_ | refine JS_draw [0] (by kernel_rfl) (by kernel_rfl) (by decide +kernel) ?_ | refine JS_draw [] (by kernel_rfl) (by kernel_rfl) (by decide +kernel) ?_ | refine JS_cond_T rfl (by omega) ?_ | refine JS_cond_F rfl (by omega) ?_) | (apply gQR; first | apply QR_un | apply QR_nil | refine QR_yes rfl rfl ?_ | refine QR_no rfl rfl rfl rfl ?_ | refine QR_noU rfl rfl rfl ?_) | (apply gQO; first | refine aQ ?_ | refine aQK rfl ?_))
  refine JO_call Try.call23 rfl rfl fun w hw => (RCodes_c p c m B hr hm hB (by omega) w hw).mono ?_
  rintro e w' ⟨p1, c1, rfl, hw'⟩
  refine ⟨_, rfl, _, hw', ?_⟩
  clear hw' hw w w'
  repeat (first | (apply gJR; first | (apply gJO; first | (apply kS; refine aK ?_) | (apply kX; refine JO_box rfl rfl rfl ?_; intro _) | (apply kA; refine JO_alloc (tb := tb) rfl rfl ?_; intro _) | (apply kBs; refine JO_buildSlice (tb := tb) rfl rfl rfl rfl rfl rfl rfl rfl rfl ?_; intro _) | (apply kM; refine JO_make (tb := tb) rfl rfl rfl rfl rfl rfl (by omega) rfl ?_; intro _) | refine aO ?_) | (apply gJR; first | apply JR_un | apply JR_nil | refine JR_yes rfl rfl ?_ | refine JR_no rfl rfl rfl rfl ?_ | refine JR_noU rfl rfl rfl ?_) | (apply gJS; first | apply JS_seq | apply JS_region | apply JS_skip | apply JS_block | apply JS_inBlock | apply JS_label | refine JS_exit rfl ?_ | refine JS_condT rfl ?_ | refine JS_condF rfl ?_ | refine JS_draw [0] (by kernel_rfl) (by kernel_rfl) (by decide +kernel) ?_ | refine JS_draw [] (by kernel_rfl) (by kernel_rfl) (by decide +kernel) ?_ | refine JS_cond_T rfl (by omega) ?_ | refine JS_cond_F rfl (by omega) ?_) | (apply gQR; first | apply QR_un | apply QR_nil | refine QR_yes rfl rfl ?_ | refine QR_no rfl rfl rfl rfl ?_ | refine QR_noU rfl rfl rfl ?_) | (apply gQO; first | refine aQ ?_ | refine aQK rfl ?_)) | (apply gJO; first | (apply gJO; first | (apply kS; refine aK ?_) | (apply kX; refine JO_box rfl rfl rfl ?_; intro _) | (apply kA; refine JO_alloc (tb := tb) rfl rfl ?_; intro _) | (apply kBs; refine JO_buildSlice (tb := tb) rfl rfl rfl rfl rfl rfl rfl rfl rfl ?_; intro _) | (apply kM; refine JO_make (tb := tb) rfl rfl rfl rfl rfl rfl (by omega) rfl ?_; intro _) | refine aO ?_) | (apply gJR; first | apply JR_un | apply JR_nil | refine JR_yes rfl rfl ?_ | refine JR_no rfl rfl rfl rfl ?_ | refine JR_noU rfl rfl rfl ?_) | (apply gJS; first | apply JS_seq | apply JS_region | apply JS_skip | apply JS_block | apply JS_inBlock | apply JS_label | refine JS_exit rfl ?_ | refine JS_condT rfl ?_ | refine JS_condF rfl ?_ | refine JS_draw [0] (by kernel_rfl) (by kernel_rfl) (by decide +kernel) ?_ | refine JS_draw [] (by kernel_rfl) (by kernel_rfl) (by decide +kernel) ?_ | refine JS_cond_T rfl (by omega) ?_ | refine JS_cond_F rfl (by omega) ?_) | (apply gQR; first | apply QR_un | apply QR_nil | refine QR_yes rfl rfl ?_ | refine QR_no rfl rfl rfl rfl ?_ | refine QR_noU rfl rfl rfl ?_) | (apply gQO; first | refine aQ ?_ | refine aQK rfl ?_)) | apply JS_seq | apply JS_region)
  refine JS_block ?_
  refine JS_loop2 (fun (i : Nat) (o : Bool) => [(0, .slice p m c), (1, .slice q left d), (7, .slice p1 m c1), (8, .bool o), (9, .int .i64 i)]) (fun _ _ => vec 42 1 (.slice p1 m c1) m (ints .u32 (cds B 16 0)) :: H)
    (fun i o => i ≤ m ∧ (o = true ↔ sm (B.take i) ≠ 0) ∧ ∀ j, j < i → ¬ DEC B (fun j => L.getD j 0) left j) (fun i _ => m - i) 0 false ⟨by omega, by simp [sm], fun j h => absurd h (by omega)⟩ (by repeat (first | exact trivial | refine ⟨rfl, ?_⟩ | refine ⟨lookI rfl (by omega), ?_⟩)) (fun _ h => h) ?_
  intro i o ⟨hi, ho, hno⟩ again
  have hr' : Rd w0 (vec 42 1 (.slice p1 m c1) m (ints .u32 (cds B 16 0)) :: H) (.slice p m c) m (ints .u8 B) := Rd_weak hr fun w hw => St.sub (by repeat (first | exact List.Sublist.refl _ | apply List.Sublist.cons_cons | apply List.Sublist.cons)) hw
  have hr2' : Rd w0 (vec 42 1 (.slice p1 m c1) m (ints .u32 (cds B 16 0)) :: H) (.slice q left d) left (ints .u8 L) := Rd_weak hr2 fun w hw => St.sub (by repeat (first | exact List.Sublist.refl _ | apply List.Sublist.cons_cons | apply List.Sublist.cons)) hw
  by_cases him : i < m
  · have hbi := hB i
    have h15 := hk.2.1 i
    have g0 : (ints .u8 B)[i]? = some (.int .u8 (B.getD i 0)) := ints_get (by omega)
    have hcl := cds_len B 16 0
    have g1 : (ints .u32 (cds B 16 0))[i]? = some (.int .u32 ((cds B 16 0).getD i 0)) := ints_get (by omega)
    have hcg := cds_get B hk.2.1 i (by omega)
    have hss := sm_step B i (by omega)
    by_cases h0 : 0 < B.getD i 0
    · rw [if_pos h0] at hcg hss
      rw [hcg] at g1
      obtain ⟨n, hn⟩ := Int.eq_ofNat_of_zero_le hbi.1
      rw [hn] at g0 h0 h15
      have hcd := cd_lt B hB hk i n (by omega) (by omega) hn
      have hcb := cd_bd B i
      have hbl := bms_len (cd B i) n
      have hW := bms_Byt (cd B i) n
      cases o
      all_goals repeat (first | (apply gJO; first | refine JO_v (V_loadC (tb := tb) rfl hr' rfl rfl g0 rfl) ?_) | (apply gQO; first | refine QO_v rfl (V_loadC (tb := tb) rfl hr' rfl rfl g0 rfl) ?_ | refine QO_v rfl (V_loadC (tb := tb) rfl (vec_rd (by repeat (first | apply List.Mem.head | apply List.Mem.tail))) rfl rfl g1 rfl) ?_) | (first | (apply gJO; first | (apply kS; refine aK ?_) | (apply kX; refine JO_box rfl rfl rfl ?_; intro _) | (apply kA; refine JO_alloc (tb := tb) rfl rfl ?_; intro _) | (apply kBs; refine JO_buildSlice (tb := tb) rfl rfl rfl rfl rfl rfl rfl rfl rfl ?_; intro _) | (apply kM; refine JO_make (tb := tb) rfl rfl rfl rfl rfl rfl (by omega) rfl ?_; intro _) | refine aO ?_) | (apply gJR; first | apply JR_un | apply JR_nil | refine JR_yes rfl rfl ?_ | refine JR_no rfl rfl rfl rfl ?_ | refine JR_noU rfl rfl rfl ?_) | (apply gJS; first | apply JS_seq | apply JS_region | apply JS_skip | apply JS_block | apply JS_inBlock | apply JS_label | refine JS_exit rfl ?_ | refine JS_condT rfl ?_ | refine JS_condF rfl ?_ | refine JS_draw [0] (by kernel_rfl) (by kernel_rfl) (by decide +kernel) ?_ | refine JS_draw [] (by kernel_rfl) (by kernel_rfl) (by decide +kernel) ?_ | refine JS_cond_T rfl (by omega) ?_ | refine JS_cond_F rfl (by omega) ?_) | (apply gQR; first | apply QR_un | apply QR_nil | refine QR_yes rfl rfl ?_ | refine QR_no rfl rfl rfl rfl ?_ | refine QR_noU rfl rfl rfl ?_) | (apply gQO; first | refine aQ ?_ | refine aQK rfl ?_)))
      all_goals refine QO_call Try.call58 rfl rfl fun w hw => (Bits5_c (cd B i) n hcb (by omega) w hw).mono ?_
      all_goals rintro e w' ⟨p2, c2, rfl, hw'⟩
      all_goals refine ⟨_, rfl, _, hw', .inl fun w hw => St.sub (by repeat (first | exact List.Sublist.refl _ | apply List.Sublist.cons_cons | apply List.Sublist.cons)) hw, ?_⟩
      all_goals clear hw' hw w w'
      all_goals repeat (first | (apply gJO; first | (apply kS; refine aK ?_) | (apply kX; refine JO_box rfl rfl rfl ?_; intro _) | (apply kA; refine JO_alloc (tb := tb) rfl rfl ?_; intro _) | (apply kBs; refine JO_buildSlice (tb := tb) rfl rfl rfl rfl rfl rfl rfl rfl rfl ?_; intro _) | (apply kM; refine JO_make (tb := tb) rfl rfl rfl rfl rfl rfl (by omega) rfl ?_; intro _) | refine aO ?_) | (apply gJR; first | apply JR_un | apply JR_nil | refine JR_yes rfl rfl ?_ | refine JR_no rfl rfl rfl rfl ?_ | refine JR_noU rfl rfl rfl ?_) | (apply gJS; first | apply JS_seq | apply JS_region | apply JS_skip | apply JS_block | apply JS_inBlock | apply JS_label | refine JS_exit rfl ?_ | refine JS_condT rfl ?_ | refine JS_condF rfl ?_ | refine JS_draw [0] (by kernel_rfl) (by kernel_rfl) (by decide +kernel) ?_ | refine JS_draw [] (by kernel_rfl) (by kernel_rfl) (by decide +kernel) ?_ | refine JS_cond_T rfl (by omega) ?_ | refine JS_cond_F rfl (by omega) ?_) | (apply gQR; first | apply QR_un | apply QR_nil | refine QR_yes rfl rfl ?_ | refine QR_no rfl rfl rfl rfl ?_ | refine QR_noU rfl rfl rfl ?_) | (apply gQO; first | refine aQ ?_ | refine aQK rfl ?_))
      all_goals refine QO_call Try.call57 rfl rfl fun w hw => (Begins_c q p2 d c2 left n L (bms (cd B i) n) (Rd_weak hr2' fun w hw => St.sub (by repeat (first | exact List.Sublist.refl _ | apply List.Sublist.cons_cons | apply List.Sublist.cons)) hw) hl hL (vec_rd (by repeat (first | apply List.Mem.head | apply List.Mem.tail))) hbl hW hb (by omega) w hw).mono ?_
      all_goals rintro e w' ⟨o2, rfl, hw', ho2⟩
      all_goals refine ⟨_, rfl, _, hw', .inl fun w hw => St.sub (by repeat (first | exact List.Sublist.refl _ | apply List.Sublist.cons_cons | apply List.Sublist.cons)) hw, ?_⟩
      all_goals clear hw' hw w w'
      all_goals have hdec : o2 = true ↔ DEC B (fun j => L.getD j 0) left i := (by subst hl; rw [ho2]; exact begins_dec B L hB hk hL01 i n (by omega) (by omega) hn)
      all_goals clear ho2
      all_goals cases o2
      · repeat (first | (apply gJO; first | (apply kS; refine aK ?_) | (apply kX; refine JO_box rfl rfl rfl ?_; intro _) | (apply kA; refine JO_alloc (tb := tb) rfl rfl ?_; intro _) | (apply kBs; refine JO_buildSlice (tb := tb) rfl rfl rfl rfl rfl rfl rfl rfl rfl ?_; intro _) | (apply kM; refine JO_make (tb := tb) rfl rfl rfl rfl rfl rfl (by omega) rfl ?_; intro _) | refine aO ?_) | (apply gJR; first | apply JR_un | apply JR_nil | refine JR_yes rfl rfl ?_ | refine JR_no rfl rfl rfl rfl ?_ | refine JR_noU rfl rfl rfl ?_) | (apply gJS; first | apply JS_seq | apply JS_region | apply JS_skip | apply JS_block | apply JS_inBlock | apply JS_label | refine JS_exit rfl ?_ | refine JS_condT rfl ?_ | refine JS_condF rfl ?_ | refine JS_draw [0] (by kernel_rfl) (by kernel_rfl) (by decide +kernel) ?_ | refine JS_draw [] (by kernel_rfl) (by kernel_rfl) (by decide +kernel) ?_ | refine JS_cond_T rfl (by omega) ?_ | refine JS_cond_F rfl (by omega) ?_) | (apply gQR; first | apply QR_un | apply QR_nil | refine QR_yes rfl rfl ?_ | refine QR_no rfl rfl rfl rfl ?_ | refine QR_noU rfl rfl rfl ?_) | (apply gQO; first | refine aQ ?_ | refine aQK rfl ?_))
        exact JS_again2 again (i + 1) true ⟨by omega, ⟨fun _ => by omega, fun _ => rfl⟩, fun j hj => by
          rcases Nat.lt_or_ge j i with h | h
          · exact hno j h
          · obtain rfl : j = i := by omega
            exact fun h => nomatch hdec.2 h⟩ (by omega) (by repeat (first | exact trivial | refine ⟨rfl, ?_⟩ | refine ⟨lookI rfl (by omega), ?_⟩)) (fun w hw => St.sub (by repeat (first | exact List.Sublist.refl _ | apply List.Sublist.cons_cons | apply List.Sublist.cons)) hw)
      · repeat (first | (apply gQO; first | refine QO_v rfl (V_loadC (tb := tb) rfl (Rd_weak hr fun w hw => St.sub (by repeat (first | exact List.Sublist.refl _ | apply List.Sublist.cons_cons | apply List.Sublist.cons)) hw) rfl rfl g0 rfl) ?_) | (first | (apply gJO; first | (apply kS; refine aK ?_) | (apply kX; refine JO_box rfl rfl rfl ?_; intro _) | (apply kA; refine JO_alloc (tb := tb) rfl rfl ?_; intro _) | (apply kBs; refine JO_buildSlice (tb := tb) rfl rfl rfl rfl rfl rfl rfl rfl rfl ?_; intro _) | (apply kM; refine JO_make (tb := tb) rfl rfl rfl rfl rfl rfl (by omega) rfl ?_; intro _) | refine aO ?_) | (apply gJR; first | apply JR_un | apply JR_nil | refine JR_yes rfl rfl ?_ | refine JR_no rfl rfl rfl rfl ?_ | refine JR_noU rfl rfl rfl ?_) | (apply gJS; first | apply JS_seq | apply JS_region | apply JS_skip | apply JS_block | apply JS_inBlock | apply JS_label | refine JS_exit rfl ?_ | refine JS_condT rfl ?_ | refine JS_condF rfl ?_ | refine JS_draw [0] (by kernel_rfl) (by kernel_rfl) (by decide +kernel) ?_ | refine JS_draw [] (by kernel_rfl) (by kernel_rfl) (by decide +kernel) ?_ | refine JS_cond_T rfl (by omega) ?_ | refine JS_cond_F rfl (by omega) ?_) | (apply gQR; first | apply QR_un | apply QR_nil | refine QR_yes rfl rfl ?_ | refine QR_no rfl rfl rfl rfl ?_ | refine QR_noU rfl rfl rfl ?_) | (apply gQO; first | refine aQ ?_ | refine aQK rfl ?_)))
        refine JS_ret Try.func19 rfl rfl ?_
        intro w hw
        exact ⟨i, n, 0, rfl, St.sub (by repeat (first | exact List.Sublist.refl _ | apply List.Sublist.cons_cons | apply List.Sublist.cons)) hw, .inl ⟨i, rfl, rfl, hdec.1 rfl, hn⟩⟩
      · repeat (first | (apply gJO; first | (apply kS; refine aK ?_) | (apply kX; refine JO_box rfl rfl rfl ?_; intro _) | (apply kA; refine JO_alloc (tb := tb) rfl rfl ?_; intro _) | (apply kBs; refine JO_buildSlice (tb := tb) rfl rfl rfl rfl rfl rfl rfl rfl rfl ?_; intro _) | (apply kM; refine JO_make (tb := tb) rfl rfl rfl rfl rfl rfl (by omega) rfl ?_; intro _) | refine aO ?_) | (apply gJR; first | apply JR_un | apply JR_nil | refine JR_yes rfl rfl ?_ | refine JR_no rfl rfl rfl rfl ?_ | refine JR_noU rfl rfl rfl ?_) | (apply gJS; first | apply JS_seq | apply JS_region | apply JS_skip | apply JS_block | apply JS_inBlock | apply JS_label | refine JS_exit rfl ?_ | refine JS_condT rfl ?_ | refine JS_condF rfl ?_ | refine JS_draw [0] (by kernel_rfl) (by kernel_rfl) (by decide +kernel) ?_ | refine JS_draw [] (by kernel_rfl) (by kernel_rfl) (by decide +kernel) ?_ | refine JS_cond_T rfl (by omega) ?_ | refine JS_cond_F rfl (by omega) ?_) | (apply gQR; first | apply QR_un | apply QR_nil | refine QR_yes rfl rfl ?_ | refine QR_no rfl rfl rfl rfl ?_ | refine QR_noU rfl rfl rfl ?_) | (apply gQO; first | refine aQ ?_ | refine aQK rfl ?_))
        exact JS_again2 again (i + 1) true ⟨by omega, ⟨fun _ => by omega, fun _ => rfl⟩, fun j hj => by
          rcases Nat.lt_or_ge j i with h | h
          · exact hno j h
          · obtain rfl : j = i := by omega
            exact fun h => nomatch hdec.2 h⟩ (by omega) (by repeat (first | exact trivial | refine ⟨rfl, ?_⟩ | refine ⟨lookI rfl (by omega), ?_⟩)) (fun w hw => St.sub (by repeat (first | exact List.Sublist.refl _ | apply List.Sublist.cons_cons | apply List.Sublist.cons)) hw)
      · repeat (first | (apply gQO; first | refine QO_v rfl (V_loadC (tb := tb) rfl (Rd_weak hr fun w hw => St.sub (by repeat (first | exact List.Sublist.refl _ | apply List.Sublist.cons_cons | apply List.Sublist.cons)) hw) rfl rfl g0 rfl) ?_) | (first | (apply gJO; first | (apply kS; refine aK ?_) | (apply kX; refine JO_box rfl rfl rfl ?_; intro _) | (apply kA; refine JO_alloc (tb := tb) rfl rfl ?_; intro _) | (apply kBs; refine JO_buildSlice (tb := tb) rfl rfl rfl rfl rfl rfl rfl rfl rfl ?_; intro _) | (apply kM; refine JO_make (tb := tb) rfl rfl rfl rfl rfl rfl (by omega) rfl ?_; intro _) | refine aO ?_) | (apply gJR; first | apply JR_un | apply JR_nil | refine JR_yes rfl rfl ?_ | refine JR_no rfl rfl rfl rfl ?_ | refine JR_noU rfl rfl rfl ?_) | (apply gJS; first | apply JS_seq | apply JS_region | apply JS_skip | apply JS_block | apply JS_inBlock | apply JS_label | refine JS_exit rfl ?_ | refine JS_condT rfl ?_ | refine JS_condF rfl ?_ | refine JS_draw [0] (by kernel_rfl) (by kernel_rfl) (by decide +kernel) ?_ | refine JS_draw [] (by kernel_rfl) (by kernel_rfl) (by decide +kernel) ?_ | refine JS_cond_T rfl (by omega) ?_ | refine JS_cond_F rfl (by omega) ?_) | (apply gQR; first | apply QR_un | apply QR_nil | refine QR_yes rfl rfl ?_ | refine QR_no rfl rfl rfl rfl ?_ | refine QR_noU rfl rfl rfl ?_) | (apply gQO; first | refine aQ ?_ | refine aQK rfl ?_)))
        refine JS_ret Try.func19 rfl rfl ?_
        intro w hw
        exact ⟨i, n, 0, rfl, St.sub (by repeat (first | exact List.Sublist.refl _ | apply List.Sublist.cons_cons | apply List.Sublist.cons)) hw, .inl ⟨i, rfl, rfl, hdec.1 rfl, hn⟩⟩
    · rw [if_neg h0] at hss
      have hnd : ∀ j, j < i + 1 → ¬ DEC B (fun j => L.getD j 0) left j := by
        intro j hj
        rcases Nat.lt_or_ge j i with h | h
        · exact hno j h
        · obtain rfl : j = i := by omega
          rintro ⟨n', _, h2, h3, _⟩
          omega
      cases o
      all_goals repeat (first | (apply gJO; first | refine JO_v (V_loadC (tb := tb) rfl hr' rfl rfl g0 rfl) ?_) | (apply gQO; first | refine QO_v rfl (V_loadC (tb := tb) rfl hr' rfl rfl g0 rfl) ?_) | (first | (apply gJO; first | (apply kS; refine aK ?_) | (apply kX; refine JO_box rfl rfl rfl ?_; intro _) | (apply kA; refine JO_alloc (tb := tb) rfl rfl ?_; intro _) | (apply kBs; refine JO_buildSlice (tb := tb) rfl rfl rfl rfl rfl rfl rfl rfl rfl ?_; intro _) | (apply kM; refine JO_make (tb := tb) rfl rfl rfl rfl rfl rfl (by omega) rfl ?_; intro _) | refine aO ?_) | (apply gJR; first | apply JR_un | apply JR_nil | refine JR_yes rfl rfl ?_ | refine JR_no rfl rfl rfl rfl ?_ | refine JR_noU rfl rfl rfl ?_) | (apply gJS; first | apply JS_seq | apply JS_region | apply JS_skip | apply JS_block | apply JS_inBlock | apply JS_label | refine JS_exit rfl ?_ | refine JS_condT rfl ?_ | refine JS_condF rfl ?_ | refine JS_draw [0] (by kernel_rfl) (by kernel_rfl) (by decide +kernel) ?_ | refine JS_draw [] (by kernel_rfl) (by kernel_rfl) (by decide +kernel) ?_ | refine JS_cond_T rfl (by omega) ?_ | refine JS_cond_F rfl (by omega) ?_) | (apply gQR; first | apply QR_un | apply QR_nil | refine QR_yes rfl rfl ?_ | refine QR_no rfl rfl rfl rfl ?_ | refine QR_noU rfl rfl rfl ?_) | (apply gQO; first | refine aQ ?_ | refine aQK rfl ?_)))
      · exact JS_again2 again (i + 1) false ⟨by omega, by rw [hss]; exact ho, hnd⟩ (by omega) (by repeat (first | exact trivial | refine ⟨rfl, ?_⟩ | refine ⟨lookI rfl (by omega), ?_⟩)) (fun w hw => hw)
      · exact JS_again2 again (i + 1) true ⟨by omega, by rw [hss]; exact ho, hnd⟩ (by omega) (by repeat (first | exact trivial | refine ⟨rfl, ?_⟩ | refine ⟨lookI rfl (by omega), ?_⟩)) (fun w hw => hw)
  · obtain rfl : i = m := by omega
    rw [List.take_of_length_le (by omega)] at ho
    have hnd : ∀ j, ¬ DEC B (fun j => L.getD j 0) left j := by
      intro j hd
      have := hd
      obtain ⟨n', h1, _⟩ := this
      exact hno j (by omega) hd
    clear again hr' hr2'
    cases o
    · have hs0 : sm B = 0 := by
        rcases Nat.eq_zero_or_pos (sm B) with h | h
        · exact h
        · exact absurd (ho.2 (by omega)) (by decide)
      repeat (first | (apply gJO; first | (apply kS; refine aK ?_) | (apply kX; refine JO_box rfl rfl rfl ?_; intro _) | (apply kA; refine JO_alloc (tb := tb) rfl rfl ?_; intro _) | (apply kBs; refine JO_buildSlice (tb := tb) rfl rfl rfl rfl rfl rfl rfl rfl rfl ?_; intro _) | (apply kM; refine JO_make (tb := tb) rfl rfl rfl rfl rfl rfl (by omega) rfl ?_; intro _) | refine aO ?_) | (apply gJR; first | apply JR_un | apply JR_nil | refine JR_yes rfl rfl ?_ | refine JR_no rfl rfl rfl rfl ?_ | refine JR_noU rfl rfl rfl ?_) | (apply gJS; first | apply JS_seq | apply JS_region | apply JS_skip | apply JS_block | apply JS_inBlock | apply JS_label | refine JS_exit rfl ?_ | refine JS_condT rfl ?_ | refine JS_condF rfl ?_ | refine JS_draw [0] (by kernel_rfl) (by kernel_rfl) (by decide +kernel) ?_ | refine JS_draw [] (by kernel_rfl) (by kernel_rfl) (by decide +kernel) ?_ | refine JS_cond_T rfl (by omega) ?_ | refine JS_cond_F rfl (by omega) ?_) | (apply gQR; first | apply QR_un | apply QR_nil | refine QR_yes rfl rfl ?_ | refine QR_no rfl rfl rfl rfl ?_ | refine QR_noU rfl rfl rfl ?_) | (apply gQO; first | refine aQ ?_ | refine aQK rfl ?_))
      refine JS_ret Try.func19 rfl rfl ?_
      intro w hw
      exact ⟨0, 0, 62, rfl, St.sub (by repeat (first | exact List.Sublist.refl _ | apply List.Sublist.cons_cons | apply List.Sublist.cons)) hw, .inr ⟨hnd, rfl, .inl ⟨hs0, rfl, rfl⟩⟩⟩
    · have hs0 := ho.1 rfl
      repeat (first | (apply gJO; first | (apply kS; refine aK ?_) | (apply kX; refine JO_box rfl rfl rfl ?_; intro _) | (apply kA; refine JO_alloc (tb := tb) rfl rfl ?_; intro _) | (apply kBs; refine JO_buildSlice (tb := tb) rfl rfl rfl rfl rfl rfl rfl rfl rfl ?_; intro _) | (apply kM; refine JO_make (tb := tb) rfl rfl rfl rfl rfl rfl (by omega) rfl ?_; intro _) | refine aO ?_) | (apply gJR; first | apply JR_un | apply JR_nil | refine JR_yes rfl rfl ?_ | refine JR_no rfl rfl rfl rfl ?_ | refine JR_noU rfl rfl rfl ?_) | (apply gJS; first | apply JS_seq | apply JS_region | apply JS_skip | apply JS_block | apply JS_inBlock | apply JS_label | refine JS_exit rfl ?_ | refine JS_condT rfl ?_ | refine JS_condF rfl ?_ | refine JS_draw [0] (by kernel_rfl) (by kernel_rfl) (by decide +kernel) ?_ | refine JS_draw [] (by kernel_rfl) (by kernel_rfl) (by decide +kernel) ?_ | refine JS_cond_T rfl (by omega) ?_ | refine JS_cond_F rfl (by omega) ?_) | (apply gQR; first | apply QR_un | apply QR_nil | refine QR_yes rfl rfl ?_ | refine QR_no rfl rfl rfl rfl ?_ | refine QR_noU rfl rfl rfl ?_) | (apply gQO; first | refine aQ ?_ | refine aQK rfl ?_))
      refine JO_call Try.call21 rfl rfl fun w hw => (RCheck5_c p c i B (Rd_weak hr fun w hw => St.sub (by repeat (first | exact List.Sublist.refl _ | apply List.Sublist.cons_cons | apply List.Sublist.cons)) hw) hm hB (by omega) w hw).mono ?_
      rintro e w' ⟨r', o, rfl, hw', h⟩
      obtain ⟨rfl, rfl⟩ : r' = 0 ∧ o = decide (tk B = 32768) := by
        rcases h with ⟨h1, h2, h3⟩ | ⟨h1, h2, h3, h4, h5⟩ | ⟨h1, h2, h3, h4, h5⟩
        · exact absurd hk (BADL.not (r := 1) (.inl ⟨by rw [hm]; exact h1, rfl⟩))
        · exact absurd hk.2.2 h3
        · exact ⟨h4, h5⟩
      refine ⟨_, rfl, _, hw', ?_⟩
      clear h hw' hw w w'
      by_cases htk : tk B = 32768
      · rw [decide_eq_true htk]
        repeat (first | (apply gJO; first | (apply kS; refine aK ?_) | (apply kX; refine JO_box rfl rfl rfl ?_; intro _) | (apply kA; refine JO_alloc (tb := tb) rfl rfl ?_; intro _) | (apply kBs; refine JO_buildSlice (tb := tb) rfl rfl rfl rfl rfl rfl rfl rfl rfl ?_; intro _) | (apply kM; refine JO_make (tb := tb) rfl rfl rfl rfl rfl rfl (by omega) rfl ?_; intro _) | refine aO ?_) | (apply gJR; first | apply JR_un | apply JR_nil | refine JR_yes rfl rfl ?_ | refine JR_no rfl rfl rfl rfl ?_ | refine JR_noU rfl rfl rfl ?_) | (apply gJS; first | apply JS_seq | apply JS_region | apply JS_skip | apply JS_block | apply JS_inBlock | apply JS_label | refine JS_exit rfl ?_ | refine JS_condT rfl ?_ | refine JS_condF rfl ?_ | refine JS_draw [0] (by kernel_rfl) (by kernel_rfl) (by decide +kernel) ?_ | refine JS_draw [] (by kernel_rfl) (by kernel_rfl) (by decide +kernel) ?_ | refine JS_cond_T rfl (by omega) ?_ | refine JS_cond_F rfl (by omega) ?_) | (apply gQR; first | apply QR_un | apply QR_nil | refine QR_yes rfl rfl ?_ | refine QR_no rfl rfl rfl rfl ?_ | refine QR_noU rfl rfl rfl ?_) | (apply gQO; first | refine aQ ?_ | refine aQK rfl ?_))
        refine JS_ret Try.func19 rfl rfl ?_
        intro w hw
        exact ⟨0, left, 20, rfl, St.sub (by repeat (first | exact List.Sublist.refl _ | apply List.Sublist.cons_cons | apply List.Sublist.cons)) hw, .inr ⟨hnd, rfl, .inr (.inl ⟨hs0, htk, rfl, rfl⟩)⟩⟩
      · rw [decide_eq_false htk]
        by_cases hl0 : left = 0
        · repeat (first | (apply gJO; first | (apply kS; refine aK ?_) | (apply kX; refine JO_box rfl rfl rfl ?_; intro _) | (apply kA; refine JO_alloc (tb := tb) rfl rfl ?_; intro _) | (apply kBs; refine JO_buildSlice (tb := tb) rfl rfl rfl rfl rfl rfl rfl rfl rfl ?_; intro _) | (apply kM; refine JO_make (tb := tb) rfl rfl rfl rfl rfl rfl (by omega) rfl ?_; intro _) | refine aO ?_) | (apply gJR; first | apply JR_un | apply JR_nil | refine JR_yes rfl rfl ?_ | refine JR_no rfl rfl rfl rfl ?_ | refine JR_noU rfl rfl rfl ?_) | (apply gJS; first | apply JS_seq | apply JS_region | apply JS_skip | apply JS_block | apply JS_inBlock | apply JS_label | refine JS_exit rfl ?_ | refine JS_condT rfl ?_ | refine JS_condF rfl ?_ | refine JS_draw [0] (by kernel_rfl) (by kernel_rfl) (by decide +kernel) ?_ | refine JS_draw [] (by kernel_rfl) (by kernel_rfl) (by decide +kernel) ?_ | refine JS_cond_T rfl (by omega) ?_ | refine JS_cond_F rfl (by omega) ?_) | (apply gQR; first | apply QR_un | apply QR_nil | refine QR_yes rfl rfl ?_ | refine QR_no rfl rfl rfl rfl ?_ | refine QR_noU rfl rfl rfl ?_) | (apply gQO; first | refine aQ ?_ | refine aQK rfl ?_))
          refine JS_ret Try.func19 rfl rfl ?_
          intro w hw
          exact ⟨0, left, 20, rfl, St.sub (by repeat (first | exact List.Sublist.refl _ | apply List.Sublist.cons_cons | apply List.Sublist.cons)) hw, .inr ⟨hnd, rfl, .inr (.inr ⟨hs0, htk, .inl ⟨hl0, hl0, rfl⟩⟩)⟩⟩
        · repeat (first | (apply gJO; first | (apply kS; refine aK ?_) | (apply kX; refine JO_box rfl rfl rfl ?_; intro _) | (apply kA; refine JO_alloc (tb := tb) rfl rfl ?_; intro _) | (apply kBs; refine JO_buildSlice (tb := tb) rfl rfl rfl rfl rfl rfl rfl rfl rfl ?_; intro _) | (apply kM; refine JO_make (tb := tb) rfl rfl rfl rfl rfl rfl (by omega) rfl ?_; intro _) | refine aO ?_) | (apply gJR; first | apply JR_un | apply JR_nil | refine JR_yes rfl rfl ?_ | refine JR_no rfl rfl rfl rfl ?_ | refine JR_noU rfl rfl rfl ?_) | (apply gJS; first | apply JS_seq | apply JS_region | apply JS_skip | apply JS_block | apply JS_inBlock | apply JS_label | refine JS_exit rfl ?_ | refine JS_condT rfl ?_ | refine JS_condF rfl ?_ | refine JS_draw [0] (by kernel_rfl) (by kernel_rfl) (by decide +kernel) ?_ | refine JS_draw [] (by kernel_rfl) (by kernel_rfl) (by decide +kernel) ?_ | refine JS_cond_T rfl (by omega) ?_ | refine JS_cond_F rfl (by omega) ?_) | (apply gQR; first | apply QR_un | apply QR_nil | refine QR_yes rfl rfl ?_ | refine QR_no rfl rfl rfl rfl ?_ | refine QR_noU rfl rfl rfl ?_) | (apply gQO; first | refine aQ ?_ | refine aQK rfl ?_))
          refine JS_ret Try.func19 rfl rfl ?_
          intro w hw
          exact ⟨0, 1, 62, rfl, St.sub (by repeat (first | exact List.Sublist.refl _ | apply List.Sublist.cons_cons | apply List.Sublist.cons)) hw, .inr ⟨hnd, rfl, .inr (.inr ⟨hs0, htk, .inr ⟨by omega, rfl, rfl⟩⟩)⟩⟩
end Go.Proofs.Ytjgjppgocheklaa
