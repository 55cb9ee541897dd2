import Derived.Test.YtjgjppgocheklaaX4
namespace Go.Proofs.Ytjgjppgocheklaa
open Sx Go
set_option linter.unusedVariables false
set_option linter.unusedSimpArgs false
/-- the first code of a length -/
def fc (B : List Int) : Nat → Int
  | 0 => 0
  | n + 1 => 2 * (fc B n + cn B n)
/-- a symbol's code -/
def cd (B : List Int) (i : Nat) : Int := (fc B (B.getD i 0).toNat + cn (B.take i) (B.getD i 0).toNat) % 4294967296
theorem cd_bd (B : List Int) (i : Nat) : 0 ≤ cd B i ∧ cd B i < 4294967296 := by unfold cd; omega
/-- the codes that are told when the length n has come as far as j -/
def told (B : List Int) (n j i : Nat) : Bool := decide (0 < B.getD i 0 ∧ (B.getD i 0 < n ∨ (B.getD i 0 = n ∧ i < j)))
def cds (B : List Int) (n j : Nat) : List Int := (List.range B.length).map fun i => if told B n j i then cd B i else 0
theorem cds_len (B : List Int) (n j : Nat) : (cds B n j).length = B.length := by simp [cds]
theorem cds_set {B : List Int} {n j : Nat} (hn : 0 < n) (hj : B.getD j 0 = (n : Int)) : (cds B n j).set j (cd B j) = cds B n (j + 1) := by
  apply List.ext_getElem?
  intro i
  rw [List.getElem?_set]
  by_cases hij : j = i
  · subst hij
    by_cases hl : j < B.length
    · have : told B n (j + 1) j = true := by unfold told; rw [hj]; simp; omega
      simp [cds, hl, this]
    · simp [cds, hl]
  · rw [if_neg hij]
    have : told B n (j + 1) i = told B n j i := by
      unfold told
      have : (i < j + 1) ↔ (i < j) := by omega
      simp [this]
    simp only [cds, List.getElem?_map]
    cases h : (List.range B.length)[i]? with
    | none => rfl
    | some x =>
      have hx : x = i := by
        have := List.getElem?_eq_some_iff.1 h
        obtain ⟨h1, h2⟩ := this
        simp at h2; exact h2.symm
      subst hx
      simp [this]
theorem cds_no {B : List Int} {n j : Nat} (hj : ¬ B.getD j 0 = (n : Int)) : cds B n j = cds B n (j + 1) := by
  unfold cds
  apply List.map_congr_left
  intro i _
  have : told B n (j + 1) i = told B n j i := by
    unfold told
    refine decide_eq_decide.2 ?_
    by_cases hij : i = j
    · subst hij; omega
    · omega
  rw [this]
theorem cds_next (B : List Int) (n : Nat) : cds B n B.length = cds B (n + 1) 0 := by
  unfold cds
  apply List.map_congr_left
  intro i hi
  have hi' : i < B.length := by simpa using hi
  have : told B (n + 1) 0 i = told B n B.length i := by
    unfold told
    congr 1
    simp only [eq_iff_iff]
    omega
  rw [this]
theorem cds_zero (B : List Int) (hB : OKB B) : cds B 1 0 = List.replicate B.length 0 := by
  unfold cds
  rw [List.eq_replicate_iff]
  refine ⟨by simp, fun b hb => ?_⟩
  simp only [List.mem_map, List.mem_range] at hb
  obtain ⟨i, _, rfl⟩ := hb
  have : told B 1 0 i = false := by
    unfold told
    have := hB i
    simp; omega
  simp [this]
theorem cn_yes (B : List Int) (j n : Nat) (h : j < B.length) (hn : B.getD j 0 = (n : Int)) (h0 : 0 < n) : cn (B.take (j + 1)) n = cn (B.take j) n + 1 := by
  rw [congrFun (cn_step B j h n hn h0) n]; simp
theorem cn_no (B : List Int) (hB : OKB B) (j n : Nat) (h : j < B.length) (hn : ¬ B.getD j 0 = (n : Int)) : cn (B.take (j + 1)) n = cn (B.take j) n := by
  obtain ⟨x, hx⟩ := Int.eq_ofNat_of_zero_le (hB j).1
  by_cases h0 : 0 < x
  · rw [congrFun (cn_step B j h x hx h0) n, if_neg (by omega)]
  · have : x = 0 := by omega
    subst this
    rw [cn_zero B j h hx]
set_option maxHeartbeats 4000000 in
/-- the reference's codes -/
theorem RCodes_c {w0 : World} {H : List Asn} (p : Option Addr) (c m : Nat) (B : List Int) (hr : Rd w0 H (.slice p m c) m (ints .u8 B)) (hm : B.length = m) (hB : OKB B) (hm1 : m ≤ 1000) (w : World) (hw : St w0 H w) :
    Calls Try.prog 23 #[.slice p m c] w fun e w' => ∃ q d, e = .returned (.slice q m d) ∧ St w0 (vec 42 1 (.slice q m d) m (ints .u32 (cds B 16 0)) :: H) w' := by
  refine enter (vs := [.slice p m c]) Try.func23 rfl rfl rfl hw ?_
  repeat (first | (apply gJR; first | (apply gJO; first | (apply kS; refine aK ?_) | (apply kX; refine JO_box rfl rfl rfl ?_; intro _) | (apply kA; refine JO_alloc (tb := tb) rfl rfl ?_; intro _) | (apply kBs; refine JO_buildSlice (tb := tb) rfl rfl rfl rfl rfl rfl rfl rfl rfl ?_; intro _) | (apply kM; refine JO_make (tb := tb) rfl rfl rfl rfl rfl rfl (by omega) rfl ?_; intro _) | refine aO ?_) | (apply gJR; first | apply JR_un | apply JR_nil | refine JR_yes rfl rfl ?_ | refine JR_no rfl rfl rfl rfl ?_ | refine JR_noU rfl rfl rfl ?_) | (apply gJS; first | apply JS_seq | apply JS_region | apply JS_skip | apply JS_block | apply JS_inBlock | apply JS_label | refine JS_exit rfl ?_ | refine JS_condT rfl ?_ | refine JS_condF rfl ?_ | refine JS_draw [0] (by kernel_rfl) (by kernel_rfl) (by decide +kernel) ?_ | refine JS_draw [] (by kernel_rfl) (by kernel_rfl) (by decide +kernel) ?_ | refine JS_cond_T rfl (by omega) ?_ | refine JS_cond_F rfl (by omega) ?_) | (apply gQR; first | apply QR_un | apply QR_nil | refine QR_yes rfl rfl ?_ | refine QR_no rfl rfl rfl rfl ?_ | refine QR_noU rfl rfl rfl ?_) | (apply gQO; first | refine aQ ?_ | refine aQK rfl ?_)) | (apply gJO; first | (apply gJO; first | (apply kS; refine aK ?_) | (apply kX; refine JO_box rfl rfl rfl ?_; intro _) | (apply kA; refine JO_alloc (tb := tb) rfl rfl ?_; intro _) | (apply kBs; refine JO_buildSlice (tb := tb) rfl rfl rfl rfl rfl rfl rfl rfl rfl ?_; intro _) | (apply kM; refine JO_make (tb := tb) rfl rfl rfl rfl rfl rfl (by omega) rfl ?_; intro _) | refine aO ?_) | (apply gJR; first | apply JR_un | apply JR_nil | refine JR_yes rfl rfl ?_ | refine JR_no rfl rfl rfl rfl ?_ | refine JR_noU rfl rfl rfl ?_) | (apply gJS; first | apply JS_seq | apply JS_region | apply JS_skip | apply JS_block | apply JS_inBlock | apply JS_label | refine JS_exit rfl ?_ | refine JS_condT rfl ?_ | refine JS_condF rfl ?_ | refine JS_draw [0] (by kernel_rfl) (by kernel_rfl) (by decide +kernel) ?_ | refine JS_draw [] (by kernel_rfl) (by kernel_rfl) (by decide +kernel) ?_ | refine JS_cond_T rfl (by omega) ?_ | refine JS_cond_F rfl (by omega) ?_) | (apply gQR; first | apply QR_un | apply QR_nil | refine QR_yes rfl rfl ?_ | refine QR_no rfl rfl rfl rfl ?_ | refine QR_noU rfl rfl rfl ?_) | (apply gQO; first | refine aQ ?_ | refine aQK rfl ?_)) | apply JS_seq | apply JS_region)
  rename_i po
  rw [show (rep (Int.toNat m) [Value.int IntKind.u32 0]) = ints .u32 (List.replicate m 0) from ints_rep]
  rw [show (m : Int).toNat = m from rfl]
  refine JS_block ?_
  refine JS_loop1 (fun (n : Nat) => [(0, .slice p m c), (3, .slice (some po) m m), (4, .int .u32 ((fc B n + cn B n) % 4294967296)), (5, .int .u8 (n + 1))]) (fun n => vec 42 1 (.slice (some po) m m) m (ints .u32 (cds B (n + 1) 0)) :: H) (fun n => n ≤ 15) (fun n => 15 - n) 0 (by omega) (by repeat (first | exact trivial | refine ⟨rfl, ?_⟩ | refine ⟨lookI rfl (by omega), ?_⟩)) (fun w hw => by rw [cds_zero B hB, hm]; exact hw) ?_
  intro n hn again
  by_cases hn15 : n < 15
  · repeat (first | (apply gJR; first | (apply gJO; first | (apply kS; refine aK ?_) | (apply kX; refine JO_box rfl rfl rfl ?_; intro _) | (apply kA; refine JO_alloc (tb := tb) rfl rfl ?_; intro _) | (apply kBs; refine JO_buildSlice (tb := tb) rfl rfl rfl rfl rfl rfl rfl rfl rfl ?_; intro _) | (apply kM; refine JO_make (tb := tb) rfl rfl rfl rfl rfl rfl (by omega) rfl ?_; intro _) | refine aO ?_) | (apply gJR; first | apply JR_un | apply JR_nil | refine JR_yes rfl rfl ?_ | refine JR_no rfl rfl rfl rfl ?_ | refine JR_noU rfl rfl rfl ?_) | (apply gJS; first | apply JS_seq | apply JS_region | apply JS_skip | apply JS_block | apply JS_inBlock | apply JS_label | refine JS_exit rfl ?_ | refine JS_condT rfl ?_ | refine JS_condF rfl ?_ | refine JS_draw [0] (by kernel_rfl) (by kernel_rfl) (by decide +kernel) ?_ | refine JS_draw [] (by kernel_rfl) (by kernel_rfl) (by decide +kernel) ?_ | refine JS_cond_T rfl (by omega) ?_ | refine JS_cond_F rfl (by omega) ?_) | (apply gQR; first | apply QR_un | apply QR_nil | refine QR_yes rfl rfl ?_ | refine QR_no rfl rfl rfl rfl ?_ | refine QR_noU rfl rfl rfl ?_) | (apply gQO; first | refine aQ ?_ | refine aQK rfl ?_)) | (apply gJO; first | (apply gJO; first | (apply kS; refine aK ?_) | (apply kX; refine JO_box rfl rfl rfl ?_; intro _) | (apply kA; refine JO_alloc (tb := tb) rfl rfl ?_; intro _) | (apply kBs; refine JO_buildSlice (tb := tb) rfl rfl rfl rfl rfl rfl rfl rfl rfl ?_; intro _) | (apply kM; refine JO_make (tb := tb) rfl rfl rfl rfl rfl rfl (by omega) rfl ?_; intro _) | refine aO ?_) | (apply gJR; first | apply JR_un | apply JR_nil | refine JR_yes rfl rfl ?_ | refine JR_no rfl rfl rfl rfl ?_ | refine JR_noU rfl rfl rfl ?_) | (apply gJS; first | apply JS_seq | apply JS_region | apply JS_skip | apply JS_block | apply JS_inBlock | apply JS_label | refine JS_exit rfl ?_ | refine JS_condT rfl ?_ | refine JS_condF rfl ?_ | refine JS_draw [0] (by kernel_rfl) (by kernel_rfl) (by decide +kernel) ?_ | refine JS_draw [] (by kernel_rfl) (by kernel_rfl) (by decide +kernel) ?_ | refine JS_cond_T rfl (by omega) ?_ | refine JS_cond_F rfl (by omega) ?_) | (apply gQR; first | apply QR_un | apply QR_nil | refine QR_yes rfl rfl ?_ | refine QR_no rfl rfl rfl rfl ?_ | refine QR_noU rfl rfl rfl ?_) | (apply gQO; first | refine aQ ?_ | refine aQK rfl ?_)) | apply JS_seq | apply JS_region | refine JS_condT rfl ?_ | apply JS_skip | (refine JS_block ?_; apply JS_seq))
    have hcode : 2 * ((fc B n + cn B n) % 4294967296) % 4294967296 = (fc B (n + 1) + cn (B.take 0) (n + 1)) % 4294967296 := by
      have : cn (B.take 0) (n + 1) = 0 := by simp [cn]
      rw [this]; simp only [fc]; omega
    rw [hcode]
    refine JS_block ?_
    refine JS_loop1 (fun (j : Nat) => [(0, .slice p m c), (3, .slice (some po) m m), (4, .int .u32 ((fc B (n + 1) + cn (B.take j) (n + 1)) % 4294967296)), (5, .int .u8 (n + 1)), (6, .int .i64 j)]) (fun j => vec 42 1 (.slice (some po) m m) m (ints .u32 (cds B (n + 1) j)) :: H) (fun j => j ≤ m) (fun j => m - j) 0 (by omega) (by repeat (first | exact trivial | refine ⟨rfl, ?_⟩ | refine ⟨lookI rfl (by omega), ?_⟩)) (fun w hw => hw) ?_
    intro j hj again2
    have hr' : Rd w0 (vec 42 1 (.slice (some po) m m) m (ints .u32 (cds B (n + 1) j)) :: H) (.slice p m c) m (ints .u8 B) := Rd_weak hr fun w hw => St.sub (by repeat (first | exact List.Sublist.refl _ | apply List.Sublist.cons_cons | apply List.Sublist.cons)) hw
    have hcl := cds_len B (n + 1) j
    by_cases hjm : j < m
    · have gj : (ints .u8 B)[j]? = some (.int .u8 (B.getD j 0)) := ints_get (by omega)
      by_cases heq : B.getD j 0 = ((n + 1 : Nat) : Int)
      · have hset := cds_set (B := B) (n := n + 1) (j := j) (by omega) heq
        have hcy := cn_yes B j (n + 1) (by omega) heq (by omega)
        have hcd : cd B j = (fc B (n + 1) + cn (B.take j) (n + 1)) % 4294967296 := by unfold cd; rw [heq]; rfl
        have heq' : B.getD j 0 = (n : Int) + 1 := by omega
        rw [hcd] at hset
        clear heq hcd
        generalize hC : (fc B (n + 1) + cn (B.take j) (n + 1)) % 4294967296 = C at *
        repeat (first | (apply gJO; refine JO_v (V_loadC (tb := tb) rfl hr' rfl rfl gj rfl) ?_) | (first | (apply gJO; first | (apply kS; refine aK ?_) | (apply kX; refine JO_box rfl rfl rfl ?_; intro _) | (apply kA; refine JO_alloc (tb := tb) rfl rfl ?_; intro _) | (apply kBs; refine JO_buildSlice (tb := tb) rfl rfl rfl rfl rfl rfl rfl rfl rfl ?_; intro _) | (apply kM; refine JO_make (tb := tb) rfl rfl rfl rfl rfl rfl (by omega) rfl ?_; intro _) | refine aO ?_) | (apply gJR; first | apply JR_un | apply JR_nil | refine JR_yes rfl rfl ?_ | refine JR_no rfl rfl rfl rfl ?_ | refine JR_noU rfl rfl rfl ?_) | (apply gJS; first | apply JS_seq | apply JS_region | apply JS_skip | apply JS_block | apply JS_inBlock | apply JS_label | refine JS_exit rfl ?_ | refine JS_condT rfl ?_ | refine JS_condF rfl ?_ | refine JS_draw [0] (by kernel_rfl) (by kernel_rfl) (by decide +kernel) ?_ | refine JS_draw [] (by kernel_rfl) (by kernel_rfl) (by decide +kernel) ?_ | refine JS_cond_T rfl (by omega) ?_ | refine JS_cond_F rfl (by omega) ?_) | (apply gQR; first | apply QR_un | apply QR_nil | refine QR_yes rfl rfl ?_ | refine QR_no rfl rfl rfl rfl ?_ | refine QR_noU rfl rfl rfl ?_) | (apply gQO; first | refine aQ ?_ | refine aQK rfl ?_)))
        exact JS_again1 again2 (j + 1) (by omega) (by omega) (by exact ⟨rfl, rfl, lookI rfl (by rw [hcy]; omega), rfl, lookI rfl (by omega), trivial⟩) (fun w hw => by rw [← hset]; exact hw)
      · have hset := cds_no (B := B) (n := n + 1) (j := j) heq
        have hcy := cn_no B hB j (n + 1) (by omega) heq
        have heq' : ¬ B.getD j 0 = (n : Int) + 1 := by omega
        clear heq
        repeat (first | (apply gJO; refine JO_v (V_loadC (tb := tb) rfl hr' rfl rfl gj rfl) ?_) | (first | (apply gJO; first | (apply kS; refine aK ?_) | (apply kX; refine JO_box rfl rfl rfl ?_; intro _) | (apply kA; refine JO_alloc (tb := tb) rfl rfl ?_; intro _) | (apply kBs; refine JO_buildSlice (tb := tb) rfl rfl rfl rfl rfl rfl rfl rfl rfl ?_; intro _) | (apply kM; refine JO_make (tb := tb) rfl rfl rfl rfl rfl rfl (by omega) rfl ?_; intro _) | refine aO ?_) | (apply gJR; first | apply JR_un | apply JR_nil | refine JR_yes rfl rfl ?_ | refine JR_no rfl rfl rfl rfl ?_ | refine JR_noU rfl rfl rfl ?_) | (apply gJS; first | apply JS_seq | apply JS_region | apply JS_skip | apply JS_block | apply JS_inBlock | apply JS_label | refine JS_exit rfl ?_ | refine JS_condT rfl ?_ | refine JS_condF rfl ?_ | refine JS_draw [0] (by kernel_rfl) (by kernel_rfl) (by decide +kernel) ?_ | refine JS_draw [] (by kernel_rfl) (by kernel_rfl) (by decide +kernel) ?_ | refine JS_cond_T rfl (by omega) ?_ | refine JS_cond_F rfl (by omega) ?_) | (apply gQR; first | apply QR_un | apply QR_nil | refine QR_yes rfl rfl ?_ | refine QR_no rfl rfl rfl rfl ?_ | refine QR_noU rfl rfl rfl ?_) | (apply gQO; first | refine aQ ?_ | refine aQK rfl ?_)))
        exact JS_again1 again2 (j + 1) (by omega) (by omega) (by exact ⟨rfl, rfl, lookI rfl (by rw [hcy]), rfl, lookI rfl (by omega), trivial⟩) (fun w hw => by rw [← hset]; exact hw)
    · obtain rfl : j = m := by omega
      have e1 : B.take j = B := List.take_of_length_le (by omega)
      have hnx := cds_next B (n + 1)
      rw [hm] at hnx
      rw [e1, hnx]
      clear again2
      repeat (first | (apply gJO; first | (apply kS; refine aK ?_) | (apply kX; refine JO_box rfl rfl rfl ?_; intro _) | (apply kA; refine JO_alloc (tb := tb) rfl rfl ?_; intro _) | (apply kBs; refine JO_buildSlice (tb := tb) rfl rfl rfl rfl rfl rfl rfl rfl rfl ?_; intro _) | (apply kM; refine JO_make (tb := tb) rfl rfl rfl rfl rfl rfl (by omega) rfl ?_; intro _) | refine aO ?_) | (apply gJR; first | apply JR_un | apply JR_nil | refine JR_yes rfl rfl ?_ | refine JR_no rfl rfl rfl rfl ?_ | refine JR_noU rfl rfl rfl ?_) | (apply gJS; first | apply JS_seq | apply JS_region | apply JS_skip | apply JS_block | apply JS_inBlock | apply JS_label | refine JS_exit rfl ?_ | refine JS_condT rfl ?_ | refine JS_condF rfl ?_ | refine JS_draw [0] (by kernel_rfl) (by kernel_rfl) (by decide +kernel) ?_ | refine JS_draw [] (by kernel_rfl) (by kernel_rfl) (by decide +kernel) ?_ | refine JS_cond_T rfl (by omega) ?_ | refine JS_cond_F rfl (by omega) ?_) | (apply gQR; first | apply QR_un | apply QR_nil | refine QR_yes rfl rfl ?_ | refine QR_no rfl rfl rfl rfl ?_ | refine QR_noU rfl rfl rfl ?_) | (apply gQO; first | refine aQ ?_ | refine aQK rfl ?_))
      exact JS_again1 again (n + 1) (by omega) (by omega) (by repeat (first | exact trivial | refine ⟨rfl, ?_⟩ | refine ⟨lookI rfl (by omega), ?_⟩)) (fun w hw => hw)
  · obtain rfl : n = 15 := by omega
    clear again
    repeat (first | (apply gJO; first | (apply kS; refine aK ?_) | (apply kX; refine JO_box rfl rfl rfl ?_; intro _) | (apply kA; refine JO_alloc (tb := tb) rfl rfl ?_; intro _) | (apply kBs; refine JO_buildSlice (tb := tb) rfl rfl rfl rfl rfl rfl rfl rfl rfl ?_; intro _) | (apply kM; refine JO_make (tb := tb) rfl rfl rfl rfl rfl rfl (by omega) rfl ?_; intro _) | refine aO ?_) | (apply gJR; first | apply JR_un | apply JR_nil | refine JR_yes rfl rfl ?_ | refine JR_no rfl rfl rfl rfl ?_ | refine JR_noU rfl rfl rfl ?_) | (apply gJS; first | apply JS_seq | apply JS_region | apply JS_skip | apply JS_block | apply JS_inBlock | apply JS_label | refine JS_exit rfl ?_ | refine JS_condT rfl ?_ | refine JS_condF rfl ?_ | refine JS_draw [0] (by kernel_rfl) (by kernel_rfl) (by decide +kernel) ?_ | refine JS_draw [] (by kernel_rfl) (by kernel_rfl) (by decide +kernel) ?_ | refine JS_cond_T rfl (by omega) ?_ | refine JS_cond_F rfl (by omega) ?_) | (apply gQR; first | apply QR_un | apply QR_nil | refine QR_yes rfl rfl ?_ | refine QR_no rfl rfl rfl rfl ?_ | refine QR_noU rfl rfl rfl ?_) | (apply gQO; first | refine aQ ?_ | refine aQK rfl ?_))
    refine JS_ret Try.func23 rfl rfl ?_
    intro w hw
    exact ⟨_, _, rfl, hw⟩
end Go.Proofs.Ytjgjppgocheklaa
