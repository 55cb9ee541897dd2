import Derived.Test.YtakgoflfcgofdaaP6
import Derived.Test.YtakgoflfcgofdaaZ29
namespace Go.Proofs.Ytakgoflfcgofdaa
open Sx Go
set_option linter.unusedVariables false
set_option linter.unusedSimpArgs false
attribute [local irreducible] syA fc tk cds
theorem stbs_app : ∀ (A C : List (List Int)), stbs (A ++ C) = stbs A ++ stbs C
  | [], C => rfl
  | X :: A, C => by simp only [List.cons_append, stbs, stbs_app A C, List.append_assoc]
theorem alls_app : ∀ (A C : List (List Int)), alls (A ++ C) = alls A ++ alls C
  | [], C => rfl
  | X :: A, C => by simp only [List.cons_append, alls, alls_app A C, List.append_assoc]
def fB (Z : Nat → List Int) (i : Nat) : List Int := stbs ((List.range i).map Z)
def fY (Z : Nat → List Int) (i : Nat) : List Int := alls ((List.range i).map Z)
theorem fB_0 (Z : Nat → List Int) : fB Z 0 = [] := rfl
theorem fY_0 (Z : Nat → List Int) : fY Z 0 = [] := rfl
theorem fB_s (Z : Nat → List Int) (i : Nat) : fB Z (i + 1) = fB Z i ++ stb (Z i) := by
  unfold fB; rw [List.range_succ, List.map_append, stbs_app]; simp [stbs]
theorem fY_s (Z : Nat → List Int) (i : Nat) : fY Z (i + 1) = fY Z i ++ Z i := by
  unfold fY; rw [List.range_succ, List.map_append, alls_app]; simp [alls]
theorem OKB_stb {X : List Int} (h : OKB X) (hl : X.length ≤ 2000) : OKB (stb X) := by
  unfold stb
  refine OKB_app ?_ h
  intro j
  rcases (show j = 0 ∨ j = 1 ∨ j = 2 ∨ j = 3 ∨ j = 4 ∨ 5 ≤ j by omega) with rfl | rfl | rfl | rfl | rfl | hj
  · simp
  · simp; omega
  · simp; omega
  · simp; omega
  · simp; omega
  · rw [List.getD_eq_getElem?_getD, List.getElem?_eq_none (by simp; omega)]; simp
theorem fBY {Z : Nat → List Int} : ∀ n, (∀ j, j < n → OKB (Z j) ∧ (Z j).length ≤ 2000) → OKB (fB Z n) ∧ (fB Z n).length ≤ 2005 * n ∧ (fY Z n).length ≤ 2000 * n
  | 0, _ => ⟨OKB_nil, by simp [fB_0], by simp [fY_0]⟩
  | n + 1, h => by
    obtain ⟨h1, h2, h3⟩ := fBY n fun j hj => h j (by omega)
    obtain ⟨g1, g2⟩ := h n (by omega)
    rw [fB_s, fY_s]
    refine ⟨OKB_app h1 (OKB_stb g1 g2), ?_, ?_⟩
    · rw [List.length_append, stb_len]; omega
    · rw [List.length_append]; omega
theorem OKB_30 : OKB [3, 0] := by
  intro j
  rcases (show j = 0 ∨ j = 1 ∨ 2 ≤ j by omega) with rfl | rfl | hj
  · simp
  · simp
  · rw [List.getD_eq_getElem?_getD, List.getElem?_eq_none (by simp; omega)]; simp
theorem ALLR_fB {Z : Nat → List Int} {n : Nat} (h : ∀ j, j < n → OKB (Z j) ∧ (Z j).length ≤ 2000) (hn : n ≤ 20) : OKB (fB Z n ++ [3, 0]) ∧ ALLR (fB Z n ++ [3, 0]) 65536 (.ok (8 * (fB Z n).length + 10) (fY Z n)) := by
  obtain ⟨h1, h2, h3⟩ := fBY n h
  have hok : OKB (fB Z n ++ [3, 0]) := OKB_app h1 OKB_30
  refine ⟨hok, ALLR_stored (R := (List.range n).map Z) hok (fun X hX => ?_) (by show (fY Z n).length ≤ _; omega)⟩
  obtain ⟨j, hj, rfl⟩ := List.mem_map.1 hX
  exact (h j (List.mem_range.1 hj)).2
attribute [local irreducible] fB fY
set_option maxRecDepth 10000 in
set_option maxHeartbeats 2000000 in
theorem InflateStored_c (p : Option Addr) (c m : Nat) (F : (Nat → Option Addr) × (Nat → Nat) × (Nat → Nat) × (Nat → List Int)) (sp : Int) (w0 : World) (ha : ArgRd w0 (.slice p m c) m ((List.range m).map fun r => .slice (F.1 r) (F.2.1 r) (F.2.2.1 r)))
    (hrow : ∀ r, r < m → ArgRd w0 (.slice (F.1 r) (F.2.1 r) (F.2.2.1 r)) (F.2.1 r) (ints .u8 (F.2.2.2 r)) ∧ (F.2.2.2 r).length = F.2.1 r ∧ OKB (F.2.2.2 r)) (hsp : 0 ≤ sp ∧ sp < 65536) :
    Calls Try.prog 9 #[.slice p m c, .int .u16 sp] w0 fun e w' => e = .returned (.bool true) ∧ RowKit.Below w0.heap.size w0 w' := by
  obtain ⟨A, L, C, Z⟩ := F
  simp only at ha hrow
  obtain ⟨s, rfl⟩ : ∃ n : Nat, sp = n := ⟨sp.toNat, by omega⟩
  refine enter (vs := [.slice p m c, .int .u16 s]) Try.func9 rfl rfl rfl (St.start w0) ?_
  repeat (first | (apply gJO; first | (apply kS; refine aK ?_) | (apply kX; refine JO_box rfl rfl rfl ?_; intro _) | (apply kA; refine JO_alloc (tb := tb) rfl rfl ?_; intro _) | (apply kBs; refine JO_buildSlice (tb := tb) rfl rfl rfl rfl rfl rfl rfl rfl rfl ?_; intro _) | (apply kM; refine JO_make (tb := tb) rfl rfl rfl rfl rfl rfl (by omega) rfl ?_; intro _) | refine aO ?_) | (apply gJR; first | apply JR_un | apply JR_nil | refine JR_yes rfl rfl ?_ | refine JR_no rfl rfl rfl rfl ?_ | refine JR_noU rfl rfl rfl ?_) | (apply gJS; first | apply JS_seq | apply JS_region | apply JS_skip | apply JS_block | apply JS_inBlock | apply JS_label | refine JS_exit rfl ?_ | refine JS_condT rfl ?_ | refine JS_condF rfl ?_ | refine JS_draw [0] (by kernel_rfl) (by kernel_rfl) (by decide +kernel) ?_ | refine JS_draw [] (by kernel_rfl) (by kernel_rfl) (by decide +kernel) ?_ | refine JS_cond_T rfl (by omega) ?_ | refine JS_cond_F rfl (by omega) ?_) | (apply gQR; first | apply QR_un | apply QR_nil | refine QR_yes rfl rfl ?_ | refine QR_no rfl rfl rfl rfl ?_ | refine QR_noU rfl rfl rfl ?_) | (apply gQO; first | refine aQ ?_ | refine aQK rfl ?_))
  refine JO_call Try.call27 rfl rfl fun w hw => (alive6_c w hw).mono ?_
  rintro e w' ⟨rfl, hw'⟩
  refine ⟨_, rfl, _, hw', ?_⟩
  clear hw' hw w w'
  repeat (first | (apply gJO; first | (apply kS; refine aK ?_) | (apply kX; refine JO_box rfl rfl rfl ?_; intro _) | (apply kA; refine JO_alloc (tb := tb) rfl rfl ?_; intro _) | (apply kBs; refine JO_buildSlice (tb := tb) rfl rfl rfl rfl rfl rfl rfl rfl rfl ?_; intro _) | (apply kM; refine JO_make (tb := tb) rfl rfl rfl rfl rfl rfl (by omega) rfl ?_; intro _) | refine aO ?_) | (apply gJR; first | apply JR_un | apply JR_nil | refine JR_yes rfl rfl ?_ | refine JR_no rfl rfl rfl rfl ?_ | refine JR_noU rfl rfl rfl ?_) | (apply gJS; first | apply JS_seq | apply JS_region | apply JS_skip | apply JS_block | apply JS_inBlock | apply JS_label | refine JS_exit rfl ?_ | refine JS_condT rfl ?_ | refine JS_condF rfl ?_ | refine JS_draw [0] (by kernel_rfl) (by kernel_rfl) (by decide +kernel) ?_ | refine JS_draw [] (by kernel_rfl) (by kernel_rfl) (by decide +kernel) ?_ | refine JS_cond_T rfl (by omega) ?_ | refine JS_cond_F rfl (by omega) ?_) | (apply gQR; first | apply QR_un | apply QR_nil | refine QR_yes rfl rfl ?_ | refine QR_no rfl rfl rfl rfl ?_ | refine QR_noU rfl rfl rfl ?_) | (apply gQO; first | refine aQ ?_ | refine aQK rfl ?_))
  refine JS_loop5 (fun (i : Nat) (pb : Option Addr) (cb : Nat) (pa : Option Addr) (ca : Nat) => [(0, .slice p m c), (1, .int .u16 s), (7, .int .i64 i), (5, .slice pb (fB Z i).length cb), (6, .slice pa (fY Z i).length ca)])
    (fun i pb cb pa ca => [vec 5 1 (.slice pb (fB Z i).length cb) (fB Z i).length (ints .u8 (fB Z i)), vec 5 1 (.slice pa (fY Z i).length ca) (fY Z i).length (ints .u8 (fY Z i))])
    (fun i _ _ _ _ => i ≤ m ∧ i ≤ 20 ∧ ∀ j, j < i → OKB (Z j) ∧ (Z j).length ≤ 2000) (fun i _ _ _ _ => m - i) 0 none 0 none 0 ⟨Nat.zero_le _, by omega, fun j hj => absurd hj (by omega)⟩
    (by simp only [fB_0, fY_0, List.length_nil]; exact (by repeat (first | exact trivial | refine ⟨rfl, ?_⟩ | refine ⟨lookI rfl (by omega), ?_⟩))) (fun w h => by simp only [fB_0, fY_0, List.length_nil]; exact St.nilvec (St.nilvec h)) ?_
  intro i pb cb pa ca ⟨him, hi20, hz⟩ again
  obtain ⟨hOB, hBl, hYl⟩ := fBY i hz
  obtain ⟨nb, hnb⟩ : ∃ n, (fB Z i).length = n := ⟨_, rfl⟩
  obtain ⟨ny, hny⟩ : ∃ n, (fY Z i).length = n := ⟨_, rfl⟩
  rw [hnb] at hBl
  rw [hny] at hYl
  rw [hnb, hny]
  by_cases hgo : i < m ∧ i < 20
  · obtain ⟨h1, h2⟩ := hgo
    obtain ⟨hri, hli, hoi⟩ := hrow i h1
    have gi : ((List.range m).map fun r => (.slice (A r) (L r) (C r) : Value))[i]? = some (.slice (A i) (L i) (C i)) := by simp [List.getElem?_map, List.getElem?_range h1]
    by_cases hbig : 2000 < L i
    · repeat (first | (apply gJO; refine JO_v (V_loadC (tb := tb) rfl (ha.rd _) rfl rfl gi rfl) ?_) | first | (apply gJO; first | (apply kS; refine aK ?_) | (apply kX; refine JO_box rfl rfl rfl ?_; intro _) | (apply kA; refine JO_alloc (tb := tb) rfl rfl ?_; intro _) | (apply kBs; refine JO_buildSlice (tb := tb) rfl rfl rfl rfl rfl rfl rfl rfl rfl ?_; intro _) | (apply kM; refine JO_make (tb := tb) rfl rfl rfl rfl rfl rfl (by omega) rfl ?_; intro _) | refine aO ?_) | (apply gJR; first | apply JR_un | apply JR_nil | refine JR_yes rfl rfl ?_ | refine JR_no rfl rfl rfl rfl ?_ | refine JR_noU rfl rfl rfl ?_) | (apply gJS; first | apply JS_seq | apply JS_region | apply JS_skip | apply JS_block | apply JS_inBlock | apply JS_label | refine JS_exit rfl ?_ | refine JS_condT rfl ?_ | refine JS_condF rfl ?_ | refine JS_draw [0] (by kernel_rfl) (by kernel_rfl) (by decide +kernel) ?_ | refine JS_draw [] (by kernel_rfl) (by kernel_rfl) (by decide +kernel) ?_ | refine JS_cond_T rfl (by omega) ?_ | refine JS_cond_F rfl (by omega) ?_) | (apply gQR; first | apply QR_un | apply QR_nil | refine QR_yes rfl rfl ?_ | refine QR_no rfl rfl rfl rfl ?_ | refine QR_noU rfl rfl rfl ?_) | (apply gQO; first | refine aQ ?_ | refine aQK rfl ?_))
      exact JS_ret Try.func9 rfl rfl fun w hw => ⟨rfl, hw.grown⟩
    · repeat (first | (apply gJO; refine JO_v (V_loadC (tb := tb) rfl (ha.rd _) rfl rfl gi rfl) ?_) | first | (apply gJO; first | (apply kS; refine aK ?_) | (apply kX; refine JO_box rfl rfl rfl ?_; intro _) | (apply kA; refine JO_alloc (tb := tb) rfl rfl ?_; intro _) | (apply kBs; refine JO_buildSlice (tb := tb) rfl rfl rfl rfl rfl rfl rfl rfl rfl ?_; intro _) | (apply kM; refine JO_make (tb := tb) rfl rfl rfl rfl rfl rfl (by omega) rfl ?_; intro _) | refine aO ?_) | (apply gJR; first | apply JR_un | apply JR_nil | refine JR_yes rfl rfl ?_ | refine JR_no rfl rfl rfl rfl ?_ | refine JR_noU rfl rfl rfl ?_) | (apply gJS; first | apply JS_seq | apply JS_region | apply JS_skip | apply JS_block | apply JS_inBlock | apply JS_label | refine JS_exit rfl ?_ | refine JS_condT rfl ?_ | refine JS_condF rfl ?_ | refine JS_draw [0] (by kernel_rfl) (by kernel_rfl) (by decide +kernel) ?_ | refine JS_draw [] (by kernel_rfl) (by kernel_rfl) (by decide +kernel) ?_ | refine JS_cond_T rfl (by omega) ?_ | refine JS_cond_F rfl (by omega) ?_) | (apply gQR; first | apply QR_un | apply QR_nil | refine QR_yes rfl rfl ?_ | refine QR_no rfl rfl rfl rfl ?_ | refine QR_noU rfl rfl rfl ?_) | (apply gQO; first | refine aQ ?_ | refine aQK rfl ?_))
      (refine JO_app (tb := tb) rfl rfl rfl rfl rfl rfl (by repeat (first | exact Sel.here _ _ | apply Sel.there)) (by first | exact vec_rd (by repeat (first | apply List.Mem.head | apply List.Mem.tail)) | assumption | exact ArgRd.rd (by assumption) _ | (apply Rd_weak; assumption; intro _ hx; exact St.sub (by repeat (first | exact List.Sublist.refl _ | apply List.Sublist.cons_cons | apply List.Sublist.cons)) hx)) (by simp only [ints_len, List.length_cons, List.length_nil]; first | omega | rfl) (by first | exact ints_one | (repeat (first | exact trivial | refine ⟨rfl, ?_⟩))) (by omega) rfl ?_; intro _ _)
      repeat (first | (apply gJO; refine JO_v (V_loadC (tb := tb) rfl (ha.rd _) rfl rfl gi rfl) ?_) | first | (apply gJO; first | (apply kS; refine aK ?_) | (apply kX; refine JO_box rfl rfl rfl ?_; intro _) | (apply kA; refine JO_alloc (tb := tb) rfl rfl ?_; intro _) | (apply kBs; refine JO_buildSlice (tb := tb) rfl rfl rfl rfl rfl rfl rfl rfl rfl ?_; intro _) | (apply kM; refine JO_make (tb := tb) rfl rfl rfl rfl rfl rfl (by omega) rfl ?_; intro _) | refine aO ?_) | (apply gJR; first | apply JR_un | apply JR_nil | refine JR_yes rfl rfl ?_ | refine JR_no rfl rfl rfl rfl ?_ | refine JR_noU rfl rfl rfl ?_) | (apply gJS; first | apply JS_seq | apply JS_region | apply JS_skip | apply JS_block | apply JS_inBlock | apply JS_label | refine JS_exit rfl ?_ | refine JS_condT rfl ?_ | refine JS_condF rfl ?_ | refine JS_draw [0] (by kernel_rfl) (by kernel_rfl) (by decide +kernel) ?_ | refine JS_draw [] (by kernel_rfl) (by kernel_rfl) (by decide +kernel) ?_ | refine JS_cond_T rfl (by omega) ?_ | refine JS_cond_F rfl (by omega) ?_) | (apply gQR; first | apply QR_un | apply QR_nil | refine QR_yes rfl rfl ?_ | refine QR_no rfl rfl rfl rfl ?_ | refine QR_noU rfl rfl rfl ?_) | (apply gQO; first | refine aQ ?_ | refine aQK rfl ?_))
      (refine JO_app (tb := tb) rfl rfl rfl rfl rfl rfl (by repeat (first | exact Sel.here _ _ | apply Sel.there)) (by first | exact vec_rd (by repeat (first | apply List.Mem.head | apply List.Mem.tail)) | assumption | exact ArgRd.rd (by assumption) _ | (apply Rd_weak; assumption; intro _ hx; exact St.sub (by repeat (first | exact List.Sublist.refl _ | apply List.Sublist.cons_cons | apply List.Sublist.cons)) hx)) (by simp only [ints_len, List.length_cons, List.length_nil]; first | omega | rfl) (by first | exact ints_one | (repeat (first | exact trivial | refine ⟨rfl, ?_⟩))) (by omega) rfl ?_; intro _ _)
      repeat (first | (apply gJO; refine JO_v (V_loadC (tb := tb) rfl (ha.rd _) rfl rfl gi rfl) ?_) | first | (apply gJO; first | (apply kS; refine aK ?_) | (apply kX; refine JO_box rfl rfl rfl ?_; intro _) | (apply kA; refine JO_alloc (tb := tb) rfl rfl ?_; intro _) | (apply kBs; refine JO_buildSlice (tb := tb) rfl rfl rfl rfl rfl rfl rfl rfl rfl ?_; intro _) | (apply kM; refine JO_make (tb := tb) rfl rfl rfl rfl rfl rfl (by omega) rfl ?_; intro _) | refine aO ?_) | (apply gJR; first | apply JR_un | apply JR_nil | refine JR_yes rfl rfl ?_ | refine JR_no rfl rfl rfl rfl ?_ | refine JR_noU rfl rfl rfl ?_) | (apply gJS; first | apply JS_seq | apply JS_region | apply JS_skip | apply JS_block | apply JS_inBlock | apply JS_label | refine JS_exit rfl ?_ | refine JS_condT rfl ?_ | refine JS_condF rfl ?_ | refine JS_draw [0] (by kernel_rfl) (by kernel_rfl) (by decide +kernel) ?_ | refine JS_draw [] (by kernel_rfl) (by kernel_rfl) (by decide +kernel) ?_ | refine JS_cond_T rfl (by omega) ?_ | refine JS_cond_F rfl (by omega) ?_) | (apply gQR; first | apply QR_un | apply QR_nil | refine QR_yes rfl rfl ?_ | refine QR_no rfl rfl rfl rfl ?_ | refine QR_noU rfl rfl rfl ?_) | (apply gQO; first | refine aQ ?_ | refine aQK rfl ?_))
      (refine JO_app (tb := tb) rfl rfl rfl rfl rfl rfl (by repeat (first | exact Sel.here _ _ | apply Sel.there)) (by first | exact vec_rd (by repeat (first | apply List.Mem.head | apply List.Mem.tail)) | assumption | exact ArgRd.rd (by assumption) _ | (apply Rd_weak; assumption; intro _ hx; exact St.sub (by repeat (first | exact List.Sublist.refl _ | apply List.Sublist.cons_cons | apply List.Sublist.cons)) hx)) (by simp only [ints_len, List.length_cons, List.length_nil]; first | omega | rfl) (by first | exact ints_one | (repeat (first | exact trivial | refine ⟨rfl, ?_⟩))) (by omega) rfl ?_; intro _ _)
      repeat (first | (apply gJO; first | (apply kS; refine aK ?_) | (apply kX; refine JO_box rfl rfl rfl ?_; intro _) | (apply kA; refine JO_alloc (tb := tb) rfl rfl ?_; intro _) | (apply kBs; refine JO_buildSlice (tb := tb) rfl rfl rfl rfl rfl rfl rfl rfl rfl ?_; intro _) | (apply kM; refine JO_make (tb := tb) rfl rfl rfl rfl rfl rfl (by omega) rfl ?_; intro _) | refine aO ?_) | (apply gJR; first | apply JR_un | apply JR_nil | refine JR_yes rfl rfl ?_ | refine JR_no rfl rfl rfl rfl ?_ | refine JR_noU rfl rfl rfl ?_) | (apply gJS; first | apply JS_seq | apply JS_region | apply JS_skip | apply JS_block | apply JS_inBlock | apply JS_label | refine JS_exit rfl ?_ | refine JS_condT rfl ?_ | refine JS_condF rfl ?_ | refine JS_draw [0] (by kernel_rfl) (by kernel_rfl) (by decide +kernel) ?_ | refine JS_draw [] (by kernel_rfl) (by kernel_rfl) (by decide +kernel) ?_ | refine JS_cond_T rfl (by omega) ?_ | refine JS_cond_F rfl (by omega) ?_) | (apply gQR; first | apply QR_un | apply QR_nil | refine QR_yes rfl rfl ?_ | refine QR_no rfl rfl rfl rfl ?_ | refine QR_noU rfl rfl rfl ?_) | (apply gQO; first | refine aQ ?_ | refine aQK rfl ?_))
      have e1 : (fB Z (i + 1)).length = nb + 5 + L i := by rw [fB_s, List.length_append, stb_len, hnb, hli]; omega
      have e2 : (fY Z (i + 1)).length = ny + L i := by rw [fY_s, List.length_append, hny, hli]
      have e3 : ints .u8 (fB Z (i + 1)) = ints .u8 (fB Z i) ++ [.int .u8 0, .int .u8 ((L i : Int) % 256), .int .u8 ((L i : Int) / 256), .int .u8 (255 - (L i : Int) % 256), .int .u8 (255 - (L i : Int) / 256)] ++ ints .u8 (Z i) := by
        rw [fB_s, stb, hli, ← ints_app, ← ints_app, ← List.append_assoc]; rfl
      have e4 : ints .u8 (fY Z (i + 1)) = ints .u8 (fY Z i) ++ ints .u8 (Z i) := by rw [fY_s, ints_app]
      refine JS_again5 again (i + 1) _ _ _ _ ⟨by omega, by omega, fun j hj => ?_⟩ (by omega) (by rw [e1, e2]; exact (by repeat (first | exact trivial | refine ⟨rfl, ?_⟩ | refine ⟨lookI rfl (by omega), ?_⟩))) (fun w hw => by rw [e1, e2, e3, e4]; exact St.sub (by repeat (first | exact List.Sublist.refl _ | apply List.Sublist.cons_cons | apply List.Sublist.cons)) hw)
      rcases Nat.lt_or_ge j i with h | h
      · exact hz j h
      · obtain rfl : j = i := by omega
        exact ⟨hoi, by omega⟩
  · clear again
    obtain ⟨hok, hall⟩ := ALLR_fB hz hi20
    rw [hnb] at hall
    have hcs : ints .u8 (fB Z i) ++ [.int .u8 3, .int .u8 0] = ints .u8 (fB Z i ++ [3, 0]) := by rw [← ints_app]; rfl
    have hlen : (fB Z i ++ [3, 0]).length = nb + 2 := by rw [List.length_append, hnb]; rfl
    have hnn : (8 * nb + 10 + 7) / 8 = nb + 2 := by omega
    have hspo := ALLR_spoil s (by omega)
    rw [show ((s % 256 : Nat) : Int) = (s : Int) % 256 by omega, show ((s / 256 : Nat) : Int) = (s : Int) / 256 by omega] at hspo
    have hq16 : IntKind.u16.wrap (Int.tdiv (s : Int) 256) = (s : Int) / 256 := by
      rw [Int.tdiv_eq_ediv_of_nonneg (by omega)]; exact wu16 (by omega)
    have hok5 : OKB [1, 0, 0, (s : Int) % 256, (s : Int) / 256] := by
      intro j
      rcases (show j = 0 ∨ j = 1 ∨ j = 2 ∨ j = 3 ∨ j = 4 ∨ 5 ≤ j by omega) with rfl | rfl | rfl | rfl | rfl | h
      · simp
      · simp
      · simp
      · simp; omega
      · simp; omega
      · rw [List.getD_eq_getElem?_getD, List.getElem?_eq_none (by simp; omega)]; simp
    have hsw : (i < m ∧ 20 ≤ i) ∨ m ≤ i := by omega
    clear hz hrow hgo
    rcases hsw with ⟨h1, h2⟩ | h1
    all_goals (
      repeat (first | (apply gJO; first | (apply kS; refine aK ?_) | (apply kX; refine JO_box rfl rfl rfl ?_; intro _) | (apply kA; refine JO_alloc (tb := tb) rfl rfl ?_; intro _) | (apply kBs; refine JO_buildSlice (tb := tb) rfl rfl rfl rfl rfl rfl rfl rfl rfl ?_; intro _) | (apply kM; refine JO_make (tb := tb) rfl rfl rfl rfl rfl rfl (by omega) rfl ?_; intro _) | refine aO ?_) | (apply gJR; first | apply JR_un | apply JR_nil | refine JR_yes rfl rfl ?_ | refine JR_no rfl rfl rfl rfl ?_ | refine JR_noU rfl rfl rfl ?_) | (apply gJS; first | apply JS_seq | apply JS_region | apply JS_skip | apply JS_block | apply JS_inBlock | apply JS_label | refine JS_exit rfl ?_ | refine JS_condT rfl ?_ | refine JS_condF rfl ?_ | refine JS_draw [0] (by kernel_rfl) (by kernel_rfl) (by decide +kernel) ?_ | refine JS_draw [] (by kernel_rfl) (by kernel_rfl) (by decide +kernel) ?_ | refine JS_cond_T rfl (by omega) ?_ | refine JS_cond_F rfl (by omega) ?_) | (apply gQR; first | apply QR_un | apply QR_nil | refine QR_yes rfl rfl ?_ | refine QR_no rfl rfl rfl rfl ?_ | refine QR_noU rfl rfl rfl ?_) | (apply gQO; first | refine aQ ?_ | refine aQK rfl ?_))
      (refine JO_app (tb := tb) rfl rfl rfl rfl rfl rfl (by repeat (first | exact Sel.here _ _ | apply Sel.there)) (by first | exact vec_rd (by repeat (first | apply List.Mem.head | apply List.Mem.tail)) | assumption | exact ArgRd.rd (by assumption) _ | (apply Rd_weak; assumption; intro _ hx; exact St.sub (by repeat (first | exact List.Sublist.refl _ | apply List.Sublist.cons_cons | apply List.Sublist.cons)) hx)) (by simp only [ints_len, List.length_cons, List.length_nil]; first | omega | rfl) (by first | exact ints_one | (repeat (first | exact trivial | refine ⟨rfl, ?_⟩))) (by omega) rfl ?_; intro _ _)
      repeat (first | (apply gJO; first | (apply kS; refine aK ?_) | (apply kX; refine JO_box rfl rfl rfl ?_; intro _) | (apply kA; refine JO_alloc (tb := tb) rfl rfl ?_; intro _) | (apply kBs; refine JO_buildSlice (tb := tb) rfl rfl rfl rfl rfl rfl rfl rfl rfl ?_; intro _) | (apply kM; refine JO_make (tb := tb) rfl rfl rfl rfl rfl rfl (by omega) rfl ?_; intro _) | refine aO ?_) | (apply gJR; first | apply JR_un | apply JR_nil | refine JR_yes rfl rfl ?_ | refine JR_no rfl rfl rfl rfl ?_ | refine JR_noU rfl rfl rfl ?_) | (apply gJS; first | apply JS_seq | apply JS_region | apply JS_skip | apply JS_block | apply JS_inBlock | apply JS_label | refine JS_exit rfl ?_ | refine JS_condT rfl ?_ | refine JS_condF rfl ?_ | refine JS_draw [0] (by kernel_rfl) (by kernel_rfl) (by decide +kernel) ?_ | refine JS_draw [] (by kernel_rfl) (by kernel_rfl) (by decide +kernel) ?_ | refine JS_cond_T rfl (by omega) ?_ | refine JS_cond_F rfl (by omega) ?_) | (apply gQR; first | apply QR_un | apply QR_nil | refine QR_yes rfl rfl ?_ | refine QR_no rfl rfl rfl rfl ?_ | refine QR_noU rfl rfl rfl ?_) | (apply gQO; first | refine aQ ?_ | refine aQK rfl ?_))
      simp only [show rep 0 [Value.int IntKind.u8 0] = [] from rfl, show ([] : List Value).append [] = [] from rfl, hcs]
      refine JO_call Try.call28 rfl rfl fun w hw => (IRead_ok _ _ (nb + 2) (fB Z i ++ [3, 0]) (vec_rd (by repeat (first | apply List.Mem.head | apply List.Mem.tail))) hlen hok (by omega) 65536 (by omega) hall w hw).mono ?_
      rw [hnn, hny]
      rintro e w' ⟨p7, c7, rfl, hw'⟩
      refine ⟨_, rfl, _, hw', ?_⟩
      clear hw' hw w w'
      repeat (first | (apply gJO; refine JO_v (V_neStr1 (s := bstr (fY Z i)) rfl rfl rfl) ?_) | (apply gJO; refine JO_v (V_quo rfl rfl (by decide) hq16 rfl) ?_) | first | (apply gJO; first | (apply kS; refine aK ?_) | (apply kX; refine JO_box rfl rfl rfl ?_; intro _) | (apply kA; refine JO_alloc (tb := tb) rfl rfl ?_; intro _) | (apply kBs; refine JO_buildSlice (tb := tb) rfl rfl rfl rfl rfl rfl rfl rfl rfl ?_; intro _) | (apply kM; refine JO_make (tb := tb) rfl rfl rfl rfl rfl rfl (by omega) rfl ?_; intro _) | refine aO ?_) | (apply gJR; first | apply JR_un | apply JR_nil | refine JR_yes rfl rfl ?_ | refine JR_no rfl rfl rfl rfl ?_ | refine JR_noU rfl rfl rfl ?_) | (apply gJS; first | apply JS_seq | apply JS_region | apply JS_skip | apply JS_block | apply JS_inBlock | apply JS_label | refine JS_exit rfl ?_ | refine JS_condT rfl ?_ | refine JS_condF rfl ?_ | refine JS_draw [0] (by kernel_rfl) (by kernel_rfl) (by decide +kernel) ?_ | refine JS_draw [] (by kernel_rfl) (by kernel_rfl) (by decide +kernel) ?_ | refine JS_cond_T rfl (by omega) ?_ | refine JS_cond_F rfl (by omega) ?_) | (apply gQR; first | apply QR_un | apply QR_nil | refine QR_yes rfl rfl ?_ | refine QR_no rfl rfl rfl rfl ?_ | refine QR_noU rfl rfl rfl ?_) | (apply gQO; first | refine aQ ?_ | refine aQK rfl ?_))
      by_cases hs5 : s = 65535
      · subst hs5
        rw [if_pos rfl] at hspo
        refine JO_call Try.call28 rfl rfl fun w hw => (IRead_ok _ _ 5 [1, 0, 0, ((65535 : Nat) : Int) % 256, ((65535 : Nat) : Int) / 256] (vec_rd (by repeat (first | apply List.Mem.head | apply List.Mem.tail))) rfl hok5 (by omega) 9 (by omega) hspo w hw).mono ?_
        rintro e w' ⟨p8, c8, rfl, hw'⟩
        refine ⟨_, rfl, _, hw', ?_⟩
        clear hw' hw w w'
        repeat (first | (apply gJO; first | (apply kS; refine aK ?_) | (apply kX; refine JO_box rfl rfl rfl ?_; intro _) | (apply kA; refine JO_alloc (tb := tb) rfl rfl ?_; intro _) | (apply kBs; refine JO_buildSlice (tb := tb) rfl rfl rfl rfl rfl rfl rfl rfl rfl ?_; intro _) | (apply kM; refine JO_make (tb := tb) rfl rfl rfl rfl rfl rfl (by omega) rfl ?_; intro _) | refine aO ?_) | (apply gJR; first | apply JR_un | apply JR_nil | refine JR_yes rfl rfl ?_ | refine JR_no rfl rfl rfl rfl ?_ | refine JR_noU rfl rfl rfl ?_) | (apply gJS; first | apply JS_seq | apply JS_region | apply JS_skip | apply JS_block | apply JS_inBlock | apply JS_label | refine JS_exit rfl ?_ | refine JS_condT rfl ?_ | refine JS_condF rfl ?_ | refine JS_draw [0] (by kernel_rfl) (by kernel_rfl) (by decide +kernel) ?_ | refine JS_draw [] (by kernel_rfl) (by kernel_rfl) (by decide +kernel) ?_ | refine JS_cond_T rfl (by omega) ?_ | refine JS_cond_F rfl (by omega) ?_) | (apply gQR; first | apply QR_un | apply QR_nil | refine QR_yes rfl rfl ?_ | refine QR_no rfl rfl rfl rfl ?_ | refine QR_noU rfl rfl rfl ?_) | (apply gQO; first | refine aQ ?_ | refine aQK rfl ?_))
        exact JS_ret Try.func9 rfl rfl fun w hw => ⟨rfl, hw.grown⟩
      · rw [if_neg hs5] at hspo
        refine JO_call Try.call28 rfl rfl fun w hw => (IRead_err _ _ 5 [1, 0, 0, (s : Int) % 256, (s : Int) / 256] (vec_rd (by repeat (first | apply List.Mem.head | apply List.Mem.tail))) rfl hok5 (by omega) 9 (by omega) hspo w hw).mono ?_
        rintro e w' ⟨rfl, hw'⟩
        refine ⟨_, rfl, _, hw', ?_⟩
        clear hw' hw w w'
        repeat (first | (apply gJO; first | (apply kS; refine aK ?_) | (apply kX; refine JO_box rfl rfl rfl ?_; intro _) | (apply kA; refine JO_alloc (tb := tb) rfl rfl ?_; intro _) | (apply kBs; refine JO_buildSlice (tb := tb) rfl rfl rfl rfl rfl rfl rfl rfl rfl ?_; intro _) | (apply kM; refine JO_make (tb := tb) rfl rfl rfl rfl rfl rfl (by omega) rfl ?_; intro _) | refine aO ?_) | (apply gJR; first | apply JR_un | apply JR_nil | refine JR_yes rfl rfl ?_ | refine JR_no rfl rfl rfl rfl ?_ | refine JR_noU rfl rfl rfl ?_) | (apply gJS; first | apply JS_seq | apply JS_region | apply JS_skip | apply JS_block | apply JS_inBlock | apply JS_label | refine JS_exit rfl ?_ | refine JS_condT rfl ?_ | refine JS_condF rfl ?_ | refine JS_draw [0] (by kernel_rfl) (by kernel_rfl) (by decide +kernel) ?_ | refine JS_draw [] (by kernel_rfl) (by kernel_rfl) (by decide +kernel) ?_ | refine JS_cond_T rfl (by omega) ?_ | refine JS_cond_F rfl (by omega) ?_) | (apply gQR; first | apply QR_un | apply QR_nil | refine QR_yes rfl rfl ?_ | refine QR_no rfl rfl rfl rfl ?_ | refine QR_noU rfl rfl rfl ?_) | (apply gQO; first | refine aQ ?_ | refine aQK rfl ?_))
        exact JS_ret Try.func9 rfl rfl fun w hw => ⟨rfl, hw.grown⟩)
end Go.Proofs.Ytakgoflfcgofdaa
