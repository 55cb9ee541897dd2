import Derived.Test.YtjgjppgocheklaaX12
namespace Go.Proofs.Ytjgjppgocheklaa
open Sx Go
set_option linter.unusedVariables false
set_option linter.unusedSimpArgs false
theorem mod_mul (X P : Int) : X % 4294967296 * P % 4294967296 = X * P % 4294967296 := by
  rw [Int.mul_emod, Int.emod_emod, ← Int.mul_emod]
attribute [local irreducible] syA fc
set_option maxHeartbeats 4000000 in
/-- a set's codes -/
theorem Codes_c {w0 : World} {H : List Asn} (b : Nat) (q s : Option Addr) (d e m : Nat) (B : List Int) (f : Nat → Int) (full : Bool) (hb : blk b (setCells (.slice q m d) f (.slice s (syA B 15).length e) full) ∈ H) (hrl : Rd w0 H (.slice q m d) m (ints .u8 B)) (hrs : Rd w0 H (.slice s (syA B 15).length e) (syA B 15).length (ints .i64 (syA B 15)))
    (hm : B.length = m) (hB : OKB B) (h15 : ∀ j, B.getD j 0 ≤ 15) (hm1 : m ≤ 1000) (w : World) (hw : St w0 H w) :
    Calls Try.prog 22 #[.pointer (some ⟨b, 0, none⟩)] w fun e w' => ∃ p c, e = .returned (.slice p m c) ∧ St w0 (vec 42 1 (.slice p m c) m (ints .u32 (cds B 16 0)) :: H) w' := by
  refine enter (vs := [.pointer (some ⟨b, 0, none⟩)]) Try.func22 rfl rfl rfl hw ?_
  repeat (first | (apply gJO; first | refine JO_v (V_load (tb := tb) rfl hb rfl rfl rfl rfl) ?_ | refine JO_v (V_load (tb := tb) rfl (List.Mem.tail _ hb) rfl rfl rfl rfl) ?_) | (apply gJR; first | (apply gJO; first | (apply kS; refine aK ?_) | (apply kX; refine JO_box rfl rfl rfl ?_; intro _) | (apply kA; refine JO_alloc (tb := tb) rfl rfl ?_; intro _) | (apply kBs; refine JO_buildSlice (tb := tb) rfl rfl rfl rfl rfl rfl rfl rfl rfl ?_; intro _) | (apply kM; refine JO_make (tb := tb) rfl rfl rfl rfl rfl rfl (by omega) rfl ?_; intro _) | refine aO ?_) | (apply gJR; first | apply JR_un | apply JR_nil | refine JR_yes rfl rfl ?_ | refine JR_no rfl rfl rfl rfl ?_ | refine JR_noU rfl rfl rfl ?_) | (apply gJS; first | apply JS_seq | apply JS_region | apply JS_skip | apply JS_block | apply JS_inBlock | apply JS_label | refine JS_exit rfl ?_ | refine JS_condT rfl ?_ | refine JS_condF rfl ?_ | refine JS_draw [0] (by kernel_rfl) (by kernel_rfl) (by decide +kernel) ?_ | refine JS_draw [] (by kernel_rfl) (by kernel_rfl) (by decide +kernel) ?_ | refine JS_cond_T rfl (by omega) ?_ | refine JS_cond_F rfl (by omega) ?_) | (apply gQR; first | apply QR_un | apply QR_nil | refine QR_yes rfl rfl ?_ | refine QR_no rfl rfl rfl rfl ?_ | refine QR_noU rfl rfl rfl ?_) | (apply gQO; first | refine aQ ?_ | refine aQK rfl ?_)) | (apply gJO; first | (apply gJO; first | (apply kS; refine aK ?_) | (apply kX; refine JO_box rfl rfl rfl ?_; intro _) | (apply kA; refine JO_alloc (tb := tb) rfl rfl ?_; intro _) | (apply kBs; refine JO_buildSlice (tb := tb) rfl rfl rfl rfl rfl rfl rfl rfl rfl ?_; intro _) | (apply kM; refine JO_make (tb := tb) rfl rfl rfl rfl rfl rfl (by omega) rfl ?_; intro _) | refine aO ?_) | (apply gJR; first | apply JR_un | apply JR_nil | refine JR_yes rfl rfl ?_ | refine JR_no rfl rfl rfl rfl ?_ | refine JR_noU rfl rfl rfl ?_) | (apply gJS; first | apply JS_seq | apply JS_region | apply JS_skip | apply JS_block | apply JS_inBlock | apply JS_label | refine JS_exit rfl ?_ | refine JS_condT rfl ?_ | refine JS_condF rfl ?_ | refine JS_draw [0] (by kernel_rfl) (by kernel_rfl) (by decide +kernel) ?_ | refine JS_draw [] (by kernel_rfl) (by kernel_rfl) (by decide +kernel) ?_ | refine JS_cond_T rfl (by omega) ?_ | refine JS_cond_F rfl (by omega) ?_) | (apply gQR; first | apply QR_un | apply QR_nil | refine QR_yes rfl rfl ?_ | refine QR_no rfl rfl rfl rfl ?_ | refine QR_noU rfl rfl rfl ?_) | (apply gQO; first | refine aQ ?_ | refine aQK rfl ?_)) | apply JS_seq | apply JS_region)
  rename_i po
  rw [show (rep (Int.toNat m) [Value.int IntKind.u32 0]) = ints .u32 (List.replicate m 0) from ints_rep]
  rw [show (m : Int).toNat = m from rfl]
  refine JS_block ?_
  refine JS_loop3 (fun (t l : Nat) (c : Int) => [(0, .pointer (some ⟨b, 0, none⟩)), (3, .slice (some po) m m), (4, .int .u32 ((fc B l + c) % 4294967296)), (5, .int .u8 l), (18, .slice s (syA B 15).length e), (19, .int .i64 ((syA B 15).length : Nat)), (20, .int .i64 t)]) (fun t _ _ => vec 42 1 (.slice (some po) m m) m (ints .u32 (outC B t)) :: H)
    (fun t l c => t ≤ (syA B 15).length ∧ l ≤ 15 ∧ psum B l + c = t ∧ 0 ≤ c ∧ c ≤ cn B l) (fun t _ _ => (syA B 15).length - t) 0 0 0 ⟨by omega, by omega, rfl, by omega, by simp [cn]⟩ (by exact ⟨rfl, rfl, lookI rfl (by unfold fc; rfl), rfl, rfl, rfl, rfl, trivial⟩) (fun w hw => by rw [outC_zero, hm]; exact hw) ?_
  intro t l c ⟨ht, hl, hp, hc0, hc⟩ again
  have hrl' : Rd w0 (vec 42 1 (.slice (some po) m m) m (ints .u32 (outC B t)) :: H) (.slice q m d) m (ints .u8 B) := Rd_weak hrl fun w hw => St.sub (by repeat (first | exact List.Sublist.refl _ | apply List.Sublist.cons_cons | apply List.Sublist.cons)) hw
  have hrs' : Rd w0 (vec 42 1 (.slice (some po) m m) m (ints .u32 (outC B t)) :: H) (.slice s (syA B 15).length e) (syA B 15).length (ints .i64 (syA B 15)) := Rd_weak hrs fun w hw => St.sub (by repeat (first | exact List.Sublist.refl _ | apply List.Sublist.cons_cons | apply List.Sublist.cons)) hw
  by_cases htk : t < (syA B 15).length
  · obtain ⟨n, r, i, hn, h1, h2, hi, h3, h4, h5⟩ := syA_get B 15 t htk
    have hps := psum_syA B hB n
    have hcr := cn_sy1 B hB (n + 1) (by omega) i (by omega)
    have hcm := cn_sy1 B hB (n + 1) (by omega) B.length (by omega)
    rw [List.take_of_length_le (by omega)] at hcm
    have hset := outC_set htk h3
    have hcd : cd B i = (fc B (n + 1) + r) % 4294967296 := by unfold cd; rw [h4, Int.toNat_natCast, ← hcr, h5]
    have hle : l ≤ n + 1 := by
      rcases Nat.lt_or_ge (n + 1) l with h | h
      · exfalso
        have hmo := psum_mono B (n + 1 + 1) (l - (n + 2))
        rw [show n + 1 + 1 + (l - (n + 2)) = l by omega] at hmo
        have : psum B (n + 1 + 1) = psum B (n + 1) + cn B (n + 1) := rfl
        omega
      · exact h
    have hsh : fc B (n + 1) + r = (fc B l + c) * 2 ^ (n + 1 - l) := by
      rcases Nat.eq_or_lt_of_le hle with h | h
      · subst h
        rw [Nat.sub_self, Int.pow_zero, Int.mul_one]; omega
      · obtain ⟨g1, g2⟩ := shift_code B l c hc (n + 1 - l) (by omega) (by rw [show l + (n + 1 - l) = n + 1 by omega]; omega)
        rw [show l + (n + 1 - l) = n + 1 by omega] at g1 g2
        rw [← g2]; omega
    have hcl := outC_len B t
    have gs : (ints .i64 (syA B 15))[t]? = some (.int .i64 (i : Int)) := by rw [← h3]; exact ints_get htk
    have gl : (ints .u8 B)[i]? = some (.int .u8 ((n + 1 : Nat) : Int)) := by rw [← h4]; exact ints_get hi
    have hms : min (((n + 1 : Nat) : Int) - (l : Int)).toNat IntKind.u32.bits = n + 1 - l := by show min _ 32 = _; omega
    have hwr : IntKind.u32.wrap ((fc B l + c) % 4294967296 * 2 ^ (n + 1 - l)) = cd B i := by
      rw [hcd, hsh, ← mod_mul]; exact mu32 _
    have hcdb := cd_bd B i
    have hsl := syA_len B 15
    have htb : t ≤ 15000 := by omega
    have hrc : (r : Int) + 1 ≤ cn B (n + 1) := by omega
    clear hsh hcm hcr hsl
    repeat (first | (apply gJO; first | refine JO_v (V_load (tb := tb) rfl (List.Mem.tail _ hb) rfl rfl rfl rfl) ?_ | refine JO_v (V_loadC (tb := tb) rfl hrs' rfl rfl gs rfl) ?_ | refine JO_v (V_loadC (tb := tb) rfl hrl' rfl rfl gl rfl) ?_ | refine JO_v (V_shl (m := n + 1 - l) (c := cd B i) rfl rfl (by omega) hms hwr rfl) ?_) | (first | (apply gJO; first | (apply kS; refine aK ?_) | (apply kX; refine JO_box rfl rfl rfl ?_; intro _) | (apply kA; refine JO_alloc (tb := tb) rfl rfl ?_; intro _) | (apply kBs; refine JO_buildSlice (tb := tb) rfl rfl rfl rfl rfl rfl rfl rfl rfl ?_; intro _) | (apply kM; refine JO_make (tb := tb) rfl rfl rfl rfl rfl rfl (by omega) rfl ?_; intro _) | refine aO ?_) | (apply gJR; first | apply JR_un | apply JR_nil | refine JR_yes rfl rfl ?_ | refine JR_no rfl rfl rfl rfl ?_ | refine JR_noU rfl rfl rfl ?_) | (apply gJS; first | apply JS_seq | apply JS_region | apply JS_skip | apply JS_block | apply JS_inBlock | apply JS_label | refine JS_exit rfl ?_ | refine JS_condT rfl ?_ | refine JS_condF rfl ?_ | refine JS_draw [0] (by kernel_rfl) (by kernel_rfl) (by decide +kernel) ?_ | refine JS_draw [] (by kernel_rfl) (by kernel_rfl) (by decide +kernel) ?_ | refine JS_cond_T rfl (by omega) ?_ | refine JS_cond_F rfl (by omega) ?_) | (apply gQR; first | apply QR_un | apply QR_nil | refine QR_yes rfl rfl ?_ | refine QR_no rfl rfl rfl rfl ?_ | refine QR_noU rfl rfl rfl ?_) | (apply gQO; first | refine aQ ?_ | refine aQK rfl ?_)))
    exact JS_again3 again (t + 1) (n + 1) ((r : Int) + 1) ⟨by omega, by omega, by omega, by omega, by omega⟩ (by omega) (by exact ⟨rfl, rfl, lookI rfl (by rw [hcd]; omega), lookI rfl (by omega), rfl, rfl, lookI rfl (by omega), trivial⟩) (fun w hw => by rw [← hset]; exact hw)
  · obtain rfl : t = (syA B 15).length := by omega
    rw [outC_end h15]
    clear again
    repeat (first | (apply gJO; first | (apply kS; refine aK ?_) | (apply kX; refine JO_box rfl rfl rfl ?_; intro _) | (apply kA; refine JO_alloc (tb := tb) rfl rfl ?_; intro _) | (apply kBs; refine JO_buildSlice (tb := tb) rfl rfl rfl rfl rfl rfl rfl rfl rfl ?_; intro _) | (apply kM; refine JO_make (tb := tb) rfl rfl rfl rfl rfl rfl (by omega) rfl ?_; intro _) | refine aO ?_) | (apply gJR; first | apply JR_un | apply JR_nil | refine JR_yes rfl rfl ?_ | refine JR_no rfl rfl rfl rfl ?_ | refine JR_noU rfl rfl rfl ?_) | (apply gJS; first | apply JS_seq | apply JS_region | apply JS_skip | apply JS_block | apply JS_inBlock | apply JS_label | refine JS_exit rfl ?_ | refine JS_condT rfl ?_ | refine JS_condF rfl ?_ | refine JS_draw [0] (by kernel_rfl) (by kernel_rfl) (by decide +kernel) ?_ | refine JS_draw [] (by kernel_rfl) (by kernel_rfl) (by decide +kernel) ?_ | refine JS_cond_T rfl (by omega) ?_ | refine JS_cond_F rfl (by omega) ?_) | (apply gQR; first | apply QR_un | apply QR_nil | refine QR_yes rfl rfl ?_ | refine QR_no rfl rfl rfl rfl ?_ | refine QR_noU rfl rfl rfl ?_) | (apply gQO; first | refine aQ ?_ | refine aQK rfl ?_))
    refine JS_ret Try.func22 rfl rfl ?_
    intro w hw
    exact ⟨_, _, rfl, hw⟩
end Go.Proofs.Ytjgjppgocheklaa
