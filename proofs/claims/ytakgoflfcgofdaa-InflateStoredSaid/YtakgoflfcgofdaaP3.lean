import Derived.Test.YtakgoflfcgofdaaSxG
import Derived.Test.YtakgoflfcgofdaaP2
namespace Go.Proofs.Ytakgoflfcgofdaa
open Sx Go
set_option linter.unusedVariables false
set_option linter.unusedSimpArgs false
theorem mod_mul (X P : Int) : X % 4294967296 * P % 4294967296 = X * P % 4294967296 := by
  rw [Int.mul_emod, Int.emod_emod, ← Int.mul_emod]
attribute [local irreducible] syA fc
set_option maxHeartbeats 4000000 in
/-- a set's codes -/
theorem Codes_c {w0 : World} {H : List Asn} (b : Nat) (q s : Option Addr) (d e m : Nat) (B : List Int) (f : Nat → Int) (full : Bool) (hb : blk b (setCells (.slice q m d) f (.slice s (syA B 15).length e) full) ∈ H) (hrl : Rd w0 H (.slice q m d) m (ints .u8 B)) (hrs : Rd w0 H (.slice s (syA B 15).length e) (syA B 15).length (ints .i64 (syA B 15)))
    (hm : B.length = m) (hB : OKB B) (h15 : ∀ j, B.getD j 0 ≤ 15) (hm1 : m ≤ 1000) (w : World) (hw : St w0 H w) :
    Calls Try.prog 65 #[.pointer (some ⟨b, 0, none⟩)] w fun e w' => ∃ p c, e = .returned (.slice p m c) ∧ St w0 (vec 46 1 (.slice p m c) m (ints .u32 (cds B 16 0)) :: H) w' := by
  refine enter (vs := [.pointer (some ⟨b, 0, none⟩)]) Try.func65 rfl rfl rfl hw ?_
  repeat (first | (apply gJO; first | refine JO_v (V_load (tb := tb) rfl hb rfl rfl rfl rfl) ?_ | refine JO_v (V_load (tb := tb) rfl (List.Mem.tail _ hb) rfl rfl rfl rfl) ?_) | (apply gJR; first | (apply gJO; first | (apply kS; refine aK ?_) | (apply kX; refine JO_box rfl rfl rfl ?_; intro _) | (apply kA; refine JO_alloc (tb := tb) rfl rfl ?_; intro _) | (apply kBs; refine JO_buildSlice (tb := tb) rfl rfl rfl rfl rfl rfl rfl rfl rfl ?_; intro _) | (apply kM; refine JO_make (tb := tb) rfl rfl rfl rfl rfl rfl (by omega) rfl ?_; intro _) | refine aO ?_) | (apply gJR; first | apply JR_un | apply JR_nil | refine JR_yes rfl rfl ?_ | refine JR_no rfl rfl rfl rfl ?_ | refine JR_noU rfl rfl rfl ?_) | (apply gJS; first | apply JS_seq | apply JS_region | apply JS_skip | apply JS_block | apply JS_inBlock | apply JS_label | refine JS_exit rfl ?_ | refine JS_condT rfl ?_ | refine JS_condF rfl ?_ | refine JS_draw [0] (by kernel_rfl) (by kernel_rfl) (by decide +kernel) ?_ | refine JS_draw [] (by kernel_rfl) (by kernel_rfl) (by decide +kernel) ?_ | refine JS_cond_T rfl (by omega) ?_ | refine JS_cond_F rfl (by omega) ?_) | (apply gQR; first | apply QR_un | apply QR_nil | refine QR_yes rfl rfl ?_ | refine QR_no rfl rfl rfl rfl ?_ | refine QR_noU rfl rfl rfl ?_) | (apply gQO; first | refine aQ ?_ | refine aQK rfl ?_)) | (apply gJO; first | (apply gJO; first | (apply kS; refine aK ?_) | (apply kX; refine JO_box rfl rfl rfl ?_; intro _) | (apply kA; refine JO_alloc (tb := tb) rfl rfl ?_; intro _) | (apply kBs; refine JO_buildSlice (tb := tb) rfl rfl rfl rfl rfl rfl rfl rfl rfl ?_; intro _) | (apply kM; refine JO_make (tb := tb) rfl rfl rfl rfl rfl rfl (by omega) rfl ?_; intro _) | refine aO ?_) | (apply gJR; first | apply JR_un | apply JR_nil | refine JR_yes rfl rfl ?_ | refine JR_no rfl rfl rfl rfl ?_ | refine JR_noU rfl rfl rfl ?_) | (apply gJS; first | apply JS_seq | apply JS_region | apply JS_skip | apply JS_block | apply JS_inBlock | apply JS_label | refine JS_exit rfl ?_ | refine JS_condT rfl ?_ | refine JS_condF rfl ?_ | refine JS_draw [0] (by kernel_rfl) (by kernel_rfl) (by decide +kernel) ?_ | refine JS_draw [] (by kernel_rfl) (by kernel_rfl) (by decide +kernel) ?_ | refine JS_cond_T rfl (by omega) ?_ | refine JS_cond_F rfl (by omega) ?_) | (apply gQR; first | apply QR_un | apply QR_nil | refine QR_yes rfl rfl ?_ | refine QR_no rfl rfl rfl rfl ?_ | refine QR_noU rfl rfl rfl ?_) | (apply gQO; first | refine aQ ?_ | refine aQK rfl ?_)) | apply JS_seq | apply JS_region)
  rename_i po
  rw [show (rep (Int.toNat m) [Value.int IntKind.u32 0]) = ints .u32 (List.replicate m 0) from ints_rep]
  rw [show (m : Int).toNat = m from rfl]
  refine JS_block ?_
  refine JS_loop3 (fun (t l : Nat) (c : Int) => [(0, .pointer (some ⟨b, 0, none⟩)), (3, .slice (some po) m m), (4, .int .u32 ((fc B l + c) % 4294967296)), (5, .int .u8 l), (18, .slice s (syA B 15).length e), (19, .int .i64 ((syA B 15).length : Nat)), (20, .int .i64 t)]) (fun t _ _ => vec 46 1 (.slice (some po) m m) m (ints .u32 (outC B t)) :: H)
    (fun t l c => t ≤ (syA B 15).length ∧ l ≤ 15 ∧ psum B l + c = t ∧ 0 ≤ c ∧ c ≤ cn B l) (fun t _ _ => (syA B 15).length - t) 0 0 0 ⟨by omega, by omega, rfl, by omega, by simp [cn]⟩ (by exact ⟨rfl, rfl, lookI rfl (by unfold fc; rfl), rfl, rfl, rfl, rfl, trivial⟩) (fun w hw => by rw [outC_zero, hm]; exact hw) ?_
  intro t l c ⟨ht, hl, hp, hc0, hc⟩ again
  have hrl' : Rd w0 (vec 46 1 (.slice (some po) m m) m (ints .u32 (outC B t)) :: H) (.slice q m d) m (ints .u8 B) := Rd_weak hrl fun w hw => St.sub (by repeat (first | exact List.Sublist.refl _ | apply List.Sublist.cons_cons | apply List.Sublist.cons)) hw
  have hrs' : Rd w0 (vec 46 1 (.slice (some po) m m) m (ints .u32 (outC B t)) :: H) (.slice s (syA B 15).length e) (syA B 15).length (ints .i64 (syA B 15)) := Rd_weak hrs fun w hw => St.sub (by repeat (first | exact List.Sublist.refl _ | apply List.Sublist.cons_cons | apply List.Sublist.cons)) hw
  by_cases htk : t < (syA B 15).length
  · obtain ⟨n, r, i, hn, h1, h2, hi, h3, h4, h5⟩ := syA_get B 15 t htk
    have hps := psum_syA B hB n
    have hcr := cn_sy1 B hB (n + 1) (by omega) i (by omega)
    have hcm := cn_sy1 B hB (n + 1) (by omega) B.length (by omega)
    rw [List.take_of_length_le (by omega)] at hcm
    have hset := outC_set htk h3
    have hcd : cd B i = (fc B (n + 1) + r) % 4294967296 := by unfold cd; rw [h4, Int.toNat_natCast, ← hcr, h5]
    have hle : l ≤ n + 1 := by
      rcases Nat.lt_or_ge (n + 1) l with h | h
      · exfalso
        have hmo := psum_mono B (n + 1 + 1) (l - (n + 2))
        rw [show n + 1 + 1 + (l - (n + 2)) = l by omega] at hmo
        have : psum B (n + 1 + 1) = psum B (n + 1) + cn B (n + 1) := rfl
        omega
      · exact h
    have hsh : fc B (n + 1) + r = (fc B l + c) * 2 ^ (n + 1 - l) := by
      rcases Nat.eq_or_lt_of_le hle with h | h
      · subst h
        rw [Nat.sub_self, Int.pow_zero, Int.mul_one]; omega
      · obtain ⟨g1, g2⟩ := shift_code B l c hc (n + 1 - l) (by omega) (by rw [show l + (n + 1 - l) = n + 1 by omega]; omega)
        rw [show l + (n + 1 - l) = n + 1 by omega] at g1 g2
        rw [← g2]; omega
    have hcl := outC_len B t
    have gs : (ints .i64 (syA B 15))[t]? = some (.int .i64 (i : Int)) := by rw [← h3]; exact ints_get htk
    have gl : (ints .u8 B)[i]? = some (.int .u8 ((n + 1 : Nat) : Int)) := by rw [← h4]; exact ints_get hi
    have hms : min (((n + 1 : Nat) : Int) - (l : Int)).toNat IntKind.u32.bits = n + 1 - l := by show min _ 32 = _; omega
    have hwr : IntKind.u32.wrap ((fc B l + c) % 4294967296 * 2 ^ (n + 1 - l)) = cd B i := by
      rw [hcd, hsh, ← mod_mul]; exact mu32 _
    have hcdb := cd_bd B i
    have hsl := syA_len B 15
    have htb : t ≤ 15000 := by omega
    have hrc : (r : Int) + 1 ≤ cn B (n + 1) := by omega
    clear hsh hcm hcr hsl
    repeat (first | (apply gJO; first | refine JO_v (V_load (tb := tb) rfl (List.Mem.tail _ hb) rfl rfl rfl rfl) ?_ | refine JO_v (V_loadC (tb := tb) rfl hrs' rfl rfl gs rfl) ?_ | refine JO_v (V_loadC (tb := tb) rfl hrl' rfl rfl gl rfl) ?_ | refine JO_v (V_shl (m := n + 1 - l) (c := cd B i) rfl rfl (by omega) hms hwr rfl) ?_) | (first | (apply gJO; first | (apply kS; refine aK ?_) | (apply kX; refine JO_box rfl rfl rfl ?_; intro _) | (apply kA; refine JO_alloc (tb := tb) rfl rfl ?_; intro _) | (apply kBs; refine JO_buildSlice (tb := tb) rfl rfl rfl rfl rfl rfl rfl rfl rfl ?_; intro _) | (apply kM; refine JO_make (tb := tb) rfl rfl rfl rfl rfl rfl (by omega) rfl ?_; intro _) | refine aO ?_) | (apply gJR; first | apply JR_un | apply JR_nil | refine JR_yes rfl rfl ?_ | refine JR_no rfl rfl rfl rfl ?_ | refine JR_noU rfl rfl rfl ?_) | (apply gJS; first | apply JS_seq | apply JS_region | apply JS_skip | apply JS_block | apply JS_inBlock | apply JS_label | refine JS_exit rfl ?_ | refine JS_condT rfl ?_ | refine JS_condF rfl ?_ | refine JS_draw [0] (by kernel_rfl) (by kernel_rfl) (by decide +kernel) ?_ | refine JS_draw [] (by kernel_rfl) (by kernel_rfl) (by decide +kernel) ?_ | refine JS_cond_T rfl (by omega) ?_ | refine JS_cond_F rfl (by omega) ?_) | (apply gQR; first | apply QR_un | apply QR_nil | refine QR_yes rfl rfl ?_ | refine QR_no rfl rfl rfl rfl ?_ | refine QR_noU rfl rfl rfl ?_) | (apply gQO; first | refine aQ ?_ | refine aQK rfl ?_)))
    exact JS_again3 again (t + 1) (n + 1) ((r : Int) + 1) ⟨by omega, by omega, by omega, by omega, by omega⟩ (by omega) (by exact ⟨rfl, rfl, lookI rfl (by rw [hcd]; omega), lookI rfl (by omega), rfl, rfl, lookI rfl (by omega), trivial⟩) (fun w hw => by rw [← hset]; exact hw)
  · obtain rfl : t = (syA B 15).length := by omega
    rw [outC_end h15]
    clear again
    repeat (first | (apply gJO; first | (apply kS; refine aK ?_) | (apply kX; refine JO_box rfl rfl rfl ?_; intro _) | (apply kA; refine JO_alloc (tb := tb) rfl rfl ?_; intro _) | (apply kBs; refine JO_buildSlice (tb := tb) rfl rfl rfl rfl rfl rfl rfl rfl rfl ?_; intro _) | (apply kM; refine JO_make (tb := tb) rfl rfl rfl rfl rfl rfl (by omega) rfl ?_; intro _) | refine aO ?_) | (apply gJR; first | apply JR_un | apply JR_nil | refine JR_yes rfl rfl ?_ | refine JR_no rfl rfl rfl rfl ?_ | refine JR_noU rfl rfl rfl ?_) | (apply gJS; first | apply JS_seq | apply JS_region | apply JS_skip | apply JS_block | apply JS_inBlock | apply JS_label | refine JS_exit rfl ?_ | refine JS_condT rfl ?_ | refine JS_condF rfl ?_ | refine JS_draw [0] (by kernel_rfl) (by kernel_rfl) (by decide +kernel) ?_ | refine JS_draw [] (by kernel_rfl) (by kernel_rfl) (by decide +kernel) ?_ | refine JS_cond_T rfl (by omega) ?_ | refine JS_cond_F rfl (by omega) ?_) | (apply gQR; first | apply QR_un | apply QR_nil | refine QR_yes rfl rfl ?_ | refine QR_no rfl rfl rfl rfl ?_ | refine QR_noU rfl rfl rfl ?_) | (apply gQO; first | refine aQ ?_ | refine aQK rfl ?_))
    refine JS_ret Try.func65 rfl rfl ?_
    intro w hw
    exact ⟨_, _, rfl, hw⟩
end Go.Proofs.Ytakgoflfcgofdaa

namespace Go.Proofs.Ytakgoflfcgofdaa
open Sx Go
set_option linter.unusedVariables false
set_option linter.unusedSimpArgs false
attribute [local irreducible] syA
/-! what is read by a set's codes -/
theorem cn_app (l : List Int) (x : Int) (n : Nat) : cn (l ++ [x]) n = cn l n + (if 0 < n ∧ x = (n : Int) then 1 else 0) := by
  unfold cn
  rw [List.countP_append]
  by_cases h0 : n = 0
  · simp [h0]
  · rw [if_neg h0, if_neg h0]
    by_cases hx : x = (n : Int)
    · rw [if_pos ⟨by omega, hx⟩]; simp [hx]
    · rw [if_neg (fun h => hx h.2)]
      have : ¬ (x == (n : Int)) = true := by simpa using hx
      simp [this]
theorem fc_app (l : List Int) (k : Nat) : ∀ n, fc (l ++ [(k : Int)]) n = fc l n + (if 0 < k ∧ k < n then 2 ^ (n - k) else 0)
  | 0 => by simp [fc]
  | n + 1 => by
    simp only [fc, fc_app l k n, cn_app]
    by_cases h0 : 0 < k
    · rcases Nat.lt_trichotomy k n with h | h | h
      · rw [if_pos ⟨h0, h⟩, if_neg (by omega), if_pos ⟨h0, by omega⟩, show n + 1 - k = (n - k) + 1 by omega, Int.pow_succ]; omega
      · subst h
        rw [if_neg (by omega), if_pos ⟨h0, rfl⟩, if_pos ⟨h0, by omega⟩, show k + 1 - k = 1 by omega]; omega
      · rw [if_neg (by omega), if_neg (by omega), if_neg (by omega)]; omega
    · rw [if_neg (by omega), if_neg (by omega), if_neg (by omega)]; omega
theorem fc_tk (B : List Int) (hB : OKB B) (h15 : ∀ j, B.getD j 0 ≤ 15) : ∀ i, i ≤ B.length → fc (B.take i) 15 + cn (B.take i) 15 = tk (B.take i)
  | 0, _ => by rw [List.take_zero]; decide
  | i + 1, h => by
    obtain ⟨n, hn⟩ := Int.eq_ofNat_of_zero_le (hB i).1
    have h1 := h15 i
    rw [tk_step B i (by omega) n hn, btake B i (by omega), hn, fc_app, cn_app, ← fc_tk B hB h15 i (by omega)]
    by_cases h0 : 0 < n
    · rw [if_pos h0]
      by_cases h2 : n = 15
      · subst h2; simp; omega
      · rw [if_pos ⟨h0, by omega⟩, if_neg (by omega)]; omega
    · rw [if_neg h0, if_neg (by omega), if_neg (by omega)]; omega
theorem fc_nn (B : List Int) : ∀ n, 0 ≤ fc B n
  | 0 => Int.le_refl _
  | n + 1 => by
    have := fc_nn B n
    have := cn_nonneg B n
    show 0 ≤ 2 * (fc B n + cn B n); omega
theorem FINE_tk (B : List Int) (hB : OKB B) (h15 : ∀ j, B.getD j 0 ≤ 15) (hF : FINE B) : tk B ≤ 32768 := by
  rcases hF with h | h | h
  · omega
  · have : ∀ i, i ≤ B.length → sm (B.take i) = 0 → tk (B.take i) = 0 := by
      intro i
      induction i with
      | zero => intro _ _; rfl
      | succ i ih =>
        intro hi hs
        rw [sm_step B i (by omega)] at hs
        obtain ⟨n, hn⟩ := Int.eq_ofNat_of_zero_le (hB i).1
        rw [tk_step B i (by omega) n hn]
        by_cases h0 : 0 < n
        · rw [if_pos (by omega)] at hs; omega
        · rw [if_neg h0, ih (by omega) (by omega)]; rfl
    have := this B.length (Nat.le_refl _) (by rw [List.take_length]; exact h)
    rw [List.take_length] at this; omega
  · have : ∀ i, i ≤ B.length → tk (B.take i) ≤ 32768 * sm (B.take i) := by
      intro i
      induction i with
      | zero => intro _; simp [tk, sm]
      | succ i ih =>
        intro hi
        rw [sm_step B i (by omega)]
        obtain ⟨n, hn⟩ := Int.eq_ofNat_of_zero_le (hB i).1
        rw [tk_step B i (by omega) n hn]
        have := ih (by omega)
        have h2 := h15 i
        have := p2_bd n (by omega)
        by_cases h0 : 0 < n
        · rw [if_pos h0, if_pos (by omega)]; omega
        · rw [if_neg h0, if_neg (by omega)]; omega
    have := this B.length (Nat.le_refl _)
    rw [List.take_length] at this; omega
theorem fc_le (B : List Int) (hB : OKB B) (h15 : ∀ j, B.getD j 0 ≤ 15) (hF : FINE B) : ∀ d, d ≤ 15 → fc B (15 - d) + cn B (15 - d) ≤ 2 ^ (15 - d)
  | 0, _ => by
    have h := fc_tk B hB h15 B.length (Nat.le_refl _)
    rw [List.take_length] at h
    have := FINE_tk B hB h15 hF
    show fc B 15 + cn B 15 ≤ 32768; omega
  | d + 1, hd => by
    have h := fc_le B hB h15 hF d (by omega)
    have e : 15 - d = (15 - (d + 1)) + 1 := by omega
    rw [e, Int.pow_succ] at h
    have h2 : fc B (15 - (d + 1) + 1) = 2 * (fc B (15 - (d + 1)) + cn B (15 - (d + 1))) := rfl
    have := cn_nonneg B (15 - (d + 1) + 1)
    omega
theorem fc_bd (B : List Int) (hB : OKB B) (h15 : ∀ j, B.getD j 0 ≤ 15) (hF : FINE B) (n : Nat) (hn : n ≤ 15) : fc B n + cn B n ≤ 2 ^ n := by
  have := fc_le B hB h15 hF (15 - n) (by omega)
  rwa [show 15 - (15 - n) = n by omega] at this
theorem p15 (n : Nat) (h : n ≤ 15) : (1 : Int) ≤ 2 ^ n ∧ (2 : Int) ^ n ≤ 32768 := by
  have := p2_bd (15 - n) (by omega)
  rwa [show 15 - (15 - n) = n by omega] at this
/-- a number of bits, the first one the highest -/
def bval (b : Nat → Int) : Nat → Int
  | 0 => 0
  | n + 1 => 2 * bval b n + b n
/-- the symbol i is what the bits begin with -/
def DEC (B : List Int) (b : Nat → Int) (left : Nat) (i : Nat) : Prop :=
  ∃ n : Nat, i < B.length ∧ 0 < n ∧ B.getD i 0 = (n : Int) ∧ n ≤ left ∧ bval b n = cd B i
theorem cd_eq (B : List Int) (hB : OKB B) (h15 : ∀ j, B.getD j 0 ≤ 15) (hF : FINE B) (i n : Nat) (hi : i < B.length) (h0 : 0 < n) (hn : B.getD i 0 = (n : Int)) : cd B i = fc B n + cn (B.take i) n ∧ cn (B.take i) n < cn B n := by
  have h1 := cn_yes B i n hi hn h0
  have h2 : ∀ d, i + 1 + d ≤ B.length → cn (B.take (i + 1)) n ≤ cn (B.take (i + 1 + d)) n := by
    intro d
    induction d with
    | zero => intro _; exact Int.le_refl _
    | succ d ih =>
      intro hd
      have := ih (by omega)
      rw [show i + 1 + (d + 1) = (i + 1 + d) + 1 from rfl, btake B (i + 1 + d) (by omega), cn_app]
      split <;> omega
  have h3 := h2 (B.length - (i + 1)) (by omega)
  rw [show i + 1 + (B.length - (i + 1)) = B.length by omega, List.take_length] at h3
  have h4 := fc_nn B n
  have h5 := cn_nonneg (B.take i) n
  have h15i := h15 i
  have h6 := fc_bd B hB h15 hF n (by omega)
  have h7 := p15 n (by omega)
  refine ⟨?_, by omega⟩
  unfold cd
  rw [hn, Int.toNat_natCast]; omega
theorem cn_mono (B : List Int) (n i j : Nat) (hij : i ≤ j) (hj : j ≤ B.length) : cn (B.take i) n ≤ cn (B.take j) n := by
  obtain ⟨d, rfl⟩ : ∃ d, j = i + d := ⟨j - i, by omega⟩
  clear hij
  induction d with
  | zero => exact Int.le_refl _
  | succ d ih =>
    have := ih (by omega)
    rw [show i + (d + 1) = (i + d) + 1 from rfl, btake B (i + d) (by omega), cn_app]
    split <;> omega
/-- once read, always behind -/
theorem val_behind (B : List Int) (b : Nat → Int) (hb : ∀ j, b j = 0 ∨ b j = 1) (n : Nat) (h : bval b n < fc B n + cn B n) : ∀ d, 0 < d → bval b (n + d) < fc B (n + d)
  | 0, h0 => absurd h0 (by omega)
  | 1, _ => by
    have := hb n
    show 2 * bval b n + b n < 2 * (fc B n + cn B n); omega
  | d + 2, _ => by
    have h1 := val_behind B b hb n h (d + 1) (by omega)
    have := hb (n + (d + 1))
    have := cn_nonneg B (n + (d + 1))
    show 2 * bval b (n + (d + 1)) + b (n + (d + 1)) < 2 * (fc B (n + (d + 1)) + cn B (n + (d + 1))); omega
/-- no code begins with another one -/
theorem DEC_one (B : List Int) (hB : OKB B) (h15 : ∀ j, B.getD j 0 ≤ 15) (hF : FINE B) (b : Nat → Int) (hb : ∀ j, b j = 0 ∨ b j = 1) (left i j : Nat) (h1 : DEC B b left i) (h2 : DEC B b left j) : i = j := by
  obtain ⟨n, hi, hn0, hn, hnl, hv⟩ := h1
  obtain ⟨k, hj, hk0, hk, hkl, hu⟩ := h2
  obtain ⟨c1, c2⟩ := cd_eq B hB h15 hF i n hi hn0 hn
  obtain ⟨c3, c4⟩ := cd_eq B hB h15 hF j k hj hk0 hk
  have z1 := cn_nonneg (B.take i) n
  have z2 := cn_nonneg (B.take j) k
  rcases Nat.lt_trichotomy n k with h | h | h
  · have := val_behind B b hb n (by omega) (k - n) (by omega)
    rw [show n + (k - n) = k by omega] at this; omega
  · subst h
    rcases Nat.lt_trichotomy i j with h | h | h
    · have a1 := cn_yes B i n hi hn hn0
      have a2 := cn_mono B n (i + 1) j (by omega) (by omega)
      omega
    · exact h
    · have a1 := cn_yes B j n hj hk hk0
      have a2 := cn_mono B n (j + 1) i (by omega) (by omega)
      omega
  · have := val_behind B b hb k (by omega) (n - k) (by omega)
    rw [show k + (n - k) = n by omega] at this; omega
/-- the symbol at a place of the codes of one length -/
theorem sym_at (B : List Int) (hB : OKB B) (h15 : ∀ j, B.getD j 0 ≤ 15) (hF : FINE B) (n : Nat) (h0 : 0 < n) (hn : n ≤ 15) (k : Nat) (hk : (k : Int) < cn B n) :
    ∃ i : Nat, psum B n + k < ((syA B 15).length : Int) ∧ (syA B 15).getD (psum B n + k).toNat 0 = (i : Int) ∧ i < B.length ∧ B.getD i 0 = (n : Int) ∧ cd B i = fc B n + k := by
  have hp : 0 ≤ psum B n := by
    have := psum_mono B 0 n
    rw [Nat.zero_add] at this
    exact this
  have hl : psum B n + k < ((syA B 15).length : Int) := by
    have h1 := psum_syA B hB 15
    have h2 := psum_mono B (n + 1) (15 - n)
    rw [show n + 1 + (15 - n) = 16 by omega] at h2
    have : psum B (n + 1) = psum B n + cn B n := rfl
    have : psum B (15 + 1) = psum B 16 := rfl
    omega
  obtain ⟨n', r, i, g1, g2, g3, g4, g5, g6, g7⟩ := syA_get B 15 (psum B n + k).toNat (by omega)
  have e1 := psum_syA B hB n'
  have e2 := cn_sy1 B hB (n' + 1) (by omega) i (by omega)
  have e3 := cn_sy1 B hB (n' + 1) (by omega) B.length (Nat.le_refl _)
  rw [List.take_length] at e3
  have e4 : psum B (n' + 1 + 1) = psum B (n' + 1) + cn B (n' + 1) := rfl
  have e5 : psum B (n + 1) = psum B n + cn B n := rfl
  have hnn : n' + 1 = n := by
    rcases Nat.lt_trichotomy (n' + 1) n with h | h | h
    · have := psum_mono B (n' + 1 + 1) (n - (n' + 2))
      rw [show n' + 1 + 1 + (n - (n' + 2)) = n by omega] at this; omega
    · exact h
    · have := psum_mono B (n + 1) (n' + 1 - (n + 1))
      rw [show n + 1 + (n' + 1 - (n + 1)) = n' + 1 by omega] at this; omega
  subst hnn
  refine ⟨i, hl, g5, g4, g6, ?_⟩
  rw [(cd_eq B hB h15 hF i (n' + 1) g4 (by omega) g6).1]; omega
end Go.Proofs.Ytakgoflfcgofdaa

namespace Go.Proofs.Ytakgoflfcgofdaa
open Sx Go
set_option linter.unusedVariables false
set_option linter.unusedSimpArgs false
theorem fc_succ (B : List Int) (n : Nat) : fc B (n + 1) = 2 * (fc B n + cn B n) := rfl
theorem fc_zero (B : List Int) : fc B 0 = 0 := rfl
attribute [local irreducible] syA fc tk
/-- the bits of bytes, from the n-th on -/
def bitB (B : List Int) (n j : Nat) : Int := B.getD ((n + j) / 8) 0 / 2 ^ ((n + j) % 8) % 2
theorem bitB_01 (B : List Int) (n j : Nat) : bitB B n j = 0 ∨ bitB B n j = 1 := by
  unfold bitB; omega
/-- what is read, off so many bits -/
def RD (B : List Int) (bits : Nat → Int) (left : Nat) (i : Int) (used : Nat) (r : Int) : Prop :=
  (∃ j : Nat, i = (j : Int) ∧ r = 0 ∧ DEC B bits left j ∧ B.getD j 0 = (used : Int)) ∨
  ((∀ j, ¬ DEC B bits left j) ∧ i = 0 ∧ ((sm B = 0 ∧ used = 0 ∧ r = 62) ∨ (sm B ≠ 0 ∧ tk B = 32768 ∧ used = left ∧ r = 20) ∨ (sm B ≠ 0 ∧ ¬ tk B = 32768 ∧ ((left = 0 ∧ used = 0 ∧ r = 20) ∨ (0 < left ∧ used = 1 ∧ r = 62)))))
theorem or_even {a x : Int} (ha : 0 ≤ a ∧ a < 65536) (he : a % 2 = 0) (hx : x = 0 ∨ x = 1) : IntKind.i64.wrap ((BitVec.ofInt IntKind.i64.bits a ||| BitVec.ofInt IntKind.i64.bits x).toNat) = a + x := by
  rw [or_nat .i64 ⟨ha.1, Int.lt_trans ha.2 (by decide)⟩ ⟨by omega, by rcases hx with rfl | rfl <;> decide⟩]
  have h := Nat.two_pow_add_eq_or_of_lt (i := 1) (b := x.toNat) (by omega) (a.toNat / 2)
  rw [show 2 ^ 1 * (a.toNat / 2) = a.toNat by omega] at h
  rw [← h]
  exact (wi64 (by omega)).trans (by omega)
theorem bval_lt (b : Nat → Int) (hb : ∀ j, b j = 0 ∨ b j = 1) : ∀ n, 0 ≤ bval b n ∧ bval b n < 2 ^ n
  | 0 => ⟨Int.le_refl _, by show (0 : Int) < 1; decide⟩
  | n + 1 => by
    have h := bval_lt b hb n
    have := hb n
    rw [Int.pow_succ]
    show 0 ≤ 2 * bval b n + b n ∧ 2 * bval b n + b n < _
    omega
/-- nothing with as few bits -/
theorem no_dec (B : List Int) (hB : OKB B) (h15 : ∀ j, B.getD j 0 ≤ 15) (hF : FINE B) (bits : Nat → Int) (hb : ∀ j, bits j = 0 ∨ bits j = 1) (k : Nat) (h : fc B k + cn B k ≤ bval bits k) (j : Nat) : ¬ DEC B bits k j := by
  rintro ⟨n, hi, hn0, hn, hnl, hv⟩
  obtain ⟨c1, c2⟩ := cd_eq B hB h15 hF j n hi hn0 hn
  rcases Nat.eq_or_lt_of_le hnl with h1 | h1
  · subst h1; omega
  · have := val_behind B bits hb n (by omega) (k - n) (by omega)
    rw [show n + (k - n) = k by omega] at this
    have := cn_nonneg B k
    omega
theorem sm0_dec (B : List Int) (h : sm B = 0) (bits : Nat → Int) (left j : Nat) : ¬ DEC B bits left j := by
  rintro ⟨n, hi, hn0, hn, hnl, hv⟩
  unfold sm at h
  rw [List.countP_eq_zero] at h
  have := h (B.getD j 0) (by rw [List.getD_eq_getElem?_getD, List.getElem?_eq_getElem hi]; exact List.getElem_mem hi)
  exact this (decide_eq_true (by omega))
theorem FINE_lone (B : List Int) (hB : OKB B) (h15 : ∀ j, B.getD j 0 ≤ 15) (hF : FINE B) (h1 : ¬ tk B = 32768) (h0 : sm B ≠ 0) : ∀ n, 2 ≤ n → n ≤ 15 → cn B n = 0 := by
  have hs : sm B = 1 ∧ cn B 1 = 1 := by rcases hF with h | h | h <;> first | exact absurd h (by omega) | exact h
  have e := sm_sumc B hB h15 B.length (Nat.le_refl _)
  rw [List.take_length, hs.1] at e
  intro n hn hn15
  have hz := cn_nonneg B
  simp only [sumc, hs.2] at e
  have z2 := hz 2; have z3 := hz 3; have z4 := hz 4; have z5 := hz 5; have z6 := hz 6; have z7 := hz 7; have z8 := hz 8; have z9 := hz 9; have z10 := hz 10; have z11 := hz 11; have z12 := hz 12; have z13 := hz 13; have z14 := hz 14; have z15 := hz 15
  simp only [Nat.zero_add, Nat.reduceAdd, hs.2] at e
  match n, hn, hn15 with
  | 2, _, _ | 3, _, _ | 4, _, _ | 5, _, _ | 6, _, _ | 7, _, _ | 8, _, _ | 9, _, _ | 10, _, _ | 11, _, _ | 12, _, _ | 13, _, _ | 14, _, _ | 15, _, _ => omega
theorem val_b (B2 : List Int) (n k : Nat) : bitB B2 n k = B2.getD ((n + k) / 8) 0 / 2 ^ ((n + k) % 8) % 2 := rfl
set_option maxHeartbeats 4000000 in
/-- a set reads a symbol -/
theorem Read_c {w0 : World} {H : List Asn} (b b2 : Nat) (u : Value) (s q : Option Addr) (d e m2 : Nat) (B B2 : List Int) (hs : blk b (setCells u (cn B) (.slice s (syA B 15).length e) (decide (tk B = 32768))) ∈ H) (hrs : Rd w0 H (.slice s (syA B 15).length e) (syA B 15).length (ints .i64 (syA B 15)))
    (hm : B.length ≤ 320) (hB : OKB B) (h15 : ∀ j, B.getD j 0 ≤ 15) (hF : FINE B) (hr : Rd w0 H (.slice q m2 d) m2 (ints .u8 B2)) (hm2 : B2.length = m2) (hB2 : OKB B2) (hmx : m2 ≤ 140737488355328) (n : Nat) (hn : n ≤ 8 * m2)
    (w : World) (hw : St w0 (blk b2 [.slice q m2 d, .int .i64 n] :: H) w) :
    Calls Try.prog 102 #[.pointer (some ⟨b, 0, none⟩), .pointer (some ⟨b2, 0, none⟩)] w fun en w' => ∃ (i : Int) (used : Nat) (r : Int), en = .returned (.tuple #[.int .i64 i, .int .i64 r]) ∧ St w0 (blk b2 [.slice q m2 d, .int .i64 (n + used : Nat)] :: H) w' ∧ n + used ≤ 8 * m2 ∧ RD B (bitB B2 n) (8 * m2 - n) i used r := by
  refine enter (vs := [.pointer (some ⟨b, 0, none⟩), .pointer (some ⟨b2, 0, none⟩)]) Try.func102 rfl rfl rfl hw ?_
  have hs' : blk b (setCells u (cn B) (.slice s (syA B 15).length e) (decide (tk B = 32768))) ∈ blk b2 [.slice q m2 d, .int .i64 n] :: H := List.Mem.tail _ hs
  have hsl := sm_syA B hB h15
  by_cases h0 : sm B = 0
  · have h0' : (syA B 15).length = 0 := by omega
    repeat (first | (apply gJO; refine JO_v (V_load (tb := tb) rfl hs' rfl rfl rfl rfl) ?_) | (first | (apply gJO; first | (apply kS; refine aK ?_) | (apply kX; refine JO_box rfl rfl rfl ?_; intro _) | (apply kA; refine JO_alloc (tb := tb) rfl rfl ?_; intro _) | (apply kBs; refine JO_buildSlice (tb := tb) rfl rfl rfl rfl rfl rfl rfl rfl rfl ?_; intro _) | (apply kM; refine JO_make (tb := tb) rfl rfl rfl rfl rfl rfl (by omega) rfl ?_; intro _) | refine aO ?_) | (apply gJR; first | apply JR_un | apply JR_nil | refine JR_yes rfl rfl ?_ | refine JR_no rfl rfl rfl rfl ?_ | refine JR_noU rfl rfl rfl ?_) | (apply gJS; first | apply JS_seq | apply JS_region | apply JS_skip | apply JS_block | apply JS_inBlock | apply JS_label | refine JS_exit rfl ?_ | refine JS_condT rfl ?_ | refine JS_condF rfl ?_ | refine JS_draw [0] (by kernel_rfl) (by kernel_rfl) (by decide +kernel) ?_ | refine JS_draw [] (by kernel_rfl) (by kernel_rfl) (by decide +kernel) ?_ | refine JS_cond_T rfl (by omega) ?_ | refine JS_cond_F rfl (by omega) ?_) | (apply gQR; first | apply QR_un | apply QR_nil | refine QR_yes rfl rfl ?_ | refine QR_no rfl rfl rfl rfl ?_ | refine QR_noU rfl rfl rfl ?_) | (apply gQO; first | refine aQ ?_ | refine aQK rfl ?_)))
    refine JS_ret Try.func102 rfl rfl ?_
    intro w hw
    exact ⟨0, 0, 62, rfl, hw, by omega, .inr ⟨sm0_dec B h0 _ _, rfl, .inl ⟨h0, rfl, rfl⟩⟩⟩
  have h0' : ¬ (syA B 15).length = 0 := by omega
  repeat (first | (apply gJO; refine JO_v (V_load (tb := tb) rfl hs' rfl rfl rfl rfl) ?_) | (apply gJR; first | (apply gJO; first | (apply kS; refine aK ?_) | (apply kX; refine JO_box rfl rfl rfl ?_; intro _) | (apply kA; refine JO_alloc (tb := tb) rfl rfl ?_; intro _) | (apply kBs; refine JO_buildSlice (tb := tb) rfl rfl rfl rfl rfl rfl rfl rfl rfl ?_; intro _) | (apply kM; refine JO_make (tb := tb) rfl rfl rfl rfl rfl rfl (by omega) rfl ?_; intro _) | refine aO ?_) | (apply gJR; first | apply JR_un | apply JR_nil | refine JR_yes rfl rfl ?_ | refine JR_no rfl rfl rfl rfl ?_ | refine JR_noU rfl rfl rfl ?_) | (apply gJS; first | apply JS_seq | apply JS_region | apply JS_skip | apply JS_block | apply JS_inBlock | apply JS_label | refine JS_exit rfl ?_ | refine JS_condT rfl ?_ | refine JS_condF rfl ?_ | refine JS_draw [0] (by kernel_rfl) (by kernel_rfl) (by decide +kernel) ?_ | refine JS_draw [] (by kernel_rfl) (by kernel_rfl) (by decide +kernel) ?_ | refine JS_cond_T rfl (by omega) ?_ | refine JS_cond_F rfl (by omega) ?_) | (apply gQR; first | apply QR_un | apply QR_nil | refine QR_yes rfl rfl ?_ | refine QR_no rfl rfl rfl rfl ?_ | refine QR_noU rfl rfl rfl ?_) | (apply gQO; first | refine aQ ?_ | refine aQK rfl ?_)) | (apply gJO; first | (apply gJO; first | (apply kS; refine aK ?_) | (apply kX; refine JO_box rfl rfl rfl ?_; intro _) | (apply kA; refine JO_alloc (tb := tb) rfl rfl ?_; intro _) | (apply kBs; refine JO_buildSlice (tb := tb) rfl rfl rfl rfl rfl rfl rfl rfl rfl ?_; intro _) | (apply kM; refine JO_make (tb := tb) rfl rfl rfl rfl rfl rfl (by omega) rfl ?_; intro _) | refine aO ?_) | (apply gJR; first | apply JR_un | apply JR_nil | refine JR_yes rfl rfl ?_ | refine JR_no rfl rfl rfl rfl ?_ | refine JR_noU rfl rfl rfl ?_) | (apply gJS; first | apply JS_seq | apply JS_region | apply JS_skip | apply JS_block | apply JS_inBlock | apply JS_label | refine JS_exit rfl ?_ | refine JS_condT rfl ?_ | refine JS_condF rfl ?_ | refine JS_draw [0] (by kernel_rfl) (by kernel_rfl) (by decide +kernel) ?_ | refine JS_draw [] (by kernel_rfl) (by kernel_rfl) (by decide +kernel) ?_ | refine JS_cond_T rfl (by omega) ?_ | refine JS_cond_F rfl (by omega) ?_) | (apply gQR; first | apply QR_un | apply QR_nil | refine QR_yes rfl rfl ?_ | refine QR_no rfl rfl rfl rfl ?_ | refine QR_noU rfl rfl rfl ?_) | (apply gQO; first | refine aQ ?_ | refine aQK rfl ?_)) | apply JS_seq | apply JS_region | refine JS_condF rfl ?_ | refine JS_cond_F rfl (by omega) ?_ | apply JS_skip)
  refine JS_block ?_
  refine JS_loop1 (fun (k : Nat) => [(0, .pointer (some ⟨b, 0, none⟩)), (1, .pointer (some ⟨b2, 0, none⟩)), (6, .func (.func 105) #[.pointer (some ⟨b2, 0, none⟩)] #[]), (7, .int .i64 (2 * bval (bitB B2 n) k)), (8, .int .i64 (fc B (k + 1))), (9, .int .i64 (psum B (k + 1))), (10, .int .i64 (k + 1))])
    (fun k => blk b2 [.slice q m2 d, .int .i64 (n + k : Nat)] :: H)
    (fun k => k ≤ 15 ∧ n + k ≤ 8 * m2 ∧ fc B k + cn B k ≤ bval (bitB B2 n) k ∧ (k = 0 ∨ tk B = 32768)) (fun k => 15 - k) 0 ⟨by omega, by omega, by rw [fc_zero]; simp [cn, bval], .inl rfl⟩ (by exact ⟨rfl, rfl, rfl, rfl, lookI rfl (by rw [fc_succ, fc_zero]; simp [cn]), lookI rfl (by simp [psum, cn]), rfl, trivial⟩) (fun _ h => h) ?_
  intro k ⟨hk, hnk, hfv, hful⟩ again
  have hbits := bitB_01 B2 n
  have hv := bval_lt (bitB B2 n) hbits k
  have hp2 := p15 k hk
  have hfull15 : tk B = 32768 → k < 15 := by
    intro h
    rcases Nat.lt_or_ge k 15 with h1 | h1
    · exact h1
    · obtain rfl : k = 15 := by omega
      have := fc_tk B hB h15 B.length (Nat.le_refl _)
      rw [List.take_length] at this; omega
  have hk15 : k < 15 := by
    rcases hful with h | h
    · omega
    · exact hfull15 h
  have hr' : Rd w0 H (.slice q m2 d) m2 (ints .u8 B2) := hr
  repeat (first | (apply gJO; first | (apply kS; refine aK ?_) | (apply kX; refine JO_box rfl rfl rfl ?_; intro _) | (apply kA; refine JO_alloc (tb := tb) rfl rfl ?_; intro _) | (apply kBs; refine JO_buildSlice (tb := tb) rfl rfl rfl rfl rfl rfl rfl rfl rfl ?_; intro _) | (apply kM; refine JO_make (tb := tb) rfl rfl rfl rfl rfl rfl (by omega) rfl ?_; intro _) | refine aO ?_) | (apply gJR; first | apply JR_un | apply JR_nil | refine JR_yes rfl rfl ?_ | refine JR_no rfl rfl rfl rfl ?_ | refine JR_noU rfl rfl rfl ?_) | (apply gJS; first | apply JS_seq | apply JS_region | apply JS_skip | apply JS_block | apply JS_inBlock | apply JS_label | refine JS_exit rfl ?_ | refine JS_condT rfl ?_ | refine JS_condF rfl ?_ | refine JS_draw [0] (by kernel_rfl) (by kernel_rfl) (by decide +kernel) ?_ | refine JS_draw [] (by kernel_rfl) (by kernel_rfl) (by decide +kernel) ?_ | refine JS_cond_T rfl (by omega) ?_ | refine JS_cond_F rfl (by omega) ?_) | (apply gQR; first | apply QR_un | apply QR_nil | refine QR_yes rfl rfl ?_ | refine QR_no rfl rfl rfl rfl ?_ | refine QR_noU rfl rfl rfl ?_) | (apply gQO; first | refine aQ ?_ | refine aQK rfl ?_))
  refine JO_callv (us := [.pointer (some ⟨b2, 0, none⟩)]) (cs := []) rfl Try.call105 rfl rfl fun w hw => (Bit_c b2 q d m2 B2 hr hm2 hB2 hmx (n + k) hnk w hw).mono ?_
  rintro e1 w' ⟨x, r, rfl, hcase⟩
  rcases hcase with ⟨h1, rfl, rfl, hw'⟩ | ⟨h1, rfl, hx, hw'⟩
  · refine ⟨_, rfl, _, hw', ?_⟩
    clear hw' hw w w'
    repeat (first | (apply gJO; first | (apply kS; refine aK ?_) | (apply kX; refine JO_box rfl rfl rfl ?_; intro _) | (apply kA; refine JO_alloc (tb := tb) rfl rfl ?_; intro _) | (apply kBs; refine JO_buildSlice (tb := tb) rfl rfl rfl rfl rfl rfl rfl rfl rfl ?_; intro _) | (apply kM; refine JO_make (tb := tb) rfl rfl rfl rfl rfl rfl (by omega) rfl ?_; intro _) | refine aO ?_) | (apply gJR; first | apply JR_un | apply JR_nil | refine JR_yes rfl rfl ?_ | refine JR_no rfl rfl rfl rfl ?_ | refine JR_noU rfl rfl rfl ?_) | (apply gJS; first | apply JS_seq | apply JS_region | apply JS_skip | apply JS_block | apply JS_inBlock | apply JS_label | refine JS_exit rfl ?_ | refine JS_condT rfl ?_ | refine JS_condF rfl ?_ | refine JS_draw [0] (by kernel_rfl) (by kernel_rfl) (by decide +kernel) ?_ | refine JS_draw [] (by kernel_rfl) (by kernel_rfl) (by decide +kernel) ?_ | refine JS_cond_T rfl (by omega) ?_ | refine JS_cond_F rfl (by omega) ?_) | (apply gQR; first | apply QR_un | apply QR_nil | refine QR_yes rfl rfl ?_ | refine QR_no rfl rfl rfl rfl ?_ | refine QR_noU rfl rfl rfl ?_) | (apply gQO; first | refine aQ ?_ | refine aQK rfl ?_))
    refine JS_ret Try.func102 rfl rfl ?_
    intro w hw
    refine ⟨0, k, 20, rfl, hw, hnk, .inr ⟨?_, rfl, ?_⟩⟩
    · rw [show 8 * m2 - n = k by omega]
      exact no_dec B hB h15 hF _ hbits k hfv
    · rcases hful with h | h
      · subst h
        by_cases ht : tk B = 32768
        · exact .inr (.inl ⟨h0, ht, by omega, rfl⟩)
        · exact .inr (.inr ⟨h0, ht, .inl ⟨by omega, rfl, rfl⟩⟩)
      · exact .inr (.inl ⟨h0, h, by omega, rfl⟩)
  · refine ⟨_, rfl, _, hw', ?_⟩
    clear hw' hw w w'
    rw [← val_b] at hx
    subst hx
    have hvk : bval (bitB B2 n) (k + 1) = 2 * bval (bitB B2 n) k + bitB B2 n k := rfl
    have hb1 := hbits k
    have hor := or_even (a := 2 * bval (bitB B2 n) k) (x := bitB B2 n k) (by omega) (by omega) hb1
    rw [← hvk] at hor
    have hcn0 := cn_nonneg B (k + 1)
    have hfcb := fc_bd B hB h15 hF (k + 1) (by omega)
    have hfc0 := fc_nn B (k + 1)
    have hp3 := p15 (k + 1) (by omega)
    have hfk := fc_succ B k
    have hge : fc B (k + 1) ≤ bval (bitB B2 n) (k + 1) := by omega
    have hv2 := bval_lt (bitB B2 n) hbits (k + 1)
    have hs2 : blk b (setCells u (cn B) (.slice s (syA B 15).length e) (decide (tk B = 32768))) ∈ blk b2 [.slice q m2 d, .int .i64 (n + k + 1 : Nat)] :: H := List.Mem.tail _ hs
    have hidx : ∀ {v : Value}, nth (setCells u (cn B) (.slice s (syA B 15).length e) (decide (tk B = 32768))) (1 + ((k : Int) + 1).toNat * 1) = some v ↔ v = .int .i64 (cn B (k + 1)) := by
      intro v
      rw [show 1 + ((k : Int) + 1).toNat * 1 = 1 + (k + 1) by omega, set_nth (by omega)]
      exact ⟨fun h => (Option.some.inj h).symm, fun h => by rw [h]⟩
    have hnth := hidx.2 rfl
    have hps0 : 0 ≤ psum B (k + 1) := by
      have := psum_mono B 0 (k + 1)
      rw [Nat.zero_add] at this
      exact this
    have hps1 : psum B (k + 1) + cn B (k + 1) ≤ (syA B 15).length := by
      have h1 := psum_syA B hB 15
      have h2 := psum_mono B (k + 2) (16 - (k + 2))
      rw [show k + 2 + (16 - (k + 2)) = 16 by omega] at h2
      have : psum B (k + 2) = psum B (k + 1) + cn B (k + 1) := rfl
      have : psum B (15 + 1) = psum B 16 := rfl
      omega
    have hsL := syA_len B 15
    by_cases hlt : bval (bitB B2 n) (k + 1) - fc B (k + 1) < cn B (k + 1)
    · obtain ⟨kk, hkk⟩ := Int.eq_ofNat_of_zero_le (show 0 ≤ bval (bitB B2 n) (k + 1) - fc B (k + 1) by omega)
      rw [hkk] at hlt
      obtain ⟨i, g1, g2, g3, g4, g5⟩ := sym_at B hB h15 hF (k + 1) (by omega) (by omega) kk hlt
      have hi64 : IntKind.i64.wrap (bval (bitB B2 n) (k + 1) - fc B (k + 1)) = (kk : Int) := by rw [hkk]; exact wi64 (by omega)
      have gs : (ints .i64 (syA B 15))[(psum B (k + 1) + (kk : Int)).toNat]? = some (.int .i64 (i : Int)) := by rw [← g2]; exact ints_get (by omega)
      have hrs' : Rd w0 (blk b2 [.slice q m2 d, .int .i64 (n + k + 1 : Nat)] :: H) (.slice s (syA B 15).length e) (syA B 15).length (ints .i64 (syA B 15)) := Rd_weak hrs fun w hw => St.sub (by repeat (first | exact List.Sublist.refl _ | apply List.Sublist.cons_cons | apply List.Sublist.cons)) hw
      clear hidx
      repeat (first | (apply gJO; first | refine JO_v (V_or rfl rfl hor rfl) ?_ | refine JO_v (V_sub rfl rfl hi64 rfl) ?_ | refine JO_v (V_load (tb := tb) rfl hs2 rfl rfl hnth rfl) ?_ | refine JO_v (V_load (tb := tb) rfl hs2 rfl rfl rfl rfl) ?_ | refine JO_v (V_index (tb := tb) rfl rfl rfl rfl (Rd.sl hrs') (by omega) (Nat.mul_one _) rfl) ?_ | refine JO_v (V_loadC (tb := tb) rfl hrs' rfl rfl gs rfl) ?_) | (first | (apply gJO; first | (apply kS; refine aK ?_) | (apply kX; refine JO_box rfl rfl rfl ?_; intro _) | (apply kA; refine JO_alloc (tb := tb) rfl rfl ?_; intro _) | (apply kBs; refine JO_buildSlice (tb := tb) rfl rfl rfl rfl rfl rfl rfl rfl rfl ?_; intro _) | (apply kM; refine JO_make (tb := tb) rfl rfl rfl rfl rfl rfl (by omega) rfl ?_; intro _) | refine aO ?_) | (apply gJR; first | apply JR_un | apply JR_nil | refine JR_yes rfl rfl ?_ | refine JR_no rfl rfl rfl rfl ?_ | refine JR_noU rfl rfl rfl ?_) | (apply gJS; first | apply JS_seq | apply JS_region | apply JS_skip | apply JS_block | apply JS_inBlock | apply JS_label | refine JS_exit rfl ?_ | refine JS_condT rfl ?_ | refine JS_condF rfl ?_ | refine JS_draw [0] (by kernel_rfl) (by kernel_rfl) (by decide +kernel) ?_ | refine JS_draw [] (by kernel_rfl) (by kernel_rfl) (by decide +kernel) ?_ | refine JS_cond_T rfl (by omega) ?_ | refine JS_cond_F rfl (by omega) ?_) | (apply gQR; first | apply QR_un | apply QR_nil | refine QR_yes rfl rfl ?_ | refine QR_no rfl rfl rfl rfl ?_ | refine QR_noU rfl rfl rfl ?_) | (apply gQO; first | refine aQ ?_ | refine aQK rfl ?_)))
      refine JS_ret Try.func102 rfl rfl ?_
      intro w hw
      exact ⟨i, k + 1, 0, rfl, hw, by omega, .inl ⟨i, rfl, rfl, ⟨k + 1, g3, by omega, g4, by omega, by omega⟩, g4⟩⟩
    · by_cases hfl : tk B = 32768
      · have hk14 : k < 14 := by
          rcases Nat.lt_or_ge k 14 with h1 | h1
          · exact h1
          · obtain rfl : k = 14 := by omega
            have := fc_tk B hB h15 B.length (Nat.le_refl _)
            rw [List.take_length] at this
            have : (2 : Int) ^ (14 + 1) = 32768 := by decide
            simp only [Nat.reduceAdd] at hfcb hlt hge hv2 this
            omega
        have hfl' : decide (tk B = 32768) = true := decide_eq_true hfl
        have hf2 := fc_succ B (k + 1)
        have hp4 : psum B (k + 1 + 1) = psum B (k + 1) + cn B (k + 1) := rfl
        rw [hfl'] at hs2
        clear hidx
        rw [hfl'] at hnth
        repeat (first | (apply gJO; first | refine JO_v (V_or rfl rfl hor rfl) ?_ | refine JO_v (V_load (tb := tb) rfl hs2 rfl rfl hnth rfl) ?_ | refine JO_v (V_load (tb := tb) rfl hs2 rfl rfl rfl rfl) ?_) | (first | (apply gJO; first | (apply kS; refine aK ?_) | (apply kX; refine JO_box rfl rfl rfl ?_; intro _) | (apply kA; refine JO_alloc (tb := tb) rfl rfl ?_; intro _) | (apply kBs; refine JO_buildSlice (tb := tb) rfl rfl rfl rfl rfl rfl rfl rfl rfl ?_; intro _) | (apply kM; refine JO_make (tb := tb) rfl rfl rfl rfl rfl rfl (by omega) rfl ?_; intro _) | refine aO ?_) | (apply gJR; first | apply JR_un | apply JR_nil | refine JR_yes rfl rfl ?_ | refine JR_no rfl rfl rfl rfl ?_ | refine JR_noU rfl rfl rfl ?_) | (apply gJS; first | apply JS_seq | apply JS_region | apply JS_skip | apply JS_block | apply JS_inBlock | apply JS_label | refine JS_exit rfl ?_ | refine JS_condT rfl ?_ | refine JS_condF rfl ?_ | refine JS_draw [0] (by kernel_rfl) (by kernel_rfl) (by decide +kernel) ?_ | refine JS_draw [] (by kernel_rfl) (by kernel_rfl) (by decide +kernel) ?_ | refine JS_cond_T rfl (by omega) ?_ | refine JS_cond_F rfl (by omega) ?_) | (apply gQR; first | apply QR_un | apply QR_nil | refine QR_yes rfl rfl ?_ | refine QR_no rfl rfl rfl rfl ?_ | refine QR_noU rfl rfl rfl ?_) | (apply gQO; first | refine aQ ?_ | refine aQK rfl ?_)))
        refine JS_again1 again (k + 1) ⟨by omega, by omega, by omega, .inr hfl⟩ (by omega) (by repeat (first | exact trivial | refine ⟨rfl, ?_⟩ | refine ⟨lookI rfl (by omega), ?_⟩)) (fun w hw => hw)
      · obtain rfl : k = 0 := by rcases hful with h | h <;> first | exact h | exact absurd h hfl
        have hfl' : decide (tk B = 32768) = false := decide_eq_false hfl
        rw [hfl'] at hs2
        clear hidx
        rw [hfl'] at hnth
        repeat (first | (apply gJO; first | refine JO_v (V_or rfl rfl hor rfl) ?_ | refine JO_v (V_load (tb := tb) rfl hs2 rfl rfl hnth rfl) ?_ | refine JO_v (V_load (tb := tb) rfl hs2 rfl rfl rfl rfl) ?_) | (first | (apply gJO; first | (apply kS; refine aK ?_) | (apply kX; refine JO_box rfl rfl rfl ?_; intro _) | (apply kA; refine JO_alloc (tb := tb) rfl rfl ?_; intro _) | (apply kBs; refine JO_buildSlice (tb := tb) rfl rfl rfl rfl rfl rfl rfl rfl rfl ?_; intro _) | (apply kM; refine JO_make (tb := tb) rfl rfl rfl rfl rfl rfl (by omega) rfl ?_; intro _) | refine aO ?_) | (apply gJR; first | apply JR_un | apply JR_nil | refine JR_yes rfl rfl ?_ | refine JR_no rfl rfl rfl rfl ?_ | refine JR_noU rfl rfl rfl ?_) | (apply gJS; first | apply JS_seq | apply JS_region | apply JS_skip | apply JS_block | apply JS_inBlock | apply JS_label | refine JS_exit rfl ?_ | refine JS_condT rfl ?_ | refine JS_condF rfl ?_ | refine JS_draw [0] (by kernel_rfl) (by kernel_rfl) (by decide +kernel) ?_ | refine JS_draw [] (by kernel_rfl) (by kernel_rfl) (by decide +kernel) ?_ | refine JS_cond_T rfl (by omega) ?_ | refine JS_cond_F rfl (by omega) ?_) | (apply gQR; first | apply QR_un | apply QR_nil | refine QR_yes rfl rfl ?_ | refine QR_no rfl rfl rfl rfl ?_ | refine QR_noU rfl rfl rfl ?_) | (apply gQO; first | refine aQ ?_ | refine aQK rfl ?_)))
        refine JS_ret Try.func102 rfl rfl ?_
        intro w hw
        refine ⟨0, 1, 62, rfl, hw, by omega, .inr ⟨?_, rfl, .inr (.inr ⟨h0, hfl, .inr ⟨by omega, rfl, rfl⟩⟩)⟩⟩
        intro j
        rintro ⟨n', hi, hn0, hn', hnl, hv'⟩
        have h15j := h15 j
        obtain ⟨c1, c2⟩ := cd_eq B hB h15 hF j n' hi hn0 hn'
        have hz := cn_nonneg (B.take j) n'
        by_cases h2 : 2 ≤ n'
        · have := FINE_lone B hB h15 hF hfl h0 n' h2 (by omega); omega
        · obtain rfl : n' = 1 := by omega
          have : bval (bitB B2 n) (0 + 1) = bval (bitB B2 n) 1 := rfl
          have : fc B (0 + 1) = fc B 1 := rfl
          have : cn B (0 + 1) = cn B 1 := rfl
          omega
end Go.Proofs.Ytakgoflfcgofdaa

namespace Go.Proofs.Ytakgoflfcgofdaa
open Sx Go
set_option linter.unusedVariables false
set_option linter.unusedSimpArgs false
attribute [local irreducible] syA fc tk
/-- lengths that are a set's -/
def OKL (B : List Int) : Prop := B.length ≤ 320 ∧ (∀ j, B.getD j 0 ≤ 15) ∧ FINE B
/-- a set that stands in memory -/
structure IsSet (w0 : World) (H : List Asn) (b : Nat) (B : List Int) : Prop where
  ok : ∃ q d s e, blk b (setCells (.slice q B.length d) (cn B) (.slice s (syA B 15).length e) (decide (tk B = 32768))) ∈ H ∧ Rd w0 H (.slice q B.length d) B.length (ints .u8 B) ∧ Rd w0 H (.slice s (syA B 15).length e) (syA B 15).length (ints .i64 (syA B 15))
  hB : OKB B
  hl : OKL B
theorem IsSet.sub {w0 H H' b B} (h : IsSet w0 H b B) (hs : H.Sublist H') : IsSet w0 H' b B := by
  obtain ⟨⟨q, d, s, e, h1, h2, h3⟩, hB, hl⟩ := h
  exact ⟨⟨q, d, s, e, hs.subset h1, Rd_weak h2 fun w hw => St.sub hs hw, Rd_weak h3 fun w hw => St.sub hs hw⟩, hB, hl⟩
theorem OKB_of {B : List Int} (h : B.all (fun x => decide (0 ≤ x ∧ x < 256)) = true) : OKB B := by
  intro j
  rw [List.getD_eq_getElem?_getD]
  rcases Nat.lt_or_ge j B.length with hj | hj
  · rw [List.getElem?_eq_getElem hj]
    exact of_decide_eq_true (List.all_eq_true.1 h _ (List.getElem_mem hj))
  · rw [List.getElem?_eq_none hj]; decide
theorem le15_of {B : List Int} (h : B.all (fun x => decide (x ≤ 15)) = true) : ∀ j, B.getD j 0 ≤ 15 := by
  intro j
  rw [List.getD_eq_getElem?_getD]
  rcases Nat.lt_or_ge j B.length with hj | hj
  · rw [List.getElem?_eq_getElem hj]
    exact of_decide_eq_true (List.all_eq_true.1 h _ (List.getElem_mem hj))
  · rw [List.getElem?_eq_none hj]; decide
/-- the error of lengths -/
def BADL (B : List Int) (r : Int) : Prop := ((320 < B.length ∨ ∃ j, 15 < B.getD j 0) ∧ r = 1) ∨ (B.length ≤ 320 ∧ (∀ j, B.getD j 0 ≤ 15) ∧ ¬ FINE B ∧ r = 62)
theorem BADL.not {B r} (h : BADL B r) : ¬ OKL B := by
  rintro ⟨h1, h2, h3⟩
  rcases h with ⟨h4 | ⟨j, h4⟩, _⟩ | ⟨_, _, h4, _⟩
  · omega
  · have := h2 j; omega
  · exact h4 h3
theorem BADL.one {B r r'} (h : BADL B r) (h' : BADL B r') : r = r' := by
  rcases h with ⟨h1, h2⟩ | ⟨h1, h3, h4, h2⟩ <;> rcases h' with ⟨h5, h6⟩ | ⟨h5, h7, h8, h6⟩
  · omega
  · exfalso
    rcases h1 with h1 | ⟨j, h1⟩
    · omega
    · have := h7 j; omega
  · exfalso
    rcases h5 with h5 | ⟨j, h5⟩
    · omega
    · have := h3 j; omega
  · omega
theorem BADL.pos {B r} (h : BADL B r) : r = 1 ∨ r = 62 := by
  rcases h with ⟨_, h⟩ | ⟨_, _, _, h⟩ <;> omega
theorem Make2_c {w0 : World} {H : List Asn} (p : Option Addr) (c m : Nat) (B : List Int) (hr : Rd w0 H (.slice p m c) m (ints .u8 B)) (hm : B.length = m) (hB : OKB B) (hm1 : m ≤ 140737488355328) (hpm : p = none → m = 0) (w : World) (hw : St w0 H w) :
    Calls Try.prog 64 #[.slice p m c] w fun e w' => ∃ u r, e = .returned (.tuple #[u, .int .i64 r]) ∧
      ((BADL B r ∧ u = .pointer none ∧ St w0 H w') ∨ (OKL B ∧ r = 0 ∧ ∃ b a1 a2 a3, u = .pointer (some ⟨b, 0, none⟩) ∧ IsSet w0 (a1 :: a2 :: a3 :: H) b B ∧ St w0 (a1 :: a2 :: a3 :: H) w')) := by
  refine (Make_c p c m B hr hm hB hm1 hpm w hw).mono ?_
  rintro e w' ⟨u, r, rfl, h⟩
  refine ⟨u, r, rfl, ?_⟩
  subst hm
  rcases h with ⟨h1, rfl, rfl, h2⟩ | ⟨h1, h15, h2, rfl, rfl, h3⟩ | ⟨h1, h15, h2, rfl, b, q, d, s, k, rfl, h3⟩
  · exact .inl ⟨.inl ⟨h1, rfl⟩, rfl, h2⟩
  · exact .inl ⟨.inr ⟨h1, h15, fun h => h2 ((fine_iff B hB h15).2 h), rfl⟩, rfl, h3⟩
  · refine .inr ⟨⟨h1, h15, (fine_iff B hB h15).1 h2⟩, rfl, b, _, _, _, rfl, ⟨⟨q, d, s, k, (by repeat (first | apply List.Mem.head | apply List.Mem.tail)), vec_rd (by repeat (first | apply List.Mem.head | apply List.Mem.tail)), vec_rd (by repeat (first | apply List.Mem.head | apply List.Mem.tail))⟩, hB, ⟨h1, h15, (fine_iff B hB h15).1 h2⟩⟩, h3⟩
theorem Codes2_c {w0 : World} {H : List Asn} (b m : Nat) (B : List Int) (hm : B.length = m) (hs : IsSet w0 H b B) (w : World) (hw : St w0 H w) :
    Calls Try.prog 65 #[.pointer (some ⟨b, 0, none⟩)] w fun e w' => ∃ p c, e = .returned (.slice p m c) ∧ St w0 (vec 46 1 (.slice p m c) m (ints .u32 (cds B 16 0)) :: H) w' := by
  subst hm
  obtain ⟨⟨q, d, s, e, h1, h2, h3⟩, hB, hl⟩ := hs
  exact Codes_c b q s d e _ B _ _ h1 h2 h3 rfl hB hl.2.1 (by have := hl.1; omega) w hw
theorem Full2_c {w0 : World} {H : List Asn} (b : Nat) (B : List Int) (hs : IsSet w0 H b B) (w : World) (hw : St w0 H w) :
    Calls Try.prog 80 #[.pointer (some ⟨b, 0, none⟩)] w fun e w' => e = .returned (.bool (decide (tk B = 32768))) ∧ St w0 H w' := by
  obtain ⟨⟨q, d, s, e, h1, h2, h3⟩, hB, hl⟩ := hs
  exact Full_c b _ _ _ _ h1 w hw
theorem Read2_c {w0 : World} {H : List Asn} (b b2 : Nat) (B B2 : List Int) (hs : IsSet w0 H b B) (q : Option Addr) (d m2 : Nat) (hr : Rd w0 H (.slice q m2 d) m2 (ints .u8 B2)) (hm2 : B2.length = m2) (hB2 : OKB B2) (hmx : m2 ≤ 140737488355328) (n : Nat) (hn : n ≤ 8 * m2)
    (w : World) (hw : St w0 (blk b2 [.slice q m2 d, .int .i64 n] :: H) w) :
    Calls Try.prog 102 #[.pointer (some ⟨b, 0, none⟩), .pointer (some ⟨b2, 0, none⟩)] w fun en w' => ∃ (i : Int) (used : Nat) (r : Int), en = .returned (.tuple #[.int .i64 i, .int .i64 r]) ∧ St w0 (blk b2 [.slice q m2 d, .int .i64 (n + used : Nat)] :: H) w' ∧ n + used ≤ 8 * m2 ∧ RD B (bitB B2 n) (8 * m2 - n) i used r := by
  obtain ⟨⟨q', d', s, e, h1, h2, h3⟩, hB, hl⟩ := hs
  exact Read_c b b2 _ s q d e m2 B B2 h1 h3 hl.1 hB hl.2.1 hl.2.2 hr hm2 hB2 hmx n hn w hw
theorem ReadNil_c {w0 : World} {H : List Asn} (v : Value) (w : World) (hw : St w0 H w) :
    Calls Try.prog 102 #[v, .pointer none] w fun e w' => e = .returned (.tuple #[.int .i64 0, .int .i64 1]) ∧ St w0 H w' := by
  refine enter (vs := [v, .pointer none]) Try.func102 rfl rfl rfl hw ?_
  repeat (first | (apply gJO; first | (apply kS; refine aK ?_) | (apply kX; refine JO_box rfl rfl rfl ?_; intro _) | (apply kA; refine JO_alloc (tb := tb) rfl rfl ?_; intro _) | (apply kBs; refine JO_buildSlice (tb := tb) rfl rfl rfl rfl rfl rfl rfl rfl rfl ?_; intro _) | (apply kM; refine JO_make (tb := tb) rfl rfl rfl rfl rfl rfl (by omega) rfl ?_; intro _) | refine aO ?_) | (apply gJR; first | apply JR_un | apply JR_nil | refine JR_yes rfl rfl ?_ | refine JR_no rfl rfl rfl rfl ?_ | refine JR_noU rfl rfl rfl ?_) | (apply gJS; first | apply JS_seq | apply JS_region | apply JS_skip | apply JS_block | apply JS_inBlock | apply JS_label | refine JS_exit rfl ?_ | refine JS_condT rfl ?_ | refine JS_condF rfl ?_ | refine JS_draw [0] (by kernel_rfl) (by kernel_rfl) (by decide +kernel) ?_ | refine JS_draw [] (by kernel_rfl) (by kernel_rfl) (by decide +kernel) ?_ | refine JS_cond_T rfl (by omega) ?_ | refine JS_cond_F rfl (by omega) ?_) | (apply gQR; first | apply QR_un | apply QR_nil | refine QR_yes rfl rfl ?_ | refine QR_no rfl rfl rfl rfl ?_ | refine QR_noU rfl rfl rfl ?_) | (apply gQO; first | refine aQ ?_ | refine aQK rfl ?_))
  refine JS_ret Try.func102 rfl rfl ?_
  intro w hw
  exact ⟨rfl, hw⟩
end Go.Proofs.Ytakgoflfcgofdaa

namespace Go.Proofs.Ytakgoflfcgofdaa
open Sx Go
set_option linter.unusedVariables false
set_option linter.unusedSimpArgs false
/-- a number's bits, the lowest first -/
def grp (n : Int) (c : Nat) : List Int := (List.range c).map fun j => n / 2 ^ j % 2
theorem grp_len (n : Int) (c : Nat) : (grp n c).length = c := by simp [grp]
theorem grp_succ (n : Int) (c : Nat) : grp n (c + 1) = grp n c ++ [n / 2 ^ c % 2] := by simp [grp, List.range_succ]
/-- the bits of the first bytes -/
def bitsL (B : List Int) (i : Nat) : List Int := (List.range (8 * i)).map fun j => B.getD (j / 8) 0 / 2 ^ (j % 8) % 2
theorem bitsL_len (B : List Int) (i : Nat) : (bitsL B i).length = 8 * i := by simp [bitsL]
theorem bitsL_succ (B : List Int) (i : Nat) : bitsL B (i + 1) = bitsL B i ++ grp (B.getD i 0) 8 := by
  have h : List.range (8 * (i + 1)) = List.range (8 * i) ++ (List.range 8).map (fun j => 8 * i + j) := by rw [Nat.mul_add, Nat.mul_one, List.range_add]
  unfold bitsL grp
  rw [h, List.map_append, List.map_map]
  congr 1
  apply List.map_congr_left
  intro j hj
  simp only [List.mem_range] at hj
  simp only [Function.comp_apply]
  rw [show (8 * i + j) / 8 = i by omega, show (8 * i + j) % 8 = j by omega]
theorem bitsL_get (B : List Int) (i j : Nat) (h : j < 8 * i) : (bitsL B i).getD j 0 = bitB B 0 j := by
  simp [bitsL, bitB, List.getD_eq_getElem?_getD, h]
/-- a code's bits, the highest first -/
def bms (c : Int) (n : Nat) : List Int := (List.range n).map fun j => c / 2 ^ (n - 1 - j) % 2
theorem bms_len (c : Int) (n : Nat) : (bms c n).length = n := by simp [bms]
theorem bms_succ (c : Int) (n : Nat) : bms c (n + 1) = [c / 2 ^ n % 2] ++ bms c n := by
  unfold bms
  rw [List.range_succ_eq_map, List.map_cons, List.map_map]
  simp only [List.singleton_append]
  congr 1
  apply List.map_congr_left
  intro j hj
  simp only [Function.comp_apply]
  rw [show n + 1 - 1 - j.succ = n - 1 - j by omega]
theorem div_step (a : Int) (k : Nat) : a / 2 ^ (k + 1) = a / 2 ^ k / 2 := by
  rw [Int.pow_succ, ← Int.ediv_ediv_of_nonneg (Int.le_of_lt (Int.pow_pos (by decide)))]
theorem val_bms (b : Nat → Int) (hb : ∀ j, b j = 0 ∨ b j = 1) (c : Int) (n : Nat) (hc : 0 ≤ c ∧ c < 2 ^ n) : (List.range n).map b = bms c n ↔ bval b n = c := by
  constructor
  · intro h
    have hj : ∀ j, j < n → b j = c / 2 ^ (n - 1 - j) % 2 := by
      intro j hj
      have := congrArg (fun l => l.getD j 0) h
      simpa [bms, List.getD_eq_getElem?_getD, hj] using this
    have key : ∀ k, k ≤ n → bval b k = c / 2 ^ (n - k) := by
      intro k
      induction k with
      | zero => intro _; rw [Nat.sub_zero]; exact (Int.ediv_eq_zero_of_lt hc.1 hc.2).symm
      | succ k ih =>
        intro hk
        have h1 := ih (by omega)
        have h2 := hj k (by omega)
        rw [show n - k = (n - (k + 1)) + 1 by omega, div_step] at h1
        rw [show n - 1 - k = n - (k + 1) by omega] at h2
        show 2 * bval b k + b k = _
        omega
    have := key n (Nat.le_refl _)
    rwa [Nat.sub_self, Int.pow_zero, Int.ediv_one] at this
  · intro h
    have key : ∀ d, d ≤ n → bval b (n - d) = c / 2 ^ d := by
      intro d
      induction d with
      | zero => intro _; rw [Nat.sub_zero, Int.pow_zero, Int.ediv_one]; exact h
      | succ d ih =>
        intro hd
        have h1 := ih (by omega)
        have h2 : bval b (n - d) = 2 * bval b (n - (d + 1)) + b (n - (d + 1)) := by rw [show n - d = n - (d + 1) + 1 by omega]; rfl
        have := hb (n - (d + 1))
        rw [div_step]
        omega
    unfold bms
    apply List.map_congr_left
    intro j hj
    simp only [List.mem_range] at hj
    have h1 := key (n - 1 - j) (by omega)
    have h2 : bval b (n - (n - 1 - j)) = 2 * bval b j + b j := by rw [show n - (n - 1 - j) = j + 1 by omega]; rfl
    have := hb j
    omega
set_option maxHeartbeats 1000000 in
theorem Group4_c {w0 : World} {H : List Asn} (n : Int) (k : Nat) (hn : 0 ≤ n ∧ n < 4294967296) (hk : k ≤ 4611686018427387904) (hk2 : k ≤ 140737488355320) (w : World) (hw : St w0 H w) :
    Calls Try.prog 44 #[.int .u32 n, .int .i64 k] w fun e w' => ∃ p c, e = .returned (.slice p k c) ∧ St w0 (vec 5 1 (.slice p k c) k (ints .u8 (grp n k)) :: H) w' := by
  refine enter (vs := [.int .u32 n, .int .i64 k]) Try.func44 rfl rfl rfl hw ?_
  repeat (first | (apply gJR; first | (apply gJO; first | (apply kS; refine aK ?_) | (apply kX; refine JO_box rfl rfl rfl ?_; intro _) | (apply kA; refine JO_alloc (tb := tb) rfl rfl ?_; intro _) | (apply kBs; refine JO_buildSlice (tb := tb) rfl rfl rfl rfl rfl rfl rfl rfl rfl ?_; intro _) | (apply kM; refine JO_make (tb := tb) rfl rfl rfl rfl rfl rfl (by omega) rfl ?_; intro _) | refine aO ?_) | (apply gJR; first | apply JR_un | apply JR_nil | refine JR_yes rfl rfl ?_ | refine JR_no rfl rfl rfl rfl ?_ | refine JR_noU rfl rfl rfl ?_) | (apply gJS; first | apply JS_seq | apply JS_region | apply JS_skip | apply JS_block | apply JS_inBlock | apply JS_label | refine JS_exit rfl ?_ | refine JS_condT rfl ?_ | refine JS_condF rfl ?_ | refine JS_draw [0] (by kernel_rfl) (by kernel_rfl) (by decide +kernel) ?_ | refine JS_draw [] (by kernel_rfl) (by kernel_rfl) (by decide +kernel) ?_ | refine JS_cond_T rfl (by omega) ?_ | refine JS_cond_F rfl (by omega) ?_) | (apply gQR; first | apply QR_un | apply QR_nil | refine QR_yes rfl rfl ?_ | refine QR_no rfl rfl rfl rfl ?_ | refine QR_noU rfl rfl rfl ?_) | (apply gQO; first | refine aQ ?_ | refine aQK rfl ?_)) | (apply gJO; first | (apply gJO; first | (apply kS; refine aK ?_) | (apply kX; refine JO_box rfl rfl rfl ?_; intro _) | (apply kA; refine JO_alloc (tb := tb) rfl rfl ?_; intro _) | (apply kBs; refine JO_buildSlice (tb := tb) rfl rfl rfl rfl rfl rfl rfl rfl rfl ?_; intro _) | (apply kM; refine JO_make (tb := tb) rfl rfl rfl rfl rfl rfl (by omega) rfl ?_; intro _) | refine aO ?_) | (apply gJR; first | apply JR_un | apply JR_nil | refine JR_yes rfl rfl ?_ | refine JR_no rfl rfl rfl rfl ?_ | refine JR_noU rfl rfl rfl ?_) | (apply gJS; first | apply JS_seq | apply JS_region | apply JS_skip | apply JS_block | apply JS_inBlock | apply JS_label | refine JS_exit rfl ?_ | refine JS_condT rfl ?_ | refine JS_condF rfl ?_ | refine JS_draw [0] (by kernel_rfl) (by kernel_rfl) (by decide +kernel) ?_ | refine JS_draw [] (by kernel_rfl) (by kernel_rfl) (by decide +kernel) ?_ | refine JS_cond_T rfl (by omega) ?_ | refine JS_cond_F rfl (by omega) ?_) | (apply gQR; first | apply QR_un | apply QR_nil | refine QR_yes rfl rfl ?_ | refine QR_no rfl rfl rfl rfl ?_ | refine QR_noU rfl rfl rfl ?_) | (apply gQO; first | refine aQ ?_ | refine aQK rfl ?_)) | apply JS_seq | apply JS_region)
  refine JS_block ?_
  refine JS_loop3 (fun (i : Nat) (p : Option Addr) (c : Nat) => [(0, .int .u32 (n / 2 ^ i)), (1, .int .i64 k), (5, .slice p i c), (6, .int .i64 i)]) (fun i p c => vec 5 1 (.slice p i c) i (ints .u8 (grp n i)) :: H) (fun i _ _ => i ≤ k ∧ 0 ≤ n / 2 ^ i ∧ n / 2 ^ i < 4294967296) (fun i _ _ => k - i) 0 none 0 ⟨by omega, by rw [Int.pow_zero, Int.ediv_one]; exact hn⟩
    (by exact ⟨lookI rfl (by rw [Int.pow_zero, Int.ediv_one]), rfl, rfl, rfl, trivial⟩) (fun w hw => St.nilvec hw) ?_
  intro i p c ⟨hi, hq0, hq1⟩ again
  have hds := div_step n i
  by_cases hik : i < k
  · have hgs := grp_succ n i
    generalize n / 2 ^ i = Q at *
    repeat (first | (apply gJO; first | (apply kS; refine aK ?_) | (apply kX; refine JO_box rfl rfl rfl ?_; intro _) | (apply kA; refine JO_alloc (tb := tb) rfl rfl ?_; intro _) | (apply kBs; refine JO_buildSlice (tb := tb) rfl rfl rfl rfl rfl rfl rfl rfl rfl ?_; intro _) | (apply kM; refine JO_make (tb := tb) rfl rfl rfl rfl rfl rfl (by omega) rfl ?_; intro _) | refine aO ?_) | (apply gJR; first | apply JR_un | apply JR_nil | refine JR_yes rfl rfl ?_ | refine JR_no rfl rfl rfl rfl ?_ | refine JR_noU rfl rfl rfl ?_) | (apply gJS; first | apply JS_seq | apply JS_region | apply JS_skip | apply JS_block | apply JS_inBlock | apply JS_label | refine JS_exit rfl ?_ | refine JS_condT rfl ?_ | refine JS_condF rfl ?_ | refine JS_draw [0] (by kernel_rfl) (by kernel_rfl) (by decide +kernel) ?_ | refine JS_draw [] (by kernel_rfl) (by kernel_rfl) (by decide +kernel) ?_ | refine JS_cond_T rfl (by omega) ?_ | refine JS_cond_F rfl (by omega) ?_) | (apply gQR; first | apply QR_un | apply QR_nil | refine QR_yes rfl rfl ?_ | refine QR_no rfl rfl rfl rfl ?_ | refine QR_noU rfl rfl rfl ?_) | (apply gQO; first | refine aQ ?_ | refine aQK rfl ?_))
    (refine JO_app (tb := tb) rfl rfl rfl rfl rfl rfl (by repeat (first | exact Sel.here _ _ | apply Sel.there)) (by first | exact vec_rd (by repeat (first | apply List.Mem.head | apply List.Mem.tail)) | assumption | exact ArgRd.rd (by assumption) _ | (apply Rd_weak; assumption; intro _ hx; exact St.sub (by repeat (first | exact List.Sublist.refl _ | apply List.Sublist.cons_cons | apply List.Sublist.cons)) hx)) (by simp only [ints_len, List.length_cons, List.length_nil]; first | omega | rfl) (by first | exact ints_one | (repeat (first | exact trivial | refine ⟨rfl, ?_⟩))) (by omega) rfl ?_; intro _ _)
    rename_i p2 c2
    repeat (first | (apply gJO; first | (apply kS; refine aK ?_) | (apply kX; refine JO_box rfl rfl rfl ?_; intro _) | (apply kA; refine JO_alloc (tb := tb) rfl rfl ?_; intro _) | (apply kBs; refine JO_buildSlice (tb := tb) rfl rfl rfl rfl rfl rfl rfl rfl rfl ?_; intro _) | (apply kM; refine JO_make (tb := tb) rfl rfl rfl rfl rfl rfl (by omega) rfl ?_; intro _) | refine aO ?_) | (apply gJR; first | apply JR_un | apply JR_nil | refine JR_yes rfl rfl ?_ | refine JR_no rfl rfl rfl rfl ?_ | refine JR_noU rfl rfl rfl ?_) | (apply gJS; first | apply JS_seq | apply JS_region | apply JS_skip | apply JS_block | apply JS_inBlock | apply JS_label | refine JS_exit rfl ?_ | refine JS_condT rfl ?_ | refine JS_condF rfl ?_ | refine JS_draw [0] (by kernel_rfl) (by kernel_rfl) (by decide +kernel) ?_ | refine JS_draw [] (by kernel_rfl) (by kernel_rfl) (by decide +kernel) ?_ | refine JS_cond_T rfl (by omega) ?_ | refine JS_cond_F rfl (by omega) ?_) | (apply gQR; first | apply QR_un | apply QR_nil | refine QR_yes rfl rfl ?_ | refine QR_no rfl rfl rfl rfl ?_ | refine QR_noU rfl rfl rfl ?_) | (apply gQO; first | refine aQ ?_ | refine aQK rfl ?_))
    exact JS_again3 again (i + 1) p2 c2 ⟨by omega, by omega, by omega⟩ (by omega) (by exact ⟨lookI rfl (by omega), rfl, rfl, rfl, trivial⟩) (fun w hw => by rw [hgs, ← ints_app1]; exact St.sub (by repeat (first | exact List.Sublist.refl _ | apply List.Sublist.cons_cons | apply List.Sublist.cons)) hw)
  · obtain rfl : i = k := by omega
    clear again
    repeat (first | (apply gJO; first | (apply kS; refine aK ?_) | (apply kX; refine JO_box rfl rfl rfl ?_; intro _) | (apply kA; refine JO_alloc (tb := tb) rfl rfl ?_; intro _) | (apply kBs; refine JO_buildSlice (tb := tb) rfl rfl rfl rfl rfl rfl rfl rfl rfl ?_; intro _) | (apply kM; refine JO_make (tb := tb) rfl rfl rfl rfl rfl rfl (by omega) rfl ?_; intro _) | refine aO ?_) | (apply gJR; first | apply JR_un | apply JR_nil | refine JR_yes rfl rfl ?_ | refine JR_no rfl rfl rfl rfl ?_ | refine JR_noU rfl rfl rfl ?_) | (apply gJS; first | apply JS_seq | apply JS_region | apply JS_skip | apply JS_block | apply JS_inBlock | apply JS_label | refine JS_exit rfl ?_ | refine JS_condT rfl ?_ | refine JS_condF rfl ?_ | refine JS_draw [0] (by kernel_rfl) (by kernel_rfl) (by decide +kernel) ?_ | refine JS_draw [] (by kernel_rfl) (by kernel_rfl) (by decide +kernel) ?_ | refine JS_cond_T rfl (by omega) ?_ | refine JS_cond_F rfl (by omega) ?_) | (apply gQR; first | apply QR_un | apply QR_nil | refine QR_yes rfl rfl ?_ | refine QR_no rfl rfl rfl rfl ?_ | refine QR_noU rfl rfl rfl ?_) | (apply gQO; first | refine aQ ?_ | refine aQK rfl ?_))
    refine JS_ret Try.func44 rfl rfl ?_
    intro w hw
    exact ⟨_, _, rfl, hw⟩
set_option maxHeartbeats 1000000 in
theorem Bits4_c {w0 : World} {H : List Asn} (p : Option Addr) (c m : Nat) (B : List Int) (hr : Rd w0 H (.slice p m c) m (ints .u8 B)) (hm : B.length = m) (hB : OKB B) (hm1 : m ≤ 17592186044410) (w : World) (hw : St w0 H w) :
    Calls Try.prog 58 #[.slice p m c] w fun e w' => ∃ q d, e = .returned (.slice q (8 * m) d) ∧ St w0 (vec 5 1 (.slice q (8 * m) d) (8 * m) (ints .u8 (bitsL B m)) :: H) w' := by
  refine enter (vs := [.slice p m c]) Try.func58 rfl rfl rfl hw ?_
  repeat (first | (apply gJR; first | (apply gJO; first | (apply kS; refine aK ?_) | (apply kX; refine JO_box rfl rfl rfl ?_; intro _) | (apply kA; refine JO_alloc (tb := tb) rfl rfl ?_; intro _) | (apply kBs; refine JO_buildSlice (tb := tb) rfl rfl rfl rfl rfl rfl rfl rfl rfl ?_; intro _) | (apply kM; refine JO_make (tb := tb) rfl rfl rfl rfl rfl rfl (by omega) rfl ?_; intro _) | refine aO ?_) | (apply gJR; first | apply JR_un | apply JR_nil | refine JR_yes rfl rfl ?_ | refine JR_no rfl rfl rfl rfl ?_ | refine JR_noU rfl rfl rfl ?_) | (apply gJS; first | apply JS_seq | apply JS_region | apply JS_skip | apply JS_block | apply JS_inBlock | apply JS_label | refine JS_exit rfl ?_ | refine JS_condT rfl ?_ | refine JS_condF rfl ?_ | refine JS_draw [0] (by kernel_rfl) (by kernel_rfl) (by decide +kernel) ?_ | refine JS_draw [] (by kernel_rfl) (by kernel_rfl) (by decide +kernel) ?_ | refine JS_cond_T rfl (by omega) ?_ | refine JS_cond_F rfl (by omega) ?_) | (apply gQR; first | apply QR_un | apply QR_nil | refine QR_yes rfl rfl ?_ | refine QR_no rfl rfl rfl rfl ?_ | refine QR_noU rfl rfl rfl ?_) | (apply gQO; first | refine aQ ?_ | refine aQK rfl ?_)) | (apply gJO; first | (apply gJO; first | (apply kS; refine aK ?_) | (apply kX; refine JO_box rfl rfl rfl ?_; intro _) | (apply kA; refine JO_alloc (tb := tb) rfl rfl ?_; intro _) | (apply kBs; refine JO_buildSlice (tb := tb) rfl rfl rfl rfl rfl rfl rfl rfl rfl ?_; intro _) | (apply kM; refine JO_make (tb := tb) rfl rfl rfl rfl rfl rfl (by omega) rfl ?_; intro _) | refine aO ?_) | (apply gJR; first | apply JR_un | apply JR_nil | refine JR_yes rfl rfl ?_ | refine JR_no rfl rfl rfl rfl ?_ | refine JR_noU rfl rfl rfl ?_) | (apply gJS; first | apply JS_seq | apply JS_region | apply JS_skip | apply JS_block | apply JS_inBlock | apply JS_label | refine JS_exit rfl ?_ | refine JS_condT rfl ?_ | refine JS_condF rfl ?_ | refine JS_draw [0] (by kernel_rfl) (by kernel_rfl) (by decide +kernel) ?_ | refine JS_draw [] (by kernel_rfl) (by kernel_rfl) (by decide +kernel) ?_ | refine JS_cond_T rfl (by omega) ?_ | refine JS_cond_F rfl (by omega) ?_) | (apply gQR; first | apply QR_un | apply QR_nil | refine QR_yes rfl rfl ?_ | refine QR_no rfl rfl rfl rfl ?_ | refine QR_noU rfl rfl rfl ?_) | (apply gQO; first | refine aQ ?_ | refine aQK rfl ?_)) | apply JS_seq | apply JS_region)
  refine JS_block ?_
  refine JS_loop3 (fun (i : Nat) (q : Option Addr) (d : Nat) => [(0, .slice p m c), (3, .slice q (8 * i) d), (4, .int .i64 i)]) (fun i q d => vec 5 1 (.slice q (8 * i) d) (8 * i) (ints .u8 (bitsL B i)) :: H) (fun i _ _ => i ≤ m) (fun i _ _ => m - i) 0 none 0 (by omega) (by repeat (first | exact trivial | refine ⟨rfl, ?_⟩ | refine ⟨lookI rfl (by omega), ?_⟩)) (fun w hw => St.nilvec hw) ?_
  intro i q d hi again
  by_cases hik : i < m
  · have hgs := bitsL_succ B i
    have hb := hB i
    have hr' : Rd w0 (vec 5 1 (.slice q (8 * i) d) (8 * i) (ints .u8 (bitsL B i)) :: H) (.slice p m c) m (ints .u8 B) := Rd_weak hr fun w hw => St.sub (by repeat (first | exact List.Sublist.refl _ | apply List.Sublist.cons_cons | apply List.Sublist.cons)) hw
    have g0 : (ints .u8 B)[i]? = some (.int .u8 (B.getD i 0)) := ints_get (by omega)
    generalize B.getD i 0 = X at *
    repeat (first | (apply gJO; refine JO_v (V_loadC (tb := tb) rfl hr' rfl rfl g0 rfl) ?_) | (first | (apply gJO; first | (apply kS; refine aK ?_) | (apply kX; refine JO_box rfl rfl rfl ?_; intro _) | (apply kA; refine JO_alloc (tb := tb) rfl rfl ?_; intro _) | (apply kBs; refine JO_buildSlice (tb := tb) rfl rfl rfl rfl rfl rfl rfl rfl rfl ?_; intro _) | (apply kM; refine JO_make (tb := tb) rfl rfl rfl rfl rfl rfl (by omega) rfl ?_; intro _) | refine aO ?_) | (apply gJR; first | apply JR_un | apply JR_nil | refine JR_yes rfl rfl ?_ | refine JR_no rfl rfl rfl rfl ?_ | refine JR_noU rfl rfl rfl ?_) | (apply gJS; first | apply JS_seq | apply JS_region | apply JS_skip | apply JS_block | apply JS_inBlock | apply JS_label | refine JS_exit rfl ?_ | refine JS_condT rfl ?_ | refine JS_condF rfl ?_ | refine JS_draw [0] (by kernel_rfl) (by kernel_rfl) (by decide +kernel) ?_ | refine JS_draw [] (by kernel_rfl) (by kernel_rfl) (by decide +kernel) ?_ | refine JS_cond_T rfl (by omega) ?_ | refine JS_cond_F rfl (by omega) ?_) | (apply gQR; first | apply QR_un | apply QR_nil | refine QR_yes rfl rfl ?_ | refine QR_no rfl rfl rfl rfl ?_ | refine QR_noU rfl rfl rfl ?_) | (apply gQO; first | refine aQ ?_ | refine aQK rfl ?_)))
    refine JO_call Try.call44 rfl rfl fun w hw => (Group4_c X 8 (by omega) (by omega) (by omega) w hw).mono ?_
    rintro e w' ⟨p1, c1, rfl, hw'⟩
    refine ⟨_, rfl, _, hw', ?_⟩
    clear hw' hw w w'
    have hgl := grp_len X 8
    repeat (first | (apply gJO; first | (apply kS; refine aK ?_) | (apply kX; refine JO_box rfl rfl rfl ?_; intro _) | (apply kA; refine JO_alloc (tb := tb) rfl rfl ?_; intro _) | (apply kBs; refine JO_buildSlice (tb := tb) rfl rfl rfl rfl rfl rfl rfl rfl rfl ?_; intro _) | (apply kM; refine JO_make (tb := tb) rfl rfl rfl rfl rfl rfl (by omega) rfl ?_; intro _) | refine aO ?_) | (apply gJR; first | apply JR_un | apply JR_nil | refine JR_yes rfl rfl ?_ | refine JR_no rfl rfl rfl rfl ?_ | refine JR_noU rfl rfl rfl ?_) | (apply gJS; first | apply JS_seq | apply JS_region | apply JS_skip | apply JS_block | apply JS_inBlock | apply JS_label | refine JS_exit rfl ?_ | refine JS_condT rfl ?_ | refine JS_condF rfl ?_ | refine JS_draw [0] (by kernel_rfl) (by kernel_rfl) (by decide +kernel) ?_ | refine JS_draw [] (by kernel_rfl) (by kernel_rfl) (by decide +kernel) ?_ | refine JS_cond_T rfl (by omega) ?_ | refine JS_cond_F rfl (by omega) ?_) | (apply gQR; first | apply QR_un | apply QR_nil | refine QR_yes rfl rfl ?_ | refine QR_no rfl rfl rfl rfl ?_ | refine QR_noU rfl rfl rfl ?_) | (apply gQO; first | refine aQ ?_ | refine aQK rfl ?_))
    (refine JO_app (tb := tb) rfl rfl rfl rfl rfl rfl (by repeat (first | exact Sel.here _ _ | apply Sel.there)) (by first | exact vec_rd (by repeat (first | apply List.Mem.head | apply List.Mem.tail)) | assumption | exact ArgRd.rd (by assumption) _ | (apply Rd_weak; assumption; intro _ hx; exact St.sub (by repeat (first | exact List.Sublist.refl _ | apply List.Sublist.cons_cons | apply List.Sublist.cons)) hx)) (by simp only [ints_len, List.length_cons, List.length_nil]; first | omega | rfl) (by first | exact ints_one | (repeat (first | exact trivial | refine ⟨rfl, ?_⟩))) (by omega) rfl ?_; intro _ _)
    rename_i p2 c2
    repeat (first | (apply gJO; first | (apply kS; refine aK ?_) | (apply kX; refine JO_box rfl rfl rfl ?_; intro _) | (apply kA; refine JO_alloc (tb := tb) rfl rfl ?_; intro _) | (apply kBs; refine JO_buildSlice (tb := tb) rfl rfl rfl rfl rfl rfl rfl rfl rfl ?_; intro _) | (apply kM; refine JO_make (tb := tb) rfl rfl rfl rfl rfl rfl (by omega) rfl ?_; intro _) | refine aO ?_) | (apply gJR; first | apply JR_un | apply JR_nil | refine JR_yes rfl rfl ?_ | refine JR_no rfl rfl rfl rfl ?_ | refine JR_noU rfl rfl rfl ?_) | (apply gJS; first | apply JS_seq | apply JS_region | apply JS_skip | apply JS_block | apply JS_inBlock | apply JS_label | refine JS_exit rfl ?_ | refine JS_condT rfl ?_ | refine JS_condF rfl ?_ | refine JS_draw [0] (by kernel_rfl) (by kernel_rfl) (by decide +kernel) ?_ | refine JS_draw [] (by kernel_rfl) (by kernel_rfl) (by decide +kernel) ?_ | refine JS_cond_T rfl (by omega) ?_ | refine JS_cond_F rfl (by omega) ?_) | (apply gQR; first | apply QR_un | apply QR_nil | refine QR_yes rfl rfl ?_ | refine QR_no rfl rfl rfl rfl ?_ | refine QR_noU rfl rfl rfl ?_) | (apply gQO; first | refine aQ ?_ | refine aQK rfl ?_))
    exact JS_again3 again (i + 1) p2 c2 (by omega) (by omega) (by repeat (first | exact trivial | refine ⟨rfl, ?_⟩ | refine ⟨lookI rfl (by omega), ?_⟩)) (fun w hw => by rw [hgs, ← ints_app]; exact St.sub (by repeat (first | exact List.Sublist.refl _ | apply List.Sublist.cons_cons | apply List.Sublist.cons)) hw)
  · obtain rfl : i = m := by omega
    clear again
    repeat (first | (apply gJO; first | (apply kS; refine aK ?_) | (apply kX; refine JO_box rfl rfl rfl ?_; intro _) | (apply kA; refine JO_alloc (tb := tb) rfl rfl ?_; intro _) | (apply kBs; refine JO_buildSlice (tb := tb) rfl rfl rfl rfl rfl rfl rfl rfl rfl ?_; intro _) | (apply kM; refine JO_make (tb := tb) rfl rfl rfl rfl rfl rfl (by omega) rfl ?_; intro _) | refine aO ?_) | (apply gJR; first | apply JR_un | apply JR_nil | refine JR_yes rfl rfl ?_ | refine JR_no rfl rfl rfl rfl ?_ | refine JR_noU rfl rfl rfl ?_) | (apply gJS; first | apply JS_seq | apply JS_region | apply JS_skip | apply JS_block | apply JS_inBlock | apply JS_label | refine JS_exit rfl ?_ | refine JS_condT rfl ?_ | refine JS_condF rfl ?_ | refine JS_draw [0] (by kernel_rfl) (by kernel_rfl) (by decide +kernel) ?_ | refine JS_draw [] (by kernel_rfl) (by kernel_rfl) (by decide +kernel) ?_ | refine JS_cond_T rfl (by omega) ?_ | refine JS_cond_F rfl (by omega) ?_) | (apply gQR; first | apply QR_un | apply QR_nil | refine QR_yes rfl rfl ?_ | refine QR_no rfl rfl rfl rfl ?_ | refine QR_noU rfl rfl rfl ?_) | (apply gQO; first | refine aQ ?_ | refine aQK rfl ?_))
    refine JS_ret Try.func58 rfl rfl ?_
    intro w hw
    exact ⟨_, _, rfl, hw⟩
set_option maxHeartbeats 1000000 in
theorem Bits5_c {w0 : World} {H : List Asn} (n : Int) (k : Nat) (hn : 0 ≤ n ∧ n < 4294967296) (hk : k ≤ 255) (w : World) (hw : St w0 H w) :
    Calls Try.prog 43 #[.int .u32 n, .int .u8 k] w fun e w' => ∃ p c, e = .returned (.slice p k c) ∧ St w0 (vec 5 1 (.slice p k c) k (ints .u8 (bms n k)) :: H) w' := by
  refine enter (vs := [.int .u32 n, .int .u8 k]) Try.func43 rfl rfl rfl hw ?_
  repeat (first | (apply gJR; first | (apply gJO; first | (apply kS; refine aK ?_) | (apply kX; refine JO_box rfl rfl rfl ?_; intro _) | (apply kA; refine JO_alloc (tb := tb) rfl rfl ?_; intro _) | (apply kBs; refine JO_buildSlice (tb := tb) rfl rfl rfl rfl rfl rfl rfl rfl rfl ?_; intro _) | (apply kM; refine JO_make (tb := tb) rfl rfl rfl rfl rfl rfl (by omega) rfl ?_; intro _) | refine aO ?_) | (apply gJR; first | apply JR_un | apply JR_nil | refine JR_yes rfl rfl ?_ | refine JR_no rfl rfl rfl rfl ?_ | refine JR_noU rfl rfl rfl ?_) | (apply gJS; first | apply JS_seq | apply JS_region | apply JS_skip | apply JS_block | apply JS_inBlock | apply JS_label | refine JS_exit rfl ?_ | refine JS_condT rfl ?_ | refine JS_condF rfl ?_ | refine JS_draw [0] (by kernel_rfl) (by kernel_rfl) (by decide +kernel) ?_ | refine JS_draw [] (by kernel_rfl) (by kernel_rfl) (by decide +kernel) ?_ | refine JS_cond_T rfl (by omega) ?_ | refine JS_cond_F rfl (by omega) ?_) | (apply gQR; first | apply QR_un | apply QR_nil | refine QR_yes rfl rfl ?_ | refine QR_no rfl rfl rfl rfl ?_ | refine QR_noU rfl rfl rfl ?_) | (apply gQO; first | refine aQ ?_ | refine aQK rfl ?_)) | (apply gJO; first | (apply gJO; first | (apply kS; refine aK ?_) | (apply kX; refine JO_box rfl rfl rfl ?_; intro _) | (apply kA; refine JO_alloc (tb := tb) rfl rfl ?_; intro _) | (apply kBs; refine JO_buildSlice (tb := tb) rfl rfl rfl rfl rfl rfl rfl rfl rfl ?_; intro _) | (apply kM; refine JO_make (tb := tb) rfl rfl rfl rfl rfl rfl (by omega) rfl ?_; intro _) | refine aO ?_) | (apply gJR; first | apply JR_un | apply JR_nil | refine JR_yes rfl rfl ?_ | refine JR_no rfl rfl rfl rfl ?_ | refine JR_noU rfl rfl rfl ?_) | (apply gJS; first | apply JS_seq | apply JS_region | apply JS_skip | apply JS_block | apply JS_inBlock | apply JS_label | refine JS_exit rfl ?_ | refine JS_condT rfl ?_ | refine JS_condF rfl ?_ | refine JS_draw [0] (by kernel_rfl) (by kernel_rfl) (by decide +kernel) ?_ | refine JS_draw [] (by kernel_rfl) (by kernel_rfl) (by decide +kernel) ?_ | refine JS_cond_T rfl (by omega) ?_ | refine JS_cond_F rfl (by omega) ?_) | (apply gQR; first | apply QR_un | apply QR_nil | refine QR_yes rfl rfl ?_ | refine QR_no rfl rfl rfl rfl ?_ | refine QR_noU rfl rfl rfl ?_) | (apply gQO; first | refine aQ ?_ | refine aQK rfl ?_)) | apply JS_seq | apply JS_region)
  refine JS_block ?_
  refine JS_loop3 (fun (i : Nat) (p : Option Addr) (c : Nat) => [(0, .int .u32 (n / 2 ^ i)), (1, .int .u8 k), (5, .slice p i c), (6, .int .u8 i)]) (fun i p c => vec 5 1 (.slice p i c) i (ints .u8 (bms n i)) :: H) (fun i _ _ => i ≤ k ∧ 0 ≤ n / 2 ^ i ∧ n / 2 ^ i < 4294967296) (fun i _ _ => k - i) 0 none 0 ⟨by omega, by rw [Int.pow_zero, Int.ediv_one]; exact hn⟩
    (by exact ⟨lookI rfl (by rw [Int.pow_zero, Int.ediv_one]), rfl, rfl, rfl, trivial⟩) (fun w hw => St.nilvec hw) ?_
  intro i p c ⟨hi, hq0, hq1⟩ again
  have hds := div_step n i
  by_cases hik : i < k
  · have hgs := bms_succ n i
    have hbl := bms_len n i
    generalize n / 2 ^ i = Q at *
    repeat (first | (apply gJO; first | (apply kS; refine aK ?_) | (apply kX; refine JO_box rfl rfl rfl ?_; intro _) | (apply kA; refine JO_alloc (tb := tb) rfl rfl ?_; intro _) | (apply kBs; refine JO_buildSlice (tb := tb) rfl rfl rfl rfl rfl rfl rfl rfl rfl ?_; intro _) | (apply kM; refine JO_make (tb := tb) rfl rfl rfl rfl rfl rfl (by omega) rfl ?_; intro _) | refine aO ?_) | (apply gJR; first | apply JR_un | apply JR_nil | refine JR_yes rfl rfl ?_ | refine JR_no rfl rfl rfl rfl ?_ | refine JR_noU rfl rfl rfl ?_) | (apply gJS; first | apply JS_seq | apply JS_region | apply JS_skip | apply JS_block | apply JS_inBlock | apply JS_label | refine JS_exit rfl ?_ | refine JS_condT rfl ?_ | refine JS_condF rfl ?_ | refine JS_draw [0] (by kernel_rfl) (by kernel_rfl) (by decide +kernel) ?_ | refine JS_draw [] (by kernel_rfl) (by kernel_rfl) (by decide +kernel) ?_ | refine JS_cond_T rfl (by omega) ?_ | refine JS_cond_F rfl (by omega) ?_) | (apply gQR; first | apply QR_un | apply QR_nil | refine QR_yes rfl rfl ?_ | refine QR_no rfl rfl rfl rfl ?_ | refine QR_noU rfl rfl rfl ?_) | (apply gQO; first | refine aQ ?_ | refine aQK rfl ?_))
    (refine JO_app (tb := tb) rfl rfl rfl rfl rfl rfl (by repeat (first | exact Sel.here _ _ | apply Sel.there)) (by first | exact vec_rd (by repeat (first | apply List.Mem.head | apply List.Mem.tail)) | assumption | exact ArgRd.rd (by assumption) _ | (apply Rd_weak; assumption; intro _ hx; exact St.sub (by repeat (first | exact List.Sublist.refl _ | apply List.Sublist.cons_cons | apply List.Sublist.cons)) hx)) (by simp only [ints_len, List.length_cons, List.length_nil]; first | omega | rfl) (by first | exact ints_one | (repeat (first | exact trivial | refine ⟨rfl, ?_⟩))) (by omega) rfl ?_; intro _ _)
    rename_i p2 c2
    repeat (first | (apply gJO; first | (apply kS; refine aK ?_) | (apply kX; refine JO_box rfl rfl rfl ?_; intro _) | (apply kA; refine JO_alloc (tb := tb) rfl rfl ?_; intro _) | (apply kBs; refine JO_buildSlice (tb := tb) rfl rfl rfl rfl rfl rfl rfl rfl rfl ?_; intro _) | (apply kM; refine JO_make (tb := tb) rfl rfl rfl rfl rfl rfl (by omega) rfl ?_; intro _) | refine aO ?_) | (apply gJR; first | apply JR_un | apply JR_nil | refine JR_yes rfl rfl ?_ | refine JR_no rfl rfl rfl rfl ?_ | refine JR_noU rfl rfl rfl ?_) | (apply gJS; first | apply JS_seq | apply JS_region | apply JS_skip | apply JS_block | apply JS_inBlock | apply JS_label | refine JS_exit rfl ?_ | refine JS_condT rfl ?_ | refine JS_condF rfl ?_ | refine JS_draw [0] (by kernel_rfl) (by kernel_rfl) (by decide +kernel) ?_ | refine JS_draw [] (by kernel_rfl) (by kernel_rfl) (by decide +kernel) ?_ | refine JS_cond_T rfl (by omega) ?_ | refine JS_cond_F rfl (by omega) ?_) | (apply gQR; first | apply QR_un | apply QR_nil | refine QR_yes rfl rfl ?_ | refine QR_no rfl rfl rfl rfl ?_ | refine QR_noU rfl rfl rfl ?_) | (apply gQO; first | refine aQ ?_ | refine aQK rfl ?_))
    exact JS_again3 again (i + 1) p2 c2 ⟨by omega, by omega, by omega⟩ (by omega) (by exact ⟨lookI rfl (by omega), rfl, by rw [Nat.add_comm i 1]; rfl, lookI rfl (by omega), trivial⟩) (fun w hw => by rw [hgs, ← ints_app, Nat.add_comm i 1]; exact St.sub (by repeat (first | exact List.Sublist.refl _ | apply List.Sublist.cons_cons | apply List.Sublist.cons)) hw)
  · obtain rfl : i = k := by omega
    clear again
    repeat (first | (apply gJO; first | (apply kS; refine aK ?_) | (apply kX; refine JO_box rfl rfl rfl ?_; intro _) | (apply kA; refine JO_alloc (tb := tb) rfl rfl ?_; intro _) | (apply kBs; refine JO_buildSlice (tb := tb) rfl rfl rfl rfl rfl rfl rfl rfl rfl ?_; intro _) | (apply kM; refine JO_make (tb := tb) rfl rfl rfl rfl rfl rfl (by omega) rfl ?_; intro _) | refine aO ?_) | (apply gJR; first | apply JR_un | apply JR_nil | refine JR_yes rfl rfl ?_ | refine JR_no rfl rfl rfl rfl ?_ | refine JR_noU rfl rfl rfl ?_) | (apply gJS; first | apply JS_seq | apply JS_region | apply JS_skip | apply JS_block | apply JS_inBlock | apply JS_label | refine JS_exit rfl ?_ | refine JS_condT rfl ?_ | refine JS_condF rfl ?_ | refine JS_draw [0] (by kernel_rfl) (by kernel_rfl) (by decide +kernel) ?_ | refine JS_draw [] (by kernel_rfl) (by kernel_rfl) (by decide +kernel) ?_ | refine JS_cond_T rfl (by omega) ?_ | refine JS_cond_F rfl (by omega) ?_) | (apply gQR; first | apply QR_un | apply QR_nil | refine QR_yes rfl rfl ?_ | refine QR_no rfl rfl rfl rfl ?_ | refine QR_noU rfl rfl rfl ?_) | (apply gQO; first | refine aQ ?_ | refine aQK rfl ?_))
    refine JS_ret Try.func43 rfl rfl ?_
    intro w hw
    exact ⟨_, _, rfl, hw⟩
end Go.Proofs.Ytakgoflfcgofdaa

namespace Go.Proofs.Ytakgoflfcgofdaa
open Sx Go
set_option linter.unusedVariables false
set_option linter.unusedSimpArgs false
end Go.Proofs.Ytakgoflfcgofdaa

namespace Go.Proofs.Ytakgoflfcgofdaa
open Sx Go
set_option linter.unusedVariables false
set_option linter.unusedSimpArgs false
theorem Make3_c {w0 : World} {H : List Asn} (p : Option Addr) (c m : Nat) (B : List Int) (hr : Rd w0 H (.slice p m c) m (ints .u8 B)) (hm : B.length = m) (hB : OKB B) (hk : OKL B) (w : World) (hw : St w0 H w) :
    Calls Try.prog 64 #[.slice p m c] w fun e w' => ∃ b a1 a2 a3, e = .returned (.tuple #[.pointer (some ⟨b, 0, none⟩), .int .i64 0]) ∧ IsSet w0 (a1 :: a2 :: a3 :: H) b B ∧ St w0 (a1 :: a2 :: a3 :: H) w' := by
  refine (Make2_c p c m B hr hm hB (by have := hk.1; omega) (hr.nil hw) w hw).mono ?_
  rintro e w' ⟨u, r, rfl, h⟩
  rcases h with ⟨h, _⟩ | ⟨_, rfl, b, a1, a2, a3, rfl, hs, hw'⟩
  · exact absurd hk h.not
  · exact ⟨b, a1, a2, a3, rfl, hs, hw'⟩
theorem fix_okb : OKB (tab 288 fixF) := OKB_of (by decide +kernel)
theorem fix_okl : OKL (tab 288 fixF) := ⟨by decide +kernel, le15_of (by decide +kernel), .inl (by decide +kernel)⟩
theorem fix_full : tk (tab 288 fixF) = 32768 := by decide +kernel
theorem spans_okb : OKB (List.replicate 32 5) := OKB_of (by decide +kernel)
theorem spans_okl : OKL (List.replicate 32 5) := ⟨by decide +kernel, le15_of (by decide +kernel), .inl (by decide +kernel)⟩
theorem spans_full : tk (List.replicate 32 5) = 32768 := by decide +kernel
attribute [local irreducible] syA fc tk cds tab
end Go.Proofs.Ytakgoflfcgofdaa

namespace Go.Proofs.Ytakgoflfcgofdaa
open Sx Go
set_option linter.unusedVariables false
set_option linter.unusedSimpArgs false
theorem cds_get (B : List Int) (h15 : ∀ j, B.getD j 0 ≤ 15) (i : Nat) (hi : i < B.length) : (cds B 16 0).getD i 0 = if 0 < B.getD i 0 then cd B i else 0 := by
  have h := h15 i
  have ht : told B 16 0 i = decide (0 < B.getD i 0) := by
    unfold told
    by_cases h0 : 0 < B.getD i 0
    · rw [decide_eq_true h0]; exact decide_eq_true ⟨h0, .inl (by omega)⟩
    · rw [decide_eq_false h0]; exact decide_eq_false (fun h => h0 h.1)
  unfold cds
  rw [List.getD_eq_getElem?_getD, List.getElem?_map, List.getElem?_range hi]
  simp only [Option.map_some, Option.getD_some, ht, decide_eq_true_eq]
attribute [local irreducible] syA fc tk cds
end Go.Proofs.Ytakgoflfcgofdaa

namespace Go.Proofs.Ytakgoflfcgofdaa
open Sx Go
set_option linter.unusedVariables false
set_option linter.unusedSimpArgs false
attribute [local irreducible] syA fc tk cds
theorem Byt_of {B : List Int} (h : OKB B) : Byt B := h
theorem bms_Byt (c : Int) (n : Nat) : Byt (bms c n) := by
  intro j
  unfold bms
  rcases Nat.lt_or_ge j n with h | h
  · simp only [List.getD_eq_getElem?_getD, List.getElem?_map, List.getElem?_range h, Option.map_some, Option.getD_some]; omega
  · rw [List.getD_eq_getElem?_getD, List.getElem?_eq_none (by simp; omega)]; decide
theorem Byt_take {B : List Int} (h : Byt B) (n : Nat) : Byt (B.take n) := by
  intro j
  rcases Nat.lt_or_ge j n with hj | hj
  · have := h j
    rwa [List.getD_eq_getElem?_getD, List.getElem?_take, if_pos hj, ← List.getD_eq_getElem?_getD]
  · rw [List.getD_eq_getElem?_getD, List.getElem?_eq_none (by rw [List.length_take]; omega)]; decide
theorem Byt_drop {B : List Int} (h : Byt B) (n : Nat) : Byt (B.drop n) := by
  intro j
  have := h (n + j)
  rwa [List.getD_eq_getElem?_getD, List.getElem?_drop, ← List.getD_eq_getElem?_getD]
theorem ints_take {K : IntKind} {l : List Int} {n : Nat} : (ints K l).take n = ints K (l.take n) := by simp [ints, List.map_take]
theorem ints_drop {K : IntKind} {l : List Int} {n : Nat} : (ints K l).drop n = ints K (l.drop n) := by simp [ints, List.map_drop]
set_option maxHeartbeats 1000000 in
/-- do bits begin with others? -/
theorem Begins_c {w0 : World} {H : List Asn} (p q : Option Addr) (c d m n : Nat) (L W : List Int) (hr : Rd w0 H (.slice p m c) m (ints .u8 L)) (hm : L.length = m) (hL : Byt L) (hr2 : Rd w0 H (.slice q n d) n (ints .u8 W)) (hn : W.length = n) (hW : Byt W) (hb1 : m ≤ 140737488355328) (hb2 : n ≤ 140737488355328) (w : World) (hw : St w0 H w) :
    Calls Try.prog 103 #[.slice p m c, .slice q n d] w fun e w' => ∃ o, e = .returned (.bool o) ∧ St w0 H w' ∧ (o = true ↔ n ≤ m ∧ L.take n = W) := by
  have hcap := (hr.lcap hw).1
  refine enter (vs := [.slice p m c, .slice q n d]) Try.func103 rfl rfl rfl hw ?_
  by_cases hle : n ≤ m
  · have hrs := Rd_sub (lo := 0) (hi := n) (sz := 1) hr (by omega) hle
    rw [Nat.zero_mul, List.drop_zero, Nat.mul_one, Nat.sub_zero, ints_take] at hrs
    have hlt : (L.take n).length = n := by rw [List.length_take]; omega
    have hLt := Byt_take hL n
    repeat (first | (apply gQO; first | refine QO_v rfl (V_slice (tb := tb) (lo := 0) (hi := n) rfl rfl rfl rfl rfl (by rfl) (by rfl) (fun _ _ => ⟨by omega, by omega⟩) rfl) ?_ | refine QO_v rfl (V_str (tb := tb) rfl hrs hlt rfl rfl rfl rfl) ?_ | refine QO_v rfl (V_str (tb := tb) rfl hr2 hn rfl rfl rfl rfl) ?_) | (first | (apply gJO; first | (apply kS; refine aK ?_) | (apply kX; refine JO_box rfl rfl rfl ?_; intro _) | (apply kA; refine JO_alloc (tb := tb) rfl rfl ?_; intro _) | (apply kBs; refine JO_buildSlice (tb := tb) rfl rfl rfl rfl rfl rfl rfl rfl rfl ?_; intro _) | (apply kM; refine JO_make (tb := tb) rfl rfl rfl rfl rfl rfl (by omega) rfl ?_; intro _) | refine aO ?_) | (apply gJR; first | apply JR_un | apply JR_nil | refine JR_yes rfl rfl ?_ | refine JR_no rfl rfl rfl rfl ?_ | refine JR_noU rfl rfl rfl ?_) | (apply gJS; first | apply JS_seq | apply JS_region | apply JS_skip | apply JS_block | apply JS_inBlock | apply JS_label | refine JS_exit rfl ?_ | refine JS_condT rfl ?_ | refine JS_condF rfl ?_ | refine JS_draw [0] (by kernel_rfl) (by kernel_rfl) (by decide +kernel) ?_ | refine JS_draw [] (by kernel_rfl) (by kernel_rfl) (by decide +kernel) ?_ | refine JS_cond_T rfl (by omega) ?_ | refine JS_cond_F rfl (by omega) ?_) | (apply gQR; first | apply QR_un | apply QR_nil | refine QR_yes rfl rfl ?_ | refine QR_no rfl rfl rfl rfl ?_ | refine QR_noU rfl rfl rfl ?_) | (apply gQO; first | refine aQ ?_ | refine aQK rfl ?_)))
    refine JS_ret Try.func103 rfl rfl ?_
    intro w hw
    exact ⟨_, rfl, hw, by simp [hle]⟩
  · repeat (first | (apply gJO; first | (apply kS; refine aK ?_) | (apply kX; refine JO_box rfl rfl rfl ?_; intro _) | (apply kA; refine JO_alloc (tb := tb) rfl rfl ?_; intro _) | (apply kBs; refine JO_buildSlice (tb := tb) rfl rfl rfl rfl rfl rfl rfl rfl rfl ?_; intro _) | (apply kM; refine JO_make (tb := tb) rfl rfl rfl rfl rfl rfl (by omega) rfl ?_; intro _) | refine aO ?_) | (apply gJR; first | apply JR_un | apply JR_nil | refine JR_yes rfl rfl ?_ | refine JR_no rfl rfl rfl rfl ?_ | refine JR_noU rfl rfl rfl ?_) | (apply gJS; first | apply JS_seq | apply JS_region | apply JS_skip | apply JS_block | apply JS_inBlock | apply JS_label | refine JS_exit rfl ?_ | refine JS_condT rfl ?_ | refine JS_condF rfl ?_ | refine JS_draw [0] (by kernel_rfl) (by kernel_rfl) (by decide +kernel) ?_ | refine JS_draw [] (by kernel_rfl) (by kernel_rfl) (by decide +kernel) ?_ | refine JS_cond_T rfl (by omega) ?_ | refine JS_cond_F rfl (by omega) ?_) | (apply gQR; first | apply QR_un | apply QR_nil | refine QR_yes rfl rfl ?_ | refine QR_no rfl rfl rfl rfl ?_ | refine QR_noU rfl rfl rfl ?_) | (apply gQO; first | refine aQ ?_ | refine aQK rfl ?_))
    refine JS_ret Try.func103 rfl rfl ?_
    intro w hw
    exact ⟨_, rfl, hw, by simp; omega⟩
theorem RD_fun {B : List Int} (hB : OKB B) (hk : OKL B) {b : Nat → Int} (hb : ∀ j, b j = 0 ∨ b j = 1) {left : Nat} {i i' : Int} {u u' : Nat} {r r' : Int} (h : RD B b left i u r) (h' : RD B b left i' u' r') : i = i' ∧ u = u' ∧ r = r' := by
  rcases h with ⟨j, rfl, rfl, h1, h2⟩ | ⟨h1, rfl, h2⟩ <;> rcases h' with ⟨j', rfl, rfl, h3, h4⟩ | ⟨h3, rfl, h4⟩
  · have := DEC_one B hB hk.2.1 hk.2.2 b hb left j j' h1 h3
    subst this
    exact ⟨rfl, by omega, rfl⟩
  · exact absurd h1 (h3 j)
  · exact absurd h3 (h1 j')
  · refine ⟨rfl, ?_⟩
    omega
theorem DEC_congr {B : List Int} {b b' : Nat → Int} {left i : Nat} (h : ∀ j, j < left → b j = b' j) (hd : DEC B b left i) : DEC B b' left i := by
  obtain ⟨n, h1, h2, h3, h4, h5⟩ := hd
  refine ⟨n, h1, h2, h3, h4, ?_⟩
  rw [← h5]
  have : ∀ k, k ≤ left → bval b' k = bval b k := by
    intro k
    induction k with
    | zero => intro _; rfl
    | succ k ih =>
      intro hk
      show 2 * bval b' k + b' k = 2 * bval b k + b k
      rw [ih (by omega), h k (by omega)]
  exact this n h4
theorem cd_lt (B : List Int) (hB : OKB B) (hk : OKL B) (i n : Nat) (hi : i < B.length) (h0 : 0 < n) (hn : B.getD i 0 = (n : Int)) : 0 ≤ cd B i ∧ cd B i < 2 ^ n := by
  obtain ⟨h1, h2⟩ := cd_eq B hB hk.2.1 hk.2.2 i n hi h0 hn
  have h3 := hk.2.1 i
  have h4 := fc_bd B hB hk.2.1 hk.2.2 n (by omega)
  have h5 := cd_bd B i
  omega
theorem sm_pos (B : List Int) (i : Nat) (hi : i < B.length) (h : 0 < B.getD i 0) : sm B ≠ 0 := by
  unfold sm
  rw [Ne, List.countP_eq_zero]
  intro h1
  have := h1 (B.getD i 0) (by rw [List.getD_eq_getElem?_getD, List.getElem?_eq_getElem hi]; exact List.getElem_mem hi)
  exact this (decide_eq_true h)
theorem take_range (L : List Int) (n : Nat) (h : n ≤ L.length) : L.take n = (List.range n).map fun j => L.getD j 0 := by
  apply List.ext_getElem?
  intro j
  by_cases hj : j < n
  · rw [List.getElem?_take, if_pos hj, List.getElem?_map, List.getElem?_range hj, Option.map_some, List.getD_eq_getElem?_getD, List.getElem?_eq_getElem (by omega), Option.getD_some]
  · rw [List.getElem?_take, if_neg hj, List.getElem?_eq_none (by simp; omega)]
theorem begins_dec (B L : List Int) (hB : OKB B) (hk : OKL B) (hL : ∀ j, L.getD j 0 = 0 ∨ L.getD j 0 = 1) (i n : Nat) (hi : i < B.length) (h0 : 0 < n) (hn : B.getD i 0 = (n : Int)) : (n ≤ L.length ∧ L.take n = bms (cd B i) n) ↔ DEC B (fun j => L.getD j 0) L.length i := by
  have hcd := cd_lt B hB hk i n hi h0 hn
  constructor
  · rintro ⟨h1, h2⟩
    rw [take_range L n h1] at h2
    exact ⟨n, hi, h0, hn, h1, (val_bms _ hL _ n hcd).1 h2⟩
  · rintro ⟨n', _, _, h3, h4, h5⟩
    obtain rfl : n' = n := by omega
    refine ⟨h4, ?_⟩
    rw [take_range L n' h4]
    exact (val_bms _ hL _ n' hcd).2 h5
set_option maxHeartbeats 4000000 in
/-- the reference reads a symbol -/
theorem RRead_c {w0 : World} {H : List Asn} (p q : Option Addr) (c d m left : Nat) (B L : List Int) (hr : Rd w0 H (.slice p m c) m (ints .u8 B)) (hm : B.length = m) (hB : OKB B) (hk : OKL B) (hr2 : Rd w0 H (.slice q left d) left (ints .u8 L)) (hl : L.length = left) (hL01 : ∀ j, L.getD j 0 = 0 ∨ L.getD j 0 = 1) (hb : left ≤ 140737488355328) (w : World) (hw : St w0 H w) :
    Calls Try.prog 97 #[.slice p m c, .slice q left d] w fun e w' => ∃ (i : Int) (used : Nat) (r : Int), e = .returned (.tuple #[.int .i64 i, .int .i64 used, .int .i64 r]) ∧ St w0 H w' ∧ RD B (fun j => L.getD j 0) left i used r := by
  have hm320 := hk.1
  have hL : Byt L := fun j => by have := hL01 j; omega
  refine enter (vs := [.slice p m c, .slice q left d]) Try.func97 rfl rfl rfl hw ?_
  repeat (first | (apply gJO; first | (apply kS; refine aK ?_) | (apply kX; refine JO_box rfl rfl rfl ?_; intro _) | (apply kA; refine JO_alloc (tb := tb) rfl rfl ?_; intro _) | (apply kBs; refine JO_buildSlice (tb := tb) rfl rfl rfl rfl rfl rfl rfl rfl rfl ?_; intro _) | (apply kM; refine JO_make (tb := tb) rfl rfl rfl rfl rfl rfl (by omega) rfl ?_; intro _) | refine aO ?_) | (apply gJR; first | apply JR_un | apply JR_nil | refine JR_yes rfl rfl ?_ | refine JR_no rfl rfl rfl rfl ?_ | refine JR_noU rfl rfl rfl ?_) | (apply gJS; first | apply JS_seq | apply JS_region | apply JS_skip | apply JS_block | apply JS_inBlock | apply JS_label | refine JS_exit rfl ?_ | refine JS_condT rfl ?_ | refine JS_condF rfl ?_ | refine JS_draw [0] (by kernel_rfl) (by kernel_rfl) (by decide +kernel) ?_ | refine JS_draw [] (by kernel_rfl) (by kernel_rfl) (by decide +kernel) ?_ | refine JS_cond_T rfl (by omega) ?_ | refine JS_cond_F rfl (by omega) ?_) | (apply gQR; first | apply QR_un | apply QR_nil | refine QR_yes rfl rfl ?_ | refine QR_no rfl rfl rfl rfl ?_ | refine QR_noU rfl rfl rfl ?_) | (apply gQO; first | refine aQ ?_ | refine aQK rfl ?_))
  refine JO_call Try.call41 rfl rfl fun w hw => (RCodes_c p c m B hr hm hB (by omega) w hw).mono ?_
  rintro e w' ⟨p1, c1, rfl, hw'⟩
  refine ⟨_, rfl, _, hw', ?_⟩
  clear hw' hw w w'
  repeat (first | (apply gJR; first | (apply gJO; first | (apply kS; refine aK ?_) | (apply kX; refine JO_box rfl rfl rfl ?_; intro _) | (apply kA; refine JO_alloc (tb := tb) rfl rfl ?_; intro _) | (apply kBs; refine JO_buildSlice (tb := tb) rfl rfl rfl rfl rfl rfl rfl rfl rfl ?_; intro _) | (apply kM; refine JO_make (tb := tb) rfl rfl rfl rfl rfl rfl (by omega) rfl ?_; intro _) | refine aO ?_) | (apply gJR; first | apply JR_un | apply JR_nil | refine JR_yes rfl rfl ?_ | refine JR_no rfl rfl rfl rfl ?_ | refine JR_noU rfl rfl rfl ?_) | (apply gJS; first | apply JS_seq | apply JS_region | apply JS_skip | apply JS_block | apply JS_inBlock | apply JS_label | refine JS_exit rfl ?_ | refine JS_condT rfl ?_ | refine JS_condF rfl ?_ | refine JS_draw [0] (by kernel_rfl) (by kernel_rfl) (by decide +kernel) ?_ | refine JS_draw [] (by kernel_rfl) (by kernel_rfl) (by decide +kernel) ?_ | refine JS_cond_T rfl (by omega) ?_ | refine JS_cond_F rfl (by omega) ?_) | (apply gQR; first | apply QR_un | apply QR_nil | refine QR_yes rfl rfl ?_ | refine QR_no rfl rfl rfl rfl ?_ | refine QR_noU rfl rfl rfl ?_) | (apply gQO; first | refine aQ ?_ | refine aQK rfl ?_)) | (apply gJO; first | (apply gJO; first | (apply kS; refine aK ?_) | (apply kX; refine JO_box rfl rfl rfl ?_; intro _) | (apply kA; refine JO_alloc (tb := tb) rfl rfl ?_; intro _) | (apply kBs; refine JO_buildSlice (tb := tb) rfl rfl rfl rfl rfl rfl rfl rfl rfl ?_; intro _) | (apply kM; refine JO_make (tb := tb) rfl rfl rfl rfl rfl rfl (by omega) rfl ?_; intro _) | refine aO ?_) | (apply gJR; first | apply JR_un | apply JR_nil | refine JR_yes rfl rfl ?_ | refine JR_no rfl rfl rfl rfl ?_ | refine JR_noU rfl rfl rfl ?_) | (apply gJS; first | apply JS_seq | apply JS_region | apply JS_skip | apply JS_block | apply JS_inBlock | apply JS_label | refine JS_exit rfl ?_ | refine JS_condT rfl ?_ | refine JS_condF rfl ?_ | refine JS_draw [0] (by kernel_rfl) (by kernel_rfl) (by decide +kernel) ?_ | refine JS_draw [] (by kernel_rfl) (by kernel_rfl) (by decide +kernel) ?_ | refine JS_cond_T rfl (by omega) ?_ | refine JS_cond_F rfl (by omega) ?_) | (apply gQR; first | apply QR_un | apply QR_nil | refine QR_yes rfl rfl ?_ | refine QR_no rfl rfl rfl rfl ?_ | refine QR_noU rfl rfl rfl ?_) | (apply gQO; first | refine aQ ?_ | refine aQK rfl ?_)) | apply JS_seq | apply JS_region)
  refine JS_block ?_
  refine JS_loop2 (fun (i : Nat) (o : Bool) => [(0, .slice p m c), (1, .slice q left d), (7, .slice p1 m c1), (8, .bool o), (9, .int .i64 i)]) (fun _ _ => vec 46 1 (.slice p1 m c1) m (ints .u32 (cds B 16 0)) :: H)
    (fun i o => i ≤ m ∧ (o = true ↔ sm (B.take i) ≠ 0) ∧ ∀ j, j < i → ¬ DEC B (fun j => L.getD j 0) left j) (fun i _ => m - i) 0 false ⟨by omega, by simp [sm], fun j h => absurd h (by omega)⟩ (by repeat (first | exact trivial | refine ⟨rfl, ?_⟩ | refine ⟨lookI rfl (by omega), ?_⟩)) (fun _ h => h) ?_
  intro i o ⟨hi, ho, hno⟩ again
  have hr' : Rd w0 (vec 46 1 (.slice p1 m c1) m (ints .u32 (cds B 16 0)) :: H) (.slice p m c) m (ints .u8 B) := Rd_weak hr fun w hw => St.sub (by repeat (first | exact List.Sublist.refl _ | apply List.Sublist.cons_cons | apply List.Sublist.cons)) hw
  have hr2' : Rd w0 (vec 46 1 (.slice p1 m c1) m (ints .u32 (cds B 16 0)) :: H) (.slice q left d) left (ints .u8 L) := Rd_weak hr2 fun w hw => St.sub (by repeat (first | exact List.Sublist.refl _ | apply List.Sublist.cons_cons | apply List.Sublist.cons)) hw
  by_cases him : i < m
  · have hbi := hB i
    have h15 := hk.2.1 i
    have g0 : (ints .u8 B)[i]? = some (.int .u8 (B.getD i 0)) := ints_get (by omega)
    have hcl := cds_len B 16 0
    have g1 : (ints .u32 (cds B 16 0))[i]? = some (.int .u32 ((cds B 16 0).getD i 0)) := ints_get (by omega)
    have hcg := cds_get B hk.2.1 i (by omega)
    have hss := sm_step B i (by omega)
    by_cases h0 : 0 < B.getD i 0
    · rw [if_pos h0] at hcg hss
      rw [hcg] at g1
      obtain ⟨n, hn⟩ := Int.eq_ofNat_of_zero_le hbi.1
      rw [hn] at g0 h0 h15
      have hcd := cd_lt B hB hk i n (by omega) (by omega) hn
      have hcb := cd_bd B i
      have hbl := bms_len (cd B i) n
      have hW := bms_Byt (cd B i) n
      cases o
      all_goals repeat (first | (apply gJO; first | refine JO_v (V_loadC (tb := tb) rfl hr' rfl rfl g0 rfl) ?_) | (apply gQO; first | refine QO_v rfl (V_loadC (tb := tb) rfl hr' rfl rfl g0 rfl) ?_ | refine QO_v rfl (V_loadC (tb := tb) rfl (vec_rd (by repeat (first | apply List.Mem.head | apply List.Mem.tail))) rfl rfl g1 rfl) ?_) | (first | (apply gJO; first | (apply kS; refine aK ?_) | (apply kX; refine JO_box rfl rfl rfl ?_; intro _) | (apply kA; refine JO_alloc (tb := tb) rfl rfl ?_; intro _) | (apply kBs; refine JO_buildSlice (tb := tb) rfl rfl rfl rfl rfl rfl rfl rfl rfl ?_; intro _) | (apply kM; refine JO_make (tb := tb) rfl rfl rfl rfl rfl rfl (by omega) rfl ?_; intro _) | refine aO ?_) | (apply gJR; first | apply JR_un | apply JR_nil | refine JR_yes rfl rfl ?_ | refine JR_no rfl rfl rfl rfl ?_ | refine JR_noU rfl rfl rfl ?_) | (apply gJS; first | apply JS_seq | apply JS_region | apply JS_skip | apply JS_block | apply JS_inBlock | apply JS_label | refine JS_exit rfl ?_ | refine JS_condT rfl ?_ | refine JS_condF rfl ?_ | refine JS_draw [0] (by kernel_rfl) (by kernel_rfl) (by decide +kernel) ?_ | refine JS_draw [] (by kernel_rfl) (by kernel_rfl) (by decide +kernel) ?_ | refine JS_cond_T rfl (by omega) ?_ | refine JS_cond_F rfl (by omega) ?_) | (apply gQR; first | apply QR_un | apply QR_nil | refine QR_yes rfl rfl ?_ | refine QR_no rfl rfl rfl rfl ?_ | refine QR_noU rfl rfl rfl ?_) | (apply gQO; first | refine aQ ?_ | refine aQK rfl ?_)))
      all_goals refine QO_call Try.call43 rfl rfl fun w hw => (Bits5_c (cd B i) n hcb (by omega) w hw).mono ?_
      all_goals rintro e w' ⟨p2, c2, rfl, hw'⟩
      all_goals refine ⟨_, rfl, _, hw', .inl fun w hw => St.sub (by repeat (first | exact List.Sublist.refl _ | apply List.Sublist.cons_cons | apply List.Sublist.cons)) hw, ?_⟩
      all_goals clear hw' hw w w'
      all_goals repeat (first | (apply gJO; first | (apply kS; refine aK ?_) | (apply kX; refine JO_box rfl rfl rfl ?_; intro _) | (apply kA; refine JO_alloc (tb := tb) rfl rfl ?_; intro _) | (apply kBs; refine JO_buildSlice (tb := tb) rfl rfl rfl rfl rfl rfl rfl rfl rfl ?_; intro _) | (apply kM; refine JO_make (tb := tb) rfl rfl rfl rfl rfl rfl (by omega) rfl ?_; intro _) | refine aO ?_) | (apply gJR; first | apply JR_un | apply JR_nil | refine JR_yes rfl rfl ?_ | refine JR_no rfl rfl rfl rfl ?_ | refine JR_noU rfl rfl rfl ?_) | (apply gJS; first | apply JS_seq | apply JS_region | apply JS_skip | apply JS_block | apply JS_inBlock | apply JS_label | refine JS_exit rfl ?_ | refine JS_condT rfl ?_ | refine JS_condF rfl ?_ | refine JS_draw [0] (by kernel_rfl) (by kernel_rfl) (by decide +kernel) ?_ | refine JS_draw [] (by kernel_rfl) (by kernel_rfl) (by decide +kernel) ?_ | refine JS_cond_T rfl (by omega) ?_ | refine JS_cond_F rfl (by omega) ?_) | (apply gQR; first | apply QR_un | apply QR_nil | refine QR_yes rfl rfl ?_ | refine QR_no rfl rfl rfl rfl ?_ | refine QR_noU rfl rfl rfl ?_) | (apply gQO; first | refine aQ ?_ | refine aQK rfl ?_))
      all_goals refine QO_call Try.call103 rfl rfl fun w hw => (Begins_c q p2 d c2 left n L (bms (cd B i) n) (Rd_weak hr2' fun w hw => St.sub (by repeat (first | exact List.Sublist.refl _ | apply List.Sublist.cons_cons | apply List.Sublist.cons)) hw) hl hL (vec_rd (by repeat (first | apply List.Mem.head | apply List.Mem.tail))) hbl hW hb (by omega) w hw).mono ?_
      all_goals rintro e w' ⟨o2, rfl, hw', ho2⟩
      all_goals refine ⟨_, rfl, _, hw', .inl fun w hw => St.sub (by repeat (first | exact List.Sublist.refl _ | apply List.Sublist.cons_cons | apply List.Sublist.cons)) hw, ?_⟩
      all_goals clear hw' hw w w'
      all_goals have hdec : o2 = true ↔ DEC B (fun j => L.getD j 0) left i := (by subst hl; rw [ho2]; exact begins_dec B L hB hk hL01 i n (by omega) (by omega) hn)
      all_goals clear ho2
      all_goals cases o2
      · repeat (first | (apply gJO; first | (apply kS; refine aK ?_) | (apply kX; refine JO_box rfl rfl rfl ?_; intro _) | (apply kA; refine JO_alloc (tb := tb) rfl rfl ?_; intro _) | (apply kBs; refine JO_buildSlice (tb := tb) rfl rfl rfl rfl rfl rfl rfl rfl rfl ?_; intro _) | (apply kM; refine JO_make (tb := tb) rfl rfl rfl rfl rfl rfl (by omega) rfl ?_; intro _) | refine aO ?_) | (apply gJR; first | apply JR_un | apply JR_nil | refine JR_yes rfl rfl ?_ | refine JR_no rfl rfl rfl rfl ?_ | refine JR_noU rfl rfl rfl ?_) | (apply gJS; first | apply JS_seq | apply JS_region | apply JS_skip | apply JS_block | apply JS_inBlock | apply JS_label | refine JS_exit rfl ?_ | refine JS_condT rfl ?_ | refine JS_condF rfl ?_ | refine JS_draw [0] (by kernel_rfl) (by kernel_rfl) (by decide +kernel) ?_ | refine JS_draw [] (by kernel_rfl) (by kernel_rfl) (by decide +kernel) ?_ | refine JS_cond_T rfl (by omega) ?_ | refine JS_cond_F rfl (by omega) ?_) | (apply gQR; first | apply QR_un | apply QR_nil | refine QR_yes rfl rfl ?_ | refine QR_no rfl rfl rfl rfl ?_ | refine QR_noU rfl rfl rfl ?_) | (apply gQO; first | refine aQ ?_ | refine aQK rfl ?_))
        exact JS_again2 again (i + 1) true ⟨by omega, ⟨fun _ => by omega, fun _ => rfl⟩, fun j hj => by
          rcases Nat.lt_or_ge j i with h | h
          · exact hno j h
          · obtain rfl : j = i := by omega
            exact fun h => nomatch hdec.2 h⟩ (by omega) (by repeat (first | exact trivial | refine ⟨rfl, ?_⟩ | refine ⟨lookI rfl (by omega), ?_⟩)) (fun w hw => St.sub (by repeat (first | exact List.Sublist.refl _ | apply List.Sublist.cons_cons | apply List.Sublist.cons)) hw)
      · repeat (first | (apply gQO; first | refine QO_v rfl (V_loadC (tb := tb) rfl (Rd_weak hr fun w hw => St.sub (by repeat (first | exact List.Sublist.refl _ | apply List.Sublist.cons_cons | apply List.Sublist.cons)) hw) rfl rfl g0 rfl) ?_) | (first | (apply gJO; first | (apply kS; refine aK ?_) | (apply kX; refine JO_box rfl rfl rfl ?_; intro _) | (apply kA; refine JO_alloc (tb := tb) rfl rfl ?_; intro _) | (apply kBs; refine JO_buildSlice (tb := tb) rfl rfl rfl rfl rfl rfl rfl rfl rfl ?_; intro _) | (apply kM; refine JO_make (tb := tb) rfl rfl rfl rfl rfl rfl (by omega) rfl ?_; intro _) | refine aO ?_) | (apply gJR; first | apply JR_un | apply JR_nil | refine JR_yes rfl rfl ?_ | refine JR_no rfl rfl rfl rfl ?_ | refine JR_noU rfl rfl rfl ?_) | (apply gJS; first | apply JS_seq | apply JS_region | apply JS_skip | apply JS_block | apply JS_inBlock | apply JS_label | refine JS_exit rfl ?_ | refine JS_condT rfl ?_ | refine JS_condF rfl ?_ | refine JS_draw [0] (by kernel_rfl) (by kernel_rfl) (by decide +kernel) ?_ | refine JS_draw [] (by kernel_rfl) (by kernel_rfl) (by decide +kernel) ?_ | refine JS_cond_T rfl (by omega) ?_ | refine JS_cond_F rfl (by omega) ?_) | (apply gQR; first | apply QR_un | apply QR_nil | refine QR_yes rfl rfl ?_ | refine QR_no rfl rfl rfl rfl ?_ | refine QR_noU rfl rfl rfl ?_) | (apply gQO; first | refine aQ ?_ | refine aQK rfl ?_)))
        refine JS_ret Try.func97 rfl rfl ?_
        intro w hw
        exact ⟨i, n, 0, rfl, St.sub (by repeat (first | exact List.Sublist.refl _ | apply List.Sublist.cons_cons | apply List.Sublist.cons)) hw, .inl ⟨i, rfl, rfl, hdec.1 rfl, hn⟩⟩
      · repeat (first | (apply gJO; first | (apply kS; refine aK ?_) | (apply kX; refine JO_box rfl rfl rfl ?_; intro _) | (apply kA; refine JO_alloc (tb := tb) rfl rfl ?_; intro _) | (apply kBs; refine JO_buildSlice (tb := tb) rfl rfl rfl rfl rfl rfl rfl rfl rfl ?_; intro _) | (apply kM; refine JO_make (tb := tb) rfl rfl rfl rfl rfl rfl (by omega) rfl ?_; intro _) | refine aO ?_) | (apply gJR; first | apply JR_un | apply JR_nil | refine JR_yes rfl rfl ?_ | refine JR_no rfl rfl rfl rfl ?_ | refine JR_noU rfl rfl rfl ?_) | (apply gJS; first | apply JS_seq | apply JS_region | apply JS_skip | apply JS_block | apply JS_inBlock | apply JS_label | refine JS_exit rfl ?_ | refine JS_condT rfl ?_ | refine JS_condF rfl ?_ | refine JS_draw [0] (by kernel_rfl) (by kernel_rfl) (by decide +kernel) ?_ | refine JS_draw [] (by kernel_rfl) (by kernel_rfl) (by decide +kernel) ?_ | refine JS_cond_T rfl (by omega) ?_ | refine JS_cond_F rfl (by omega) ?_) | (apply gQR; first | apply QR_un | apply QR_nil | refine QR_yes rfl rfl ?_ | refine QR_no rfl rfl rfl rfl ?_ | refine QR_noU rfl rfl rfl ?_) | (apply gQO; first | refine aQ ?_ | refine aQK rfl ?_))
        exact JS_again2 again (i + 1) true ⟨by omega, ⟨fun _ => by omega, fun _ => rfl⟩, fun j hj => by
          rcases Nat.lt_or_ge j i with h | h
          · exact hno j h
          · obtain rfl : j = i := by omega
            exact fun h => nomatch hdec.2 h⟩ (by omega) (by repeat (first | exact trivial | refine ⟨rfl, ?_⟩ | refine ⟨lookI rfl (by omega), ?_⟩)) (fun w hw => St.sub (by repeat (first | exact List.Sublist.refl _ | apply List.Sublist.cons_cons | apply List.Sublist.cons)) hw)
      · repeat (first | (apply gQO; first | refine QO_v rfl (V_loadC (tb := tb) rfl (Rd_weak hr fun w hw => St.sub (by repeat (first | exact List.Sublist.refl _ | apply List.Sublist.cons_cons | apply List.Sublist.cons)) hw) rfl rfl g0 rfl) ?_) | (first | (apply gJO; first | (apply kS; refine aK ?_) | (apply kX; refine JO_box rfl rfl rfl ?_; intro _) | (apply kA; refine JO_alloc (tb := tb) rfl rfl ?_; intro _) | (apply kBs; refine JO_buildSlice (tb := tb) rfl rfl rfl rfl rfl rfl rfl rfl rfl ?_; intro _) | (apply kM; refine JO_make (tb := tb) rfl rfl rfl rfl rfl rfl (by omega) rfl ?_; intro _) | refine aO ?_) | (apply gJR; first | apply JR_un | apply JR_nil | refine JR_yes rfl rfl ?_ | refine JR_no rfl rfl rfl rfl ?_ | refine JR_noU rfl rfl rfl ?_) | (apply gJS; first | apply JS_seq | apply JS_region | apply JS_skip | apply JS_block | apply JS_inBlock | apply JS_label | refine JS_exit rfl ?_ | refine JS_condT rfl ?_ | refine JS_condF rfl ?_ | refine JS_draw [0] (by kernel_rfl) (by kernel_rfl) (by decide +kernel) ?_ | refine JS_draw [] (by kernel_rfl) (by kernel_rfl) (by decide +kernel) ?_ | refine JS_cond_T rfl (by omega) ?_ | refine JS_cond_F rfl (by omega) ?_) | (apply gQR; first | apply QR_un | apply QR_nil | refine QR_yes rfl rfl ?_ | refine QR_no rfl rfl rfl rfl ?_ | refine QR_noU rfl rfl rfl ?_) | (apply gQO; first | refine aQ ?_ | refine aQK rfl ?_)))
        refine JS_ret Try.func97 rfl rfl ?_
        intro w hw
        exact ⟨i, n, 0, rfl, St.sub (by repeat (first | exact List.Sublist.refl _ | apply List.Sublist.cons_cons | apply List.Sublist.cons)) hw, .inl ⟨i, rfl, rfl, hdec.1 rfl, hn⟩⟩
    · rw [if_neg h0] at hss
      have hnd : ∀ j, j < i + 1 → ¬ DEC B (fun j => L.getD j 0) left j := by
        intro j hj
        rcases Nat.lt_or_ge j i with h | h
        · exact hno j h
        · obtain rfl : j = i := by omega
          rintro ⟨n', _, h2, h3, _⟩
          omega
      cases o
      all_goals repeat (first | (apply gJO; first | refine JO_v (V_loadC (tb := tb) rfl hr' rfl rfl g0 rfl) ?_) | (apply gQO; first | refine QO_v rfl (V_loadC (tb := tb) rfl hr' rfl rfl g0 rfl) ?_) | (first | (apply gJO; first | (apply kS; refine aK ?_) | (apply kX; refine JO_box rfl rfl rfl ?_; intro _) | (apply kA; refine JO_alloc (tb := tb) rfl rfl ?_; intro _) | (apply kBs; refine JO_buildSlice (tb := tb) rfl rfl rfl rfl rfl rfl rfl rfl rfl ?_; intro _) | (apply kM; refine JO_make (tb := tb) rfl rfl rfl rfl rfl rfl (by omega) rfl ?_; intro _) | refine aO ?_) | (apply gJR; first | apply JR_un | apply JR_nil | refine JR_yes rfl rfl ?_ | refine JR_no rfl rfl rfl rfl ?_ | refine JR_noU rfl rfl rfl ?_) | (apply gJS; first | apply JS_seq | apply JS_region | apply JS_skip | apply JS_block | apply JS_inBlock | apply JS_label | refine JS_exit rfl ?_ | refine JS_condT rfl ?_ | refine JS_condF rfl ?_ | refine JS_draw [0] (by kernel_rfl) (by kernel_rfl) (by decide +kernel) ?_ | refine JS_draw [] (by kernel_rfl) (by kernel_rfl) (by decide +kernel) ?_ | refine JS_cond_T rfl (by omega) ?_ | refine JS_cond_F rfl (by omega) ?_) | (apply gQR; first | apply QR_un | apply QR_nil | refine QR_yes rfl rfl ?_ | refine QR_no rfl rfl rfl rfl ?_ | refine QR_noU rfl rfl rfl ?_) | (apply gQO; first | refine aQ ?_ | refine aQK rfl ?_)))
      · exact JS_again2 again (i + 1) false ⟨by omega, by rw [hss]; exact ho, hnd⟩ (by omega) (by repeat (first | exact trivial | refine ⟨rfl, ?_⟩ | refine ⟨lookI rfl (by omega), ?_⟩)) (fun w hw => hw)
      · exact JS_again2 again (i + 1) true ⟨by omega, by rw [hss]; exact ho, hnd⟩ (by omega) (by repeat (first | exact trivial | refine ⟨rfl, ?_⟩ | refine ⟨lookI rfl (by omega), ?_⟩)) (fun w hw => hw)
  · obtain rfl : i = m := by omega
    rw [List.take_of_length_le (by omega)] at ho
    have hnd : ∀ j, ¬ DEC B (fun j => L.getD j 0) left j := by
      intro j hd
      have := hd
      obtain ⟨n', h1, _⟩ := this
      exact hno j (by omega) hd
    clear again hr' hr2'
    cases o
    · have hs0 : sm B = 0 := by
        rcases Nat.eq_zero_or_pos (sm B) with h | h
        · exact h
        · exact absurd (ho.2 (by omega)) (by decide)
      repeat (first | (apply gJO; first | (apply kS; refine aK ?_) | (apply kX; refine JO_box rfl rfl rfl ?_; intro _) | (apply kA; refine JO_alloc (tb := tb) rfl rfl ?_; intro _) | (apply kBs; refine JO_buildSlice (tb := tb) rfl rfl rfl rfl rfl rfl rfl rfl rfl ?_; intro _) | (apply kM; refine JO_make (tb := tb) rfl rfl rfl rfl rfl rfl (by omega) rfl ?_; intro _) | refine aO ?_) | (apply gJR; first | apply JR_un | apply JR_nil | refine JR_yes rfl rfl ?_ | refine JR_no rfl rfl rfl rfl ?_ | refine JR_noU rfl rfl rfl ?_) | (apply gJS; first | apply JS_seq | apply JS_region | apply JS_skip | apply JS_block | apply JS_inBlock | apply JS_label | refine JS_exit rfl ?_ | refine JS_condT rfl ?_ | refine JS_condF rfl ?_ | refine JS_draw [0] (by kernel_rfl) (by kernel_rfl) (by decide +kernel) ?_ | refine JS_draw [] (by kernel_rfl) (by kernel_rfl) (by decide +kernel) ?_ | refine JS_cond_T rfl (by omega) ?_ | refine JS_cond_F rfl (by omega) ?_) | (apply gQR; first | apply QR_un | apply QR_nil | refine QR_yes rfl rfl ?_ | refine QR_no rfl rfl rfl rfl ?_ | refine QR_noU rfl rfl rfl ?_) | (apply gQO; first | refine aQ ?_ | refine aQK rfl ?_))
      refine JS_ret Try.func97 rfl rfl ?_
      intro w hw
      exact ⟨0, 0, 62, rfl, St.sub (by repeat (first | exact List.Sublist.refl _ | apply List.Sublist.cons_cons | apply List.Sublist.cons)) hw, .inr ⟨hnd, rfl, .inl ⟨hs0, rfl, rfl⟩⟩⟩
    · have hs0 := ho.1 rfl
      repeat (first | (apply gJO; first | (apply kS; refine aK ?_) | (apply kX; refine JO_box rfl rfl rfl ?_; intro _) | (apply kA; refine JO_alloc (tb := tb) rfl rfl ?_; intro _) | (apply kBs; refine JO_buildSlice (tb := tb) rfl rfl rfl rfl rfl rfl rfl rfl rfl ?_; intro _) | (apply kM; refine JO_make (tb := tb) rfl rfl rfl rfl rfl rfl (by omega) rfl ?_; intro _) | refine aO ?_) | (apply gJR; first | apply JR_un | apply JR_nil | refine JR_yes rfl rfl ?_ | refine JR_no rfl rfl rfl rfl ?_ | refine JR_noU rfl rfl rfl ?_) | (apply gJS; first | apply JS_seq | apply JS_region | apply JS_skip | apply JS_block | apply JS_inBlock | apply JS_label | refine JS_exit rfl ?_ | refine JS_condT rfl ?_ | refine JS_condF rfl ?_ | refine JS_draw [0] (by kernel_rfl) (by kernel_rfl) (by decide +kernel) ?_ | refine JS_draw [] (by kernel_rfl) (by kernel_rfl) (by decide +kernel) ?_ | refine JS_cond_T rfl (by omega) ?_ | refine JS_cond_F rfl (by omega) ?_) | (apply gQR; first | apply QR_un | apply QR_nil | refine QR_yes rfl rfl ?_ | refine QR_no rfl rfl rfl rfl ?_ | refine QR_noU rfl rfl rfl ?_) | (apply gQO; first | refine aQ ?_ | refine aQK rfl ?_))
      refine JO_call Try.call86 rfl rfl fun w hw => (RCheck5_c p c i B (Rd_weak hr fun w hw => St.sub (by repeat (first | exact List.Sublist.refl _ | apply List.Sublist.cons_cons | apply List.Sublist.cons)) hw) hm hB (by omega) w hw).mono ?_
      rintro e w' ⟨r', o, rfl, hw', h⟩
      obtain ⟨rfl, rfl⟩ : r' = 0 ∧ o = decide (tk B = 32768) := by
        rcases h with ⟨h1, h2, h3⟩ | ⟨h1, h2, h3, h4, h5⟩ | ⟨h1, h2, h3, h4, h5⟩
        · exact absurd hk (BADL.not (r := 1) (.inl ⟨by rw [hm]; exact h1, rfl⟩))
        · exact absurd hk.2.2 h3
        · exact ⟨h4, h5⟩
      refine ⟨_, rfl, _, hw', ?_⟩
      clear h hw' hw w w'
      by_cases htk : tk B = 32768
      · rw [decide_eq_true htk]
        repeat (first | (apply gJO; first | (apply kS; refine aK ?_) | (apply kX; refine JO_box rfl rfl rfl ?_; intro _) | (apply kA; refine JO_alloc (tb := tb) rfl rfl ?_; intro _) | (apply kBs; refine JO_buildSlice (tb := tb) rfl rfl rfl rfl rfl rfl rfl rfl rfl ?_; intro _) | (apply kM; refine JO_make (tb := tb) rfl rfl rfl rfl rfl rfl (by omega) rfl ?_; intro _) | refine aO ?_) | (apply gJR; first | apply JR_un | apply JR_nil | refine JR_yes rfl rfl ?_ | refine JR_no rfl rfl rfl rfl ?_ | refine JR_noU rfl rfl rfl ?_) | (apply gJS; first | apply JS_seq | apply JS_region | apply JS_skip | apply JS_block | apply JS_inBlock | apply JS_label | refine JS_exit rfl ?_ | refine JS_condT rfl ?_ | refine JS_condF rfl ?_ | refine JS_draw [0] (by kernel_rfl) (by kernel_rfl) (by decide +kernel) ?_ | refine JS_draw [] (by kernel_rfl) (by kernel_rfl) (by decide +kernel) ?_ | refine JS_cond_T rfl (by omega) ?_ | refine JS_cond_F rfl (by omega) ?_) | (apply gQR; first | apply QR_un | apply QR_nil | refine QR_yes rfl rfl ?_ | refine QR_no rfl rfl rfl rfl ?_ | refine QR_noU rfl rfl rfl ?_) | (apply gQO; first | refine aQ ?_ | refine aQK rfl ?_))
        refine JS_ret Try.func97 rfl rfl ?_
        intro w hw
        exact ⟨0, left, 20, rfl, St.sub (by repeat (first | exact List.Sublist.refl _ | apply List.Sublist.cons_cons | apply List.Sublist.cons)) hw, .inr ⟨hnd, rfl, .inr (.inl ⟨hs0, htk, rfl, rfl⟩)⟩⟩
      · rw [decide_eq_false htk]
        by_cases hl0 : left = 0
        · repeat (first | (apply gJO; first | (apply kS; refine aK ?_) | (apply kX; refine JO_box rfl rfl rfl ?_; intro _) | (apply kA; refine JO_alloc (tb := tb) rfl rfl ?_; intro _) | (apply kBs; refine JO_buildSlice (tb := tb) rfl rfl rfl rfl rfl rfl rfl rfl rfl ?_; intro _) | (apply kM; refine JO_make (tb := tb) rfl rfl rfl rfl rfl rfl (by omega) rfl ?_; intro _) | refine aO ?_) | (apply gJR; first | apply JR_un | apply JR_nil | refine JR_yes rfl rfl ?_ | refine JR_no rfl rfl rfl rfl ?_ | refine JR_noU rfl rfl rfl ?_) | (apply gJS; first | apply JS_seq | apply JS_region | apply JS_skip | apply JS_block | apply JS_inBlock | apply JS_label | refine JS_exit rfl ?_ | refine JS_condT rfl ?_ | refine JS_condF rfl ?_ | refine JS_draw [0] (by kernel_rfl) (by kernel_rfl) (by decide +kernel) ?_ | refine JS_draw [] (by kernel_rfl) (by kernel_rfl) (by decide +kernel) ?_ | refine JS_cond_T rfl (by omega) ?_ | refine JS_cond_F rfl (by omega) ?_) | (apply gQR; first | apply QR_un | apply QR_nil | refine QR_yes rfl rfl ?_ | refine QR_no rfl rfl rfl rfl ?_ | refine QR_noU rfl rfl rfl ?_) | (apply gQO; first | refine aQ ?_ | refine aQK rfl ?_))
          refine JS_ret Try.func97 rfl rfl ?_
          intro w hw
          exact ⟨0, left, 20, rfl, St.sub (by repeat (first | exact List.Sublist.refl _ | apply List.Sublist.cons_cons | apply List.Sublist.cons)) hw, .inr ⟨hnd, rfl, .inr (.inr ⟨hs0, htk, .inl ⟨hl0, hl0, rfl⟩⟩)⟩⟩
        · repeat (first | (apply gJO; first | (apply kS; refine aK ?_) | (apply kX; refine JO_box rfl rfl rfl ?_; intro _) | (apply kA; refine JO_alloc (tb := tb) rfl rfl ?_; intro _) | (apply kBs; refine JO_buildSlice (tb := tb) rfl rfl rfl rfl rfl rfl rfl rfl rfl ?_; intro _) | (apply kM; refine JO_make (tb := tb) rfl rfl rfl rfl rfl rfl (by omega) rfl ?_; intro _) | refine aO ?_) | (apply gJR; first | apply JR_un | apply JR_nil | refine JR_yes rfl rfl ?_ | refine JR_no rfl rfl rfl rfl ?_ | refine JR_noU rfl rfl rfl ?_) | (apply gJS; first | apply JS_seq | apply JS_region | apply JS_skip | apply JS_block | apply JS_inBlock | apply JS_label | refine JS_exit rfl ?_ | refine JS_condT rfl ?_ | refine JS_condF rfl ?_ | refine JS_draw [0] (by kernel_rfl) (by kernel_rfl) (by decide +kernel) ?_ | refine JS_draw [] (by kernel_rfl) (by kernel_rfl) (by decide +kernel) ?_ | refine JS_cond_T rfl (by omega) ?_ | refine JS_cond_F rfl (by omega) ?_) | (apply gQR; first | apply QR_un | apply QR_nil | refine QR_yes rfl rfl ?_ | refine QR_no rfl rfl rfl rfl ?_ | refine QR_noU rfl rfl rfl ?_) | (apply gQO; first | refine aQ ?_ | refine aQK rfl ?_))
          refine JS_ret Try.func97 rfl rfl ?_
          intro w hw
          exact ⟨0, 1, 62, rfl, St.sub (by repeat (first | exact List.Sublist.refl _ | apply List.Sublist.cons_cons | apply List.Sublist.cons)) hw, .inr ⟨hnd, rfl, .inr (.inr ⟨hs0, htk, .inr ⟨by omega, rfl, rfl⟩⟩)⟩⟩
end Go.Proofs.Ytakgoflfcgofdaa

/- Numbers with weights: plain facts. -/
namespace Go.Proofs.Ytakgoflfcgofdaa
open Sx Go
def flat : List (Int × Int) → List Value
  | [] => []
  | t :: r => .int .i64 t.1 :: .int .u64 t.2 :: flat r
theorem flat_len : ∀ T, (flat T).length = T.length * 2
  | [] => rfl
  | t :: r => by simp only [flat, List.length_cons, flat_len r]; omega
theorem flat_app : ∀ A B, flat (A ++ B) = flat A ++ flat B
  | [], B => rfl
  | t :: r, B => by simp only [List.cons_append, flat, flat_app r B]
theorem flat_get0 : ∀ (T : List (Int × Int)) (i : Nat), i < T.length → (flat T)[i * 2]? = some (.int .i64 (T.getD i (0, 0)).1)
  | [], i, h => by simp at h
  | t :: r, 0, h => by simp [flat]
  | t :: r, i + 1, h => by
    rw [show (i + 1) * 2 = i * 2 + 1 + 1 by omega]
    simp only [flat, List.getElem?_cons_succ, List.getD_cons_succ]
    exact flat_get0 r i (by simpa using h)
theorem flat_get1 : ∀ (T : List (Int × Int)) (i : Nat), i < T.length → (flat T)[i * 2 + 1]? = some (.int .u64 (T.getD i (0, 0)).2)
  | [], i, h => by simp at h
  | t :: r, 0, h => by simp [flat]
  | t :: r, i + 1, h => by
    rw [show (i + 1) * 2 + 1 = i * 2 + 1 + 1 + 1 by omega]
    simp only [flat, List.getElem?_cons_succ, List.getD_cons_succ]
    exact flat_get1 r i (by simpa using h)
theorem flat_seg : ∀ (T : List (Int × Int)) (i : Nat), i < T.length → ((flat T).drop (i * 2)).take 2 = [.int .i64 (T.getD i (0, 0)).1, .int .u64 (T.getD i (0, 0)).2]
  | [], i, h => by simp at h
  | t :: r, 0, h => by simp [flat]
  | t :: r, i + 1, h => by
    rw [show (i + 1) * 2 = i * 2 + 1 + 1 by omega]
    simp only [flat, List.drop_succ_cons, List.getD_cons_succ]
    exact flat_seg r i (by simpa using h)
def sw : List (Int × Int) → Int
  | [] => 0
  | t :: r => t.2 + sw r
def sp (low : Int) : List (Int × Int) → Int
  | [] => 0
  | t :: r => (t.1 - low) * t.2 + sp low r
theorem sw_app : ∀ A B, sw (A ++ B) = sw A + sw B
  | [], B => by simp [sw]
  | t :: r, B => by simp only [List.cons_append, sw, sw_app r B]; omega
theorem sp_app (low : Int) : ∀ A B, sp low (A ++ B) = sp low A + sp low B
  | [], B => by simp [sp]
  | t :: r, B => by simp only [List.cons_append, sp, sp_app low r B]; omega
theorem sw_rev : ∀ A, sw A.reverse = sw A
  | [] => rfl
  | t :: r => by rw [List.reverse_cons, sw_app, sw_rev r]; simp only [sw]; omega
theorem sp_rev (low : Int) : ∀ A, sp low A.reverse = sp low A
  | [] => rfl
  | t :: r => by rw [List.reverse_cons, sp_app, sp_rev low r]; simp only [sp]; omega
theorem take_step (T : List (Int × Int)) (i : Nat) (h : i < T.length) : T.take (i + 1) = T.take i ++ [T.getD i (0, 0)] := by
  rw [List.take_succ_eq_append_getElem h]; simp [h]
theorem sw_take (T : List (Int × Int)) (i : Nat) (h : i < T.length) : sw (T.take (i + 1)) = sw (T.take i) + (T.getD i (0, 0)).2 := by
  rw [take_step T i h, sw_app]; simp [sw]
theorem sp_take (low : Int) (T : List (Int × Int)) (i : Nat) (h : i < T.length) : sp low (T.take (i + 1)) = sp low (T.take i) + ((T.getD i (0, 0)).1 - low) * (T.getD i (0, 0)).2 := by
  rw [take_step T i h, sp_app]; simp [sp]
/-- in bounds -/
def OKT (T : List (Int × Int)) : Prop := ∀ t ∈ T, (-9223372036854775808 ≤ t.1 ∧ t.1 < 9223372036854775808) ∧ (0 ≤ t.2 ∧ t.2 < 18446744073709551616)
theorem OKT.get {T : List (Int × Int)} (h : OKT T) (i : Nat) (hi : i < T.length) : (-9223372036854775808 ≤ (T.getD i (0, 0)).1 ∧ (T.getD i (0, 0)).1 < 9223372036854775808) ∧ (0 ≤ (T.getD i (0, 0)).2 ∧ (T.getD i (0, 0)).2 < 18446744073709551616) := by
  have : T.getD i (0, 0) = T[i] := by simp [hi]
  rw [this]; exact h _ (List.getElem_mem hi)
theorem mem_get {T : List (Int × Int)} (i : Nat) (hi : i < T.length) : T.getD i (0, 0) ∈ T := by
  have : T.getD i (0, 0) = T[i] := by simp [hi]
  rw [this]; exact List.getElem_mem hi
theorem sw_nonneg : ∀ {T : List (Int × Int)}, OKT T → 0 ≤ sw T
  | [], _ => Int.le_refl _
  | t :: r, h => by
    have h1 := (h t (List.mem_cons_self ..)).2
    have h2 := sw_nonneg (T := r) fun u hu => h u (List.mem_cons_of_mem _ hu)
    simp only [sw]; omega
theorem OKT.take {T : List (Int × Int)} (h : OKT T) (i : Nat) : OKT (T.take i) := fun t ht => h t (List.mem_of_mem_take ht)
theorem OKT.drop {T : List (Int × Int)} (h : OKT T) (i : Nat) : OKT (T.drop i) := fun t ht => h t (List.mem_of_mem_drop ht)
theorem sw_le {T : List (Int × Int)} (h : OKT T) (i : Nat) : sw (T.take i) ≤ sw T := by
  have := sw_app (T.take i) (T.drop i)
  rw [List.take_append_drop] at this
  have := sw_nonneg (h.drop i)
  omega
/-- what lies between: the sum of products is no more than the greatest distance, times the weights -/
theorem sp_bd {low M : Int} : ∀ {T : List (Int × Int)}, (∀ t ∈ T, low ≤ t.1 ∧ t.1 - low ≤ M ∧ 0 ≤ t.2) → 0 ≤ sp low T ∧ sp low T ≤ M * sw T
  | [], _ => by simp [sp, sw]
  | t :: r, h => by
    obtain ⟨h1, h2, h3⟩ := h t (List.mem_cons_self ..)
    have ih := sp_bd (T := r) fun u hu => h u (List.mem_cons_of_mem _ hu)
    have h4 := Int.mul_nonneg (show 0 ≤ t.1 - low by omega) h3
    have h5 := Int.mul_le_mul_of_nonneg_right h2 h3
    simp only [sp, sw, Int.mul_add]
    omega
end Go.Proofs.Ytakgoflfcgofdaa

namespace Go.Proofs.Ytakgoflfcgofdaa
open Sx Go
set_option linter.unusedVariables false
set_option linter.unusedSimpArgs false
/-- the least length of a symbol, and how many bits follow -/
def lbase (n : Int) : Int × Int := if n < 257 ∨ 285 < n then (0, 0) else if n = 285 then (258, 0) else if n < 265 then (3 + (n - 257), 0) else (3 + (4 + (n - 257) % 4) * 2 ^ ((n - 257) / 4 - 1).toNat, (n - 257) / 4 - 1)
theorem Base_c {w0 : World} {H : List Asn} (s : Int) (hs : -9223372036854775808 ≤ s ∧ s < 9223372036854775808) (w : World) (hw : St w0 H w) :
    Calls Try.prog 25 #[.int .i64 s] w fun e w' => e = .returned (.tuple #[.int .i64 (lbase s).1, .int .i64 (lbase s).2]) ∧ St w0 H w' := by
  refine enter (vs := [.int .i64 s]) Try.func25 rfl rfl rfl hw ?_
  unfold lbase
  by_cases h1 : s < 257
  · rw [if_pos (.inl h1)]
    repeat (first | (apply gJO; first | (apply kS; refine aK ?_) | (apply kX; refine JO_box rfl rfl rfl ?_; intro _) | (apply kA; refine JO_alloc (tb := tb) rfl rfl ?_; intro _) | (apply kBs; refine JO_buildSlice (tb := tb) rfl rfl rfl rfl rfl rfl rfl rfl rfl ?_; intro _) | (apply kM; refine JO_make (tb := tb) rfl rfl rfl rfl rfl rfl (by omega) rfl ?_; intro _) | refine aO ?_) | (apply gJR; first | apply JR_un | apply JR_nil | refine JR_yes rfl rfl ?_ | refine JR_no rfl rfl rfl rfl ?_ | refine JR_noU rfl rfl rfl ?_) | (apply gJS; first | apply JS_seq | apply JS_region | apply JS_skip | apply JS_block | apply JS_inBlock | apply JS_label | refine JS_exit rfl ?_ | refine JS_condT rfl ?_ | refine JS_condF rfl ?_ | refine JS_draw [0] (by kernel_rfl) (by kernel_rfl) (by decide +kernel) ?_ | refine JS_draw [] (by kernel_rfl) (by kernel_rfl) (by decide +kernel) ?_ | refine JS_cond_T rfl (by omega) ?_ | refine JS_cond_F rfl (by omega) ?_) | (apply gQR; first | apply QR_un | apply QR_nil | refine QR_yes rfl rfl ?_ | refine QR_no rfl rfl rfl rfl ?_ | refine QR_noU rfl rfl rfl ?_) | (apply gQO; first | refine aQ ?_ | refine aQK rfl ?_))
    exact JS_ret Try.func25 rfl rfl fun w hw => ⟨rfl, hw⟩
  by_cases h2 : 285 < s
  · rw [if_pos (.inr h2)]
    repeat (first | (apply gJO; first | (apply kS; refine aK ?_) | (apply kX; refine JO_box rfl rfl rfl ?_; intro _) | (apply kA; refine JO_alloc (tb := tb) rfl rfl ?_; intro _) | (apply kBs; refine JO_buildSlice (tb := tb) rfl rfl rfl rfl rfl rfl rfl rfl rfl ?_; intro _) | (apply kM; refine JO_make (tb := tb) rfl rfl rfl rfl rfl rfl (by omega) rfl ?_; intro _) | refine aO ?_) | (apply gJR; first | apply JR_un | apply JR_nil | refine JR_yes rfl rfl ?_ | refine JR_no rfl rfl rfl rfl ?_ | refine JR_noU rfl rfl rfl ?_) | (apply gJS; first | apply JS_seq | apply JS_region | apply JS_skip | apply JS_block | apply JS_inBlock | apply JS_label | refine JS_exit rfl ?_ | refine JS_condT rfl ?_ | refine JS_condF rfl ?_ | refine JS_draw [0] (by kernel_rfl) (by kernel_rfl) (by decide +kernel) ?_ | refine JS_draw [] (by kernel_rfl) (by kernel_rfl) (by decide +kernel) ?_ | refine JS_cond_T rfl (by omega) ?_ | refine JS_cond_F rfl (by omega) ?_) | (apply gQR; first | apply QR_un | apply QR_nil | refine QR_yes rfl rfl ?_ | refine QR_no rfl rfl rfl rfl ?_ | refine QR_noU rfl rfl rfl ?_) | (apply gQO; first | refine aQ ?_ | refine aQK rfl ?_))
    exact JS_ret Try.func25 rfl rfl fun w hw => ⟨rfl, hw⟩
  rw [if_neg (by omega)]
  by_cases h3 : s = 285
  · rw [if_pos h3]
    repeat (first | (apply gJO; first | (apply kS; refine aK ?_) | (apply kX; refine JO_box rfl rfl rfl ?_; intro _) | (apply kA; refine JO_alloc (tb := tb) rfl rfl ?_; intro _) | (apply kBs; refine JO_buildSlice (tb := tb) rfl rfl rfl rfl rfl rfl rfl rfl rfl ?_; intro _) | (apply kM; refine JO_make (tb := tb) rfl rfl rfl rfl rfl rfl (by omega) rfl ?_; intro _) | refine aO ?_) | (apply gJR; first | apply JR_un | apply JR_nil | refine JR_yes rfl rfl ?_ | refine JR_no rfl rfl rfl rfl ?_ | refine JR_noU rfl rfl rfl ?_) | (apply gJS; first | apply JS_seq | apply JS_region | apply JS_skip | apply JS_block | apply JS_inBlock | apply JS_label | refine JS_exit rfl ?_ | refine JS_condT rfl ?_ | refine JS_condF rfl ?_ | refine JS_draw [0] (by kernel_rfl) (by kernel_rfl) (by decide +kernel) ?_ | refine JS_draw [] (by kernel_rfl) (by kernel_rfl) (by decide +kernel) ?_ | refine JS_cond_T rfl (by omega) ?_ | refine JS_cond_F rfl (by omega) ?_) | (apply gQR; first | apply QR_un | apply QR_nil | refine QR_yes rfl rfl ?_ | refine QR_no rfl rfl rfl rfl ?_ | refine QR_noU rfl rfl rfl ?_) | (apply gQO; first | refine aQ ?_ | refine aQK rfl ?_))
    exact JS_ret Try.func25 rfl rfl fun w hw => ⟨rfl, hw⟩
  rw [if_neg h3]
  by_cases h4 : s < 265
  · rw [if_pos h4]
    repeat (first | (apply gJO; first | (apply kS; refine aK ?_) | (apply kX; refine JO_box rfl rfl rfl ?_; intro _) | (apply kA; refine JO_alloc (tb := tb) rfl rfl ?_; intro _) | (apply kBs; refine JO_buildSlice (tb := tb) rfl rfl rfl rfl rfl rfl rfl rfl rfl ?_; intro _) | (apply kM; refine JO_make (tb := tb) rfl rfl rfl rfl rfl rfl (by omega) rfl ?_; intro _) | refine aO ?_) | (apply gJR; first | apply JR_un | apply JR_nil | refine JR_yes rfl rfl ?_ | refine JR_no rfl rfl rfl rfl ?_ | refine JR_noU rfl rfl rfl ?_) | (apply gJS; first | apply JS_seq | apply JS_region | apply JS_skip | apply JS_block | apply JS_inBlock | apply JS_label | refine JS_exit rfl ?_ | refine JS_condT rfl ?_ | refine JS_condF rfl ?_ | refine JS_draw [0] (by kernel_rfl) (by kernel_rfl) (by decide +kernel) ?_ | refine JS_draw [] (by kernel_rfl) (by kernel_rfl) (by decide +kernel) ?_ | refine JS_cond_T rfl (by omega) ?_ | refine JS_cond_F rfl (by omega) ?_) | (apply gQR; first | apply QR_un | apply QR_nil | refine QR_yes rfl rfl ?_ | refine QR_no rfl rfl rfl rfl ?_ | refine QR_noU rfl rfl rfl ?_) | (apply gQO; first | refine aQ ?_ | refine aQK rfl ?_))
    exact JS_ret Try.func25 rfl rfl fun w hw => ⟨rfl, hw⟩
  rw [if_neg h4]
  have h5 : ∃ k : Nat, (s - 257) / 4 - 1 = k ∧ (k = 1 ∨ k = 2 ∨ k = 3 ∨ k = 4 ∨ k = 5) := ⟨((s - 257) / 4 - 1).toNat, by omega, by omega⟩
  obtain ⟨k, hk, hk5⟩ := h5
  have hp : (2 : Int) ^ k ≤ 32 ∧ 1 ≤ (2 : Int) ^ k := by rcases hk5 with rfl | rfl | rfl | rfl | rfl <;> decide
  have hm : 0 ≤ (4 + (s - 257) % 4) * (2 : Int) ^ k ∧ (4 + (s - 257) % 4) * (2 : Int) ^ k ≤ 224 := by
    rcases hk5 with rfl | rfl | rfl | rfl | rfl <;> (simp only [Int.reducePow]; omega)
  have hw9 : IntKind.i64.wrap ((4 + (s - 257) % 4) * (2 : Int) ^ k) = (4 + (s - 257) % 4) * (2 : Int) ^ k := wi64 (by omega)
  have hmin : min ((s - 257) / 4 - 1).toNat IntKind.i64.bits = k := by
    rw [hk]; show min k 64 = k; omega
  have hkt : ((s - 257) / 4 - 1).toNat = k := by omega
  simp only [hkt]
  repeat (first | (apply gJO; refine JO_v (V_shl (m := k) rfl rfl (by omega) hmin hw9 rfl) ?_) | (first | (apply gJO; first | (apply kS; refine aK ?_) | (apply kX; refine JO_box rfl rfl rfl ?_; intro _) | (apply kA; refine JO_alloc (tb := tb) rfl rfl ?_; intro _) | (apply kBs; refine JO_buildSlice (tb := tb) rfl rfl rfl rfl rfl rfl rfl rfl rfl ?_; intro _) | (apply kM; refine JO_make (tb := tb) rfl rfl rfl rfl rfl rfl (by omega) rfl ?_; intro _) | refine aO ?_) | (apply gJR; first | apply JR_un | apply JR_nil | refine JR_yes rfl rfl ?_ | refine JR_no rfl rfl rfl rfl ?_ | refine JR_noU rfl rfl rfl ?_) | (apply gJS; first | apply JS_seq | apply JS_region | apply JS_skip | apply JS_block | apply JS_inBlock | apply JS_label | refine JS_exit rfl ?_ | refine JS_condT rfl ?_ | refine JS_condF rfl ?_ | refine JS_draw [0] (by kernel_rfl) (by kernel_rfl) (by decide +kernel) ?_ | refine JS_draw [] (by kernel_rfl) (by kernel_rfl) (by decide +kernel) ?_ | refine JS_cond_T rfl (by omega) ?_ | refine JS_cond_F rfl (by omega) ?_) | (apply gQR; first | apply QR_un | apply QR_nil | refine QR_yes rfl rfl ?_ | refine QR_no rfl rfl rfl rfl ?_ | refine QR_noU rfl rfl rfl ?_) | (apply gQO; first | refine aQ ?_ | refine aQK rfl ?_)))
  exact JS_ret Try.func25 rfl rfl fun w hw => ⟨rfl, hw⟩
theorem lbase_step : ∀ i : Nat, i < 27 → (lbase (257 + i)).1 + 2 ^ (lbase (257 + i)).2.toNat = (lbase (257 + (i + 1 : Nat))).1 := by
  have h : ∀ i : Fin 27, (lbase (257 + (i.val : Int))).1 + 2 ^ (lbase (257 + (i.val : Int))).2.toNat = (lbase (257 + ((i.val + 1 : Nat) : Int))).1 := by decide +kernel
  exact fun i hi => h ⟨i, hi⟩
theorem lbase_bd : ∀ i : Nat, i < 28 → 3 ≤ (lbase (257 + i)).1 ∧ (lbase (257 + i)).1 ≤ 258 ∧ 0 ≤ (lbase (257 + i)).2 ∧ (lbase (257 + i)).2 ≤ 5 ∧ (lbase (257 + i)).2 = if i < 8 then 0 else ((i : Int) - 4) / 4 := by
  have h : ∀ i : Fin 28, 3 ≤ (lbase (257 + (i.val : Int))).1 ∧ (lbase (257 + (i.val : Int))).1 ≤ 258 ∧ 0 ≤ (lbase (257 + (i.val : Int))).2 ∧ (lbase (257 + (i.val : Int))).2 ≤ 5 ∧ (lbase (257 + (i.val : Int))).2 = if i.val < 8 then 0 else ((i.val : Int) - 4) / 4 := by decide +kernel
  exact fun i hi => h ⟨i, hi⟩
set_option maxHeartbeats 1000000 in
theorem RBase_c {w0 : World} {H : List Asn} (s : Int) (hs : -9223372036854775808 ≤ s ∧ s < 9223372036854775808) (w : World) (hw : St w0 H w) :
    Calls Try.prog 30 #[.int .i64 s] w fun e w' => e = .returned (.tuple #[.int .i64 (lbase s).1, .int .i64 (lbase s).2]) ∧ St w0 H w' := by
  refine enter (vs := [.int .i64 s]) Try.func30 rfl rfl rfl hw ?_
  by_cases h1 : s < 257
  · rw [show lbase s = (0, 0) from if_pos (.inl h1)]
    repeat (first | (apply gJO; first | (apply kS; refine aK ?_) | (apply kX; refine JO_box rfl rfl rfl ?_; intro _) | (apply kA; refine JO_alloc (tb := tb) rfl rfl ?_; intro _) | (apply kBs; refine JO_buildSlice (tb := tb) rfl rfl rfl rfl rfl rfl rfl rfl rfl ?_; intro _) | (apply kM; refine JO_make (tb := tb) rfl rfl rfl rfl rfl rfl (by omega) rfl ?_; intro _) | refine aO ?_) | (apply gJR; first | apply JR_un | apply JR_nil | refine JR_yes rfl rfl ?_ | refine JR_no rfl rfl rfl rfl ?_ | refine JR_noU rfl rfl rfl ?_) | (apply gJS; first | apply JS_seq | apply JS_region | apply JS_skip | apply JS_block | apply JS_inBlock | apply JS_label | refine JS_exit rfl ?_ | refine JS_condT rfl ?_ | refine JS_condF rfl ?_ | refine JS_draw [0] (by kernel_rfl) (by kernel_rfl) (by decide +kernel) ?_ | refine JS_draw [] (by kernel_rfl) (by kernel_rfl) (by decide +kernel) ?_ | refine JS_cond_T rfl (by omega) ?_ | refine JS_cond_F rfl (by omega) ?_) | (apply gQR; first | apply QR_un | apply QR_nil | refine QR_yes rfl rfl ?_ | refine QR_no rfl rfl rfl rfl ?_ | refine QR_noU rfl rfl rfl ?_) | (apply gQO; first | refine aQ ?_ | refine aQK rfl ?_))
    exact JS_ret Try.func30 rfl rfl fun w hw => ⟨rfl, hw⟩
  by_cases h2 : 285 < s
  · rw [show lbase s = (0, 0) from if_pos (.inr h2)]
    repeat (first | (apply gJO; first | (apply kS; refine aK ?_) | (apply kX; refine JO_box rfl rfl rfl ?_; intro _) | (apply kA; refine JO_alloc (tb := tb) rfl rfl ?_; intro _) | (apply kBs; refine JO_buildSlice (tb := tb) rfl rfl rfl rfl rfl rfl rfl rfl rfl ?_; intro _) | (apply kM; refine JO_make (tb := tb) rfl rfl rfl rfl rfl rfl (by omega) rfl ?_; intro _) | refine aO ?_) | (apply gJR; first | apply JR_un | apply JR_nil | refine JR_yes rfl rfl ?_ | refine JR_no rfl rfl rfl rfl ?_ | refine JR_noU rfl rfl rfl ?_) | (apply gJS; first | apply JS_seq | apply JS_region | apply JS_skip | apply JS_block | apply JS_inBlock | apply JS_label | refine JS_exit rfl ?_ | refine JS_condT rfl ?_ | refine JS_condF rfl ?_ | refine JS_draw [0] (by kernel_rfl) (by kernel_rfl) (by decide +kernel) ?_ | refine JS_draw [] (by kernel_rfl) (by kernel_rfl) (by decide +kernel) ?_ | refine JS_cond_T rfl (by omega) ?_ | refine JS_cond_F rfl (by omega) ?_) | (apply gQR; first | apply QR_un | apply QR_nil | refine QR_yes rfl rfl ?_ | refine QR_no rfl rfl rfl rfl ?_ | refine QR_noU rfl rfl rfl ?_) | (apply gQO; first | refine aQ ?_ | refine aQK rfl ?_))
    exact JS_ret Try.func30 rfl rfl fun w hw => ⟨rfl, hw⟩
  by_cases h3 : s = 285
  · subst h3
    repeat (first | (apply gJO; first | (apply kS; refine aK ?_) | (apply kX; refine JO_box rfl rfl rfl ?_; intro _) | (apply kA; refine JO_alloc (tb := tb) rfl rfl ?_; intro _) | (apply kBs; refine JO_buildSlice (tb := tb) rfl rfl rfl rfl rfl rfl rfl rfl rfl ?_; intro _) | (apply kM; refine JO_make (tb := tb) rfl rfl rfl rfl rfl rfl (by omega) rfl ?_; intro _) | refine aO ?_) | (apply gJR; first | apply JR_un | apply JR_nil | refine JR_yes rfl rfl ?_ | refine JR_no rfl rfl rfl rfl ?_ | refine JR_noU rfl rfl rfl ?_) | (apply gJS; first | apply JS_seq | apply JS_region | apply JS_skip | apply JS_block | apply JS_inBlock | apply JS_label | refine JS_exit rfl ?_ | refine JS_condT rfl ?_ | refine JS_condF rfl ?_ | refine JS_draw [0] (by kernel_rfl) (by kernel_rfl) (by decide +kernel) ?_ | refine JS_draw [] (by kernel_rfl) (by kernel_rfl) (by decide +kernel) ?_ | refine JS_cond_T rfl (by omega) ?_ | refine JS_cond_F rfl (by omega) ?_) | (apply gQR; first | apply QR_un | apply QR_nil | refine QR_yes rfl rfl ?_ | refine QR_no rfl rfl rfl rfl ?_ | refine QR_noU rfl rfl rfl ?_) | (apply gQO; first | refine aQ ?_ | refine aQK rfl ?_))
    exact JS_ret Try.func30 rfl rfl fun w hw => ⟨rfl, hw⟩
  repeat (first | (apply gJR; first | (apply gJO; first | (apply kS; refine aK ?_) | (apply kX; refine JO_box rfl rfl rfl ?_; intro _) | (apply kA; refine JO_alloc (tb := tb) rfl rfl ?_; intro _) | (apply kBs; refine JO_buildSlice (tb := tb) rfl rfl rfl rfl rfl rfl rfl rfl rfl ?_; intro _) | (apply kM; refine JO_make (tb := tb) rfl rfl rfl rfl rfl rfl (by omega) rfl ?_; intro _) | refine aO ?_) | (apply gJR; first | apply JR_un | apply JR_nil | refine JR_yes rfl rfl ?_ | refine JR_no rfl rfl rfl rfl ?_ | refine JR_noU rfl rfl rfl ?_) | (apply gJS; first | apply JS_seq | apply JS_region | apply JS_skip | apply JS_block | apply JS_inBlock | apply JS_label | refine JS_exit rfl ?_ | refine JS_condT rfl ?_ | refine JS_condF rfl ?_ | refine JS_draw [0] (by kernel_rfl) (by kernel_rfl) (by decide +kernel) ?_ | refine JS_draw [] (by kernel_rfl) (by kernel_rfl) (by decide +kernel) ?_ | refine JS_cond_T rfl (by omega) ?_ | refine JS_cond_F rfl (by omega) ?_) | (apply gQR; first | apply QR_un | apply QR_nil | refine QR_yes rfl rfl ?_ | refine QR_no rfl rfl rfl rfl ?_ | refine QR_noU rfl rfl rfl ?_) | (apply gQO; first | refine aQ ?_ | refine aQK rfl ?_)) | (apply gJO; first | (apply gJO; first | (apply kS; refine aK ?_) | (apply kX; refine JO_box rfl rfl rfl ?_; intro _) | (apply kA; refine JO_alloc (tb := tb) rfl rfl ?_; intro _) | (apply kBs; refine JO_buildSlice (tb := tb) rfl rfl rfl rfl rfl rfl rfl rfl rfl ?_; intro _) | (apply kM; refine JO_make (tb := tb) rfl rfl rfl rfl rfl rfl (by omega) rfl ?_; intro _) | refine aO ?_) | (apply gJR; first | apply JR_un | apply JR_nil | refine JR_yes rfl rfl ?_ | refine JR_no rfl rfl rfl rfl ?_ | refine JR_noU rfl rfl rfl ?_) | (apply gJS; first | apply JS_seq | apply JS_region | apply JS_skip | apply JS_block | apply JS_inBlock | apply JS_label | refine JS_exit rfl ?_ | refine JS_condT rfl ?_ | refine JS_condF rfl ?_ | refine JS_draw [0] (by kernel_rfl) (by kernel_rfl) (by decide +kernel) ?_ | refine JS_draw [] (by kernel_rfl) (by kernel_rfl) (by decide +kernel) ?_ | refine JS_cond_T rfl (by omega) ?_ | refine JS_cond_F rfl (by omega) ?_) | (apply gQR; first | apply QR_un | apply QR_nil | refine QR_yes rfl rfl ?_ | refine QR_no rfl rfl rfl rfl ?_ | refine QR_noU rfl rfl rfl ?_) | (apply gQO; first | refine aQ ?_ | refine aQK rfl ?_)) | apply JS_seq | apply JS_region | refine JS_condF rfl ?_ | refine JS_cond_F rfl (by omega) ?_ | apply JS_skip)
  refine JS_block ?_
  refine JS_loop1 (fun (i : Nat) => [(0, .int .i64 s), (4, .int .i64 (lbase (257 + i)).1), (5, .int .i64 (257 + i))]) (fun _ => H) (fun i => (i : Int) ≤ s - 257) (fun i => 100 - i) 0 (by omega) (by repeat (first | exact trivial | refine ⟨rfl, ?_⟩ | refine ⟨lookI rfl (by omega), ?_⟩)) (fun _ h => h) ?_
  intro i hi again
  obtain ⟨b1, b2, b3, b4, b5⟩ := lbase_bd i (by omega)
  by_cases he : (i : Int) = s - 257
  · obtain rfl : s = 257 + i := by omega
    clear again
    by_cases h8 : i < 8
    · rw [if_pos h8] at b5
      repeat (first | (apply gJO; first | (apply kS; refine aK ?_) | (apply kX; refine JO_box rfl rfl rfl ?_; intro _) | (apply kA; refine JO_alloc (tb := tb) rfl rfl ?_; intro _) | (apply kBs; refine JO_buildSlice (tb := tb) rfl rfl rfl rfl rfl rfl rfl rfl rfl ?_; intro _) | (apply kM; refine JO_make (tb := tb) rfl rfl rfl rfl rfl rfl (by omega) rfl ?_; intro _) | refine aO ?_) | (apply gJR; first | apply JR_un | apply JR_nil | refine JR_yes rfl rfl ?_ | refine JR_no rfl rfl rfl rfl ?_ | refine JR_noU rfl rfl rfl ?_) | (apply gJS; first | apply JS_seq | apply JS_region | apply JS_skip | apply JS_block | apply JS_inBlock | apply JS_label | refine JS_exit rfl ?_ | refine JS_condT rfl ?_ | refine JS_condF rfl ?_ | refine JS_draw [0] (by kernel_rfl) (by kernel_rfl) (by decide +kernel) ?_ | refine JS_draw [] (by kernel_rfl) (by kernel_rfl) (by decide +kernel) ?_ | refine JS_cond_T rfl (by omega) ?_ | refine JS_cond_F rfl (by omega) ?_) | (apply gQR; first | apply QR_un | apply QR_nil | refine QR_yes rfl rfl ?_ | refine QR_no rfl rfl rfl rfl ?_ | refine QR_noU rfl rfl rfl ?_) | (apply gQO; first | refine aQ ?_ | refine aQK rfl ?_))
      refine JS_ret Try.func30 rfl rfl fun w hw => ⟨?_, hw⟩
      rw [b5]; rfl
    · rw [if_neg h8] at b5
      repeat (first | (apply gJO; first | (apply kS; refine aK ?_) | (apply kX; refine JO_box rfl rfl rfl ?_; intro _) | (apply kA; refine JO_alloc (tb := tb) rfl rfl ?_; intro _) | (apply kBs; refine JO_buildSlice (tb := tb) rfl rfl rfl rfl rfl rfl rfl rfl rfl ?_; intro _) | (apply kM; refine JO_make (tb := tb) rfl rfl rfl rfl rfl rfl (by omega) rfl ?_; intro _) | refine aO ?_) | (apply gJR; first | apply JR_un | apply JR_nil | refine JR_yes rfl rfl ?_ | refine JR_no rfl rfl rfl rfl ?_ | refine JR_noU rfl rfl rfl ?_) | (apply gJS; first | apply JS_seq | apply JS_region | apply JS_skip | apply JS_block | apply JS_inBlock | apply JS_label | refine JS_exit rfl ?_ | refine JS_condT rfl ?_ | refine JS_condF rfl ?_ | refine JS_draw [0] (by kernel_rfl) (by kernel_rfl) (by decide +kernel) ?_ | refine JS_draw [] (by kernel_rfl) (by kernel_rfl) (by decide +kernel) ?_ | refine JS_cond_T rfl (by omega) ?_ | refine JS_cond_F rfl (by omega) ?_) | (apply gQR; first | apply QR_un | apply QR_nil | refine QR_yes rfl rfl ?_ | refine QR_no rfl rfl rfl rfl ?_ | refine QR_noU rfl rfl rfl ?_) | (apply gQO; first | refine aQ ?_ | refine aQK rfl ?_))
      refine JS_ret Try.func30 rfl rfl fun w hw => ⟨?_, hw⟩
      rw [b5, show (257 + (i : Int) - 261) = i - 4 by omega]; rfl
  · have hst := lbase_step i (by omega)
    obtain ⟨c1, c2, _⟩ := lbase_bd (i + 1) (by omega)
    have hcast : (257 + (i : Int)) + 1 = 257 + ((i + 1 : Nat) : Int) := by omega
    by_cases h8 : i < 8
    · rw [if_pos h8] at b5
      rw [b5] at hst
      have hst' : (lbase (257 + i)).1 + 1 = (lbase (257 + (i + 1 : Nat))).1 := hst
      repeat (first | (apply gJO; refine JO_v (V_shl (m := 0) (c := 1) rfl rfl (by omega) (by decide) (by decide) rfl) ?_) | (first | (apply gJO; first | (apply kS; refine aK ?_) | (apply kX; refine JO_box rfl rfl rfl ?_; intro _) | (apply kA; refine JO_alloc (tb := tb) rfl rfl ?_; intro _) | (apply kBs; refine JO_buildSlice (tb := tb) rfl rfl rfl rfl rfl rfl rfl rfl rfl ?_; intro _) | (apply kM; refine JO_make (tb := tb) rfl rfl rfl rfl rfl rfl (by omega) rfl ?_; intro _) | refine aO ?_) | (apply gJR; first | apply JR_un | apply JR_nil | refine JR_yes rfl rfl ?_ | refine JR_no rfl rfl rfl rfl ?_ | refine JR_noU rfl rfl rfl ?_) | (apply gJS; first | apply JS_seq | apply JS_region | apply JS_skip | apply JS_block | apply JS_inBlock | apply JS_label | refine JS_exit rfl ?_ | refine JS_condT rfl ?_ | refine JS_condF rfl ?_ | refine JS_draw [0] (by kernel_rfl) (by kernel_rfl) (by decide +kernel) ?_ | refine JS_draw [] (by kernel_rfl) (by kernel_rfl) (by decide +kernel) ?_ | refine JS_cond_T rfl (by omega) ?_ | refine JS_cond_F rfl (by omega) ?_) | (apply gQR; first | apply QR_un | apply QR_nil | refine QR_yes rfl rfl ?_ | refine QR_no rfl rfl rfl rfl ?_ | refine QR_noU rfl rfl rfl ?_) | (apply gQO; first | refine aQ ?_ | refine aQK rfl ?_)))
      exact JS_again1 again (i + 1) (by omega) (by omega) (by exact ⟨rfl, lookI rfl (by omega), lookI rfl (by omega), trivial⟩) (fun w hw => hw)
    · rw [if_neg h8] at b5
      have hk : ∃ k : Nat, ((i : Int) - 4) / 4 = k ∧ k ≤ 5 := ⟨(((i : Int) - 4) / 4).toNat, by omega, by omega⟩
      obtain ⟨k, hk, hk5⟩ := hk
      rw [b5, hk] at hst
      have hpw : (2 : Int) ^ k ≤ 32 ∧ 1 ≤ (2 : Int) ^ k := by
        rcases (show k = 0 ∨ k = 1 ∨ k = 2 ∨ k = 3 ∨ k = 4 ∨ k = 5 by omega) with rfl | rfl | rfl | rfl | rfl | rfl <;> decide
      have hst' : (lbase (257 + i)).1 + 2 ^ k = (lbase (257 + (i + 1 : Nat))).1 := hst
      have e1 : (257 + (i : Int) - 261) / 4 = k := by rw [show (257 + (i : Int) - 261) = i - 4 by omega]; exact hk
      have hw9 : IntKind.i64.wrap (1 * (2 : Int) ^ k) = (2 : Int) ^ k := (congrArg _ (Int.one_mul _)).trans (wi64 (by omega))
      have hmin : min ((257 + (i : Int) - 261) / 4).toNat IntKind.i64.bits = k := by
        rw [e1]; show min k 64 = k; omega
      repeat (first | (apply gJO; refine JO_v (V_shl (m := k) rfl rfl (by omega) hmin hw9 rfl) ?_) | (first | (apply gJO; first | (apply kS; refine aK ?_) | (apply kX; refine JO_box rfl rfl rfl ?_; intro _) | (apply kA; refine JO_alloc (tb := tb) rfl rfl ?_; intro _) | (apply kBs; refine JO_buildSlice (tb := tb) rfl rfl rfl rfl rfl rfl rfl rfl rfl ?_; intro _) | (apply kM; refine JO_make (tb := tb) rfl rfl rfl rfl rfl rfl (by omega) rfl ?_; intro _) | refine aO ?_) | (apply gJR; first | apply JR_un | apply JR_nil | refine JR_yes rfl rfl ?_ | refine JR_no rfl rfl rfl rfl ?_ | refine JR_noU rfl rfl rfl ?_) | (apply gJS; first | apply JS_seq | apply JS_region | apply JS_skip | apply JS_block | apply JS_inBlock | apply JS_label | refine JS_exit rfl ?_ | refine JS_condT rfl ?_ | refine JS_condF rfl ?_ | refine JS_draw [0] (by kernel_rfl) (by kernel_rfl) (by decide +kernel) ?_ | refine JS_draw [] (by kernel_rfl) (by kernel_rfl) (by decide +kernel) ?_ | refine JS_cond_T rfl (by omega) ?_ | refine JS_cond_F rfl (by omega) ?_) | (apply gQR; first | apply QR_un | apply QR_nil | refine QR_yes rfl rfl ?_ | refine QR_no rfl rfl rfl rfl ?_ | refine QR_noU rfl rfl rfl ?_) | (apply gQO; first | refine aQ ?_ | refine aQK rfl ?_)))
      exact JS_again1 again (i + 1) (by omega) (by omega) (by exact ⟨rfl, lookI rfl (by omega), lookI rfl (by omega), trivial⟩) (fun w hw => hw)
end Go.Proofs.Ytakgoflfcgofdaa
