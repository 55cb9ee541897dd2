import Derived.Test.YtjadcaoobnklcaaA
import Derived.Test.YtjadcaoobnklcaaP1
import Derived.Test.YtjadcaoobnklcaaP2
namespace Go.Proofs.Ytjadcaoobnklcaa
open Sx Go
set_option linter.unusedVariables false
set_option linter.unusedSimpArgs false
attribute [local irreducible] IntKind.wrap
theorem Digits_c {w0 : World} {H : List Asn} (a : Int) (ha : 0 ≤ a ∧ a < 18446744073709551616) (w : World) (hw : St w0 H w) :
    Calls Try.prog 42 #[.int .u64 a] w fun e w' => ∃ p c, e = .returned (.slice p 4 c) ∧ St w0 (vec 29 1 (.slice p 4 c) 4 (ints .u64 (dig4 a)) :: H) w' := by
  refine enter (vs := [.int .u64 a]) Try.func42 rfl rfl rfl hw ?_
  repeat (first | (apply gJO; first | (apply kS; refine aK ?_) | (apply kX; refine JO_box rfl rfl rfl ?_; intro _) | (apply kA; refine JO_alloc (tb := tb) rfl rfl ?_; intro _) | (apply kBs; refine JO_buildSlice (tb := tb) rfl rfl rfl rfl rfl rfl rfl rfl rfl ?_; intro _) | (apply kM; refine JO_make (tb := tb) rfl rfl rfl rfl rfl rfl (by omega) rfl ?_; intro _) | refine aO ?_) | (apply gJR; first | apply JR_un | apply JR_nil | refine JR_yes rfl rfl ?_ | refine JR_no rfl rfl rfl rfl ?_ | refine JR_noU rfl rfl rfl ?_) | (apply gJS; first | apply JS_seq | apply JS_region | apply JS_skip | apply JS_block | apply JS_inBlock | apply JS_label | refine JS_exit rfl ?_ | refine JS_condT rfl ?_ | refine JS_condF rfl ?_ | refine JS_draw [0] (by kernel_rfl) (by kernel_rfl) (by decide +kernel) ?_ | refine JS_draw [] (by kernel_rfl) (by kernel_rfl) (by decide +kernel) ?_) | (apply gQR; first | apply QR_un | apply QR_nil | refine QR_yes rfl rfl ?_ | refine QR_no rfl rfl rfl rfl ?_ | refine QR_noU rfl rfl rfl ?_) | (apply gQO; first | refine aQ ?_ | refine aQK rfl ?_))
  refine JS_ret Try.func42 rfl rfl ?_
  intro w hw
  exact ⟨_, _, rfl, hw⟩
set_option maxHeartbeats 4000000 in
/-- four digits, read off a slice -/
theorem Number_c {w0 : World} {H : List Asn} (p : Option Addr) (c : Nat) (L : List Int) (hr : Rd w0 H (.slice p 8 c) 8 (ints .u64 L)) (hl : L.length = 8) (hd : D16 L) (f : Nat) (hf : f ≤ 4) (w : World) (hw : St w0 H w) :
    Calls Try.prog 45 #[.slice p 8 c, .int .i64 f] w fun e w' => ∃ n, e = .returned (.int .u64 n) ∧ St w0 H w' ∧ n = num4 L f := by
  refine enter (vs := [.slice p 8 c, .int .i64 f]) Try.func45 rfl rfl rfl hw ?_
  repeat (first | refine JS_loop' ?_ | refine JS_inLoop ?_ | (first | (apply gJO; first | (apply kS; refine aK ?_) | (apply kX; refine JO_box rfl rfl rfl ?_; intro _) | (apply kA; refine JO_alloc (tb := tb) rfl rfl ?_; intro _) | (apply kBs; refine JO_buildSlice (tb := tb) rfl rfl rfl rfl rfl rfl rfl rfl rfl ?_; intro _) | (apply kM; refine JO_make (tb := tb) rfl rfl rfl rfl rfl rfl (by omega) rfl ?_; intro _) | refine aO ?_) | (apply gJR; first | apply JR_un | apply JR_nil | refine JR_yes rfl rfl ?_ | refine JR_no rfl rfl rfl rfl ?_ | refine JR_noU rfl rfl rfl ?_) | (apply gJS; first | apply JS_seq | apply JS_region | apply JS_skip | apply JS_block | apply JS_inBlock | apply JS_label | refine JS_exit rfl ?_ | refine JS_condT rfl ?_ | refine JS_condF rfl ?_ | refine JS_draw [0] (by kernel_rfl) (by kernel_rfl) (by decide +kernel) ?_ | refine JS_draw [] (by kernel_rfl) (by kernel_rfl) (by decide +kernel) ?_ | refine JS_cond_T rfl (by omega) ?_ | refine JS_cond_F rfl (by omega) ?_) | (apply gQR; first | apply QR_un | apply QR_nil | refine QR_yes rfl rfl ?_ | refine QR_no rfl rfl rfl rfl ?_ | refine QR_noU rfl rfl rfl ?_) | (apply gQO; first | refine aQ ?_ | refine aQK rfl ?_)))
  refine JS_ret Try.func45 rfl rfl ?_
  intro w hw
  refine ⟨_, rfl, hw, ?_⟩
  have h0 := hd f; have h1 := hd (f + 1); have h2 := hd (f + 2); have h3 := hd (f + 3)
  rw [show ((f : Int) + 3 - 1 - 1 - 1).toNat = f by omega, show ((f : Int) + 3 - 1 - 1).toNat = f + 1 by omega, show ((f : Int) + 3 - 1).toNat = f + 2 by omega]
  unfold num4; omega
end Go.Proofs.Ytjadcaoobnklcaa
