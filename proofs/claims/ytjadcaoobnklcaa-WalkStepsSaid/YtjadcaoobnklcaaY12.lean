import Derived.Test.YtjadcaoobnklcaaY11
namespace Go.Proofs.Ytjadcaoobnklcaa.Ro
open Sx Go
set_option linter.unusedVariables false
set_option linter.unusedSimpArgs false
theorem JS_rf {P : Program} {f n : Nat} {R : Ending → World → Prop} {D : List Deferred} {w0 : World} {ov : Ov} {H : List Asn} {fn : Func} {p : List Sx.Way} {A B A' B' : Code} (hA : rfA fn p = some A) (hB : rfB fn p = some B) (hA' : rfA fn p = some A') (hB' : rfB fn p = some B')
    (h : JS P f n R D w0 [.code A', .beginRound, .code B'] ov H) : JS P f n R D w0 [.code A, .beginRound, .code B] ov H := by
  rw [hA] at hA'; rw [hB] at hB'; cases hA'; cases hB'; exact h
set_option maxHeartbeats 1000000 in
/-- one round of WalkSteps -/
theorem WRound_c {w0 : World} {l : Nat} {R : Ending → World → Prop} {A B : Code} (hA : rfA Try.f7 [.b, .b, .b, .b, .b, .b, .a, .b, .k] = some A) (hB : rfB Try.f7 [.b, .b, .b, .b, .b, .b, .a, .b, .k] = some B) (rec : Loop) (hrec : rec.state = .ready) (hpe : rec.pending = none)
    {q : Option Addr} {d b3 b4 b5 b8 : Nat} {X Y a1 a2 a3 V : Asn} {W : List (Int × Int)} {i : Nat} {ask : Int} (hrd : Rd w0 [V] (.slice q W.length d) W.length (flat W)) (hOK : OKT W) (hR : RIGHT W) (h60 : W.length ≤ 60) (hi : i < W.length) (hask : 0 ≤ ask ∧ ask < 256)
    (h1 : ∀ w, St w0 [obj l (.loop rec), X, Y, blk b8 [.int .i64 (i + 1 : Nat)], a1, a2, a3, blk b5 [.slice q W.length d], V, blk b4 [.bool false], blk b3 [.int .u8 ask]] w → R (.returned (.bool true)) w)
    (h2 : ∀ w, St w0 [obj l (.loop { rec with state := .done, pending := some .ret }), X, Y, blk b8 [.int .i64 (i + 1 : Nat)], a1, a2, a3, blk b5 [.slice q W.length d], V, blk b4 [.bool true], blk b3 [.int .u8 ask]] w → R (.returned (.bool false)) w) :
    JS Try.prog l Try.f7.ntmps R [] w0 [.code A, .beginRound, .code B] [(29, .int .i64 (W.getD i (0, 0)).1), (28, .int .u64 (sw (W.take (i + 1)))), (3, .pointer (some ⟨b3, 0, none⟩)), (4, .pointer (some ⟨b4, 0, none⟩)), (5, .pointer (some ⟨b5, 0, none⟩)), (8, .pointer (some ⟨b8, 0, none⟩))] [obj l (.loop rec), X, Y, blk b8 [.int .i64 i], a1, a2, a3, blk b5 [.slice q W.length d], V, blk b4 [.bool false], blk b3 [.int .u8 ask]] := by
  obtain ⟨st, pe, rf, rt, rp, ra, rb, rd⟩ := rec
  simp only at hrec hpe
  subst hrec hpe
  refine JS_rf hA hB rfl rfl ?_
  repeat (first | (apply gJO; first | (apply kS; refine aK ?_) | (apply kX; refine JO_box rfl rfl rfl ?_; intro _) | (apply kA; refine JO_alloc (tb := tb) rfl rfl ?_; intro _) | (apply kBs; refine JO_buildSlice (tb := tb) rfl rfl rfl rfl rfl rfl rfl rfl rfl ?_; intro _) | (apply kM; refine JO_make (tb := tb) rfl rfl rfl rfl rfl rfl (by omega) rfl ?_; intro _) | refine aO ?_) | (apply gJR; first | apply JR_un | apply JR_nil | refine JR_yes rfl rfl ?_ | refine JR_no rfl rfl rfl rfl ?_ | refine JR_noU rfl rfl rfl ?_) | (apply gJS; first | apply JS_seq | apply JS_region | apply JS_skip | apply JS_block | apply JS_inBlock | apply JS_label | refine JS_exit rfl ?_ | refine JS_condT rfl ?_ | refine JS_condF rfl ?_ | refine JS_draw [0] (by kernel_rfl) (by kernel_rfl) (by decide +kernel) ?_ | refine JS_draw [] (by kernel_rfl) (by kernel_rfl) (by decide +kernel) ?_ | refine JS_cond_T rfl (by omega) ?_ | refine JS_cond_F rfl (by omega) ?_) | (apply gQR; first | apply QR_un | apply QR_nil | refine QR_yes rfl rfl ?_ | refine QR_no rfl rfl rfl rfl ?_ | refine QR_noU rfl rfl rfl ?_) | (apply gQO; first | refine aQ ?_ | refine aQK rfl ?_))
  refine JS_begin (.here _ _ _) rfl ?_
  have hr' : Rd w0 [obj l (.loop ⟨.busy, none, rf, rt, rp, ra, rb, rd⟩), X, Y, blk b8 [.int .i64 i], a1, a2, a3, blk b5 [.slice q W.length d], V, blk b4 [.bool false], blk b3 [.int .u8 ask]] (.slice q W.length d) W.length (flat W) := Rd_weak hrd fun w hw => St.sub (by repeat (first | exact List.Sublist.refl _ | apply List.Sublist.cons_cons | apply List.Sublist.cons)) hw
  have gA := flat_get0 W i hi
  have hbl : bl (W.getD i (0, 0)).1 true W = sw (W.take (i + 1)) := bl_at hR i hi
  generalize (W.getD i (0, 0)).1 = key at *
  repeat (first | (apply gJO; refine JO_v (V_loadC (tb := tb) rfl hr' rfl rfl gA rfl) ?_) | (first | (apply gJO; first | (apply kS; refine aK ?_) | (apply kX; refine JO_box rfl rfl rfl ?_; intro _) | (apply kA; refine JO_alloc (tb := tb) rfl rfl ?_; intro _) | (apply kBs; refine JO_buildSlice (tb := tb) rfl rfl rfl rfl rfl rfl rfl rfl rfl ?_; intro _) | (apply kM; refine JO_make (tb := tb) rfl rfl rfl rfl rfl rfl (by omega) rfl ?_; intro _) | refine aO ?_) | (apply gJR; first | apply JR_un | apply JR_nil | refine JR_yes rfl rfl ?_ | refine JR_no rfl rfl rfl rfl ?_ | refine JR_noU rfl rfl rfl ?_) | (apply gJS; first | apply JS_seq | apply JS_region | apply JS_skip | apply JS_block | apply JS_inBlock | apply JS_label | refine JS_exit rfl ?_ | refine JS_condT rfl ?_ | refine JS_condF rfl ?_ | refine JS_draw [0] (by kernel_rfl) (by kernel_rfl) (by decide +kernel) ?_ | refine JS_draw [] (by kernel_rfl) (by kernel_rfl) (by decide +kernel) ?_ | refine JS_cond_T rfl (by omega) ?_ | refine JS_cond_F rfl (by omega) ?_) | (apply gQR; first | apply QR_un | apply QR_nil | refine QR_yes rfl rfl ?_ | refine QR_no rfl rfl rfl rfl ?_ | refine QR_noU rfl rfl rfl ?_) | (apply gQO; first | refine aQ ?_ | refine aQK rfl ?_)))
  refine JO_call Try.call19 rfl rfl fun w hw => (RBelow_c q d W.length W key true hr' rfl hOK hR (by omega) w hw).mono ?_
  rintro e w' ⟨rfl, hw'⟩
  refine ⟨_, rfl, _, hw', ?_⟩
  clear hw' hw w w'
  rw [hbl]
  by_cases hst : ((i : Int) + 1) = ask
  · repeat (first | (apply gJO; first | (apply kS; refine aK ?_) | (apply kX; refine JO_box rfl rfl rfl ?_; intro _) | (apply kA; refine JO_alloc (tb := tb) rfl rfl ?_; intro _) | (apply kBs; refine JO_buildSlice (tb := tb) rfl rfl rfl rfl rfl rfl rfl rfl rfl ?_; intro _) | (apply kM; refine JO_make (tb := tb) rfl rfl rfl rfl rfl rfl (by omega) rfl ?_; intro _) | refine aO ?_) | (apply gJR; first | apply JR_un | apply JR_nil | refine JR_yes rfl rfl ?_ | refine JR_no rfl rfl rfl rfl ?_ | refine JR_noU rfl rfl rfl ?_) | (apply gJS; first | apply JS_seq | apply JS_region | apply JS_skip | apply JS_block | apply JS_inBlock | apply JS_label | refine JS_exit rfl ?_ | refine JS_condT rfl ?_ | refine JS_condF rfl ?_ | refine JS_draw [0] (by kernel_rfl) (by kernel_rfl) (by decide +kernel) ?_ | refine JS_draw [] (by kernel_rfl) (by kernel_rfl) (by decide +kernel) ?_ | refine JS_cond_T rfl (by omega) ?_ | refine JS_cond_F rfl (by omega) ?_) | (apply gQR; first | apply QR_un | apply QR_nil | refine QR_yes rfl rfl ?_ | refine QR_no rfl rfl rfl rfl ?_ | refine QR_noU rfl rfl rfl ?_) | (apply gQO; first | refine aQ ?_ | refine aQK rfl ?_))
    refine JS_ret (.here _ _ _) ?_
    intro w hw
    exact h2 w hw
  · repeat (first | (apply gJO; first | (apply kS; refine aK ?_) | (apply kX; refine JO_box rfl rfl rfl ?_; intro _) | (apply kA; refine JO_alloc (tb := tb) rfl rfl ?_; intro _) | (apply kBs; refine JO_buildSlice (tb := tb) rfl rfl rfl rfl rfl rfl rfl rfl rfl ?_; intro _) | (apply kM; refine JO_make (tb := tb) rfl rfl rfl rfl rfl rfl (by omega) rfl ?_; intro _) | refine aO ?_) | (apply gJR; first | apply JR_un | apply JR_nil | refine JR_yes rfl rfl ?_ | refine JR_no rfl rfl rfl rfl ?_ | refine JR_noU rfl rfl rfl ?_) | (apply gJS; first | apply JS_seq | apply JS_region | apply JS_skip | apply JS_block | apply JS_inBlock | apply JS_label | refine JS_exit rfl ?_ | refine JS_condT rfl ?_ | refine JS_condF rfl ?_ | refine JS_draw [0] (by kernel_rfl) (by kernel_rfl) (by decide +kernel) ?_ | refine JS_draw [] (by kernel_rfl) (by kernel_rfl) (by decide +kernel) ?_ | refine JS_cond_T rfl (by omega) ?_ | refine JS_cond_F rfl (by omega) ?_) | (apply gQR; first | apply QR_un | apply QR_nil | refine QR_yes rfl rfl ?_ | refine QR_no rfl rfl rfl rfl ?_ | refine QR_noU rfl rfl rfl ?_) | (apply gQO; first | refine aQ ?_ | refine aQK rfl ?_))
    refine JS_over (.here _ _ _) ?_
    intro w hw
    exact h1 w hw
end Go.Proofs.Ytjadcaoobnklcaa.Ro
