import Derived.WalkKit
import Derived.ProofKit
import Derived.OpenShut
import Derived.ChangeSlices
import Derived.Test.YtbiocgenbgbfpaaH3
namespace Sx
open Go
theorem JS_joinQ51 {P : Program} {f n : Nat} {R : Ending → World → Prop} {D : List Deferred} {w0 : World} {k : List Item} {ov : Ov} {H : List Asn} {α β γ δ ε : Type} {c1 rest : Code} (o : α → β → γ → δ → ε → Ov) (H' : α → β → γ → δ → ε → List Asn) (I : α → β → γ → δ → ε → Prop)
    (cont : ∀ (x1 : α) (x2 : β) (x3 : γ) (x4 : δ) (x5 : ε), I x1 x2 x3 x4 x5 → JS P f n R D w0 (.code rest :: k) (o x1 x2 x3 x4 x5) (H' x1 x2 x3 x4 x5))
    (h : (∀ (x1 : α) (x2 : β) (x3 : γ) (x4 : δ) (x5 : ε), I x1 x2 x3 x4 x5 → JS P f n R D w0 (.code rest :: k) (o x1 x2 x3 x4 x5) (H' x1 x2 x3 x4 x5)) → JS P f n R D w0 (.code (.seq c1 rest) :: k) ov H) :
    JS P f n R D w0 (.code (.seq c1 rest) :: k) ov H := h cont
end Sx
namespace Go.Proofs.Ytbiocgenbgbfpaa
open Sx Go
set_option linter.unusedVariables false
set_option linter.unusedSimpArgs false
attribute [local irreducible] syA fc tk cds
theorem reps_set (x : Int) (k n : Nat) (h : k < n) : (reps x k n).set k x = reps x (k + 1) n := by
  unfold reps
  rw [List.set_append_right _ _ (by simp)]
  simp only [List.length_replicate, Nat.sub_self]
  obtain ⟨d, hd⟩ : ∃ d, n - k = d + 1 := ⟨n - k - 1, by omega⟩
  rw [hd, show n - (k + 1) = d by omega, List.replicate_succ, List.set_cons_zero, List.replicate_succ', List.append_assoc]
  rfl
section
variable {w0 : World} {H : List Asn}
set_option maxRecDepth 10000 in
set_option maxHeartbeats 4000000 in
theorem RIRead_c (p : Option Addr) (c m : Nat) (B : List Int) (hr : Rd w0 H (.slice p m c) m (ints .u8 B)) (hm : B.length = m) (hB : OKB B) (hm2 : m ≤ 17592186044410) (L : Int) (hL : -9223372036854775808 ≤ L ∧ L < 9223372036854775808) (w : World) (hw : St w0 H w) :
    Calls Try.prog 42 #[.slice p m c, .int .i64 L] w fun e w' => ((L < 0 ∨ 1048576 < L) ∧ e = .returned (.tuple #[.slice none 0 0, .int .i64 0, .int .i64 1]) ∧ St w0 H w') ∨
      (0 ≤ L ∧ L ≤ 1048576 ∧ ∃ r, ALLR B L.toNat r ∧ resP r (fun x => x ≠ 0 ∧ e = .returned (.tuple #[.slice none 0 0, .int .i64 0, .int .i64 x]) ∧ St w0 H w')
        (fun a o => a ≤ 8 * m ∧ o.length ≤ L.toNat ∧ ∃ p c, e = .returned (.tuple #[.slice p o.length c, .int .i64 ((a + 7) / 8 : Nat), .int .i64 0]) ∧ St w0 (vec 5 1 (.slice p o.length c) o.length (ints .u8 o) :: H) w')) := by
  refine enter (vs := [.slice p m c, .int .i64 L]) Try.func42 rfl rfl rfl hw ?_
  subst hm
  obtain ⟨m, hm⟩ : ∃ m, B.length = m := ⟨_, rfl⟩
  unfold ALLR
  rw [hm] at hr hm2 ⊢
  by_cases hbad : L < 0 ∨ 1048576 < L
  · have : (L < 0) ∨ (¬ L < 0 ∧ 1048576 < L) := by omega
    rcases this with h | ⟨h, h'⟩
    · repeat (first | (refine sx ?_; try intro _))
      exact JS_ret Try.func42 rfl rfl fun w hw => .inl ⟨hbad, rfl, hw⟩
    · repeat (first | (refine sx ?_; try intro _))
      exact JS_ret Try.func42 rfl rfl fun w hw => .inl ⟨hbad, rfl, hw⟩
  obtain ⟨lim, rfl⟩ : ∃ lim : Nat, L = lim := ⟨L.toNat, by omega⟩
  have hK : InfK m B lim := ⟨hm, hB, by omega, by omega⟩
  have hl := hK.hl
  rw [Int.toNat_natCast]
  repeat (first | (refine sx ?_; try intro _))
  refine JO_call Try.call63 rfl rfl fun w hw => (Bits4_c p c m B hr hm hB hm2 w hw).mono ?_
  rintro e w' ⟨q, d, rfl, hw'⟩
  refine ⟨_, rfl, _, hw', ?_⟩
  clear hw' hw w w'
  (repeat (first | (apply gJR; first | (refine sx ?_; try intro _)) | (apply gJO; first | (refine sx ?_; try intro _))))
  rename_i bs
  apply JS_seq; apply JS_region; (repeat (first | (apply gJR; first | (refine sx ?_; try intro _)) | (apply gJO; first | (refine sx ?_; try intro _))))
  refine JS_joinQ51 (fun (E : Int) (a : Nat) (o : List Int) (po : Option Addr) (co : Nat) => [(7, .pointer (some ⟨bs, 0, none⟩))]) (fun E a o po co => strL bs q d m B lim a po co o E H)
    (fun E a o po co => (E = 0 ∧ a ≤ 8 * m ∧ o.length ≤ lim ∧ It (rdF (bitB B 0) (8 * m) lim) 0 [] (.ok a o)) ∨ (E ≠ 0 ∧ It (rdF (bitB B 0) (8 * m) lim) 0 [] (.err E))) ?_ ?_
  · intro E a o po co hmode
    rcases hmode with ⟨rfl, ha, ho, hIt⟩ | ⟨hE, hIt⟩
    · repeat (first | (refine sx ?_; try intro _))
      refine JS_ret Try.func42 rfl rfl fun w hw => .inr ⟨by omega, by omega, .ok a o, hIt, ha, ho, po, co, ?_, St.sub (by repeat (first | exact List.Sublist.refl _ | apply List.Sublist.cons_cons | apply List.Sublist.cons)) hw⟩
      have hx : ((a : Int) + 7) / 8 = (((a + 7) / 8 : Nat) : Int) := by omega
      rw [← hx]; rfl
    · repeat (first | (refine sx ?_; try intro _))
      exact JS_ret Try.func42 rfl rfl fun w hw => .inr ⟨by omega, by omega, .err E, hIt, hE, rfl, St.sub (by repeat (first | exact List.Sublist.refl _ | apply List.Sublist.cons_cons | apply List.Sublist.cons)) hw⟩
  intro K
  apply JS_seq
  refine JS_block ?_
  refine JS_loop5 (fun (a : Nat) (o : List Int) (po : Option Addr) (co : Nat) (last : Int) => [(7, .pointer (some ⟨bs, 0, none⟩)), (8, .int .i64 last)])
    (fun a o po co _ => strL bs q d m B lim a po co o 0 H)
    (fun a o _ _ last => a ≤ 8 * m ∧ o.length ≤ lim ∧ ((last = 0 ∧ ∀ r, It (rdF (bitB B 0) (8 * m) lim) a o r → It (rdF (bitB B 0) (8 * m) lim) 0 [] r) ∨ (last ≠ 0 ∧ It (rdF (bitB B 0) (8 * m) lim) 0 [] (.ok a o))))
    (fun a _ _ _ _ => 8 * m - a) 0 [] none 0 0 ⟨Nat.zero_le _, Nat.zero_le _, .inl ⟨rfl, fun _ h => h⟩⟩ (by repeat (first | exact trivial | refine ⟨rfl, ?_⟩ | refine ⟨lookI rfl (by omega), ?_⟩)) (fun w h => (St.nilvec (e := 5) (sz := 1) (base := none) h).perm (List.Perm.swap _ _ _)) ?_
  intro a o po co last ⟨ha, ho, hinv⟩ again
  rcases hinv with ⟨rfl, hinv⟩ | ⟨hl0, hfin⟩
  · have hF : rdF (bitB B 0) (8 * m) lim a o = if 8 * m < a + 1 then .err 20
      else if 8 * m < a + 3 then .err 20
      else match kndF (bitB B 0) (8 * m) lim (nbt (bitB B 0) (a + 1) 2) (a + 3) o with
        | .err e => .err e
        | .ok a' o' => if nbt (bitB B 0) a 1 = 0 then .go a' o' else .stop a' o' := rfl
    obtain ⟨x1, hx1⟩ := Int.eq_ofNat_of_zero_le (nbt_bd (bitB B 0) (bitB_01 B 0) a 1).1
    have hb1 := (nbt_bd (bitB B 0) (bitB_01 B 0) a 1).2
    obtain ⟨k, hk⟩ := Int.eq_ofNat_of_zero_le (nbt_bd (bitB B 0) (bitB_01 B 0) (a + 1) 2).1
    have hb2 := (nbt_bd (bitB B 0) (bitB_01 B 0) (a + 1) 2).2
    rw [hx1] at hb1 hF
    rw [hk] at hb2 hF
    have hb1 : (x1 : Int) < 2 := hb1
    have hb2 : (k : Int) < 4 := hb2
    repeat (first | (refine sx ?_; try intro _))
    refine JO_call Try.call64 rfl rfl fun w hw => (RGrp4_c hK a 1 (by omega) ha hm2 w hw).mono ?_
    rintro e w' (⟨h, rfl, hw'⟩ | ⟨h1, he, hw'⟩)
    · refine ⟨_, rfl, _, hw', ?_⟩
      clear hw' hw w w' again
      repeat (first | (refine sx ?_; try intro _))
      refine JO_call Try.call64 rfl rfl fun w hw => (RGrpE_c 2 a 20 (by decide) w hw).mono ?_
      rintro e w' ⟨rfl, hw'⟩
      refine ⟨_, rfl, _, hw', ?_⟩
      clear hw' hw w w'
      (repeat (first | (apply gJR; first | (refine sx ?_; try intro _)) | (apply gJO; first | (refine sx ?_; try intro _))))
      apply JS_seq; apply JS_seq; apply JS_region; (repeat (first | (apply gJR; first | (refine sx ?_; try intro _)) | (apply gJO; first | (refine sx ?_; try intro _))))
      refine JS_condT rfl ?_
      refine JS_exit rfl ?_
      exact JS_to5 K 20 a o po co (.inr ⟨by decide, hinv _ (.err (by rw [hF, if_pos h]))⟩) (by repeat (first | exact trivial | refine ⟨rfl, ?_⟩ | refine ⟨lookI rfl (by omega), ?_⟩)) (fun w hw => hw)
    rw [hx1] at he; subst he
    refine ⟨_, rfl, _, hw', ?_⟩
    clear hw' hw w w'
    rw [if_neg (by omega)] at hF
    repeat (first | (refine sx ?_; try intro _))
    refine JO_call Try.call64 rfl rfl fun w hw => (RGrp4_c hK (a + 1) 2 (by omega) h1 hm2 w hw).mono ?_
    rintro e w' (⟨h, rfl, hw'⟩ | ⟨h2, he, hw'⟩)
    · refine ⟨_, rfl, _, hw', ?_⟩
      clear hw' hw w w' again
      (repeat (first | (apply gJR; first | (refine sx ?_; try intro _)) | (apply gJO; first | (refine sx ?_; try intro _))))
      apply JS_seq; apply JS_seq; apply JS_region; (repeat (first | (apply gJR; first | (refine sx ?_; try intro _)) | (apply gJO; first | (refine sx ?_; try intro _))))
      refine JS_condT rfl ?_
      refine JS_exit rfl ?_
      exact JS_to5 K 20 (a + 1) o po co (.inr ⟨by decide, hinv _ (.err (by rw [hF, if_pos (by omega)]))⟩) (by repeat (first | exact trivial | refine ⟨rfl, ?_⟩ | refine ⟨lookI rfl (by omega), ?_⟩)) (fun w hw => hw)
    rw [hk] at he; subst he
    refine ⟨_, rfl, _, hw', ?_⟩
    clear hw' hw w w'
    rw [if_neg (by omega)] at hF
    have hgo : ∀ a' o', kndF (bitB B 0) (8 * m) lim k (a + 3) o = .ok a' o' → a' ≤ 8 * m → o'.length ≤ lim → (a' ≤ 8 * m ∧ o'.length ≤ lim ∧ (((x1 : Int) = 0 ∧ ∀ r, It (rdF (bitB B 0) (8 * m) lim) a' o' r → It (rdF (bitB B 0) (8 * m) lim) 0 [] r) ∨ ((x1 : Int) ≠ 0 ∧ It (rdF (bitB B 0) (8 * m) lim) 0 [] (.ok a' o')))) ∧ 8 * m - a' < 8 * m - a := by
      intro a' o' hkn h3 h4
      have hge := kndF_ge hkn
      rw [hkn] at hF
      simp only at hF
      refine ⟨⟨h3, h4, ?_⟩, by omega⟩
      by_cases h0 : (x1 : Int) = 0
      · rw [if_pos h0] at hF
        exact .inl ⟨h0, fun r hr => hinv r (.go hF hr)⟩
      · rw [if_neg h0] at hF
        exact .inr ⟨h0, hinv _ (.stop hF)⟩
    have herr : ∀ r, kndF (bitB B 0) (8 * m) lim k (a + 3) o = .err r → It (rdF (bitB B 0) (8 * m) lim) 0 [] (.err r) := by
      intro r hkn
      rw [hkn] at hF
      exact hinv _ (.err hF)
    clear hF hinv
    rcases (show k = 0 ∨ k = 1 ∨ k = 2 ∨ k = 3 by omega) with rfl | rfl | rfl | rfl
    · repeat (first | (refine sx ?_; try intro _))
      refine JO_call Try.call65 rfl rfl fun w hw => (RSto_c hK (a + 3) (by omega) hm2 ho w hw).mono ?_
      rintro e w' ⟨rfl, h⟩
      obtain ⟨r, hr⟩ : ∃ r, stoF (bitB B 0) (8 * m) lim (a + 3) o = r := ⟨_, rfl⟩
      rw [hr] at h
      unfold RP at h
      cases r with
      | err r =>
        obtain ⟨hr0, a', po', co', o', hw'⟩ := h
        refine ⟨_, rfl, _, hw', ?_⟩
        clear hw' hw w w' again
        repeat (first | (refine sx ?_; try intro _))
        apply JS_inLoop; apply JS_seq; apply JS_seq; apply JS_region
        by_cases hx0 : (x1 : Int) = 0
        all_goals ((repeat (first | (apply gJR; first | (refine sx ?_; try intro _)) | (apply gJO; first | (refine sx ?_; try intro _)))); refine JS_condF rfl ?_; refine JS_exit rfl ?_)
        all_goals (exact JS_to5 K r a' o' po' co' (.inr ⟨hr0, herr r hr⟩) (by repeat (first | exact trivial | refine ⟨rfl, ?_⟩ | refine ⟨lookI rfl (by omega), ?_⟩)) (fun w hw => St.sub (by repeat (first | exact List.Sublist.refl _ | apply List.Sublist.cons_cons | apply List.Sublist.cons)) hw))
      | ok a' o' =>
        obtain ⟨h3, h4, po', co', hw'⟩ := h
        obtain ⟨g1, g2⟩ := hgo a' o' hr h3 h4
        refine ⟨_, rfl, _, hw', ?_⟩
        clear hw' hw w w'
        repeat (first | (refine sx ?_; try intro _))
        exact JS_again5 again a' o' po' co' x1 g1 g2 (by repeat (first | exact trivial | refine ⟨rfl, ?_⟩ | refine ⟨lookI rfl (by omega), ?_⟩)) (fun w hw => St.sub (by repeat (first | exact List.Sublist.refl _ | apply List.Sublist.cons_cons | apply List.Sublist.cons)) hw)
    · repeat (first | (refine sx ?_; try intro _))
      rename_i p5
      refine JS_loop1 (fun (i : Nat) => [(7, .pointer (some ⟨bs, 0, none⟩)), (8, .int .i64 x1), (10, .slice (some p5) 32 32), (11, .int .i64 i)]) (fun i => vec 5 1 (.slice (some p5) 32 32) 32 (ints .u8 (reps 5 i 32)) :: strL bs q d m B lim (a + 3) po co o 0 H) (fun i => i ≤ 32) (fun i => 32 - i) 0 (by omega) (by repeat (first | exact trivial | refine ⟨rfl, ?_⟩ | refine ⟨lookI rfl (by omega), ?_⟩)) (fun _ h => h) ?_
      intro i hi again2
      by_cases hil : i < 32
      · clear again
        have hrs := reps_set 5 i 32 hil
        have hrl := reps_len 5 i 32 hi
        repeat (first | (refine sx ?_; try intro _))
        exact JS_again1 again2 (i + 1) (by omega) (by omega) (by repeat (first | exact trivial | refine ⟨rfl, ?_⟩ | refine ⟨lookI rfl (by omega), ?_⟩)) (fun w hw => by rw [← hrs]; exact hw)
      · obtain rfl : i = 32 := by omega
        clear again2
        rw [reps_full]
        repeat (first | (refine sx ?_; try intro _))
        refine JO_call Try.call67 rfl rfl fun w hw => (RFixed_c w hw).mono ?_
        rintro e w' ⟨p6, c6, rfl, hw'⟩
        refine ⟨_, rfl, _, hw', ?_⟩
        clear hw' hw w w'
        repeat (first | (refine sx ?_; try intro _))
        refine JO_call Try.call66 rfl rfl fun w hw => (RBlk_c hK (a + 3) (by omega) hm2 ho p6 (some p5) c6 32 288 32 (tab 288 fixF) (List.replicate 32 5) (vec_rd (H := [vec 5 1 (.slice p6 288 c6) 288 (ints .u8 (tab 288 fixF)), vec 5 1 (.slice (some p5) 32 32) 32 (ints .u8 (List.replicate 32 5))] ++ H) (by repeat (first | apply List.Mem.head | apply List.Mem.tail))) (tab_len _ _) fix_okb fix_okl (vec_rd (H := [vec 5 1 (.slice p6 288 c6) 288 (ints .u8 (tab 288 fixF)), vec 5 1 (.slice (some p5) 32 32) 32 (ints .u8 (List.replicate 32 5))] ++ H) (by repeat (first | apply List.Mem.head | apply List.Mem.tail))) (List.length_replicate ..) spans_okb spans_okl w (strL_ins [vec 5 1 (.slice p6 288 c6) 288 (ints .u8 (tab 288 fixF)), vec 5 1 (.slice (some p5) 32 32) 32 (ints .u8 (List.replicate 32 5))] hw)).mono ?_
        rintro e w' ⟨rfl, r, hr, h⟩
        unfold RP at h
        cases r with
        | err r =>
          obtain ⟨hr0, a', po', co', o', hw'⟩ := h
          refine ⟨_, rfl, _, hw', ?_⟩
          clear hw' hw w w' again
          repeat (first | (refine sx ?_; try intro _))
          apply JS_inLoop; apply JS_seq; apply JS_seq; apply JS_region
          by_cases hx0 : (x1 : Int) = 0
          all_goals ((repeat (first | (apply gJR; first | (refine sx ?_; try intro _)) | (apply gJO; first | (refine sx ?_; try intro _)))); refine JS_condF rfl ?_; refine JS_exit rfl ?_)
          all_goals (exact JS_to5 K r a' o' po' co' (.inr ⟨hr0, herr r (itF_of hr)⟩) (by repeat (first | exact trivial | refine ⟨rfl, ?_⟩ | refine ⟨lookI rfl (by omega), ?_⟩)) (fun w hw => St.sub (by repeat (first | exact List.Sublist.refl _ | apply List.Sublist.cons_cons | apply List.Sublist.cons)) hw))
        | ok a' o' =>
          obtain ⟨h3, h4, po', co', hw'⟩ := h
          obtain ⟨g1, g2⟩ := hgo a' o' (itF_of hr) h3 h4
          refine ⟨_, rfl, _, hw', ?_⟩
          clear hw' hw w w'
          repeat (first | (refine sx ?_; try intro _))
          exact JS_again5 again a' o' po' co' x1 g1 g2 (by repeat (first | exact trivial | refine ⟨rfl, ?_⟩ | refine ⟨lookI rfl (by omega), ?_⟩)) (fun w hw => St.sub (by repeat (first | exact List.Sublist.refl _ | apply List.Sublist.cons_cons | apply List.Sublist.cons)) hw)
    · repeat (first | (refine sx ?_; try intro _))
      refine JO_call Try.call68 rfl rfl fun w hw => (RDes_c hK (a + 3) (by omega) hm2 ho w hw).mono ?_
      rintro e w' ⟨rfl, h⟩
      obtain ⟨r, hr⟩ : ∃ r, desF (bitB B 0) (8 * m) lim (a + 3) o = r := ⟨_, rfl⟩
      rw [hr] at h
      unfold RP at h
      cases r with
      | err r =>
        obtain ⟨hr0, a', po', co', o', hw'⟩ := h
        refine ⟨_, rfl, _, hw', ?_⟩
        clear hw' hw w w' again
        repeat (first | (refine sx ?_; try intro _))
        apply JS_inLoop; apply JS_seq; apply JS_seq; apply JS_region
        by_cases hx0 : (x1 : Int) = 0
        all_goals ((repeat (first | (apply gJR; first | (refine sx ?_; try intro _)) | (apply gJO; first | (refine sx ?_; try intro _)))); refine JS_condF rfl ?_; refine JS_exit rfl ?_)
        all_goals (exact JS_to5 K r a' o' po' co' (.inr ⟨hr0, herr r hr⟩) (by repeat (first | exact trivial | refine ⟨rfl, ?_⟩ | refine ⟨lookI rfl (by omega), ?_⟩)) (fun w hw => St.sub (by repeat (first | exact List.Sublist.refl _ | apply List.Sublist.cons_cons | apply List.Sublist.cons)) hw))
      | ok a' o' =>
        obtain ⟨h3, h4, po', co', hw'⟩ := h
        obtain ⟨g1, g2⟩ := hgo a' o' hr h3 h4
        refine ⟨_, rfl, _, hw', ?_⟩
        clear hw' hw w w'
        repeat (first | (refine sx ?_; try intro _))
        exact JS_again5 again a' o' po' co' x1 g1 g2 (by repeat (first | exact trivial | refine ⟨rfl, ?_⟩ | refine ⟨lookI rfl (by omega), ?_⟩)) (fun w hw => St.sub (by repeat (first | exact List.Sublist.refl _ | apply List.Sublist.cons_cons | apply List.Sublist.cons)) hw)
    · clear again
      repeat (first | (refine sx ?_; try intro _))
      apply JS_inLoop; apply JS_seq; apply JS_seq; apply JS_region
      by_cases hx0 : (x1 : Int) = 0
      all_goals ((repeat (first | (apply gJR; first | (refine sx ?_; try intro _)) | (apply gJO; first | (refine sx ?_; try intro _)))); refine JS_condF rfl ?_; refine JS_exit rfl ?_)
      all_goals (exact JS_to5 K 60 (a + 1 + 2) o po co (.inr ⟨by decide, herr 60 rfl⟩) (by repeat (first | exact trivial | refine ⟨rfl, ?_⟩ | refine ⟨lookI rfl (by omega), ?_⟩)) (fun w hw => hw))
  · clear again
    apply JS_seq; apply JS_seq; apply JS_region; (repeat (first | (apply gJR; first | (refine sx ?_; try intro _)) | (apply gJO; first | (refine sx ?_; try intro _))))
    refine JS_condF rfl ?_
    refine JS_exit rfl ?_
    exact JS_to5 K 0 a o po co (.inl ⟨rfl, ha, ho, hfin⟩) (by repeat (first | exact trivial | refine ⟨rfl, ?_⟩ | refine ⟨lookI rfl (by omega), ?_⟩)) (fun w hw => hw)
end
end Go.Proofs.Ytbiocgenbgbfpaa

namespace Go.Proofs.Ytbiocgenbgbfpaa
open Sx Go
set_option linter.unusedVariables false
set_option linter.unusedSimpArgs false
attribute [local irreducible] syA fc tk cds
/-! ## another limit -/
/-- steps under limits: one that goes on, goes on under each limit that has room, and fails under a lesser one -/
def PLg (f : Nat → Nat → List Int → Stp) : Prop := ∀ lim lim' a o a' o', f lim a o = .go a' o' → o.length ≤ o'.length ∧ (o'.length ≤ lim' → f lim' a o = .go a' o') ∧ (o.length ≤ lim' → lim' < o'.length → f lim' a o = .err 64)
def PLs (f : Nat → Nat → List Int → Stp) : Prop := ∀ lim lim' a o a' o', f lim a o = .stop a' o' → o.length ≤ o'.length ∧ (o'.length ≤ lim' → f lim' a o = .stop a' o') ∧ (o.length ≤ lim' → lim' < o'.length → f lim' a o = .err 64)
def PLr (g : Nat → Nat → List Int → Res) : Prop := ∀ lim lim' a o a' o', g lim a o = .ok a' o' → o.length ≤ o'.length ∧ (o'.length ≤ lim' → g lim' a o = .ok a' o') ∧ (o.length ≤ lim' → lim' < o'.length → g lim' a o = .err 64)
theorem It_lim {f : Nat → Nat → List Int → Stp} (hg : PLg f) (hs : PLs f) {lim lim' a : Nat} {o : List Int} {r : Res} (h : It (f lim) a o r) : ∀ a' o', r = .ok a' o' →
    o.length ≤ o'.length ∧ (o'.length ≤ lim' → It (f lim') a o (.ok a' o')) ∧ (o.length ≤ lim' → lim' < o'.length → It (f lim') a o (.err 64)) := by
  induction h with
  | err _ => intro a' o' h; cases h
  | stop h =>
    intro a' o' h'
    cases h'
    obtain ⟨h1, h2, h3⟩ := hs lim lim' _ _ _ _ h
    exact ⟨h1, fun h => .stop (h2 h), fun h h' => .err (h3 h h')⟩
  | go h _ ih =>
    intro a' o' h'
    obtain ⟨h1, h2, h3⟩ := hg lim lim' _ _ _ _ h
    obtain ⟨i1, i2, i3⟩ := ih a' o' h'
    refine ⟨Nat.le_trans h1 i1, fun h => .go (h2 (Nat.le_trans i1 h)) (i2 h), fun hl hl' => ?_⟩
    rename_i o1 _ _
    rcases Nat.lt_or_ge lim' o1.length with hlt | hge
    · exact .err (h3 hl hlt)
    · exact .go (h2 hge) (i3 hge hl')
theorem blk2_lim {bt : Nat → Int} {N : Nat} {D : List Int} {lim lim' a a' : Nat} {o o' : List Int} {len : Int} (hlen : 0 ≤ len) (h : blk2 bt N lim D o len a = .go a' o') :
    o.length ≤ o'.length ∧ (o'.length ≤ lim' → blk2 bt N lim' D o len a = .go a' o') ∧ (o.length ≤ lim' → lim' < o'.length → blk2 bt N lim' D o len a = .err 64) := by
  unfold blk2 at h ⊢
  cases hs : symS bt N D a with
  | err e => rw [hs] at h; cases h
  | ok d a2 =>
    rw [hs] at h
    simp only at h ⊢
    split at h
    · cases h
    · rename_i h1
      rw [if_neg h1]
      split at h
      · cases h
      · rename_i h2
        rw [if_neg h2]
        split at h
        · cases h
        · rename_i h3
          rw [if_neg h3]
          split at h
          · cases h
          · rename_i h4
            simp only [Stp.go.injEq] at h
            obtain ⟨rfl, rfl⟩ := h
            rw [cpy_len]
            refine ⟨by omega, fun h => ?_, fun h h' => ?_⟩
            · rw [if_neg (by omega)]
            · rw [if_pos (by omega)]
theorem lb_nn {bt : Nat → Int} (hb : ∀ j, bt j = 0 ∨ bt j = 1) {i : Int} {a c : Nat} (h : ¬ (lbase i).1 = 0) : 0 ≤ (lbase i).1 + nbt bt a c := by
  have h1 := lbase_ok h
  have h2 := nbt_bd bt hb a c
  omega
theorem blkF_limg {bt : Nat → Int} (hb : ∀ j, bt j = 0 ∨ bt j = 1) (N : Nat) (L D : List Int) : PLg fun lim => blkF bt N lim L D := by
  intro lim lim' a o a' o' h
  simp only at h ⊢
  unfold blkF at h ⊢
  cases hs : symS bt N L a with
  | err e => rw [hs] at h; cases h
  | ok i a1 =>
    rw [hs] at h
    simp only at h ⊢
    split at h
    · cases h
    · rename_i h1
      rw [if_neg h1]
      split at h
      · rename_i h2
        rw [if_pos h2]
        split at h
        · cases h
        · rename_i h3
          simp only [Stp.go.injEq] at h
          obtain ⟨rfl, rfl⟩ := h
          rw [List.length_append, List.length_singleton]
          refine ⟨by omega, fun h => ?_, fun h h' => ?_⟩
          · rw [if_neg (by omega)]
          · rw [if_pos (by omega)]
      · rename_i h2
        rw [if_neg h2]
        split at h
        · cases h
        · rename_i h3
          rw [if_neg h3]
          split at h
          · cases h
          · rename_i h4
            rw [if_neg h4]
            exact blk2_lim (lb_nn hb h3) h
theorem blkF_lims {bt : Nat → Int} (N : Nat) (L D : List Int) : PLs fun lim => blkF bt N lim L D := by
  intro lim lim' a o a' o' h
  simp only at h ⊢
  unfold blkF at h ⊢
  cases hs : symS bt N L a with
  | err e => rw [hs] at h; cases h
  | ok i a1 =>
    rw [hs] at h
    simp only at h ⊢
    split at h
    · rename_i h1
      simp only [Stp.stop.injEq] at h
      obtain ⟨rfl, rfl⟩ := h
      rw [if_pos h1]
      exact ⟨Nat.le_refl _, fun _ => rfl, fun h h' => by omega⟩
    · split at h
      · split at h <;> cases h
      · split at h
        · cases h
        · split at h
          · cases h
          · exact (blk2_stop h).elim
theorem itblk_lim {bt : Nat → Int} (hb : ∀ j, bt j = 0 ∨ bt j = 1) (N : Nat) (L D : List Int) : PLr fun lim a o => itF (blkF bt N lim L D) a o := by
  intro lim lim' a o a' o' h
  obtain ⟨h1, h2, h3⟩ := It_lim (lim' := lim') (blkF_limg hb N L D) (blkF_lims N L D) (itF_ok h) a' o' rfl
  exact ⟨h1, fun h => itF_of (h2 h), fun h h' => itF_of (h3 h h')⟩
theorem stoF_lim {bt : Nat → Int} (hb : ∀ j, bt j = 0 ∨ bt j = 1) (N : Nat) : PLr fun lim => stoF bt N lim := by
  intro lim lim' a o a' o' h
  have hn := (nbt_bd bt hb (upto8 a) 16).1
  simp only at h ⊢
  unfold stoF at h ⊢
  split at h
  · cases h
  · rename_i h1
    rw [if_neg h1]
    split at h
    · cases h
    · rename_i h2
      rw [if_neg h2]
      split at h
      · cases h
      · rename_i h3
        rw [if_neg h3]
        split at h
        · cases h
        · rename_i h4
          split at h
          · cases h
          · rename_i h5
            simp only [Res.ok.injEq] at h
            obtain ⟨rfl, rfl⟩ := h
            rw [List.length_append, byts_len]
            refine ⟨by omega, fun h => ?_, fun h h' => ?_⟩
            · rw [if_neg (by omega), if_neg h5]
            · rw [if_pos (by omega)]
theorem desF_lim {bt : Nat → Int} (hb : ∀ j, bt j = 0 ∨ bt j = 1) (N : Nat) : PLr fun lim => desF bt N lim := by
  intro lim lim' a o a' o' h
  simp only at h ⊢
  unfold desF at h ⊢
  split at h
  · cases h
  · rename_i h1
    rw [if_neg h1]
    split at h
    · cases h
    · rename_i h2
      rw [if_neg h2]
      split at h
      · cases h
      · rename_i h3
        rw [if_neg h3]
        unfold des1 at h ⊢
        split at h
        · cases h
        · rename_i h4
          rw [if_neg h4]
          split at h
          · cases h
          · rename_i h5
            rw [if_neg h5]
            split at h
            · cases h
            · rename_i h6
              rw [if_neg h6]
              split at h
              · cases h
              · rename_i a1 l1 hl1
                unfold des2 at h ⊢
                split at h
                · cases h
                · rename_i h7
                  rw [if_neg h7]
                  split at h
                  · cases h
                  · rename_i h8
                    rw [if_neg h8]
                    split at h
                    · cases h
                    · rename_i h9
                      rw [if_neg h9]
                      exact itblk_lim hb N _ _ lim lim' _ _ _ _ h
theorem kndF_lim {bt : Nat → Int} (hb : ∀ j, bt j = 0 ∨ bt j = 1) (N : Nat) (k : Int) : PLr fun lim => kndF bt N lim k := by
  intro lim lim' a o a' o' h
  simp only at h ⊢
  unfold kndF at h ⊢
  split at h
  · rename_i h1
    rw [if_pos h1]
    exact stoF_lim hb N lim lim' _ _ _ _ h
  · rename_i h1
    rw [if_neg h1]
    split at h
    · rename_i h2
      rw [if_pos h2]
      exact itblk_lim hb N _ _ lim lim' _ _ _ _ h
    · rename_i h2
      rw [if_neg h2]
      split at h
      · rename_i h3
        rw [if_pos h3]
        exact desF_lim hb N lim lim' _ _ _ _ h
      · cases h
theorem rdF_limg {bt : Nat → Int} (hb : ∀ j, bt j = 0 ∨ bt j = 1) (N : Nat) : PLg fun lim => rdF bt N lim := by
  intro lim lim' a o a' o' h
  simp only at h ⊢
  unfold rdF at h ⊢
  split at h
  · cases h
  · rename_i h1
    rw [if_neg h1]
    split at h
    · cases h
    · rename_i h2
      rw [if_neg h2]
      split at h
      · cases h
      · rename_i a1 o1 hk
        split at h
        · rename_i h3
          simp only [Stp.go.injEq] at h
          obtain ⟨rfl, rfl⟩ := h
          obtain ⟨g1, g2, g3⟩ := kndF_lim hb N _ lim lim' _ _ _ _ hk
          refine ⟨g1, fun h => ?_, fun h h' => ?_⟩
          · have e := g2 h; simp only at e; rw [e]; simp only; rw [if_pos h3]
          · have e := g3 h h'; simp only at e; rw [e]
        · cases h
theorem rdF_lims {bt : Nat → Int} (hb : ∀ j, bt j = 0 ∨ bt j = 1) (N : Nat) : PLs fun lim => rdF bt N lim := by
  intro lim lim' a o a' o' h
  simp only at h ⊢
  unfold rdF at h ⊢
  split at h
  · cases h
  · rename_i h1
    rw [if_neg h1]
    split at h
    · cases h
    · rename_i h2
      rw [if_neg h2]
      split at h
      · cases h
      · rename_i a1 o1 hk
        split at h
        · cases h
        · rename_i h3
          simp only [Stp.stop.injEq] at h
          obtain ⟨rfl, rfl⟩ := h
          obtain ⟨g1, g2, g3⟩ := kndF_lim hb N _ lim lim' _ _ _ _ hk
          refine ⟨g1, fun h => ?_, fun h h' => ?_⟩
          · have e := g2 h; simp only at e; rw [e]; simp only; rw [if_neg h3]
          · have e := g3 h h'; simp only at e; rw [e]
theorem ALLR_more {B : List Int} {lim lim' a : Nat} {o : List Int} (h : ALLR B lim (.ok a o)) (hl : o.length ≤ lim') : ALLR B lim' (.ok a o) :=
  (It_lim (lim' := lim') (rdF_limg (bitB_01 B 0) (8 * B.length)) (rdF_lims (bitB_01 B 0) (8 * B.length)) h a o rfl).2.1 hl
theorem ALLR_less {B : List Int} {lim lim' a : Nat} {o : List Int} (h : ALLR B lim (.ok a o)) (hl : lim' < o.length) : ALLR B lim' (.err 64) :=
  (It_lim (lim' := lim') (rdF_limg (bitB_01 B 0) (8 * B.length)) (rdF_lims (bitB_01 B 0) (8 * B.length)) h a o rfl).2.2 (Nat.zero_le _) hl
end Go.Proofs.Ytbiocgenbgbfpaa

namespace Go.Proofs.Ytbiocgenbgbfpaa
open Sx Go
set_option linter.unusedVariables false
set_option linter.unusedSimpArgs false
attribute [local irreducible] syA fc tk cds
/-! ## an error is told by a number that is not 0 -/
theorem RD_total (L : List Int) (b : Nat → Int) (left : Nat) : ∃ i u r, RD L b left i u r := by
  by_cases h : ∃ j, DEC L b left j
  · obtain ⟨j, hj⟩ := h
    obtain ⟨n, h1, h2, h3, h4⟩ := hj
    exact ⟨j, n, 0, .inl ⟨j, rfl, rfl, ⟨n, h1, h2, h3, h4⟩, h3⟩⟩
  · have hno : ∀ j, ¬ DEC L b left j := fun j hj => h ⟨j, hj⟩
    by_cases h1 : sm L = 0
    · exact ⟨0, 0, 62, .inr ⟨hno, rfl, .inl ⟨h1, rfl, rfl⟩⟩⟩
    · by_cases h2 : tk L = 32768
      · exact ⟨0, left, 20, .inr ⟨hno, rfl, .inr (.inl ⟨h1, h2, rfl, rfl⟩)⟩⟩
      · rcases Nat.eq_zero_or_pos left with h3 | h3
        · exact ⟨0, 0, 20, .inr ⟨hno, rfl, .inr (.inr ⟨h1, h2, .inl ⟨h3, rfl, rfl⟩⟩)⟩⟩
        · exact ⟨0, 1, 62, .inr ⟨hno, rfl, .inr (.inr ⟨h1, h2, .inr ⟨h3, rfl, rfl⟩⟩)⟩⟩
/-- what a symbol's reading tells -/
theorem symS_RD (bt : Nat → Int) (N : Nat) (L : List Int) (a : Nat) : ∃ i u r, RD L (fun j => bt (a + j)) (N - a) i u r ∧ symS bt N L a = if r = 0 then .ok i (a + u) else .err r := by
  have hex : ∃ x : Int × Nat × Int, RD L (fun j => bt (a + j)) (N - a) x.1 x.2.1 x.2.2 := by
    obtain ⟨i, u, r, h⟩ := RD_total L (fun j => bt (a + j)) (N - a)
    exact ⟨(i, u, r), h⟩
  refine ⟨hex.choose.1, hex.choose.2.1, hex.choose.2.2, hex.choose_spec, ?_⟩
  unfold symS
  rw [dif_pos hex]
theorem symS_ne {bt : Nat → Int} {N a : Nat} {L : List Int} {e : Int} (h : symS bt N L a = .err e) : e ≠ 0 := by
  obtain ⟨i, u, r, _, h2⟩ := symS_RD bt N L a
  rw [h2] at h
  split at h
  · cases h
  · rename_i hr
    simp only [Sy.err.injEq] at h
    rw [← h]; exact hr
theorem symS_gt {bt : Nat → Int} {N a a1 : Nat} {L : List Int} {i : Int} (h : symS bt N L a = .ok i a1) (ha : a ≤ N) : a < a1 ∧ a1 ≤ N ∧ 0 ≤ i ∧ i < L.length := by
  obtain ⟨i', u, r, h1, h2⟩ := symS_RD bt N L a
  rw [h2] at h
  split at h
  · rename_i hr
    subst hr
    simp only [Sy.ok.injEq] at h
    obtain ⟨rfl, rfl⟩ := h
    rcases h1 with ⟨j, rfl, _, ⟨n, hj, h0, hn, hle, _⟩, hu⟩ | ⟨_, _, h | h | ⟨_, _, h | h⟩⟩
    · rw [hu] at hn; omega
    all_goals omega
  · cases h
/-- an iteration that goes on and on, up to a bound, ends -/
theorem It_total {f : Nat → List Int → Stp} {N : Nat} (hf : ∀ a o a' o', a ≤ N → f a o = .go a' o' → a < a' ∧ a' ≤ N) : ∀ (a : Nat) (o : List Int), a ≤ N → ∃ r, It f a o r := by
  have key : ∀ m a o, N - a = m → a ≤ N → ∃ r, It f a o r := by
    intro m
    induction m using Nat.strongRecOn with
    | _ m ih =>
      intro a o hm ha
      cases h : f a o with
      | err e => exact ⟨_, .err h⟩
      | stop a' o' => exact ⟨_, .stop h⟩
      | go a' o' =>
        obtain ⟨h1, h2⟩ := hf a o a' o' ha h
        obtain ⟨r, hr⟩ := ih (N - a') (by omega) a' o' rfl h2
        exact ⟨r, .go h hr⟩
  exact fun a o ha => key _ a o rfl ha
theorem It_ne {f : Nat → List Int → Stp} (hf : ∀ a o e, f a o = .err e → e ≠ 0) {a : Nat} {o : List Int} {r : Res} (h : It f a o r) : ∀ e, r = .err e → e ≠ 0 := by
  induction h with
  | err h => intro e he; cases he; exact hf _ _ _ h
  | stop _ => intro e he; cases he
  | go _ _ ih => exact ih
theorem itF_ne {f : Nat → List Int → Stp} {N : Nat} (hf : ∀ a o a' o', a ≤ N → f a o = .go a' o' → a < a' ∧ a' ≤ N) (he : ∀ a o e, f a o = .err e → e ≠ 0) {a : Nat} {o : List Int} {e : Int} (ha : a ≤ N) (h : itF f a o = .err e) : e ≠ 0 := by
  obtain ⟨r, hr⟩ := It_total hf a o ha
  have := itF_of hr
  rw [h] at this
  exact It_ne he hr e this.symm
theorem blk2_gt {bt : Nat → Int} {N lim a a' : Nat} {D o o' : List Int} {len : Int} (h : blk2 bt N lim D o len a = .go a' o') (ha : a ≤ N) : a < a' ∧ a' ≤ N := by
  unfold blk2 at h
  split at h
  · cases h
  · rename_i d a2 hs
    have := symS_gt hs ha
    split at h
    · cases h
    · split at h
      · cases h
      · split at h
        · cases h
        · split at h
          · cases h
          · simp only [Stp.go.injEq] at h; omega
theorem blk2_ne {bt : Nat → Int} {N lim a : Nat} {D o : List Int} {len e : Int} (h : blk2 bt N lim D o len a = .err e) : e ≠ 0 := by
  unfold blk2 at h
  split at h
  · rename_i hs
    simp only [Stp.err.injEq] at h
    exact h ▸ symS_ne hs
  · split at h
    · simp only [Stp.err.injEq] at h; omega
    · split at h
      · simp only [Stp.err.injEq] at h; omega
      · split at h
        · simp only [Stp.err.injEq] at h; omega
        · split at h
          · simp only [Stp.err.injEq] at h; omega
          · cases h
theorem blkF_gt {bt : Nat → Int} {N lim a a' : Nat} {L D o o' : List Int} (ha : a ≤ N) (h : blkF bt N lim L D a o = .go a' o') : a < a' ∧ a' ≤ N := by
  unfold blkF at h
  split at h
  · cases h
  · rename_i i a1 hs
    have := symS_gt hs ha
    split at h
    · cases h
    · split at h
      · split at h
        · cases h
        · simp only [Stp.go.injEq] at h; omega
      · split at h
        · cases h
        · split at h
          · cases h
          · have := blk2_gt h (by omega); omega
theorem blkF_ne {bt : Nat → Int} {N lim a : Nat} {L D o : List Int} {e : Int} (h : blkF bt N lim L D a o = .err e) : e ≠ 0 := by
  unfold blkF at h
  split at h
  · rename_i hs
    simp only [Stp.err.injEq] at h
    exact h ▸ symS_ne hs
  · split at h
    · cases h
    · split at h
      · split at h
        · simp only [Stp.err.injEq] at h; omega
        · cases h
      · split at h
        · simp only [Stp.err.injEq] at h; omega
        · split at h
          · simp only [Stp.err.injEq] at h; omega
          · exact blk2_ne h
theorem lenP_ne {many : Nat} {l : List Int} {x t : Int} {a : Nat} {e : Int} (h : lenP many l x t a = .err e) : e ≠ 0 := by
  unfold lenP at h
  split at h
  · simp only [Stp.err.injEq] at h; omega
  · cases h
theorem lenP_go {many : Nat} {l l' : List Int} {x t : Int} {a a' : Nat} (h : lenP many l x t a = .go a' l') : a = a' := lenP_ge (.inl h)
theorem lenF_gt {bt : Nat → Int} {N a a' many : Nat} {C l l' : List Int} (ha : a ≤ N) (h : lenF bt N C many a l = .go a' l') : a < a' ∧ a' ≤ N := by
  unfold lenF at h
  split at h
  · cases h
  · split at h
    · cases h
    · rename_i i a1 hs
      have := symS_gt hs ha
      split at h
      · split at h
        · cases h
        · split at h
          · cases h
          · have := lenP_go h; omega
      · split at h
        · split at h
          · cases h
          · have := lenP_go h; omega
        · split at h
          · split at h
            · cases h
            · have := lenP_go h; omega
          · have := lenP_go h; omega
theorem lenF_ne {bt : Nat → Int} {N a many : Nat} {C l : List Int} {e : Int} (h : lenF bt N C many a l = .err e) : e ≠ 0 := by
  unfold lenF at h
  split at h
  · cases h
  · split at h
    · rename_i hs
      simp only [Stp.err.injEq] at h
      exact h ▸ symS_ne hs
    · split at h
      · split at h
        · simp only [Stp.err.injEq] at h; omega
        · split at h
          · simp only [Stp.err.injEq] at h; omega
          · exact lenP_ne h
      · split at h
        · split at h
          · simp only [Stp.err.injEq] at h; omega
          · exact lenP_ne h
        · split at h
          · split at h
            · simp only [Stp.err.injEq] at h; omega
            · exact lenP_ne h
          · exact lenP_ne h
theorem stoF_ne {bt : Nat → Int} {N lim a : Nat} {o : List Int} {e : Int} (h : stoF bt N lim a o = .err e) : e ≠ 0 := by
  unfold stoF at h
  repeat (split at h; (simp only [Res.err.injEq] at h; omega))
  cases h
theorem It_le {f : Nat → List Int → Stp} {N : Nat} (hg : ∀ a o a' o', a ≤ N → f a o = .go a' o' → a' ≤ N) (hs : ∀ a o a' o', a ≤ N → f a o = .stop a' o' → a' ≤ N) {a : Nat} {o : List Int} {r : Res} (h : It f a o r) : a ≤ N → ∀ a' o', r = .ok a' o' → a' ≤ N := by
  induction h with
  | err _ => intro _ a' o' h; cases h
  | stop h => intro ha a' o' h'; cases h'; exact hs _ _ _ _ ha h
  | go h _ ih => intro ha; exact ih (hg _ _ _ _ ha h)
theorem It_neN {f : Nat → List Int → Stp} {N : Nat} (hg : ∀ a o a' o', a ≤ N → f a o = .go a' o' → a' ≤ N) (hf : ∀ a o e, a ≤ N → f a o = .err e → e ≠ 0) {a : Nat} {o : List Int} {r : Res} (h : It f a o r) : a ≤ N → ∀ e, r = .err e → e ≠ 0 := by
  induction h with
  | err h => intro ha e he; cases he; exact hf _ _ _ ha h
  | stop _ => intro _ e he; cases he
  | go h _ ih => intro ha; exact ih (hg _ _ _ _ ha h)
theorem blkF_le {bt : Nat → Int} {N lim a a' : Nat} {L D o o' : List Int} (ha : a ≤ N) (h : blkF bt N lim L D a o = .stop a' o') : a' ≤ N := by
  unfold blkF at h
  split at h
  · cases h
  · rename_i i a1 hs
    have := symS_gt hs ha
    split at h
    · simp only [Stp.stop.injEq] at h; omega
    · split at h
      · split at h <;> cases h
      · split at h
        · cases h
        · split at h
          · cases h
          · exact (blk2_stop h).elim
theorem lenF_le {bt : Nat → Int} {N a a' many : Nat} {C l l' : List Int} (ha : a ≤ N) (h : lenF bt N C many a l = .stop a' l') : a' ≤ N := by
  have := lenF_ge (.inr h)
  unfold lenF at h
  split at h
  · simp only [Stp.stop.injEq] at h; omega
  · exfalso
    split at h
    · cases h
    · split at h
      · split at h
        · cases h
        · split at h
          · cases h
          · unfold lenP at h; split at h <;> cases h
      · split at h
        · split at h
          · cases h
          · unfold lenP at h; split at h <;> cases h
        · split at h
          · split at h
            · cases h
            · unfold lenP at h; split at h <;> cases h
          · unfold lenP at h; split at h <;> cases h
theorem itblk_le {bt : Nat → Int} {N lim a a' : Nat} {L D o o' : List Int} (ha : a ≤ N) (h : itF (blkF bt N lim L D) a o = .ok a' o') : a' ≤ N :=
  It_le (N := N) (fun _ _ _ _ ha h => (blkF_gt ha h).2) (fun _ _ _ _ => blkF_le) (itF_ok h) ha _ _ rfl
theorem itlen_le {bt : Nat → Int} {N many a a' : Nat} {C l l' : List Int} (ha : a ≤ N) (h : itF (lenF bt N C many) a l = .ok a' l') : a' ≤ N :=
  It_le (N := N) (fun _ _ _ _ ha h => (lenF_gt ha h).2) (fun _ _ _ _ => lenF_le) (itF_ok h) ha _ _ rfl
theorem itblk_ne {bt : Nat → Int} {N lim a : Nat} {L D o : List Int} {e : Int} (ha : a ≤ N) (h : itF (blkF bt N lim L D) a o = .err e) : e ≠ 0 :=
  itF_ne (N := N) (fun _ _ _ _ => blkF_gt) (fun _ _ _ => blkF_ne) ha h
theorem desF_ne {bt : Nat → Int} {N lim a : Nat} {o : List Int} {e : Int} (h : desF bt N lim a o = .err e) : e ≠ 0 := by
  unfold desF at h
  split at h
  · simp only [Res.err.injEq] at h; omega
  · split at h
    · simp only [Res.err.injEq] at h; omega
    · split at h
      · simp only [Res.err.injEq] at h; omega
      · unfold des1 at h
        split at h
        · simp only [Res.err.injEq] at h; omega
        · split at h
          · simp only [Res.err.injEq] at h; omega
          · split at h
            · simp only [Res.err.injEq] at h; omega
            · split at h
              · rename_i hl
                simp only [Res.err.injEq] at h
                exact h ▸ itF_ne (N := N) (fun _ _ _ _ => lenF_gt) (fun _ _ _ => lenF_ne) (by omega) hl
              · rename_i a1 l1 hl
                have ha1 := itlen_le (by omega) hl
                unfold des2 at h
                split at h
                · simp only [Res.err.injEq] at h; omega
                · split at h
                  · simp only [Res.err.injEq] at h; omega
                  · split at h
                    · simp only [Res.err.injEq] at h; omega
                    · exact itblk_ne ha1 h
theorem desF_le {bt : Nat → Int} {N lim a a' : Nat} {o o' : List Int} (h : desF bt N lim a o = .ok a' o') : a' ≤ N := by
  unfold desF at h
  split at h
  · cases h
  · split at h
    · cases h
    · split at h
      · cases h
      · unfold des1 at h
        split at h
        · cases h
        · split at h
          · cases h
          · split at h
            · cases h
            · split at h
              · cases h
              · rename_i a1 l1 hl
                have ha1 := itlen_le (by omega) hl
                unfold des2 at h
                split at h
                · cases h
                · split at h
                  · cases h
                  · split at h
                    · cases h
                    · exact itblk_le ha1 h
theorem stoF_le {bt : Nat → Int} (hb : ∀ j, bt j = 0 ∨ bt j = 1) {N lim a a' : Nat} {o o' : List Int} (h : stoF bt N lim a o = .ok a' o') : a' ≤ N := by
  have hn := (nbt_bd bt hb (upto8 a) 16).1
  unfold stoF at h
  split at h
  · cases h
  · split at h
    · cases h
    · split at h
      · cases h
      · split at h
        · cases h
        · split at h
          · cases h
          · simp only [Res.ok.injEq] at h; omega
theorem kndF_ne {bt : Nat → Int} {N lim a : Nat} {k : Int} {o : List Int} {e : Int} (ha : a ≤ N) (h : kndF bt N lim k a o = .err e) : e ≠ 0 := by
  unfold kndF at h
  split at h
  · exact stoF_ne h
  · split at h
    · exact itblk_ne ha h
    · split at h
      · exact desF_ne h
      · simp only [Res.err.injEq] at h; omega
theorem kndF_le {bt : Nat → Int} (hb : ∀ j, bt j = 0 ∨ bt j = 1) {N lim a a' : Nat} {k : Int} {o o' : List Int} (ha : a ≤ N) (h : kndF bt N lim k a o = .ok a' o') : a' ≤ N := by
  unfold kndF at h
  split at h
  · exact stoF_le hb h
  · split at h
    · exact itblk_le ha h
    · split at h
      · exact desF_le h
      · cases h
theorem rdF_ne {bt : Nat → Int} {N lim a : Nat} {o : List Int} {e : Int} (h : rdF bt N lim a o = .err e) : e ≠ 0 := by
  unfold rdF at h
  split at h
  · simp only [Stp.err.injEq] at h; omega
  · split at h
    · simp only [Stp.err.injEq] at h; omega
    · split at h
      · rename_i hk
        simp only [Stp.err.injEq] at h
        exact h ▸ kndF_ne (by omega) hk
      · split at h <;> cases h
theorem ALLR_ne {B : List Int} {lim : Nat} {e : Int} (h : ALLR B lim (.err e)) : e ≠ 0 := It_ne (fun _ _ _ => rdF_ne) h e rfl
end Go.Proofs.Ytbiocgenbgbfpaa

set_option linter.unusedVariables false
set_option linter.unusedSimpArgs false
namespace Go.Proofs.Ytbiocgenbgbfpaa
open Sx Go
/-! what inflate.Read hands out are bytes -/
theorem symS_nn {bt : Nat → Int} {N a a1 : Nat} {L : List Int} {i : Int} (h : symS bt N L a = .ok i a1) : 0 ≤ i := by
  obtain ⟨i', u, r, h1, h2⟩ := symS_RD bt N L a
  rw [h2] at h
  split at h
  · rename_i hr
    subst hr
    simp only [Sy.ok.injEq] at h
    obtain ⟨rfl, rfl⟩ := h
    rcases h1 with ⟨j, rfl, _, ⟨n, hj, h0, hn, hle, _⟩, hu⟩ | ⟨_, _, h | h | ⟨_, _, h | h⟩⟩ <;> omega
  · cases h
theorem It_okb {f : Nat → List Int → Stp} (hg : ∀ a o a' o', OKB o → f a o = .go a' o' → OKB o') (hs : ∀ a o a' o', OKB o → f a o = .stop a' o' → OKB o') {a : Nat} {o : List Int} {r : Res} (h : It f a o r) : OKB o → ∀ a' o', r = .ok a' o' → OKB o' := by
  induction h with
  | err h => intro ho a' o' he; cases he
  | stop h => intro ho a' o' he; cases he; exact hs _ _ _ _ ho h
  | go h _ ih => intro ho; exact ih (hg _ _ _ _ ho h)
theorem cpy_okb {o : List Int} (ho : OKB o) (back : Nat) : ∀ n, OKB (cpy o back n)
  | 0 => ho
  | n + 1 => OKB_app (cpy_okb ho back n) (OKB_rep (cpy_okb ho back n _) 1)
theorem blk2_okb {bt : Nat → Int} {N lim a a' : Nat} {D o o' : List Int} {len : Int} (ho : OKB o) (h : blk2 bt N lim D o len a = .go a' o') : OKB o' := by
  unfold blk2 at h
  split at h
  · cases h
  · split at h
    · cases h
    · split at h
      · cases h
      · split at h
        · cases h
        · split at h
          · cases h
          · simp only [Stp.go.injEq] at h
            rw [← h.2]; exact cpy_okb ho _ _
theorem blk2_nostop {bt : Nat → Int} {N lim a a' : Nat} {D o o' : List Int} {len : Int} (h : blk2 bt N lim D o len a = .stop a' o') : False := by
  unfold blk2 at h
  split at h
  · cases h
  · split at h
    · cases h
    · split at h
      · cases h
      · split at h
        · cases h
        · split at h <;> cases h
theorem blkF_okb {bt : Nat → Int} {N lim a a' : Nat} {L D o o' : List Int} (ho : OKB o) (h : blkF bt N lim L D a o = .go a' o' ∨ blkF bt N lim L D a o = .stop a' o') : OKB o' := by
  unfold blkF at h
  split at h
  · rcases h with h | h <;> cases h
  · rename_i i a1 hs
    have hi := symS_nn hs
    split at h
    · rcases h with h | h
      · cases h
      · simp only [Stp.stop.injEq] at h; rw [← h.2]; exact ho
    · split at h
      · split at h
        · rcases h with h | h <;> cases h
        · rcases h with h | h
          · simp only [Stp.go.injEq] at h
            rw [← h.2]; exact OKB_app ho (OKB_rep ⟨hi, by omega⟩ 1)
          · cases h
      · split at h
        · rcases h with h | h <;> cases h
        · split at h
          · rcases h with h | h <;> cases h
          · rcases h with h | h
            · exact blk2_okb ho h
            · exact (blk2_nostop h).elim
theorem itblk_okb {bt : Nat → Int} {N lim a a' : Nat} {L D o o' : List Int} (ho : OKB o) (h : itF (blkF bt N lim L D) a o = .ok a' o') : OKB o' :=
  It_okb (fun _ _ _ _ ho h => blkF_okb ho (.inl h)) (fun _ _ _ _ ho h => blkF_okb ho (.inr h)) (itF_ok h) ho _ _ rfl
theorem byts_okb {bt : Nat → Int} (hb : ∀ j, bt j = 0 ∨ bt j = 1) (a n : Nat) : OKB (byts bt a n) := by
  refine OKB_of (List.all_eq_true.2 fun x hx => ?_)
  obtain ⟨j, _, rfl⟩ := List.mem_map.1 hx
  have := nbt_bd bt hb (a + 8 * j) 8
  exact decide_eq_true ⟨this.1, this.2⟩
theorem kndF_okb {bt : Nat → Int} (hb : ∀ j, bt j = 0 ∨ bt j = 1) {N lim a a' : Nat} {k : Int} {o o' : List Int} (ho : OKB o) (h : kndF bt N lim k a o = .ok a' o') : OKB o' := by
  unfold kndF at h
  split at h
  · unfold stoF at h
    split at h; · cases h
    split at h; · cases h
    split at h; · cases h
    split at h; · cases h
    split at h; · cases h
    simp only [Res.ok.injEq] at h
    rw [← h.2]; exact OKB_app ho (byts_okb hb _ _)
  · split at h
    · exact itblk_okb ho h
    · split at h
      · unfold desF at h
        split at h; · cases h
        split at h; · cases h
        split at h; · cases h
        unfold des1 at h
        split at h; · cases h
        split at h; · cases h
        split at h; · cases h
        split at h; · cases h
        unfold des2 at h
        split at h; · cases h
        split at h; · cases h
        split at h; · cases h
        exact itblk_okb ho h
      · cases h
theorem rdF_okb {bt : Nat → Int} (hb : ∀ j, bt j = 0 ∨ bt j = 1) {N lim a a' : Nat} {o o' : List Int} (ho : OKB o) (h : rdF bt N lim a o = .go a' o' ∨ rdF bt N lim a o = .stop a' o') : OKB o' := by
  unfold rdF at h
  split at h; · rcases h with h | h <;> cases h
  split at h; · rcases h with h | h <;> cases h
  split at h
  · rcases h with h | h <;> cases h
  · rename_i a1 o1 hk
    have := kndF_okb hb ho hk
    split at h
    · rcases h with h | h
      · simp only [Stp.go.injEq] at h; rw [← h.2]; exact this
      · cases h
    · rcases h with h | h
      · cases h
      · simp only [Stp.stop.injEq] at h; rw [← h.2]; exact this
theorem ALLR_okb {B : List Int} {lim a : Nat} {o : List Int} (h : ALLR B lim (.ok a o)) : OKB o :=
  It_okb (fun _ _ _ _ ho h => rdF_okb (bitB_01 B 0) ho (.inl h)) (fun _ _ _ _ ho h => rdF_okb (bitB_01 B 0) ho (.inr h)) h (fun j => by simp) _ _ rfl
end Go.Proofs.Ytbiocgenbgbfpaa

set_option linter.unusedVariables false
set_option linter.unusedSimpArgs false
namespace Go.Proofs.Ytbiocgenbgbfpaa
open Sx Go
/-- what comes behind the deflated part -/
def ZT (B : List Int) (r : Res) (e : Int) (o : List Int) : Prop :=
  match r with
  | .err x => e = x ∧ o = []
  | .ok a o' => ((B.drop (2 + (a + 7) / 8)).length < 4 ∧ e = 20 ∧ o = []) ∨ (4 ≤ (B.drop (2 + (a + 7) / 8)).length ∧
      (((B.drop (2 + (a + 7) / 8)).take 4 ≠ sb4 (adl o') ∧ e = 91 ∧ o = []) ∨ ((B.drop (2 + (a + 7) / 8)).take 4 = sb4 (adl o') ∧
        ((4 < (B.drop (2 + (a + 7) / 8)).length ∧ e = 92 ∧ o = []) ∨ ((B.drop (2 + (a + 7) / 8)).length = 4 ∧ e = 0 ∧ o = o')))))
/-- what opening answers -/
def ZR (B : List Int) (L : Int) (e : Int) (o : List Int) : Prop :=
  ((L < 0 ∨ 1048576 < L) ∧ e = 1 ∧ o = []) ∨ ((0 ≤ L ∧ L ≤ 1048576) ∧ ((B.length < 2 ∧ e = 20 ∧ o = []) ∨ (2 ≤ B.length ∧
    ((¬ hdOK B ∧ e = 90 ∧ o = []) ∨ (hdOK B ∧ ∃ r, ALLR (B.drop 2) L.toNat r ∧ ZT B r e o)))))
theorem ZT_one {B : List Int} {r : Res} {e e' : Int} {o o' : List Int} (h : ZT B r e o) (h' : ZT B r e' o') : e = e' ∧ o = o' := by
  cases r with
  | err x => exact ⟨h.1.trans h'.1.symm, h.2.trans h'.2.symm⟩
  | ok a q =>
    rcases h with ⟨h1, rfl, rfl⟩ | ⟨h1, h | ⟨h2, h | h⟩⟩ <;> rcases h' with ⟨g1, rfl, rfl⟩ | ⟨g1, g | ⟨g2, g | g⟩⟩ <;> first | (exfalso; omega) | skip
    · exact ⟨rfl, rfl⟩
    · exact ⟨h.2.1.trans g.2.1.symm, h.2.2.trans g.2.2.symm⟩
    · exact absurd g2 h.1
    · exact absurd g2 h.1
    · exact absurd h2 g.1
    · exact ⟨h.2.1.trans g.2.1.symm, h.2.2.trans g.2.2.symm⟩
    · exact absurd h2 g.1
    · exact ⟨h.2.1.trans g.2.1.symm, h.2.2.trans g.2.2.symm⟩
theorem ZR_one {B : List Int} {L e e' : Int} {o o' : List Int} (h : ZR B L e o) (h' : ZR B L e' o') : e = e' ∧ o = o' := by
  rcases h with ⟨h1, rfl, rfl⟩ | ⟨h1, ⟨h2, rfl, rfl⟩ | ⟨h2, ⟨h3, rfl, rfl⟩ | ⟨h3, r, h4, h5⟩⟩⟩ <;> rcases h' with ⟨g1, rfl, rfl⟩ | ⟨g1, ⟨g2, rfl, rfl⟩ | ⟨g2, ⟨g3, rfl, rfl⟩ | ⟨g3, r', g4, g5⟩⟩⟩ <;> first | (exfalso; omega) | exact ⟨rfl, rfl⟩ | exact absurd g3 h3 | exact absurd h3 g3 | skip
  rw [It.one h4 g4] at h5
  exact ZT_one h5 g5
section
variable {w0 : World} {H : List Asn}
set_option maxRecDepth 10000 in
/-- the reference's Pack -/
theorem RPack9_c (p : Option Addr) (c m : Nat) (B : List Int) (hr : Rd w0 H (.slice p m c) m (ints .u8 B)) (hm : B.length = m) (hB : OKB B) (h4 : m ≤ 100000) (w : World) (hw : St w0 H w) :
    Calls Try.prog 21 #[.slice p m c] w fun e w' => ∃ q d, e = .returned (.slice q (pkB B).length d) ∧ St w0 (vec 5 1 (.slice q (pkB B).length d) (pkB B).length (ints .u8 (pkB B)) :: H) w' := by
  refine enter (vs := [.slice p m c]) Try.func21 rfl rfl rfl hw ?_
  clear hw w
  have o3 : OKB (bestB B) := by have o1 := pack_okb' (fixL B) (fixL_01 B); have o2 := sbs_okb hB; unfold bestB; split <;> assumption
  have o4 := bestB_pos B
  have o5 := bestB_len hB
  obtain ⟨E, hE⟩ : ∃ E, bestB B = E := ⟨_, rfl⟩
  obtain ⟨s, hs⟩ : ∃ s, adl B = s := ⟨_, rfl⟩
  have hD := fun {H} hr w hw => RBest_c (H := H) (w0 := w0) p c m B hr hm hB h4 w hw
  have hS := fun {H} hr w hw => RSum9_c (H := H) (w0 := w0) p c m B hr hm hB (by omega) w hw
  have hP : pkB B = [120, 1] ++ E ++ sb4 s := by unfold pkB; rw [hE, hs]
  have hl : ([120, 1] ++ E ++ sb4 s).length = 2 + E.length + 4 := by simp [sb4]; omega
  rw [hE] at o3 o4 o5 hD
  rw [hs] at hS
  rw [hP, hl]
  repeat (first | (refine sx ?_; try intro _))
  refine JO_call Try.call38 rfl rfl fun w hw => (hD (Rd_weak hr fun w hw => St.sub (by repeat (first | exact List.Sublist.refl _ | apply List.Sublist.cons_cons | apply List.Sublist.cons)) hw) w hw).mono ?_
  rintro e w' ⟨q1, d1, rfl, hw'⟩
  refine ⟨_, rfl, _, hw', ?_⟩
  clear hw' hw w w'
  repeat (first | (apply gJO; (refine JO_app (tb := tb) rfl rfl rfl rfl rfl rfl (by repeat (first | exact Sel.here _ _ | apply Sel.there)) (by first | exact vec_rd (by repeat (first | apply List.Mem.head | apply List.Mem.tail)) | assumption | exact ArgRd.rd (by assumption) _ | (apply Rd_weak; assumption; intro _ hx; exact St.sub (by repeat (first | exact List.Sublist.refl _ | apply List.Sublist.cons_cons | apply List.Sublist.cons)) hx)) (by simp only [ints_len, List.length_cons, List.length_nil]; first | omega | rfl) (by first | exact ints_one | (repeat (first | exact trivial | refine ⟨rfl, ?_⟩))) (by omega) rfl ?_; intro _ _)) | (first | (refine sx ?_; try intro _)))
  refine JO_call Try.call39 rfl rfl fun w hw => (hS (Rd_weak hr fun w hw => St.sub (by repeat (first | exact List.Sublist.refl _ | apply List.Sublist.cons_cons | apply List.Sublist.cons)) hw) w hw).mono ?_
  rintro e w' ⟨q2, d2, rfl, hw'⟩
  refine ⟨_, rfl, _, hw', ?_⟩
  clear hw' hw w w'
  repeat (first | (apply gJO; (refine JO_app (tb := tb) rfl rfl rfl rfl rfl rfl (by repeat (first | exact Sel.here _ _ | apply Sel.there)) (by first | exact vec_rd (by repeat (first | apply List.Mem.head | apply List.Mem.tail)) | assumption | exact ArgRd.rd (by assumption) _ | (apply Rd_weak; assumption; intro _ hx; exact St.sub (by repeat (first | exact List.Sublist.refl _ | apply List.Sublist.cons_cons | apply List.Sublist.cons)) hx)) (by simp only [ints_len, List.length_cons, List.length_nil]; first | omega | rfl) (by first | exact ints_one | (repeat (first | exact trivial | refine ⟨rfl, ?_⟩))) (by omega) rfl ?_; intro _ _)) | (first | (refine sx ?_; try intro _)))
  exact JS_ret Try.func21 rfl rfl fun w hw => ⟨_, _, rfl, by rw [← ints_app, ← ints_app]; exact St.sub (by repeat (first | exact List.Sublist.refl _ | apply List.Sublist.cons_cons | apply List.Sublist.cons)) hw⟩
set_option maxRecDepth 10000 in
/-- the reference's Open -/
theorem ROpen9_c (p : Option Addr) (c m : Nat) (B : List Int) (hr : Rd w0 H (.slice p m c) m (ints .u8 B)) (hm : B.length = m) (hB : OKB B) (h4 : m ≤ 100000) (L : Int) (hL : -9223372036854775808 ≤ L ∧ L < 9223372036854775808) (w : World) (hw : St w0 H w) :
    Calls Try.prog 23 #[.slice p m c, .int .i64 L] w fun e w' => ∃ x o q d, ZR B L x o ∧ e = .returned (.tuple #[.slice q o.length d, .int .i64 x]) ∧ St w0 (vec 5 1 (.slice q o.length d) o.length (ints .u8 o) :: H) w' := by
  have hend : ∀ {x : Int} {w : World}, ZR B L x [] → St w0 H w → ∃ x' o q d, ZR B L x' o ∧ (Ending.returned (.tuple #[.slice none 0 0, .int .i64 x]) : Ending) = .returned (.tuple #[.slice q o.length d, .int .i64 x']) ∧ St w0 (vec 5 1 (.slice q o.length d) o.length (ints .u8 o) :: H) w :=
    fun {x w} hz hw => ⟨x, [], none, 0, hz, rfl, hw.nilvec⟩
  have hmc : m ≤ c := (hr.lcap hw).1
  refine enter (vs := [.slice p m c, .int .i64 L]) Try.func23 rfl rfl rfl hw ?_
  clear hw w
  by_cases h1 : L < 0
  · repeat (first | (refine sx ?_; try intro _))
    exact JS_ret Try.func23 rfl rfl fun w hw => hend (.inl ⟨.inl h1, rfl, rfl⟩) hw
  by_cases h2 : 1048576 < L
  · repeat (first | (refine sx ?_; try intro _))
    exact JS_ret Try.func23 rfl rfl fun w hw => hend (.inl ⟨.inr h2, rfl, rfl⟩) hw
  have hrr : ∀ {x o}, ((B.length < 2 ∧ x = 20 ∧ o = []) ∨ (2 ≤ B.length ∧ ((¬ hdOK B ∧ x = 90 ∧ o = []) ∨ (hdOK B ∧ ∃ r, ALLR (B.drop 2) L.toNat r ∧ ZT B r x o)))) → ZR B L x o := fun h => .inr ⟨⟨by omega, by omega⟩, h⟩
  by_cases h3 : m < 2
  · repeat (first | (refine sx ?_; try intro _))
    exact JS_ret Try.func23 rfl rfl fun w hw => hend (hrr (.inl ⟨by omega, rfl, rfl⟩)) hw
  repeat (first | (refine sx ?_; try intro _))
  refine JO_call Try.call25 rfl rfl fun w hw => (RHead_c p c m B (Rd_weak hr fun w hw => St.sub (by repeat (first | exact List.Sublist.refl _ | apply List.Sublist.cons_cons | apply List.Sublist.cons)) hw) hm hB w hw).mono ?_
  rintro e w' ⟨rfl, hw'⟩
  refine ⟨_, rfl, _, hw', ?_⟩
  clear hw' hw w w'
  by_cases h5 : hdOK B
  · rw [show decide (hdOK B) = true from decide_eq_true h5]
    repeat (first | (apply gJO; refine JO_v (V_slice (tb := tb) (lo := 2) (hi := m) rfl rfl rfl rfl rfl rfl (by omega) (fun w hw => ⟨by omega, by omega⟩) rfl) ?_) | first | (refine sx ?_; try intro _))
    refine JO_call Try.call42 rfl rfl fun w hw => (RIRead_c (subB p 2 c 1) (c - 2) (m - 2) (B.drop 2) (Rd_weak (Rd_drop hr hm (by omega)) fun w hw => St.sub (by repeat (first | exact List.Sublist.refl _ | apply List.Sublist.cons_cons | apply List.Sublist.cons)) hw) (by rw [List.length_drop]; omega) (OKB_drop hB 2) (by omega) L hL w hw).mono ?_
    rintro e w' (⟨h, _⟩ | ⟨_, _, r, hA, hp⟩)
    · omega
    obtain ⟨hz, hz'⟩ : (∀ {x o}, ZT B r x o → ZR B L x o) ∧ True := ⟨fun h => hrr (.inr ⟨by omega, .inr ⟨h5, r, hA, h⟩⟩), trivial⟩
    clear hrr hz'
    cases r with
    | err x =>
      obtain ⟨hx, rfl, hw'⟩ := hp
      refine ⟨_, rfl, _, hw', ?_⟩
      clear hw' hw w w'
      repeat (first | (refine sx ?_; try intro _))
      exact JS_ret Try.func23 rfl rfl fun w hw => hend (hz ⟨rfl, rfl⟩) hw
    | ok a o =>
    obtain ⟨ha, ho, q, d, rfl, hw'⟩ := hp
    refine ⟨_, rfl, _, hw', ?_⟩
    clear hw' hw w w'
    obtain ⟨t, ht⟩ : ∃ t, (a + 7) / 8 = t := ⟨_, rfl⟩
    have hto : t ≤ m - 2 := by omega
    have hTl : (B.drop (2 + t)).length = m - (2 + t) := by rw [List.length_drop, hm]
    have hrT := Rd_drop (n := 2 + t) hr hm (by omega)
    obtain ⟨T, hT⟩ : ∃ T, B.drop (2 + t) = T := ⟨_, rfl⟩
    have hz2 : ∀ {x o'}, ((T.length < 4 ∧ x = 20 ∧ o' = []) ∨ (4 ≤ T.length ∧ ((T.take 4 ≠ sb4 (adl o) ∧ x = 91 ∧ o' = []) ∨ (T.take 4 = sb4 (adl o) ∧ ((4 < T.length ∧ x = 92 ∧ o' = []) ∨ (T.length = 4 ∧ x = 0 ∧ o' = o)))))) → ZR B L x o' := fun h => hz (by unfold ZT; dsimp only; rw [ht, hT]; exact h)
    rw [hT] at hTl hrT
    rw [ht]
    clear hz
    repeat (first | (apply gJO; refine JO_v (V_slice (tb := tb) (lo := 2 + t) (hi := m) rfl rfl rfl rfl rfl (by omega) (by omega) (fun w hw => ⟨by omega, by omega⟩) rfl) ?_) | first | (refine sx ?_; try intro _))
    by_cases h6 : m - (2 + t) < 4
    · repeat (first | (refine sx ?_; try intro _))
      exact JS_ret Try.func23 rfl rfl fun w hw => hend (hz2 (.inl ⟨by omega, rfl, rfl⟩)) hw.drop
    have hr4 := Rd_take (n := 4) hrT hTl (by omega)
    have hl4 : (T.take 4).length = 4 := by rw [List.length_take]; omega
    have hoB : OKB o := ALLR_okb hA
    have hTo : OKB T := by rw [← hT]; exact OKB_drop hB _
    have hadl := adl_bd hoB
    obtain ⟨s, hs⟩ : ∃ s, adl o = s := ⟨_, rfl⟩
    repeat (first | apply hIx 13 | first | (refine sx ?_; try intro _))
    refine Hold.go ?_
    refine JS_seq ?_
    refine JS_draw [] (by kernel_rfl) (by kernel_rfl) (by decide +kernel) ?_
    repeat (first | (apply gQO; first | refine QO_v rfl (V_slice (tb := tb) (lo := 0) (hi := 4) rfl rfl rfl rfl rfl (by rfl) (by rfl) (fun w hw => ⟨by omega, by omega⟩) rfl) ?_ | refine QO_v rfl (V_str (tb := tb) rfl (Rd_weak hr4 fun w hw => St.sub (by repeat (first | exact List.Sublist.refl _ | apply List.Sublist.cons_cons | apply List.Sublist.cons)) hw) hl4 rfl rfl rfl rfl) ?_) | first | (refine sx ?_; try intro _))
    refine QO_call Try.call39 rfl rfl fun w hw => (RSum9_c q d o.length o (vec_rd (by repeat (first | apply List.Mem.head | apply List.Mem.tail))) rfl hoB (by omega) w hw).mono ?_
    rintro e w' ⟨q2, d2, rfl, hw'⟩
    refine ⟨_, rfl, _, hw', .inl fun w hw => St.sub (by repeat (first | exact List.Sublist.refl _ | apply List.Sublist.cons_cons | apply List.Sublist.cons)) hw, ?_⟩
    clear hw' hw w w'
    rw [hs] at hz2 hadl ⊢
    have hsb : OKB (sb4 s) := OKB_of (by simp only [sb4, List.all_cons, List.all_nil, Bool.and_true, Bool.and_eq_true, decide_eq_true_eq]; omega)
    have hT4 : OKB (T.take 4) := OKB_take hTo 4
    by_cases h7 : T.take 4 = sb4 s
    · rw [h7]
      repeat (first | (apply gQO; first | refine QO_v rfl (V_str (tb := tb) rfl (vec_rd (cs := ints .u8 (sb4 s)) (List.Mem.head _)) rfl rfl rfl rfl rfl) ?_ | refine QO_v rfl (V_neStrF (A := sb4 s) rfl rfl hsb rfl) ?_) | apply hIx 15 | first | (refine sx ?_; try intro _))
      by_cases h8 : 4 < m - (2 + t)
      · refine Hold.go ?_
        repeat (first | (refine sx ?_; try intro _))
        exact JS_ret Try.func23 rfl rfl fun w hw => hend (hz2 (.inr ⟨by omega, .inr ⟨h7, .inl ⟨by omega, rfl, rfl⟩⟩⟩)) hw.drop.drop
      · refine Hold.go ?_
        repeat (first | (refine sx ?_; try intro _))
        exact JS_ret Try.func23 rfl rfl fun w hw => ⟨0, o, q, d, hz2 (.inr ⟨by omega, .inr ⟨h7, .inr ⟨by omega, rfl, rfl⟩⟩⟩), rfl, hw.drop⟩
    · have hne : decide (T.take 4 ≠ sb4 s) = true := decide_eq_true h7
      repeat (first | (apply gQO; first | refine QO_v rfl (V_str (tb := tb) rfl (vec_rd (cs := ints .u8 (sb4 s)) (List.Mem.head _)) rfl rfl rfl rfl rfl) ?_ | (refine QO_v rfl (V_neStr rfl rfl hT4 hsb rfl) ?_; rw [hne])) | first | (refine sx ?_; try intro _))
      exact JS_ret Try.func23 rfl rfl fun w hw => hend (hz2 (.inr ⟨by omega, .inl ⟨h7, rfl, rfl⟩⟩)) hw.drop.drop
  · rw [show decide (hdOK B) = false from decide_eq_false h5]
    repeat (first | (refine sx ?_; try intro _))
    exact JS_ret Try.func23 rfl rfl fun w hw => hend (hrr (.inr ⟨by omega, .inl ⟨h5, rfl, rfl⟩⟩)) hw
end
end Go.Proofs.Ytbiocgenbgbfpaa

set_option linter.unusedVariables false
set_option linter.unusedSimpArgs false
namespace Go.Proofs.Ytbiocgenbgbfpaa
open Sx Go
theorem eq66 (a b : List Int) (ha : a.length = 4) (hb : b.length = 4) (w : World) : (Op.equalIn 10000 66 (.agg (ints .u8 a).toArray) (.agg (ints .u8 b).toArray)).run Try.prog w = .ok (decide (a = b)) w := by
  match a, ha, b, hb with
  | [a0, a1, a2, a3], _, [b0, b1, b2, b3], _ =>
  have hu : Try.prog.underlying 66 = some (.array 4 5) := by kernel_rfl
  have hs : (Try.prog.info? 5).isSome = true := by kernel_rfl
  obtain ⟨i, hi⟩ := Option.isSome_iff_exists.1 hs
  have e0 := und_int (tb := tb) (t := 5) rfl
  have hc : Try.prog.cellsOf 5 = 1 := by kernel_rfl
  have hp : Try.prog.plainKey 5 = true := by kernel_rfl
  have E : ∀ x y : Int, (Op.equalIn 9999 5 (.int .u8 x) (.int .u8 y)).run Try.prog w = .ok (x == y) w := fun x y => run_equalIn_int (P := Try.prog) w 9998 5 .u8 .u8 x y e0
  have P : ∀ (xs : Array Value) (j : Nat) (v : Value), xs[j]? = some v → (part 5 xs j).run Try.prog w = .ok v w := fun xs j v h => run_part_plain (P := Try.prog) (w := w) (e := 5) hp h
  rw [run_equalIn_array (P := Try.prog) (w := w) 9999 _ _ hu hi, hc]
  have r4 : List.range 4 = [0, 1, 2, 3] := rfl
  have p0 := P (ints .u8 [a0, a1, a2, a3]).toArray 0 (.int .u8 a0) rfl
  have p1 := P (ints .u8 [a0, a1, a2, a3]).toArray 1 (.int .u8 a1) rfl
  have p2 := P (ints .u8 [a0, a1, a2, a3]).toArray 2 (.int .u8 a2) rfl
  have p3 := P (ints .u8 [a0, a1, a2, a3]).toArray 3 (.int .u8 a3) rfl
  have q0 := P (ints .u8 [b0, b1, b2, b3]).toArray 0 (.int .u8 b0) rfl
  have q1 := P (ints .u8 [b0, b1, b2, b3]).toArray 1 (.int .u8 b1) rfl
  have q2 := P (ints .u8 [b0, b1, b2, b3]).toArray 2 (.int .u8 b2) rfl
  have q3 := P (ints .u8 [b0, b1, b2, b3]).toArray 3 (.int .u8 b3) rfl
  rw [r4]
  simp only [Op.eqItems, Nat.zero_mul, Nat.mul_one, Sem.run_bind, p0, p1, p2, p3, q0, q1, q2, q3, E, Result.andThen_ok, Sem.run_ite, Sem.run_pure]
  by_cases h0 : a0 = b0 <;> by_cases h1 : a1 = b1 <;> by_cases h2 : a2 = b2 <;> by_cases h3 : a3 = b3 <;> simp [h0, h1, h2, h3]
theorem m66 : Try.prog.eqGuardType Try.prog.depth 66 = false := by kernel_rfl
section
variable {w0 : World} {H : List Asn}
set_option maxRecDepth 10000 in
theorem Opened_c (p : Option Addr) (c m : Nat) (B : List Int) (hr : Rd w0 H (.slice p m c) m (ints .u8 B)) (hm : B.length = m) (hB : OKB B) (h4 : m ≤ 100000) (L : Int) (hL : -9223372036854775808 ≤ L ∧ L < 9223372036854775808) (w : World) (hw : St w0 H w) :
    Calls Try.prog 41 #[.slice p m c, .int .i64 L] w fun e w' => (∃ x, ZR B L x [] ∧ x ≠ 0 ∧ e = .panicked (FZ x) ∧ St w0 H w') ∨ (∃ o q d, ZR B L 0 o ∧ e = .returned (.slice q o.length d) ∧ St w0 (vec 5 1 (.slice q o.length d) o.length (ints .u8 o) :: H) w') := by
  have hmc : m ≤ c := (hr.lcap hw).1
  refine enter (vs := [.slice p m c, .int .i64 L]) Try.func41 rfl rfl rfl hw ?_
  clear hw w
  obtain ⟨b1, hb1⟩ : ∃ b, decide (0 ≤ L ∧ L ≤ 1048576) = b := ⟨_, rfl⟩
  by_cases h1 : L < 0
  · repeat (first | (refine sx ?_; try intro _))
    refine JO_callE Try.func41 Try.call61 rfl rfl fun A hA w hw => (Need_c _ 1 w hw).mono ?_
    rintro e w' (⟨h, rfl, hw'⟩ | ⟨h, rfl, hw'⟩)
    · cases h
    · exact .inr ⟨_, rfl, .inl ⟨1, .inl ⟨.inl h1, rfl, rfl⟩, by decide, rfl, hw'⟩⟩
  by_cases h2 : 1048576 < L
  · repeat (first | (refine sx ?_; try intro _))
    refine JO_callE Try.func41 Try.call61 rfl rfl fun A hA w hw => (Need_c _ 1 w hw).mono ?_
    rintro e w' (⟨h, rfl, hw'⟩ | ⟨h, rfl, hw'⟩)
    · cases h
    · exact .inr ⟨_, rfl, .inl ⟨1, .inl ⟨.inr h2, rfl, rfl⟩, by decide, rfl, hw'⟩⟩
  have hrr : ∀ {x o}, ((B.length < 2 ∧ x = 20 ∧ o = []) ∨ (2 ≤ B.length ∧ ((¬ hdOK B ∧ x = 90 ∧ o = []) ∨ (hdOK B ∧ ∃ r, ALLR (B.drop 2) L.toNat r ∧ ZT B r x o)))) → ZR B L x o := fun h => .inr ⟨⟨by omega, by omega⟩, h⟩
  repeat (first | (refine sx ?_; try intro _))
  refine JO_callE Try.func41 Try.call61 rfl rfl fun A hA w hw => (Need_c _ 1 w hw).mono ?_
  rintro e w' (⟨h, rfl, hw'⟩ | ⟨h, rfl, hw'⟩)
  rotate_left
  · exact absurd h (by first | (simp; done) | (simp; omega))
  refine .inl ⟨_, rfl, _, hw', ?_⟩
  clear hw' hw w w' hA A h
  by_cases h3 : m < 2
  · repeat (first | (refine sx ?_; try intro _))
    refine JO_callE Try.func41 Try.call61 rfl rfl fun A hA w hw => (Need_c _ 20 w hw).mono ?_
    rintro e w' (⟨h, rfl, hw'⟩ | ⟨h, rfl, hw'⟩)
    · exact absurd h (by first | (simp; done) | (simp; omega))
    · exact .inr ⟨_, rfl, .inl ⟨20, hrr (.inl ⟨by omega, rfl, rfl⟩), by decide, rfl, hw'⟩⟩
  repeat (first | (refine sx ?_; try intro _))
  refine JO_callE Try.func41 Try.call61 rfl rfl fun A hA w hw => (Need_c _ 20 w hw).mono ?_
  rintro e w' (⟨h, rfl, hw'⟩ | ⟨h, rfl, hw'⟩)
  rotate_left
  · exact absurd h (by first | (simp; done) | (simp; omega))
  refine .inl ⟨_, rfl, _, hw', ?_⟩
  clear hw' hw w w' hA A h
  repeat (first | (refine sx ?_; try intro _))
  refine JO_call Try.call24 rfl rfl fun w hw => (ZHead_c p c m B (Rd_weak hr fun w hw => St.sub (by repeat (first | exact List.Sublist.refl _ | apply List.Sublist.cons_cons | apply List.Sublist.cons)) hw) hm hB w hw).mono ?_
  rintro e w' ⟨rfl, hw'⟩
  refine ⟨_, rfl, _, hw', ?_⟩
  clear hw' hw w w'
  by_cases h5 : hdOK B
  rotate_left
  · rw [show decide (hdOK B) = false from decide_eq_false h5]
    repeat (first | (refine sx ?_; try intro _))
    refine JO_callE Try.func41 Try.call61 rfl rfl fun A hA w hw => (Need_c _ 90 w hw).mono ?_
    rintro e w' (⟨h, rfl, hw'⟩ | ⟨h, rfl, hw'⟩)
    · exact absurd h (by first | (simp; done) | (simp; omega))
    · exact .inr ⟨_, rfl, .inl ⟨90, hrr (.inr ⟨by omega, .inl ⟨h5, rfl, rfl⟩⟩), by decide, rfl, hw'⟩⟩
  rw [show decide (hdOK B) = true from decide_eq_true h5]
  repeat (first | (refine sx ?_; try intro _))
  refine JO_callE Try.func41 Try.call61 rfl rfl fun A hA w hw => (Need_c _ 90 w hw).mono ?_
  rintro e w' (⟨h, rfl, hw'⟩ | ⟨h, rfl, hw'⟩)
  rotate_left
  · exact absurd h (by first | (simp; done) | (simp; omega))
  refine .inl ⟨_, rfl, _, hw', ?_⟩
  clear hw' hw w w' hA A h
  repeat (first | (apply gJO; refine JO_v (V_slice (tb := tb) (lo := 2) (hi := m) rfl rfl rfl rfl rfl rfl (by omega) (fun w hw => ⟨by omega, by omega⟩) rfl) ?_) | first | (refine sx ?_; try intro _))
  refine JO_call Try.call62 rfl rfl fun w hw => (IRead_c (subB p 2 c 1) (c - 2) (m - 2) (B.drop 2) (Rd_weak (Rd_drop hr hm (by omega)) fun w hw => St.sub (by repeat (first | exact List.Sublist.refl _ | apply List.Sublist.cons_cons | apply List.Sublist.cons)) hw) (by rw [List.length_drop]; omega) (OKB_drop hB 2) (by omega) L hL w hw).mono ?_
  rintro e w' (⟨h, _⟩ | ⟨_, _, r, hA, hp⟩)
  · omega
  obtain ⟨hz, hz'⟩ : (∀ {x o}, ZT B r x o → ZR B L x o) ∧ True := ⟨fun h => hrr (.inr ⟨by omega, .inr ⟨h5, r, hA, h⟩⟩), trivial⟩
  clear hrr hz'
  cases r with
  | err x =>
    obtain ⟨rfl, hw'⟩ := hp
    have hx := ALLR_ne hA
    refine ⟨_, rfl, _, hw', ?_⟩
    clear hw' hw w w'
    repeat (first | (refine sx ?_; try intro _))
    refine JO_callE Try.func41 Try.call61 rfl rfl fun A hA w hw => (Need_c _ x w hw).mono ?_
    rintro e w' (⟨h, rfl, hw'⟩ | ⟨h, rfl, hw'⟩)
    · exact absurd h (by simp [hx])
    · exact .inr ⟨_, rfl, .inl ⟨x, hz ⟨rfl, rfl⟩, hx, rfl, hw'⟩⟩
  | ok a o =>
  obtain ⟨ha, ho, q, d, rfl, hw'⟩ := hp
  refine ⟨_, rfl, _, hw', ?_⟩
  clear hw' hw w w'
  obtain ⟨t, ht⟩ : ∃ t, (a + 7) / 8 = t := ⟨_, rfl⟩
  have hto : t ≤ m - 2 := by omega
  have hTl : (B.drop (2 + t)).length = m - (2 + t) := by rw [List.length_drop, hm]
  have hrT := Rd_drop (n := 2 + t) hr hm (by omega)
  obtain ⟨T, hT⟩ : ∃ T, B.drop (2 + t) = T := ⟨_, rfl⟩
  have hz2 : ∀ {x o'}, ((T.length < 4 ∧ x = 20 ∧ o' = []) ∨ (4 ≤ T.length ∧ ((T.take 4 ≠ sb4 (adl o) ∧ x = 91 ∧ o' = []) ∨ (T.take 4 = sb4 (adl o) ∧ ((4 < T.length ∧ x = 92 ∧ o' = []) ∨ (T.length = 4 ∧ x = 0 ∧ o' = o)))))) → ZR B L x o' := fun h => hz (by unfold ZT; dsimp only; rw [ht, hT]; exact h)
  have hoB : OKB o := ALLR_okb hA
  rw [hT] at hTl hrT
  rw [ht]
  clear hz
  repeat (first | (refine sx ?_; try intro _))
  refine JO_callE Try.func41 Try.call61 rfl rfl fun A hA w hw => (Need_c _ 0 w hw).mono ?_
  rintro e w' (⟨h, rfl, hw'⟩ | ⟨h, rfl, hw'⟩)
  rotate_left
  · exact absurd h (by first | (simp; done) | (simp; omega))
  refine .inl ⟨_, rfl, _, hw', ?_⟩
  clear hw' hw w w' hA A h
  repeat (first | (apply gJO; refine JO_v (V_slice (tb := tb) (lo := 2 + t) (hi := m) rfl rfl rfl rfl rfl (by omega) (by omega) (fun w hw => ⟨by omega, by omega⟩) rfl) ?_) | first | (refine sx ?_; try intro _))
  by_cases h6 : m - (2 + t) < 4
  · refine JO_callE Try.func41 Try.call61 rfl rfl fun A hA w hw => (Need_c _ 20 w hw).mono ?_
    rintro e w' (⟨h, rfl, hw'⟩ | ⟨h, rfl, hw'⟩)
    · exact absurd h (by first | (simp; done) | (simp; omega))
    · exact .inr ⟨_, rfl, .inl ⟨20, hz2 (.inl ⟨by omega, rfl, rfl⟩), by decide, rfl, hw'.drop⟩⟩
  refine JO_callE Try.func41 Try.call61 rfl rfl fun A hA w hw => (Need_c _ 20 w hw).mono ?_
  rintro e w' (⟨h, rfl, hw'⟩ | ⟨h, rfl, hw'⟩)
  rotate_left
  · exact absurd h (by first | (simp; done) | (simp; omega))
  refine .inl ⟨_, rfl, _, hw', ?_⟩
  clear hw' hw w w' hA A h
  have hr4 := Rd_take (n := 4) hrT hTl (by omega)
  have hl4 : (T.take 4).length = 4 := by rw [List.length_take]; omega
  have hadl := adl_bd hoB
  obtain ⟨s, hs⟩ : ∃ s, adl o = s := ⟨_, rfl⟩
  repeat (first | apply hIx 8 | first | (refine sx ?_; try intro _))
  refine Hold.go ?_
  have hv : ((ints .u8 T).drop (0 * 1)).take 4 = ints .u8 (T.take 4) := by simp [ints, List.map_take]
  have hvl : (ints .u8 (T.take 4)).length = 4 := by simp only [ints_len]; exact hl4
  have heq := eq66 (T.take 4) (sb4 s) hl4 rfl
  refine JS_seq ?_
  refine JS_draw [0] (by kernel_rfl) (by kernel_rfl) (by decide +kernel) ?_
  repeat (first | (apply gQO; first | refine QO_v rfl (V_slice (tb := tb) (lo := 0) (hi := 4) rfl rfl rfl rfl rfl (by rfl) (by rfl) (fun w hw => ⟨by omega, by omega⟩) rfl) ?_ | refine QO_v rfl (V_arrayAt (tb := tb) rfl rfl (by omega) rfl) ?_ | refine QO_v rfl (V_loadSub (tb := tb) (lo := 0) (q := 4) rfl (Rd_weak hrT fun w hw => St.sub (by repeat (first | exact List.Sublist.refl _ | apply List.Sublist.cons_cons | apply List.Sublist.cons)) hw) rfl rfl (by omega) rfl (by decide) hvl hv rfl) ?_) | first | (refine sx ?_; try intro _))
  refine QO_call Try.call36 rfl rfl fun w hw => (ZSum_c q d o.length o (vec_rd (by repeat (first | apply List.Mem.head | apply List.Mem.tail))) rfl hoB (by omega) w hw).mono ?_
  rintro e w' ⟨rfl, hw'⟩
  refine ⟨_, rfl, _, hw', .inl fun w hw => hw, ?_⟩
  clear hw' hw w w'
  rw [hs] at hz2 hadl ⊢
  repeat (first | (apply gQO; refine QO_v rfl (V_eqArr (us := ints .u8 (T.take 4)) (vs := ints .u8 (sb4 s)) rfl rfl m66 heq rfl) ?_) | first | (refine sx ?_; try intro _))
  refine QO_callE Try.call61 rfl rfl fun w hw => (Need_c _ 91 w hw).mono ?_
  rintro e w' (⟨h, rfl, hw'⟩ | ⟨h, rfl, hw'⟩)
  rotate_left
  · exact .inr ⟨_, rfl, QK_e Try.func41 (.inl ⟨91, hz2 (.inr ⟨by omega, .inl ⟨of_decide_eq_false h, rfl, rfl⟩⟩), by decide, rfl, hw'.drop⟩)⟩
  have h7 := of_decide_eq_true h
  refine .inl ⟨_, rfl, _, hw', .inr rfl, ?_⟩
  clear hw' hw w w' h
  by_cases h8 : 4 < m - (2 + t)
  · repeat (first | (refine sx ?_; try intro _))
    refine JO_callE Try.func41 Try.call61 rfl rfl fun A hA w hw => (Need_c _ 92 w hw).mono ?_
    rintro e w' (⟨h, rfl, hw'⟩ | ⟨h, rfl, hw'⟩)
    · exact absurd h (by first | (simp; done) | (simp; omega))
    · exact .inr ⟨_, rfl, .inl ⟨92, hz2 (.inr ⟨by omega, .inr ⟨h7, .inl ⟨by omega, rfl, rfl⟩⟩⟩), by decide, rfl, hw'.drop⟩⟩
  repeat (first | (refine sx ?_; try intro _))
  refine JO_callE Try.func41 Try.call61 rfl rfl fun A hA w hw => (Need_c _ 92 w hw).mono ?_
  rintro e w' (⟨h, rfl, hw'⟩ | ⟨h, rfl, hw'⟩)
  rotate_left
  · exact absurd h (by first | (simp; done) | (simp; omega))
  refine .inl ⟨_, rfl, _, hw', ?_⟩
  clear hw' hw w w' hA A h
  repeat (first | (refine sx ?_; try intro _))
  exact JS_ret Try.func41 rfl rfl fun w hw => .inr ⟨o, q, d, hz2 (.inr ⟨by omega, .inr ⟨h7, .inr ⟨by omega, rfl, rfl⟩⟩⟩), rfl, hw⟩
set_option maxRecDepth 10000 in
/-- zlib.Open -/
theorem ZOpen_c (p : Option Addr) (c m : Nat) (B : List Int) (hr : Rd w0 H (.slice p m c) m (ints .u8 B)) (hm : B.length = m) (hB : OKB B) (h4 : m ≤ 100000) (L : Int) (hL : -9223372036854775808 ≤ L ∧ L < 9223372036854775808) (w : World) (hw : St w0 H w) :
    Calls Try.prog 22 #[.slice p m c, .int .i64 L] w fun e w' => ∃ x o q d, ZR B L x o ∧ e = .returned (.tuple #[.slice q o.length d, .int .i64 x]) ∧ St w0 (vec 5 1 (.slice q o.length d) o.length (ints .u8 o) :: H) w' := by
  refine enter (vs := [.slice p m c, .int .i64 L]) Try.func22 rfl rfl rfl hw ?_
  clear hw w
  repeat (first | (apply gJR; first | (refine sx ?_; try intro _)) | (apply gJO; first | (refine JO_deferv rfl rfl rfl ?_) | (refine JO_defer rfl rfl ?_) | first | (refine sx ?_; try intro _)) | apply JS_seq | apply JS_region)
  rename_i bo be
  refine JO_callE Try.func22 Try.call41 rfl rfl fun A hA w hw => (Opened_c p c m B (Rd_weak hr fun w hw => St.sub (by repeat (first | exact List.Sublist.refl _ | apply List.Sublist.cons_cons | apply List.Sublist.cons)) hw) hm hB h4 L hL w hw).mono ?_
  rintro e w' (⟨x, hz, hx, rfl, hw'⟩ | ⟨o, q, d, hz, rfl, hw'⟩)
  · exact .inr ⟨_, rfl, LvZ_err (hA.sub (by repeat (first | exact trivial | refine ⟨rfl, ?_⟩ | refine ⟨lookI rfl (by omega), ?_⟩))) (hw'.perm (List.Perm.swap _ _ _)) fun w hw => ⟨x, [], none, 0, hz, rfl, hw.nilvec⟩⟩
  refine .inl ⟨_, rfl, _, hw', ?_⟩
  clear hw' hw w w' hA A
  repeat (first | (refine sx ?_; try intro _))
  refine JS_retD Try.func22 fun A w hA hw => LvZ_ok (H := vec 5 1 (.slice q o.length d) o.length (ints .u8 o) :: H) (hA.sub (by repeat (first | exact trivial | refine ⟨rfl, ?_⟩ | refine ⟨lookI rfl (by omega), ?_⟩))) (hw.perm (by (repeat (first | exact List.Perm.refl _ | refine List.Perm.cons _ ?_ | refine (List.perm_middle (l₁ := [_])).trans (List.Perm.cons _ ?_) | refine (List.perm_middle (l₁ := [_, _])).trans (List.Perm.cons _ ?_) | refine (List.perm_middle (l₁ := [_, _, _])).trans (List.Perm.cons _ ?_) | refine (List.perm_middle (l₁ := [_, _, _, _])).trans (List.Perm.cons _ ?_) | refine (List.perm_middle (l₁ := [_, _, _, _, _])).trans (List.Perm.cons _ ?_) | refine (List.perm_middle (l₁ := [_, _, _, _, _, _])).trans (List.Perm.cons _ ?_) | refine (List.perm_middle (l₁ := [_, _, _, _, _, _, _])).trans (List.Perm.cons _ ?_) | refine (List.perm_middle (l₁ := [_, _, _, _, _, _, _, _])).trans (List.Perm.cons _ ?_))))) fun w hw => ⟨0, o, q, d, hz, rfl, hw⟩
end
end Go.Proofs.Ytbiocgenbgbfpaa

namespace Go.Proofs.Ytbiocgenbgbfpaa
open Sx Go
set_option linter.unusedVariables false
set_option linter.unusedSimpArgs false
attribute [local irreducible] syA fc tk cds
theorem bval_take (c : Int) (n : Nat) (hc : 0 ≤ c ∧ c < 2 ^ n) : ∀ k, k ≤ n → bval (fun j => (bms c n).getD j 0) k = c / 2 ^ (n - k) := by
  intro k
  induction k with
  | zero => intro _; rw [Nat.sub_zero]; exact (Int.ediv_eq_zero_of_lt hc.1 hc.2).symm
  | succ k ih =>
    intro hk
    have h1 := ih (by omega)
    have h2 : (bms c n).getD k 0 = c / 2 ^ (n - 1 - k) % 2 := by simp [bms, List.getD_eq_getElem?_getD, show k < n by omega]
    rw [show n - k = (n - (k + 1)) + 1 by omega, div_step] at h1
    rw [show n - 1 - k = n - (k + 1) by omega] at h2
    show 2 * bval (fun j => (bms c n).getD j 0) k + (bms c n).getD k 0 = _
    omega
theorem apart (B : List Int) (hB : OKB B) (hk : OKL B) (i k ni nk : Nat) (hi : i < B.length) (hkl : k < B.length) (h0 : 0 < ni) (h1 : ni ≤ nk) (hni : B.getD i 0 = (ni : Int)) (hnk : B.getD k 0 = (nk : Int)) (hik : i ≠ k) : ¬ cd B k / 2 ^ (nk - ni) = cd B i := by
  intro h
  have hc := cd_lt B hB hk k nk hkl (by omega) hnk
  have hb : ∀ j, (bms (cd B k) nk).getD j 0 = 0 ∨ (bms (cd B k) nk).getD j 0 = 1 := by
    intro j
    unfold bms
    rcases Nat.lt_or_ge j nk with h | h
    · simp only [List.getD_eq_getElem?_getD, List.getElem?_map, List.getElem?_range h, Option.map_some, Option.getD_some]; omega
    · rw [List.getD_eq_getElem?_getD, List.getElem?_eq_none (by simp; omega)]; exact .inl rfl
  refine hik (DEC_one B hB hk.2.1 hk.2.2 (fun j => (bms (cd B k) nk).getD j 0) hb nk i k ⟨ni, hi, h0, hni, h1, ?_⟩ ⟨nk, hkl, by omega, hnk, Nat.le_refl _, ?_⟩)
  · rw [bval_take _ _ hc ni h1]; exact h
  · rw [bval_take _ _ hc nk (Nat.le_refl _), Nat.sub_self, Int.pow_zero, Int.ediv_one]
theorem full_dec (B : List Int) (hB : OKB B) (hk : OKL B) (ht : tk B = 32768) (b : Nat → Int) (hb : ∀ j, b j = 0 ∨ b j = 1) (left : Nat) (hl : 15 ≤ left) : ∃ j, DEC B b left j := by
  have key : ∀ k, k ≤ 15 → (∃ j, DEC B b left j) ∨ fc B k + cn B k ≤ bval b k := by
    intro k
    induction k with
    | zero => intro _; right; rw [fc_zero]; simp [cn, bval]
    | succ k ih =>
      intro hk15
      rcases ih (by omega) with h | h
      · exact .inl h
      · by_cases hlt : bval b (k + 1) < fc B (k + 1) + cn B (k + 1)
        · left
          have hge : fc B (k + 1) ≤ bval b (k + 1) := by
            have := hb k
            have := fc_succ B k
            have : bval b (k + 1) = 2 * bval b k + b k := rfl
            omega
          obtain ⟨kk, hkk⟩ := Int.eq_ofNat_of_zero_le (show 0 ≤ bval b (k + 1) - fc B (k + 1) by omega)
          obtain ⟨i, g1, g2, g3, g4, g5⟩ := sym_at B hB hk.2.1 hk.2.2 (k + 1) (by omega) hk15 kk (by omega)
          exact ⟨i, k + 1, g3, by omega, g4, by omega, by omega⟩
        · exact .inr (by omega)
  rcases key 15 (Nat.le_refl _) with h | h
  · exact h
  · have h1 := fc_tk B hB hk.2.1 B.length (Nat.le_refl _)
    rw [List.take_length] at h1
    have := (bval_lt b hb 15).2
    have h2 : (2 : Int) ^ 15 = 32768 := by decide
    omega
end Go.Proofs.Ytbiocgenbgbfpaa

namespace Go.Proofs.Ytbiocgenbgbfpaa
open Sx Go
set_option linter.unusedVariables false
set_option linter.unusedSimpArgs false
attribute [local irreducible] syA fc tk cds
/-! ## another stream with the same bits up to a place -/
theorem bval_cg {b b' : Nat → Int} : ∀ {n : Nat}, (∀ j, j < n → b j = b' j) → bval b n = bval b' n
  | 0, _ => rfl
  | n + 1, h => by simp only [bval]; rw [bval_cg (n := n) (fun j hj => h j (by omega)), h n (by omega)]
structure AG (bt bt' : Nat → Int) (N N' M : Nat) : Prop where
  eq : ∀ j, j < M → bt j = bt' j
  le : M ≤ N
  le' : M ≤ N'
  b : ∀ j, bt j = 0 ∨ bt j = 1
  b' : ∀ j, bt' j = 0 ∨ bt' j = 1
section
variable {bt bt' : Nat → Int} {N N' M : Nat}
theorem AG.nbt (h : AG bt bt' N N' M) {a c : Nat} (hc : a + c ≤ M) : nbt bt a c = nbt bt' a c := nbt_congr fun j hj => h.eq _ (by omega)
theorem cn_pos {L : List Int} {j u : Nat} (hj : j < L.length) (h0 : 0 < u) (hu : L.getD j 0 = (u : Int)) : 1 ≤ cn L u := by
  have h1 := cn_yes L j u hj hu h0
  have h2 := cn_nonneg (L.take j) u
  have h3 := cn_mono L u (j + 1) L.length (by omega) (Nat.le_refl _)
  rw [List.take_length] at h3
  omega
theorem symS_ag (h : AG bt bt' N N' M) {L : List Int} (hB : OKB L) (hk : OKL L) {a a1 : Nat} {i : Int} (ha : a ≤ M) (hs : symS bt N L a = .ok i a1) :
    (a1 ≤ M → symS bt' N' L a = .ok i a1) ∧ (N' = M → M < a1 → symS bt' N' L a = .err 20) := by
  obtain ⟨i', u, r, h1, h2⟩ := symS_RD bt N L a
  rw [h2] at hs
  split at hs
  rotate_left
  · cases hs
  rename_i hr
  subst hr
  simp only [Sy.ok.injEq] at hs
  obtain ⟨rfl, rfl⟩ := hs
  rcases h1 with ⟨j, rfl, _, ⟨n, hj, h0, hn, hle, hbv⟩, hu⟩ | ⟨_, _, h | h | ⟨_, _, h | h⟩⟩
  rotate_left
  · omega
  · omega
  · omega
  · omega
  obtain rfl : u = n := by rw [hu] at hn; omega
  constructor
  · intro hM
    have hrd : RD L (fun j => bt' (a + j)) (N' - a) j u 0 := .inl ⟨j, rfl, rfl, ⟨u, hj, h0, hn, by have := h.le'; omega, by rw [← hbv]; exact bval_cg fun t ht => (h.eq _ (by omega)).symm⟩, hu⟩
    rw [symS_of hB hk h.b' hrd, if_pos rfl]
  · intro hN hM
    subst hN
    have hno : ∀ t, ¬ DEC L (fun j => bt' (a + j)) (N' - a) t := by
      rintro t ⟨n', ht, h0', hn', hle', hbv'⟩
      have hd : DEC L (fun j => bt (a + j)) (N - a) t := ⟨n', ht, h0', hn', by have := h.le; omega, by rw [← hbv']; exact bval_cg fun s hs => h.eq _ (by omega)⟩
      have hd0 : DEC L (fun j => bt (a + j)) (N - a) j := ⟨u, hj, h0, hn, hle, hbv⟩
      have := DEC_one L hB hk.2.1 hk.2.2 _ (fun s => h.b _) _ _ _ hd hd0
      subst this
      rw [hn] at hn'; omega
    have hsm := sm_pos L j hj (by omega)
    have hrd : ∃ v, RD L (fun j => bt' (a + j)) (N' - a) 0 v 20 := by
      by_cases hf : tk L = 32768
      · exact ⟨_, .inr ⟨hno, rfl, .inr (.inl ⟨hsm, hf, rfl, rfl⟩)⟩⟩
      · have hu1 : u = 1 := by
          rcases Nat.lt_or_ge 1 u with hlt | hge
          · have h15 := hk.2.1 j
            have := FINE_lone L hB hk.2.1 hk.2.2 hf hsm u (by omega) (by omega)
            have := cn_pos hj h0 hn
            omega
          · omega
        exact ⟨_, .inr ⟨hno, rfl, .inr (.inr ⟨hsm, hf, .inl ⟨by omega, rfl, rfl⟩⟩)⟩⟩
    obtain ⟨v, hrd⟩ := hrd
    rw [symS_of hB hk h.b' hrd, if_neg (by decide)]
def AGg (M : Nat) (c : Prop) (f f' : Nat → List Int → Stp) : Prop := ∀ a o a' o', a ≤ M → f a o = .go a' o' → (a' ≤ M → f' a o = .go a' o') ∧ (c → M < a' → f' a o = .err 20)
def AGs (M : Nat) (c : Prop) (f f' : Nat → List Int → Stp) : Prop := ∀ a o a' o', a ≤ M → f a o = .stop a' o' → (a' ≤ M → f' a o = .stop a' o') ∧ (c → M < a' → f' a o = .err 20)
def AGr (M : Nat) (c : Prop) (f f' : Nat → List Int → Res) : Prop := ∀ a o a' o', a ≤ M → f a o = .ok a' o' → (a' ≤ M → f' a o = .ok a' o') ∧ (c → M < a' → f' a o = .err 20)
theorem It_ag {c : Prop} {f f' : Nat → List Int → Stp} (hm : ∀ a o a' o', f a o = .go a' o' ∨ f a o = .stop a' o' → a ≤ a') (hg : AGg M c f f') (hs : AGs M c f f') {a : Nat} {o : List Int} {r : Res} (h : It f a o r) : a ≤ M → ∀ a' o', r = .ok a' o' →
    (a' ≤ M → It f' a o (.ok a' o')) ∧ (c → M < a' → It f' a o (.err 20)) := by
  induction h with
  | err _ => intro _ a' o' h; cases h
  | stop h =>
    intro ha a' o' h'
    cases h'
    obtain ⟨h2, h3⟩ := hs _ _ _ _ ha h
    exact ⟨fun h => .stop (h2 h), fun h h' => .err (h3 h h')⟩
  | go h t ih =>
    rename_i o1 _ a1 _ _
    intro ha a' o' h'
    obtain ⟨h2, h3⟩ := hg _ _ _ _ ha h
    have hge := It_ge hm t a' o' h'
    refine ⟨fun hle => ?_, fun hc hlt => ?_⟩
    · have h1 : a1 ≤ M := by omega
      exact .go (h2 h1) ((ih h1 a' o' h').1 hle)
    · rcases Nat.lt_or_ge M a1 with hl | hge2
      · exact .err (h3 hc hl)
      · exact .go (h2 hge2) ((ih hge2 a' o' h').2 hc hlt)
theorem itF_ag {c : Prop} {f f' : Nat → List Int → Stp} (hm : ∀ a o a' o', f a o = .go a' o' ∨ f a o = .stop a' o' → a ≤ a') (hg : AGg M c f f') (hs : AGs M c f f') : AGr M c (itF f) (itF f') := by
  intro a o a' o' ha h
  obtain ⟨h1, h2⟩ := It_ag hm hg hs (itF_ok h) ha a' o' rfl
  exact ⟨fun h => itF_of (h1 h), fun h h' => itF_of (h2 h h')⟩
theorem blk2_ag (h : AG bt bt' N N' M) {D : List Int} (hB : OKB D) (hk : OKL D) {lim a a' : Nat} {o o' : List Int} {len : Int} (ha : a ≤ M) (hs : blk2 bt N lim D o len a = .go a' o') :
    (a' ≤ M → blk2 bt' N' lim D o len a = .go a' o') ∧ (N' = M → M < a' → blk2 bt' N' lim D o len a = .err 20) := by
  unfold blk2 at hs ⊢
  cases hy : symS bt N D a with
  | err e => rw [hy] at hs; cases hs
  | ok d a2 =>
    rw [hy] at hs
    simp only at hs
    obtain ⟨s1, s2⟩ := symS_ag h hB hk ha hy
    split at hs
    · cases hs
    · rename_i h1
      split at hs
      · cases hs
      · rename_i h2
        split at hs
        · cases hs
        · rename_i h3
          split at hs
          · cases hs
          · rename_i h4
            simp only [Stp.go.injEq] at hs
            obtain ⟨rfl, rfl⟩ := hs
            refine ⟨fun hle => ?_, fun hN hlt => ?_⟩
            · have e := h.nbt (a := a2) (c := (lfar d).2.toNat) hle
              rw [s1 (by omega)]
              simp only
              rw [if_neg h1, if_neg (by have := h.le'; omega), ← e, if_neg h3, if_neg h4]
            · rcases Nat.lt_or_ge M a2 with hl | hge
              · rw [s2 hN hl]
              · rw [s1 hge]
                simp only
                rw [if_neg h1, if_pos (by omega)]
theorem blkF_agg (h : AG bt bt' N N' M) {L D : List Int} (hB : OKB L) (hk : OKL L) (hB2 : OKB D) (hk2 : OKL D) (lim : Nat) : AGg M (N' = M) (blkF bt N lim L D) (blkF bt' N' lim L D) := by
  intro a o a' o' ha hs
  unfold blkF at hs ⊢
  cases hy : symS bt N L a with
  | err e => rw [hy] at hs; cases hs
  | ok i a1 =>
    rw [hy] at hs
    simp only at hs
    obtain ⟨s1, s2⟩ := symS_ag h hB hk ha hy
    have hge1 := symS_ge hy
    split at hs
    · cases hs
    · rename_i h1
      split at hs
      · rename_i h2
        split at hs
        · cases hs
        · rename_i h3
          simp only [Stp.go.injEq] at hs
          obtain ⟨rfl, rfl⟩ := hs
          refine ⟨fun hle => ?_, fun hN hlt => ?_⟩
          · rw [s1 hle]
            simp only
            rw [if_neg h1, if_pos h2, if_neg h3]
          · rw [s2 hN hlt]
      · rename_i h2
        split at hs
        · cases hs
        · rename_i h3
          split at hs
          · cases hs
          · rename_i h4
            have hge2 := blk2_ge hs
            refine ⟨fun hle => ?_, fun hN hlt => ?_⟩
            · have e := h.nbt (a := a1) (c := (lbase i).2.toNat) (by omega)
              rw [s1 (by omega)]
              simp only
              rw [if_neg h1, if_neg h2, if_neg h3, if_neg (by have := h.le'; omega), ← e]
              exact (blk2_ag h hB2 hk2 (by omega) hs).1 hle
            · rcases Nat.lt_or_ge M a1 with hl | hge
              · rw [s2 hN hl]
              · rw [s1 hge]
                simp only
                rw [if_neg h1, if_neg h2, if_neg h3]
                rcases Nat.lt_or_ge M (a1 + (lbase i).2.toNat) with hl2 | hge3
                · rw [if_pos (by omega)]
                · have e := h.nbt (a := a1) (c := (lbase i).2.toNat) hge3
                  rw [if_neg (by omega), ← e]
                  exact (blk2_ag h hB2 hk2 hge3 hs).2 hN hlt
theorem blkF_ags (h : AG bt bt' N N' M) {L D : List Int} (hB : OKB L) (hk : OKL L) (lim : Nat) : AGs M (N' = M) (blkF bt N lim L D) (blkF bt' N' lim L D) := by
  intro a o a' o' ha hs
  unfold blkF at hs ⊢
  cases hy : symS bt N L a with
  | err e => rw [hy] at hs; cases hs
  | ok i a1 =>
    rw [hy] at hs
    simp only at hs
    obtain ⟨s1, s2⟩ := symS_ag h hB hk ha hy
    split at hs
    · rename_i h1
      simp only [Stp.stop.injEq] at hs
      obtain ⟨rfl, rfl⟩ := hs
      refine ⟨fun hle => ?_, fun hN hlt => ?_⟩
      · rw [s1 hle]; simp only; rw [if_pos h1]
      · rw [s2 hN hlt]
    · split at hs
      · split at hs <;> cases hs
      · split at hs
        · cases hs
        · split at hs
          · cases hs
          · exact (blk2_stop hs).elim
theorem itblk_ag (h : AG bt bt' N N' M) {L D : List Int} (hB : OKB L) (hk : OKL L) (hB2 : OKB D) (hk2 : OKL D) (lim : Nat) : AGr M (N' = M) (itF (blkF bt N lim L D)) (itF (blkF bt' N' lim L D)) :=
  itF_ag (fun _ _ _ _ => blkF_ge) (blkF_agg h hB hk hB2 hk2 lim) (blkF_ags h hB hk lim)
end
end Go.Proofs.Ytbiocgenbgbfpaa

set_option linter.unusedVariables false
set_option linter.unusedSimpArgs false
namespace Go.Proofs.Ytbiocgenbgbfpaa
open Sx Go
attribute [local irreducible] syA fc tk cds
/-! ## tokens' bits are read as the text -/
/-- from a place on stand these bits -/
def AtB (bt : Nat → Int) (a : Nat) (L : List Int) : Prop := ∀ j, j < L.length → bt (a + j) = L.getD j 0
theorem AtB.left {bt : Nat → Int} {a : Nat} {L M : List Int} (h : AtB bt a (L ++ M)) : AtB bt a L := fun j hj => by
  rw [h j (by rw [List.length_append]; omega), List.getD_eq_getElem?_getD, List.getElem?_append_left hj, ← List.getD_eq_getElem?_getD]
theorem AtB.right {bt : Nat → Int} {a : Nat} {L M : List Int} (h : AtB bt a (L ++ M)) : AtB bt (a + L.length) M := fun j hj => by
  rw [Nat.add_assoc, h (L.length + j) (by rw [List.length_append]; omega), List.getD_eq_getElem?_getD, List.getElem?_append_right (by omega), Nat.add_sub_cancel_left, ← List.getD_eq_getElem?_getD]
theorem sym_bits {bt : Nat → Int} {N a : Nat} {L : List Int} (hB : OKB L) (hk : OKL L) (hb : ∀ j, bt j = 0 ∨ bt j = 1) {i n : Nat} (hi : i < L.length) (h0 : 0 < n) (hn : L.getD i 0 = (n : Int)) (hN : a + n ≤ N) (h : AtB bt a (bms (cd L i) n)) : symS bt N L a = .ok i (a + n) := by
  have hc := cd_lt L hB hk i n hi h0 hn
  have hv : bval (fun j => bt (a + j)) n = cd L i := by
    rw [bval_cg (b' := fun j => (bms (cd L i) n).getD j 0) (fun j hj => h j (by rw [bms_ln]; exact hj)), bval_take (cd L i) n hc n (Nat.le_refl _), Nat.sub_self, Int.pow_zero, Int.ediv_one]
  have := symS_of (bt := bt) (N := N) (a := a) hB hk hb (i := i) (u := n) (r := 0) (.inl ⟨i, rfl, rfl, ⟨n, hi, h0, hn, by omega, hv⟩, hn⟩)
  rw [if_pos rfl] at this
  exact this
theorem nbt_at {bt : Nat → Int} {a k : Nat} {r : Int} (hr : 0 ≤ r ∧ r < 2 ^ k) (h : AtB bt a (grp r k)) : nbt bt a k = r := by
  rw [← bnum_nbt, num_congr (g := fun t => r / 2 ^ t % 2) k (fun t ht => by rw [h t (by rw [grp_len]; exact ht), grp_get ht]), bnum_bits, Int.emod_eq_of_lt hr.1 hr.2]
/-- the bytes are the same as those so far back -/
theorem sam_same (B : List Int) : ∀ (f i k j : Nat), j < sam B i k f → B.getD (i + j) 0 = B.getD (k + j) 0
  | 0, i, k, j, h => by rw [sam] at h; omega
  | f + 1, i, k, j, h => by
    rw [sam] at h
    split at h
    · rename_i hc
      cases j with
      | zero => exact hc.2
      | succ j =>
        have := sam_same B f (i + 1) (k + 1) j (by omega)
        rw [show i + (j + 1) = i + 1 + j by omega, show k + (j + 1) = k + 1 + j by omega]; exact this
    · omega
theorem bst_same (B : List Int) (at_ : Nat) : ∀ (i : Nat) (s : Nat × Nat), i ≤ at_ → (s.1 = 0 ∨ (s.1 = sam B (at_ - s.2) at_ 258 ∧ s.2 ≤ at_)) → (bst B at_ i s).1 = 0 ∨ ((bst B at_ i s).1 = sam B (at_ - (bst B at_ i s).2) at_ 258 ∧ (bst B at_ i s).2 ≤ at_)
  | 0, s, _, h => by rw [bst]; exact h
  | i + 1, s, hi, h => by
    rw [bst]
    split
    · exact h
    · refine bst_same B at_ i _ (by omega) ?_
      split
      · right
        refine ⟨?_, by show at_ - i ≤ at_; omega⟩
        show sam B i at_ 258 = sam B (at_ - (at_ - i)) at_ 258
        rw [show at_ - (at_ - i) = i by omega]
      · exact h
theorem tok_same {B : List Int} {at_ n d : Nat} {x : Int} (h : tok B at_ = (x, n, d)) : ∀ j, j < n → B.getD (at_ - d + j) 0 = B.getD (at_ + j) 0 := by
  intro j hj
  have hb := bst_same B at_ at_ (0, 0) (Nat.le_refl _) (.inl rfl)
  unfold tok at h
  split at h
  · have : n = 0 := (Prod.mk.inj (Prod.mk.inj h).2).1.symm
    omega
  · have h1 := (Prod.mk.inj (Prod.mk.inj h).2).1
    have h2 := (Prod.mk.inj (Prod.mk.inj h).2).2
    rw [h1, h2] at hb
    rcases hb with hb | hb
    · omega
    · exact sam_same B 258 (at_ - d) at_ j (by omega)
theorem cpy_take {B : List Int} {at_ d : Nat} (h1 : 1 ≤ d) (h2 : d ≤ at_) : ∀ n, at_ + n ≤ B.length → (∀ j, j < n → B.getD (at_ - d + j) 0 = B.getD (at_ + j) 0) → cpy (B.take at_) d n = B.take (at_ + n)
  | 0, _, _ => rfl
  | n + 1, hn, hs => by
    have ih := cpy_take h1 h2 n (by omega) (fun j hj => hs j (by omega))
    have hl : (B.take (at_ + n)).length = at_ + n := by rw [List.length_take]; omega
    rw [cpy, ih, hl, ← Nat.add_assoc, List.take_add_one, List.getElem?_eq_getElem (show at_ + n < B.length by omega)]
    have e := hs n (by omega)
    have g : (B.take (at_ + n)).getD (at_ + n - d) 0 = B.getD (at_ + n) 0 := by
      rw [List.getD_eq_getElem?_getD, List.getElem?_take, if_pos (by omega), ← List.getD_eq_getElem?_getD, ← e, show at_ + n - d = at_ - d + n by omega]
    rw [g, List.getD_eq_getElem?_getD, List.getElem?_eq_getElem (show at_ + n < B.length by omega)]
    rfl
/-- a token's bits, by any codes -/
def tkg (cl cs : Nat → List Int) (t : Int × Nat × Nat) : List Int :=
  if t.2.2 = 0 then cl t.1.toNat
  else cl (lenS t.2.1).1.toNat ++ grp (lenS t.2.1).2.2 (lenS t.2.1).2.1.toNat ++ cs (spanS t.2.2).1.toNat ++ grp (spanS t.2.2).2.2 (spanS t.2.2).2.1.toNat
/-- a token's symbols -/
def ts1 (t : Int × Nat × Nat) : Nat := if t.2.2 = 0 then t.1.toNat else (lenS t.2.1).1.toNat
def ts2 (t : Int × Nat × Nat) : Nat := (spanS t.2.2).1.toNat
theorem lbase_pos : ∀ j : Fin 29, 3 ≤ (lbase (257 + (j.val : Int))).1 := by decide +kernel
theorem lfar_pos : ∀ j : Fin 30, 1 ≤ (lfar (j.val : Int)).1 := by decide +kernel
/-- what is wanted of a set's codes -/
def CODED (bt : Nat → Int) (N : Nat) (L : List Int) (c : Nat → List Int) (k : Nat) : Prop := ∀ a, a + (c k).length ≤ N → AtB bt a (c k) → symS bt N L a = .ok k (a + (c k).length)
section
variable {bt : Nat → Int} {N lim : Nat} {L D : List Int} {cl cs : Nat → List Int} {B : List Int}
attribute [local irreducible] grp lenS spanS lbase lfar
theorem tok_step (hB : OKB B) {at_ a : Nat} (hat : at_ < B.length) (hlim : B.length ≤ lim) (h1 : CODED bt N L cl (ts1 (tok B at_))) (h2 : (tok B at_).2.2 ≠ 0 → CODED bt N D cs (ts2 (tok B at_))) (hN : a + (tkg cl cs (tok B at_)).length ≤ N) (hA : AtB bt a (tkg cl cs (tok B at_))) :
    blkF bt N lim L D a (B.take at_) = .go (a + (tkg cl cs (tok B at_)).length) (B.take (at_ + max 1 (tok B at_).2.1)) := by
  have hl : (B.take at_).length = at_ := by rw [List.length_take]; omega
  rcases tok_bd B at_ hat with h | ⟨n, d, h, g1, g2, g3, g4, g5, g6⟩
  · rw [h] at h1 hN hA ⊢
    have hb := hB at_
    obtain ⟨x, hx⟩ : ∃ x : Nat, B.getD at_ 0 = x := ⟨(B.getD at_ 0).toNat, by omega⟩
    rw [hx] at h1 hN hA ⊢
    have e1 : tkg cl cs ((x : Int), 0, 0) = cl x := by unfold tkg; rw [if_pos rfl]; rfl
    have e2 : ts1 ((x : Int), 0, 0) = x := by unfold ts1; rw [if_pos rfl]; rfl
    rw [e1] at hN hA ⊢
    rw [e2] at h1
    have hs := h1 a hN hA
    unfold blkF
    rw [hs]
    simp only []
    show (if (x : Int) = 256 then _ else _) = Stp.go _ (B.take (at_ + 1))
    rw [if_neg (by omega), if_pos (by omega), if_neg (by omega), List.take_add_one, List.getElem?_eq_getElem hat]
    rw [List.getD_eq_getElem?_getD, List.getElem?_eq_getElem hat, Option.getD_some] at hx
    rw [hx]
    rfl
  · have hsame := tok_same h
    rw [h] at h1 h2 hN hA ⊢
    obtain ⟨s, nb, r, e1, a1, a2, a3, a4, a5, a6⟩ := lenS_bd n (by omega) (by omega)
    obtain ⟨s', nb', r', e2, c1, c3, c4, c5, c6⟩ := spanS_bd d (by omega) (by omega)
    have a7 : 3 ≤ n - r := by
      have := lbase_pos ⟨s - 257, by omega⟩
      simp only [] at this
      rw [show (257 : Int) + ((s - 257 : Nat) : Int) = s by omega, a6] at this
      exact this
    have c7 : 1 ≤ d - r' := by
      have := lfar_pos ⟨s', by omega⟩
      simp only [] at this
      rw [c6] at this
      exact this
    have htb : tkg cl cs ((0 : Int), n, d) = cl s ++ grp r nb ++ cs s' ++ grp r' nb' := by
      unfold tkg
      simp only []
      rw [if_neg (by omega), e1, e2]
      simp only [Int.toNat_natCast]
    have ht1 : ts1 ((0 : Int), n, d) = s := by unfold ts1; simp only []; rw [if_neg (by omega), e1]; simp only [Int.toNat_natCast]
    have ht2 : ts2 ((0 : Int), n, d) = s' := by unfold ts2; simp only []; rw [e2]; simp only [Int.toNat_natCast]
    rw [htb] at hN hA ⊢
    rw [ht1] at h1
    rw [ht2] at h2
    simp only [List.length_append, grp_len] at hN ⊢
    have b1 := hA.left.left.left
    have b2 := hA.left.left.right
    have b3 := hA.left.right
    have b4 := hA.right
    simp only [List.length_append, grp_len, ← Nat.add_assoc] at b2 b3 b4
    have v1 := h1 a (by omega) b1
    have v2 := nbt_at ⟨a4, a5⟩ b2
    have v3 := h2 (by show d ≠ 0; omega) (a + (cl s).length + nb) (by omega) b3
    have v4 := nbt_at ⟨c4, c5⟩ b4
    unfold blkF
    rw [v1]
    simp only []
    rw [if_neg (by omega), if_neg (by omega), a6]
    simp only []
    rw [if_neg (by omega), Int.toNat_natCast, if_neg (by omega), v2]
    unfold blk2
    rw [v3]
    simp only []
    rw [c6]
    simp only []
    rw [if_neg (by omega), Int.toNat_natCast, if_neg (by omega), v4, hl, if_neg (by omega), if_neg (by omega), show (d : Int) - r' + r' = d by omega, show (n : Int) - r + r = n by omega, Int.toNat_natCast, Int.toNat_natCast, cpy_take g4 g5 n g3 hsame]
    rw [show max 1 n = n by omega]
    congr 1
    omega
theorem toks_It (hB : OKB B) (hlim : B.length ≤ lim) (h256 : CODED bt N L cl 256) : ∀ (f at_ a : Nat), B.length - at_ ≤ f → at_ ≤ B.length → (∀ t ∈ toks B f at_, CODED bt N L cl (ts1 t) ∧ (t.2.2 ≠ 0 → CODED bt N D cs (ts2 t))) →
    a + ((toks B f at_).flatMap (tkg cl cs) ++ cl 256).length ≤ N → AtB bt a ((toks B f at_).flatMap (tkg cl cs) ++ cl 256) → It (blkF bt N lim L D) a (B.take at_) (.ok (a + ((toks B f at_).flatMap (tkg cl cs) ++ cl 256).length) B) := by
  have hend : ∀ a, a + (cl 256).length ≤ N → AtB bt a (cl 256) → It (blkF bt N lim L D) a (B.take B.length) (.ok (a + (cl 256).length) B) := fun a hN hA => by
    rw [List.take_length]
    refine .stop ?_
    unfold blkF
    rw [h256 a hN hA]
    rfl
  intro f
  induction f with
  | zero =>
    intro at_ a hf hat hT hN hA
    obtain rfl : at_ = B.length := by omega
    rw [toks, List.flatMap_nil, List.nil_append] at hN hA ⊢
    exact hend a hN hA
  | succ f ih =>
    intro at_ a hf hat hT hN hA
    rw [toks] at hT hN hA ⊢
    by_cases h : at_ < B.length
    · rw [if_pos h] at hT hN hA ⊢
      rw [List.flatMap_cons, List.append_assoc] at hN hA ⊢
      have hT0 := hT (tok B at_) (by simp)
      rw [List.length_append] at hN ⊢
      have hs := tok_step hB h hlim hT0.1 hT0.2 (by omega) hA.left
      have hbd := tok_bd B at_ h
      have hle : at_ + max 1 (tok B at_).2.1 ≤ B.length := by
        rcases hbd with h' | ⟨n, d, h', g1, g2, g3, _⟩
        · rw [h']; show at_ + 1 ≤ _; omega
        · rw [h']; show at_ + max 1 n ≤ _; omega
      have hr := ih (at_ + max 1 (tok B at_).2.1) (a + (tkg cl cs (tok B at_)).length) (by omega) hle (fun t ht => hT t (by simp [ht])) (by omega) hA.right
      rw [Nat.add_assoc] at hr
      exact .go hs hr
    · rw [if_neg h] at hT hN hA ⊢
      obtain rfl : at_ = B.length := by omega
      rw [List.flatMap_nil, List.nil_append] at hN hA ⊢
      exact hend a hN hA
end
end Go.Proofs.Ytbiocgenbgbfpaa

set_option linter.unusedVariables false
set_option linter.unusedSimpArgs false
namespace Go.Proofs.Ytbiocgenbgbfpaa
open Sx Go
attribute [local irreducible] syA fc tk cds
theorem fx_coded {bt : Nat → Int} {N : Nat} (hb : ∀ j, bt j = 0 ∨ bt j = 1) (k : Nat) (hk : k < 288) : CODED bt N (tab 288 fixF) fxS k := by
  intro a hN hA
  obtain ⟨x, h1, h2, h3, _⟩ := fx_at k hk
  have hc : fxC.getD k 0 = cd fxB k := by
    unfold fxC
    rw [cds_get fxB fxB_okl.2.1 k (by rw [fxB_len]; exact hk), if_pos (by omega)]
  have e : fxS k = bms (cd fxB k) x := by unfold fxS; rw [h1, Int.toNat_natCast, hc]
  rw [e, bms_ln] at hN ⊢
  rw [e] at hA
  rw [fxB_eq]
  exact sym_bits fxB_okb fxB_okl hb (by rw [fxB_len]; exact hk) (by omega) h1 hN hA
theorem sp_coded {bt : Nat → Int} {N : Nat} (hb : ∀ j, bt j = 0 ∨ bt j = 1) (k : Nat) (hk : k < 32) : CODED bt N (List.replicate 32 5) spS k := by
  intro a hN hA
  obtain ⟨h1, _⟩ := sp_at k hk
  have hc : spC.getD k 0 = cd spB k := by
    unfold spC
    rw [cds_get spB spB_okl.2.1 k (by rw [spB_len]; exact hk), if_pos (by rw [h1]; decide)]
  have e : spS k = bms (cd spB k) 5 := by unfold spS; rw [hc]
  rw [e, bms_ln] at hN ⊢
  rw [e] at hA
  rw [spB_eq]
  exact sym_bits spB_okb spB_okl hb (by rw [spB_len]; exact hk) (by omega) h1 hN hA
theorem TOK_ts {t : Int × Nat × Nat} (h : TOK t) : ts1 t < 286 ∧ ts2 t < 30 := by
  have hz : (spanS ((0 : Nat) : Int)).1.toNat = 0 := by decide +kernel
  unfold ts1 ts2
  rcases h with ⟨h1, h2, h3, h4⟩ | ⟨h1, h2, h3, h4, h5⟩
  · rw [if_pos h4, h4, hz]; omega
  · rw [if_neg (by omega)]
    obtain ⟨s, b, r, e, a1, a2, a3, _⟩ := lenS_bd t.2.1 (by omega) (by omega)
    obtain ⟨s', b', r', e', a1', a3', _⟩ := spanS_bd t.2.2 (by omega) (by omega)
    rw [e, e']
    simp only [Int.toNat_natCast]
    omega
theorem pack_at (L S : List Int) (hL : ∀ j, L.getD j 0 = 0 ∨ L.getD j 0 = 1) : AtB (bitB (pack L ++ S) 0) 0 L := by
  intro j hj
  have h := pack_bit L hL 0 j
  unfold bitB at h ⊢
  rw [Nat.zero_add] at h ⊢
  rw [Nat.zero_add, List.getD_eq_getElem?_getD, List.getElem?_append_left (by rw [pack_len]; omega), ← List.getD_eq_getElem?_getD, h]
/-- a fixed block is read as the text, whatever stands behind -/
theorem ALLR_fix {B S : List Int} {lim : Nat} (hB : OKB B) (hl : B.length ≤ lim) : ALLR (pack (fixL B) ++ S) lim (.ok (fixL B).length B) := by
  have hb := bitB_01 (pack (fixL B) ++ S) 0
  have hA := pack_at (fixL B) S (fixL_01 B)
  have hlen : (fixL B).length ≤ 8 * (pack (fixL B) ++ S).length := by rw [List.length_append, pack_len]; omega
  unfold ALLR
  obtain ⟨N, hN⟩ : ∃ N, 8 * (pack (fixL B) ++ S).length = N := ⟨_, rfl⟩
  obtain ⟨bt, hbt⟩ : ∃ bt, bitB (pack (fixL B) ++ S) 0 = bt := ⟨_, rfl⟩
  rw [hN] at hlen ⊢
  rw [hbt] at hb hA ⊢
  have hfix : fixL B = grp 1 1 ++ (grp 1 2 ++ ((toks B B.length 0).flatMap (tkg fxS spS) ++ fxS 256)) := by
    unfold fixL; simp only [List.append_assoc]; rfl
  rw [hfix] at hA hlen ⊢
  have b1 := hA.left
  have b2 := hA.right.left
  have b3 := hA.right.right
  simp only [grp_len, Nat.zero_add] at b1 b2 b3
  have v1 := nbt_at (k := 1) ⟨by decide, by decide⟩ b1
  have v2 := nbt_at (k := 2) ⟨by decide, by decide⟩ b2
  obtain ⟨M, hM⟩ : ∃ M, (toks B B.length 0).flatMap (tkg fxS spS) ++ fxS 256 = M := ⟨_, rfl⟩
  rw [hM] at b3 hlen ⊢
  simp only [List.length_append, grp_len] at hlen ⊢
  have hIt := toks_It (bt := bt) (N := N) (L := tab 288 fixF) (D := List.replicate 32 5) (cl := fxS) (cs := spS) hB hl (fx_coded hb 256 (by omega)) B.length 0 3 (by omega) (by omega)
    (fun t ht => by have := TOK_ts (toks_TOK hB _ _ t ht); exact ⟨fx_coded hb _ (by omega), fun _ => sp_coded hb _ (by omega)⟩) (by rw [hM]; omega) (by rw [hM]; exact b3)
  rw [hM, List.take_zero] at hIt
  have hk : kndF bt N lim 1 (0 + 3) [] = .ok (3 + M.length) B := by
    unfold kndF
    rw [if_neg (by decide), if_pos rfl]
    exact itF_of hIt
  refine .stop ?_
  unfold rdF
  rw [if_neg (by omega), if_neg (by omega), show (0 : Nat) + 1 = 1 from rfl, v2, hk]
  simp only []
  rw [v1, if_neg (by decide)]
  congr 1
  omega
/-- the best stream is read as the text, whatever stands behind -/
theorem ALLR_best {B S : List Int} {lim : Nat} (hB : OKB B) (hS : OKB (sbs B ++ S)) (hl : B.length ≤ lim) : ∃ a, (a + 7) / 8 = (bestB B).length ∧ ALLR (bestB B ++ S) lim (.ok a B) := by
  unfold bestB
  split
  · exact ⟨_, by omega, ALLR_sbs hS hl⟩
  · exact ⟨_, (pack_len _).symm, ALLR_fix hB hl⟩
end Go.Proofs.Ytbiocgenbgbfpaa

set_option linter.unusedVariables false
set_option linter.unusedSimpArgs false
namespace Go.Proofs.Ytbiocgenbgbfpaa
open Sx Go
theorem sb4_okb {s : Int} (h : 0 ≤ s ∧ s < 4294967296) : OKB (sb4 s) := OKB_of (by simp only [sb4, List.all_cons, List.all_nil, Bool.and_true, Bool.and_eq_true, decide_eq_true_eq]; omega)
theorem pk_okb {B : List Int} (hB : OKB B) : OKB (pkB B) := by
  have o1 := pack_okb' (fixL B) (fixL_01 B)
  have o2 := sbs_okb hB
  have o3 : OKB (bestB B) := by unfold bestB; split <;> assumption
  exact OKB_app (OKB_app (okb_small (by decide)) o3) (sb4_okb (adl_bd hB))
theorem pk_len (B : List Int) : (pkB B).length = (bestB B).length + 6 := by simp [pkB, sb4]
theorem pk_head (B S : List Int) : hdOK (pkB B ++ S) := by
  have h0 : (pkB B ++ S).getD 0 0 = 120 := rfl
  have h1 : (pkB B ++ S).getD 1 0 = 1 := rfl
  unfold hdOK
  rw [h0, h1]
  refine ⟨by simp only [List.length_append, pk_len]; omega, by decide, by decide, by decide, by decide⟩
theorem pk_drop2 (B S : List Int) : (pkB B ++ S).drop 2 = bestB B ++ (sb4 (adl B) ++ S) := by
  simp [pkB, List.append_assoc]
theorem pk_dropn (B S : List Int) : (pkB B ++ S).drop (2 + (bestB B).length) = sb4 (adl B) ++ S := by
  rw [← List.drop_drop, pk_drop2]
  simp
/-- what was packed, and something behind it -/
theorem ZR_pk {B S : List Int} (hB : OKB B) (hS : OKB S) (L : Int) (hL : 0 ≤ L ∧ L ≤ 1048576) (hl : (B.length : Int) ≤ L) : ZR (pkB B ++ S) L (if S = [] then 0 else 92) (if S = [] then B else []) := by
  obtain ⟨a, ha, hA⟩ := ALLR_best (lim := L.toNat) (S := sb4 (adl B) ++ S) hB (OKB_app (sbs_okb hB) (OKB_app (sb4_okb (adl_bd hB)) hS)) (by omega)
  refine .inr ⟨hL, .inr ⟨by simp only [List.length_append, pk_len]; omega, .inr ⟨pk_head B S, _, by rw [pk_drop2]; exact hA, ?_⟩⟩⟩
  have h4 : (sb4 (adl B)).length = 4 := rfl
  unfold ZT
  dsimp only
  rw [ha, pk_dropn, List.length_append, h4]
  refine .inr ⟨by omega, .inr ⟨by rw [List.take_append_of_le_length (by rw [h4]; omega)]; rfl, ?_⟩⟩
  by_cases h : S = []
  · rw [if_pos h, if_pos h, h]; exact .inr ⟨rfl, rfl, rfl⟩
  · rw [if_neg h, if_neg h]
    have := List.length_pos_iff.2 h
    exact .inl ⟨by omega, rfl, rfl⟩
/-- what was packed, and the limit too small -/
theorem ZR_less {B : List Int} (hB : OKB B) (L : Int) (hL : 0 ≤ L ∧ L ≤ 1048576) (hl : L < (B.length : Int)) : ZR (pkB B) L 64 [] := by
  obtain ⟨a, ha, hA⟩ := ALLR_best (lim := B.length) (S := sb4 (adl B)) hB (OKB_app (sbs_okb hB) (sb4_okb (adl_bd hB))) (by omega)
  have e := pk_drop2 B []
  have g := pk_head B []
  rw [List.append_nil] at e g
  rw [List.append_nil] at e
  exact .inr ⟨hL, .inr ⟨by rw [pk_len]; omega, .inr ⟨g, .err 64, by rw [e]; exact ALLR_less hA (by omega), ⟨rfl, rfl⟩⟩⟩⟩
theorem ex_pk : pkB [97] = [120, 1, 75, 4, 0, 0, 98, 0, 98] := by
  unfold pkB bestB
  rw [ex_fix, ex_sto]
  decide +kernel
section
variable {w0 : World} {H : List Asn}
set_option maxRecDepth 10000 in
set_option maxHeartbeats 2000000 in
theorem alive9_c (w : World) (hw : St w0 H w) : Calls Try.prog 19 #[] w fun e w' => e = .returned (.bool true) ∧ St w0 H w' := by
  have o1 : OKB [(97 : Int)] := okb_small (by decide)
  have o9 : OKB [(120 : Int), 1, 75, 4, 0, 0, 98, 0, 98] := okb_small (by decide)
  have o10 : OKB [(120 : Int), 1, 75, 4, 0, 0, 98, 0, 98, 0] := okb_small (by decide)
  have z1 : ZR [120, 1, 75, 4, 0, 0, 98, 0, 98] 9 0 [97] := by have := ZR_pk (S := []) o1 (okb_small (by decide)) 9 (by omega) (by decide); rw [ex_pk] at this; exact this
  have z2 : ZR [120, 1, 75, 4, 0, 0, 98, 0, 98, 0] 9 92 [] := by have := ZR_pk (S := [0]) o1 (okb_small (by decide)) 9 (by omega) (by decide); rw [ex_pk] at this; exact this
  have z3 : ZR [120, 1, 75, 4, 0, 0, 98, 0, 98] 0 64 [] := by have := ZR_less o1 0 (by omega) (by decide); rw [ex_pk] at this; exact this
  refine enter (vs := []) Try.func19 rfl rfl rfl hw ?_
  clear hw w
  repeat (first | (refine sx ?_; try intro _))
  refine JO_e (E_convSl (tb := tb) rfl rfl rfl (by repeat (first | exact Sel.here _ _ | apply Sel.there)) (by decide) rfl) ?_
  intro cu
  repeat (first | (refine sx ?_; try intro _))
  rename_i p1
  refine JO_call Try.call20 rfl rfl fun w hw => (ZPack_c (some p1) 1 1 [97] (roV_rd (by repeat (first | apply List.Mem.head | apply List.Mem.tail))) rfl o1 (by omega) w hw).mono ?_
  rw [ex_pk, show ([120, 1, 75, 4, 0, 0, 98, 0, 98] : List Int).length = 9 from rfl]
  rintro e w' ⟨q1, d1, rfl, hw'⟩
  refine ⟨_, rfl, _, hw', ?_⟩
  clear hw' hw w w'
  repeat (first | (refine sx ?_; try intro _))
  refine JO_call Try.call22 rfl rfl fun w hw => (ZOpen_c q1 d1 9 [120, 1, 75, 4, 0, 0, 98, 0, 98] (vec_rd (by repeat (first | apply List.Mem.head | apply List.Mem.tail))) rfl o9 (by omega) 9 (by omega) w hw).mono ?_
  rintro e w' ⟨x, o, q2, d2, hz, rfl, hw'⟩
  obtain ⟨rfl, rfl⟩ := ZR_one hz z1
  refine ⟨_, rfl, _, hw', ?_⟩
  clear hw' hw w w' hz
  rw [show ([97] : List Int).length = 1 from rfl]
  repeat (first | (apply gJO; (refine JO_app (tb := tb) rfl rfl rfl rfl rfl rfl (by repeat (first | exact Sel.here _ _ | apply Sel.there)) (by first | exact vec_rd (by repeat (first | apply List.Mem.head | apply List.Mem.tail)) | assumption | exact ArgRd.rd (by assumption) _ | (apply Rd_weak; assumption; intro _ hx; exact St.sub (by repeat (first | exact List.Sublist.refl _ | apply List.Sublist.cons_cons | apply List.Sublist.cons)) hx)) rfl (by first | exact ints_one | (repeat (first | exact trivial | refine ⟨rfl, ?_⟩))) (by omega) rfl ?_; intro _ _)) | (first | (refine sx ?_; try intro _)))
  rename_i p4 q3 d3 p5 q4 d4
  refine JO_call Try.call22 rfl rfl fun w hw => (ZOpen_c q4 d4 10 [120, 1, 75, 4, 0, 0, 98, 0, 98, 0] (vec_rd (by repeat (first | apply List.Mem.head | apply List.Mem.tail))) rfl o10 (by omega) 9 (by omega) w hw).mono ?_
  rintro e w' ⟨x, o, q5, d5, hz, rfl, hw'⟩
  obtain ⟨rfl, rfl⟩ := ZR_one hz z2
  refine ⟨_, rfl, _, hw', ?_⟩
  clear hw' hw w w' hz
  repeat (first | (refine sx ?_; try intro _))
  refine JO_call Try.call22 rfl rfl fun w hw => (ZOpen_c q1 d1 9 [120, 1, 75, 4, 0, 0, 98, 0, 98] (vec_rd (by repeat (first | apply List.Mem.head | apply List.Mem.tail))) rfl o9 (by omega) 0 (by omega) w hw).mono ?_
  rintro e w' ⟨x, o, q6, d6, hz, rfl, hw'⟩
  obtain ⟨rfl, rfl⟩ := ZR_one hz z3
  refine ⟨_, rfl, _, hw', ?_⟩
  clear hw' hw w w' hz
  repeat (first | (apply gJO; first | refine JO_v (V_eqStr1 (s := bstr [120, 1, 75, 4, 0, 0, 98, 0, 98]) rfl rfl rfl) ?_ | refine JO_v (V_eqStr1 (s := bstr [97]) rfl rfl rfl) ?_) | first | (refine sx ?_; try intro _))
  rename_i p7
  refine JO_call Try.call24 rfl rfl fun w hw => (ZHead_c (some p7) 2 2 [120, 156] (vec_rd (by repeat (first | apply List.Mem.head | apply List.Mem.tail))) rfl (okb_small (by decide)) w hw).mono ?_
  rw [show decide (hdOK [120, 156]) = true from by decide +kernel]
  rintro e w' ⟨rfl, hw'⟩
  refine ⟨_, rfl, _, hw', ?_⟩
  clear hw' hw w w'
  repeat (first | (refine sx ?_; try intro _))
  rename_i p8
  refine JO_call Try.call24 rfl rfl fun w hw => (ZHead_c (some p8) 2 2 [120, 0] (vec_rd (by repeat (first | apply List.Mem.head | apply List.Mem.tail))) rfl (okb_small (by decide)) w hw).mono ?_
  rw [show decide (hdOK [120, 0]) = false from by decide +kernel]
  rintro e w' ⟨rfl, hw'⟩
  refine ⟨_, rfl, _, hw', ?_⟩
  clear hw' hw w w'
  repeat (first | (refine sx ?_; try intro _))
  exact JS_ret Try.func19 rfl rfl fun w hw => ⟨rfl, St.sub (by repeat (first | exact List.Sublist.refl _ | apply List.Sublist.cons_cons | apply List.Sublist.cons)) hw⟩
end
end Go.Proofs.Ytbiocgenbgbfpaa

namespace Go.Proofs.Ytbiocgenbgbfpaa
open Sx Go Go.ChangeShapes Go.WideShapes
set_option linter.unusedVariables false
set_option linter.unusedSimpArgs false
theorem cell_lt {w : World} {a : Addr} {v : Value} (h : w.cell? a = some v) : a.block < w.heap.size := by
  rcases Nat.lt_or_ge a.block w.heap.size with h1 | h1
  · exact h1
  · simp [World.cell?, Array.getElem?_eq_none h1] at h
theorem wf64 {a : Int} (h : (Lit.int .i64 a).wf = true) : -9223372036854775808 ≤ a ∧ a < 9223372036854775808 := by
  simp only [Lit.wf, Bool.and_eq_true, decide_eq_true_eq] at h
  have h1 : IntKind.i64.min = -9223372036854775808 := by decide
  have h2 : IntKind.i64.max = 9223372036854775808 - 1 := by decide
  omega
theorem wfu64 {a : Int} (h : (Lit.int .u64 a).wf = true) : 0 ≤ a ∧ a < 18446744073709551616 := by
  simp only [Lit.wf, Bool.and_eq_true, decide_eq_true_eq] at h
  have h1 : IntKind.u64.min = 0 := by decide
  have h2 : IntKind.u64.max = 18446744073709551616 - 1 := by decide
  omega
theorem argRd_mk {w0 : World} {u : Value} {m : Nat} {cs : List Value} (h1 : isSl u m) (h2 : ∀ j v, cs[j]? = some v → ∃ a, cellPtr u j = .pointer (some a) ∧ a.block < w0.heap.size ∧ w0.cell? a = some v) : ArgRd w0 u m cs := by
  unfold ArgRd; exact ⟨h1, h2⟩
def iv : Value → Int
  | .int _ n => n
  | _ => 0
theorem wfu8 {a : Int} (h : (Lit.int .u8 a).wf = true) : 0 ≤ a ∧ a < 256 := by
  simp only [Lit.wf, Bool.and_eq_true, decide_eq_true_eq] at h
  have h1 : IntKind.u8.min = 0 := by decide
  have h2 : IntKind.u8.max = 256 - 1 := by decide
  omega
end Go.Proofs.Ytbiocgenbgbfpaa

namespace Go.Proofs.Ytbiocgenbgbfpaa
open Sx Go Go.ChangeShapes Go.WideShapes
set_option linter.unusedVariables false
set_option linter.unusedSimpArgs false
theorem cells5 : Try.prog.cellsOf 5 = 1 := by kernel_rfl
set_option maxRecDepth 100000 in
/-- a slice of bytes that came in -/
theorem open_bytes {H : Type} {enc : TypeId × Value → H} {W : World} {base : Nat} {v : Value} {d : DataW H} {p : List MemPlace} (hval : Value.okWide Try.prog W .any base 23 v) (h : DataW.Trod enc Try.prog W 0 (fun _ => true) true 23 v d p) :
    ∃ (b : Option Addr) (c m : Nat) (B : List Int), v = .slice b m c ∧ ArgRd W (.slice b m c) m (ints .u8 B) ∧ B.length = m ∧ (OKB B ∧ (b = none → m = 0)) ∧ (m = 0 ∨ ∃ E S, d = .slice E S ∧ E.length = m) := by
  obtain ⟨b, m, c, rfl⟩ := okWide_slice Try.underlying23 hval
  obtain ⟨fuel, hf⟩ := h
  rcases open_ints Try.underlying23 Try.underlying5 cells5 hf with ⟨hcs, _⟩ | ⟨a, len', cap', zs, hcs, _, hl, hm, hz, hx, hcell, hwz⟩
  · simp [Value.cells] at hcs
    obtain ⟨rfl, rfl, rfl⟩ := hcs
    exact ⟨none, 0, 0, [], rfl, argRd_mk ⟨none, 0, rfl, fun _ => rfl, Nat.le_refl _⟩ (fun j v h => by simp [ints] at h), rfl, ⟨fun j => by simp, fun _ => rfl⟩, .inl rfl⟩
  · simp [Value.cells] at hcs
    obtain ⟨rfl, rfl, rfl⟩ := hcs
    simp only [if_true] at hz
    refine ⟨some a, c, m, zs.take m, rfl, argRd_mk ⟨some a, c, rfl, (fun h => by cases h), hl⟩ (fun j v hv => ?_), by simp; omega, ⟨fun j => ?_, fun h => (by cases h)⟩, .inr ⟨_, _, congrArg Prod.fst hx, by simp [lits]; omega⟩⟩
    · have hj : j < m := by
        have := (List.getElem?_eq_some_iff.1 hv).1
        simp [ints] at this; omega
      have e : (ints .u8 (zs.take m))[j]? = some (.int .u8 (zs.getD j 0)) := by
        have := ints_get (K := .u8) (l := zs.take m) (j := j) (by simp; omega)
        rw [this]
        congr 2
        simp [List.getD_eq_getElem?_getD, List.getElem?_take, hj]
      rw [e] at hv
      obtain rfl := Option.some.inj hv
      exact ⟨a.add j, cellPtr_eq a m c j, by simpa using cell_lt (hcell j (by omega)), hcell j (by omega)⟩
    · rcases Nat.lt_or_ge j m with hj | hj
      · have : (zs.take m).getD j 0 = zs[j]'(by omega) := by simp [List.getD_eq_getElem?_getD, List.getElem?_take, hj, show j < zs.length by omega]
        rw [this]
        exact wfu8 (hwz _ (List.getElem_mem _))
      · have : (zs.take m).getD j 0 = 0 := by
          rw [List.getD_eq_getElem?_getD, List.getElem?_eq_none (by simp; omega)]; rfl
        rw [this]; decide
end Go.Proofs.Ytbiocgenbgbfpaa

set_option linter.unusedVariables false
set_option linter.unusedSimpArgs false
namespace Go.Proofs.Ytbiocgenbgbfpaa
open Sx Go
section
variable {w0 : World} {H : List Asn}
set_option maxRecDepth 10000 in
set_option maxHeartbeats 2000000 in
theorem ZlibPacks_c (p : Option Addr) (c m : Nat) (B0 : List Int) (n : Int) (hr : Rd w0 H (.slice p m c) m (ints .u8 B0)) (hm : B0.length = m) (hB0 : OKB B0) (hn : 0 ≤ n ∧ n < 65536) (w : World) (hw : St w0 H w) :
    Calls Try.prog 6 #[.slice p m c, .int .u16 n] w fun e w' => e = .returned (.bool true) ∧ St w0 H w' := by
  have hmc : m ≤ c := (hr.lcap hw).1
  refine enter (vs := [.slice p m c, .int .u16 n]) Try.func6 rfl rfl rfl hw ?_
  clear hw w
  repeat (first | (refine sx ?_; try intro _))
  refine JO_call Try.call19 rfl rfl fun w hw => (alive9_c w hw).mono ?_
  rintro e w' ⟨rfl, hw'⟩
  refine ⟨_, rfl, _, hw', ?_⟩
  clear hw' hw w w'
  by_cases hbig : 300 < m
  case' pos =>
    repeat (first | (apply gJO; refine JO_v (V_slice (tb := tb) (lo := 0) (hi := 300) rfl rfl rfl rfl rfl (by rfl) (by rfl) (fun w hw => ⟨by omega, by omega⟩) rfl) ?_) | first | (refine sx ?_; try intro _))
    have hrB := Rd_take (n := 300) hr hm (by omega)
    have hmB : (B0.take 300).length = 300 := by rw [List.length_take]; omega
    have hBk : OKB (B0.take 300) := OKB_take hB0 300
    have hB3 : (B0.take 300).length ≤ 300 := by omega
    obtain ⟨B, hBe⟩ : ∃ B, B0.take 300 = B := ⟨_, rfl⟩
    rw [hBe] at hrB hmB hBk hB3
    clear hBe hr hm hB0
  case' neg =>
    repeat (first | (refine sx ?_; try intro _))
    have hrB := hr
    have hmB := hm
    have hBk := hB0
    have hB3 : B0.length ≤ 300 := by omega
    obtain ⟨B, hBe⟩ : ∃ B, B0 = B := ⟨_, rfl⟩
    rw [hBe] at hrB hmB hBk hB3
    clear hBe hr hm hB0
  all_goals
    refine JO_call Try.call20 rfl rfl fun w hw => (ZPack_c _ _ _ B (Rd_weak hrB fun w hw => St.sub (by repeat (first | exact List.Sublist.refl _ | apply List.Sublist.cons_cons | apply List.Sublist.cons)) hw) hmB hBk (by omega) w hw).mono ?_
    have hEk := pk_okb hBk
    have hEl := pk_len B
    have hbl := bestB_len hBk
    have z1 := ZR_pk (S := []) hBk (okb_small (by decide)) n (by omega)
    have z2 := ZR_less hBk n (by omega)
    rw [if_pos rfl, if_pos rfl, List.append_nil] at z1
    obtain ⟨E, hE⟩ : ∃ E, pkB B = E := ⟨_, rfl⟩
    rw [hE] at hEk hEl z1 z2 ⊢
    rintro e w' ⟨q1, d1, rfl, hw'⟩
    refine ⟨_, rfl, _, hw', ?_⟩
    clear hw' hw w w'
    repeat (first | apply hIx 6 | first | (refine sx ?_; try intro _))
    refine Hold.go ?_
    refine JS_seq ?_
    refine JS_draw [] (by kernel_rfl) (by kernel_rfl) (by decide +kernel) ?_
    repeat (first | (apply gQO; refine QO_v rfl (V_str (tb := tb) rfl (vec_rd (cs := ints .u8 E) (List.Mem.head _)) rfl rfl rfl rfl rfl) ?_) | first | (refine sx ?_; try intro _))
    refine QO_call Try.call21 rfl rfl fun w hw => (RPack9_c _ _ _ B (Rd_weak hrB fun w hw => St.sub (by repeat (first | exact List.Sublist.refl _ | apply List.Sublist.cons_cons | apply List.Sublist.cons)) hw) hmB hBk (by omega) w hw).mono ?_
    rw [hE]
    rintro e w' ⟨q2, d2, rfl, hw'⟩
    refine ⟨_, rfl, _, hw', .inl fun w hw => St.sub (by repeat (first | exact List.Sublist.refl _ | apply List.Sublist.cons_cons | apply List.Sublist.cons)) hw, ?_⟩
    clear hw' hw w w'
    repeat (first | (apply gQO; first | refine QO_v rfl (V_str (tb := tb) rfl (vec_rd (cs := ints .u8 E) (List.Mem.head _)) rfl rfl rfl rfl rfl) ?_ | refine QO_v rfl (V_neStrF (A := E) rfl rfl hEk rfl) ?_) | first | (refine sx ?_; try intro _))
    refine JO_call Try.call22 rfl rfl fun w hw => (ZOpen_c q1 d1 E.length E (vec_rd (by repeat (first | apply List.Mem.head | apply List.Mem.tail))) rfl hEk (by omega) n (by omega) w hw).mono ?_
    rintro e w' ⟨x, o, q5, d5, hz, rfl, hw'⟩
    by_cases hl : n < (B.length : Int)
    · obtain ⟨rfl, rfl⟩ := ZR_one hz (z2 hl)
      refine ⟨_, rfl, _, hw', ?_⟩
      clear hw' hw w w' hz
      rw [hmB] at hl
      repeat (first | (refine sx ?_; try intro _))
      exact JS_ret Try.func6 rfl rfl fun w hw => ⟨rfl, St.sub (by repeat (first | exact List.Sublist.refl _ | apply List.Sublist.cons_cons | apply List.Sublist.cons)) hw⟩
    · obtain ⟨rfl, rfl⟩ := ZR_one hz (z1 (by omega))
      refine ⟨_, rfl, _, hw', ?_⟩
      clear hw' hw w w' hz
      rw [hmB] at hl
      repeat (first | (apply gJO; first | refine JO_v (V_eqStr1 (s := bstr o) rfl rfl rfl) ?_ | refine JO_v (V_str (tb := tb) rfl (Rd_weak hrB fun w hw => St.sub (by repeat (first | exact List.Sublist.refl _ | apply List.Sublist.cons_cons | apply List.Sublist.cons)) hw) hmB rfl rfl rfl rfl) ?_) | first | (refine sx ?_; try intro _))
      exact JS_ret Try.func6 rfl rfl fun w hw => ⟨rfl, St.sub (by repeat (first | exact List.Sublist.refl _ | apply List.Sublist.cons_cons | apply List.Sublist.cons)) hw⟩
end
/-- the law, for the world before the call -/
theorem ZlibPacks_l (p : Option Addr) (c m : Nat) (B : List Int) (n : Int) (w0 : World) (ha : ArgRd w0 (.slice p m c) m (ints .u8 B)) (hm : B.length = m) (hO : OKB B ∧ (p = none → m = 0) ∧ m ≤ 140737488351232) (hn : 0 ≤ n ∧ n < 65536) :
    Calls Try.prog 6 #[.slice p m c, .int .u16 n] w0 fun e w' => e = .returned (.bool true) ∧ RowKit.Below w0.heap.size w0 w' :=
  (ZlibPacks_c (w0 := w0) (H := []) p c m B n (ha.rd _) hm hO.1 hn w0 (St.start w0)).mono fun e w' h => ⟨h.1, h.2.grown⟩
end Go.Proofs.Ytbiocgenbgbfpaa

set_option linter.unusedVariables false
set_option linter.unusedSimpArgs false
namespace Go.Proofs.Ytbiocgenbgbfpaa
open Sx Go
section
variable {w0 : World} {H : List Asn}
set_option maxRecDepth 10000 in
set_option maxHeartbeats 2000000 in
theorem ZlibOpens_c (p : Option Addr) (c m : Nat) (B0 : List Int) (wide : Bool) (L : Int) (hr : Rd w0 H (.slice p m c) m (ints .u8 B0)) (hm : B0.length = m) (hB0 : OKB B0) (hmx : m ≤ 140737488351232) (hL : -9223372036854775808 ≤ L ∧ L < 9223372036854775808) (w : World) (hw : St w0 H w) :
    Calls Try.prog 7 #[.slice p m c, .bool wide, .int .i64 L] w fun e w' => e = .returned (.bool true) ∧ St w0 H w' := by
  refine enter (vs := [.slice p m c, .bool wide, .int .i64 L]) Try.func7 rfl rfl rfl hw ?_
  clear hw w
  repeat (first | (refine sx ?_; try intro _))
  refine JO_call Try.call19 rfl rfl fun w hw => (alive9_c w hw).mono ?_
  rintro e w' ⟨rfl, hw'⟩
  refine ⟨_, rfl, _, hw', ?_⟩
  clear hw' hw w w'
  by_cases hbig : 400 < m
  · repeat (first | (refine sx ?_; try intro _))
    exact JS_ret Try.func7 rfl rfl fun w hw => ⟨rfl, hw⟩
  have h2 : OKB [(120 : Int), 1] := okb_small (by decide)
  cases wide
  case' true =>
    repeat (first | (apply gJO; (refine JO_app (tb := tb) rfl rfl rfl rfl rfl rfl (by repeat (first | exact Sel.here _ _ | apply Sel.there)) (by first | exact vec_rd (by repeat (first | apply List.Mem.head | apply List.Mem.tail)) | assumption | exact ArgRd.rd (by assumption) _ | (apply Rd_weak; assumption; intro _ hx; exact St.sub (by repeat (first | exact List.Sublist.refl _ | apply List.Sublist.cons_cons | apply List.Sublist.cons)) hx)) (by simp only [ints_len, List.length_cons, List.length_nil]; first | omega | rfl) (by first | exact ints_one | (repeat (first | exact trivial | refine ⟨rfl, ?_⟩))) (by omega) rfl ?_; intro _ _)) | apply hIx 7 | first | (refine sx ?_; try intro _))
    rename_i p1 q d
    refine Hold.go ?_
    have hrB : Rd w0 (vec 5 1 (.slice q (2 + m) d) (2 + m) (ints .u8 ([120, 1] ++ B0)) :: H) (.slice q (2 + m) d) (2 + m) (ints .u8 ([120, 1] ++ B0)) := vec_rd (List.Mem.head _)
    have hmB : ([120, 1] ++ B0).length = 2 + m := by simp [hm]; omega
    have hBk := OKB_app h2 hB0
    rw [← ints_app] at hrB
    obtain ⟨B, hBe⟩ : ∃ B, [120, 1] ++ B0 = B := ⟨_, rfl⟩
    have hB3 : B.length ≤ 402 := by rw [← hBe]; omega
    rw [hBe] at hmB hBk
    have hI : ints .u8 [120, 1] ++ ints .u8 B0 = ints .u8 B := by rw [ints_app, hBe]
    rw [show (Value.int .u8 120 :: Value.int .u8 1 :: [].append (rep 0 [Value.int .u8 0]) ++ ints .u8 B0 : List Value) = ints .u8 B from hI]
  case' false =>
    repeat (first | apply hIx 7 | first | (refine sx ?_; try intro _))
    refine Hold.go ?_
    have hrB := hr
    have hmB := hm
    have hBk := hB0
    obtain ⟨B, hBe⟩ : ∃ B, B0 = B := ⟨_, rfl⟩
    have hB3 : B.length ≤ 402 := by rw [← hBe]; omega
    rw [hBe] at hmB hBk
    have hI : ints .u8 B0 = ints .u8 B := by rw [hBe]
  all_goals
    rw [hI] at hrB
    repeat (first | (refine sx ?_; try intro _))
    refine JO_call Try.call22 rfl rfl fun w hw => (ZOpen_c _ _ _ B (Rd_weak hrB fun w hw => St.sub (by repeat (first | exact List.Sublist.refl _ | apply List.Sublist.cons_cons | apply List.Sublist.cons)) hw) hmB hBk (by omega) L hL w hw).mono ?_
    rintro e w' ⟨x, o, q5, d5, hz, rfl, hw'⟩
    refine ⟨_, rfl, _, hw', ?_⟩
    clear hw' hw w w'
    repeat (first | (refine sx ?_; try intro _))
    refine JO_call Try.call23 rfl rfl fun w hw => (ROpen9_c _ _ _ B (Rd_weak hrB fun w hw => St.sub (by repeat (first | exact List.Sublist.refl _ | apply List.Sublist.cons_cons | apply List.Sublist.cons)) hw) hmB hBk (by omega) L hL w hw).mono ?_
    rintro e w' ⟨x', o', q6, d6, hz', rfl, hw'⟩
    obtain ⟨rfl, rfl⟩ := ZR_one hz' hz
    refine ⟨_, rfl, _, hw', ?_⟩
    clear hw' hw w w'
    repeat (first | (apply gJO; first | refine JO_v (V_eqStr1 (s := bstr o') rfl rfl rfl) ?_ | refine JO_v (V_str (tb := tb) rfl (vec_rd (cs := ints .u8 o') (by repeat (first | apply List.Mem.head | apply List.Mem.tail))) rfl rfl rfl rfl rfl) ?_) | first | (refine sx ?_; try intro _))
    refine JO_call Try.call24 rfl rfl fun w hw => (ZHead_c _ _ _ B (Rd_weak hrB fun w hw => St.sub (by repeat (first | exact List.Sublist.refl _ | apply List.Sublist.cons_cons | apply List.Sublist.cons)) hw) hmB hBk w hw).mono ?_
    rintro e w' ⟨rfl, hw'⟩
    refine ⟨_, rfl, _, hw', ?_⟩
    clear hw' hw w w'
    repeat (first | (refine sx ?_; try intro _))
    refine JO_call Try.call25 rfl rfl fun w hw => (RHead_c _ _ _ B (Rd_weak hrB fun w hw => St.sub (by repeat (first | exact List.Sublist.refl _ | apply List.Sublist.cons_cons | apply List.Sublist.cons)) hw) hmB hBk w hw).mono ?_
    rintro e w' ⟨rfl, hw'⟩
    refine ⟨_, rfl, _, hw', ?_⟩
    clear hw' hw w w'
    generalize decide (hdOK B) = hb
    cases hb <;> (repeat (first | (refine sx ?_; try intro _))) <;> exact JS_ret Try.func7 rfl rfl fun w hw => ⟨rfl, St.sub (by repeat (first | exact List.Sublist.refl _ | apply List.Sublist.cons_cons | apply List.Sublist.cons)) hw⟩
end
/-- the law, for the world before the call -/
theorem ZlibOpens_l (p : Option Addr) (c m : Nat) (B : List Int) (wide : Bool) (L : Int) (w0 : World) (ha : ArgRd w0 (.slice p m c) m (ints .u8 B)) (hm : B.length = m) (hO : OKB B ∧ (p = none → m = 0) ∧ m ≤ 140737488351232) (hL : -9223372036854775808 ≤ L ∧ L < 9223372036854775808) :
    Calls Try.prog 7 #[.slice p m c, .bool wide, .int .i64 L] w0 fun e w' => e = .returned (.bool true) ∧ RowKit.Below w0.heap.size w0 w' :=
  (ZlibOpens_c (w0 := w0) (H := []) p c m B wide L (ha.rd _) hm hO.1 hO.2.2 hL w0 (St.start w0)).mono fun e w' h => ⟨h.1, h.2.grown⟩
end Go.Proofs.Ytbiocgenbgbfpaa

set_option linter.unusedVariables false
set_option linter.unusedSimpArgs false
namespace Go.Proofs.Ytbiocgenbgbfpaa
open Sx Go
theorem hd_drop2 (a b : Int) (B : List Int) : ([a, b] ++ (pkB B).drop 2).drop 2 = bestB B ++ sb4 (adl B) := by
  have := pk_drop2 B []
  rw [List.append_nil, List.append_nil] at this
  simp [this]
theorem hd_dropn (a b : Int) (B : List Int) : ([a, b] ++ (pkB B).drop 2).drop (2 + (bestB B).length) = sb4 (adl B) := by
  rw [← List.drop_drop, hd_drop2]
  simp
theorem ZR_hd {B : List Int} (hB : OKB B) (a b : Int) (hl : B.length ≤ 200) (h : hdOK ([a, b] ++ (pkB B).drop 2)) : ZR ([a, b] ++ (pkB B).drop 2) 300 0 B := by
  obtain ⟨k, ha, hA⟩ := ALLR_best (lim := (300 : Int).toNat) (S := sb4 (adl B)) hB (OKB_app (sbs_okb hB) (sb4_okb (adl_bd hB))) (by have : (300 : Int).toNat = 300 := rfl; omega)
  refine .inr ⟨by omega, .inr ⟨by simp, .inr ⟨h, _, by rw [hd_drop2]; exact hA, ?_⟩⟩⟩
  have h4 : (sb4 (adl B)).length = 4 := rfl
  unfold ZT
  dsimp only
  rw [ha, hd_dropn, h4]
  exact .inr ⟨by omega, .inr ⟨rfl, .inr ⟨rfl, rfl, rfl⟩⟩⟩
theorem ZR_nohd {B : List Int} (h2 : 2 ≤ B.length) (h : ¬ hdOK B) : ZR B 300 90 [] := .inr ⟨by omega, .inr ⟨h2, .inl ⟨h, rfl, rfl⟩⟩⟩
section
variable {w0 : World} {H : List Asn}
set_option maxRecDepth 10000 in
set_option maxHeartbeats 2000000 in
theorem ZlibHeads_c (a b : Int) (p : Option Addr) (c m : Nat) (B0 : List Int) (ha : 0 ≤ a ∧ a < 256) (hb : 0 ≤ b ∧ b < 256) (hr : Rd w0 H (.slice p m c) m (ints .u8 B0)) (hm : B0.length = m) (hB0 : OKB B0) (w : World) (hw : St w0 H w) :
    Calls Try.prog 9 #[.int .u8 a, .int .u8 b, .slice p m c] w fun e w' => e = .returned (.bool true) ∧ St w0 H w' := by
  have hmc : m ≤ c := (hr.lcap hw).1
  refine enter (vs := [.int .u8 a, .int .u8 b, .slice p m c]) Try.func9 rfl rfl rfl hw ?_
  clear hw w
  repeat (first | (refine sx ?_; try intro _))
  refine JO_call Try.call19 rfl rfl fun w hw => (alive9_c w hw).mono ?_
  rintro e w' ⟨rfl, hw'⟩
  refine ⟨_, rfl, _, hw', ?_⟩
  clear hw' hw w w'
  by_cases hbig : 200 < m
  case' pos =>
    repeat (first | (apply gJO; refine JO_v (V_slice (tb := tb) (lo := 0) (hi := 200) rfl rfl rfl rfl rfl (by rfl) (by rfl) (fun w hw => ⟨by omega, by omega⟩) rfl) ?_) | first | (refine sx ?_; try intro _))
    have hrB := Rd_take (n := 200) hr hm (by omega)
    have hmB : (B0.take 200).length = 200 := by rw [List.length_take]; omega
    have hBk : OKB (B0.take 200) := OKB_take hB0 200
    have hB3 : (B0.take 200).length ≤ 200 := by omega
    obtain ⟨B, hBe⟩ : ∃ B, B0.take 200 = B := ⟨_, rfl⟩
    rw [hBe] at hrB hmB hBk hB3
    clear hBe hr hm hB0
  case' neg =>
    repeat (first | (refine sx ?_; try intro _))
    have hrB := hr
    have hmB := hm
    have hBk := hB0
    have hB3 : B0.length ≤ 200 := by omega
    obtain ⟨B, hBe⟩ : ∃ B, B0 = B := ⟨_, rfl⟩
    rw [hBe] at hrB hmB hBk hB3
    clear hBe hr hm hB0
  all_goals
    refine JO_call Try.call20 rfl rfl fun w hw => (ZPack_c _ _ _ B (Rd_weak hrB fun w hw => St.sub (by repeat (first | exact List.Sublist.refl _ | apply List.Sublist.cons_cons | apply List.Sublist.cons)) hw) hmB hBk (by omega) w hw).mono ?_
    have hEk := pk_okb hBk
    have hEl := pk_len B
    have hbl := bestB_len hBk
    have z1 := ZR_hd hBk a b hB3
    obtain ⟨E, hE⟩ : ∃ E, pkB B = E := ⟨_, rfl⟩
    rw [hE] at hEk hEl z1 ⊢
    have hXk : OKB ([a, b] ++ E.drop 2) := OKB_app (OKB_of (by simp; omega)) (OKB_drop hEk 2)
    have hXl : ([a, b] ++ E.drop 2).length = 2 + (E.length - 2) := by simp; omega
    rintro e w' ⟨q1, d1, rfl, hw'⟩
    refine ⟨_, rfl, _, hw', ?_⟩
    clear hw' hw w w'
    repeat (first | (apply gJO; first | refine JO_v (V_slice (tb := tb) (lo := 2) (hi := E.length) rfl rfl rfl rfl rfl (by rfl) (by rfl) (fun w hw => ⟨by omega, ((vec_rd (e := 5) (size := 1) (v := .slice q1 E.length d1) (n := E.length) (cs := ints .u8 E) (by repeat (first | apply List.Mem.head | apply List.Mem.tail))).lcap hw).1⟩) rfl) ?_ | (refine JO_app (tb := tb) rfl rfl rfl rfl rfl rfl (by repeat (first | exact Sel.here _ _ | apply Sel.there)) (Rd_drop (n := 2) (X := E) (vec_rd (by repeat (first | apply List.Mem.head | apply List.Mem.tail))) rfl (by omega)) (by rw [ints_len, List.length_drop]; omega) (by first | exact ints_one | (repeat (first | exact trivial | refine ⟨rfl, ?_⟩))) (by omega) rfl ?_; intro _ _)) | apply hIx 7 | first | (refine sx ?_; try intro _))
    refine Hold.go ?_
    have hXh : 2 ≤ ([a, b] ++ E.drop 2).length := by rw [hXl]; omega
    have z2 := ZR_nohd hXh
    obtain ⟨X, hX⟩ : ∃ X, [a, b] ++ E.drop 2 = X := ⟨_, rfl⟩
    have hI : ints .u8 [a, b] ++ ints .u8 (E.drop 2) = ints .u8 X := by rw [ints_app, hX]
    rw [hX] at hXk hXl z1 z2
    rw [show (Value.int .u8 a :: Value.int .u8 b :: [].append (rep 0 [Value.int .u8 0]) ++ ints .u8 (E.drop 2) : List Value) = ints .u8 X from hI]
    repeat (first | (refine sx ?_; try intro _))
    refine JO_call Try.call22 rfl rfl fun w hw => (ZOpen_c _ _ _ X (vec_rd (cs := ints .u8 X) (by repeat (first | apply List.Mem.head | apply List.Mem.tail))) hXl hXk (by omega) 300 (by omega) w hw).mono ?_
    rintro e w' ⟨x, o, q5, d5, hz, rfl, hw'⟩
    refine ⟨_, rfl, _, hw', ?_⟩
    clear hw' hw w w'
    repeat (first | (refine sx ?_; try intro _))
    refine JO_call Try.call25 rfl rfl fun w hw => (RHead_c _ _ _ X (vec_rd (cs := ints .u8 X) (by repeat (first | apply List.Mem.head | apply List.Mem.tail))) hXl hXk w hw).mono ?_
    rintro e w' ⟨rfl, hw'⟩
    refine ⟨_, rfl, _, hw', ?_⟩
    clear hw' hw w w'
    by_cases h : hdOK X
    · obtain ⟨rfl, rfl⟩ := ZR_one hz (z1 h)
      rw [show decide (hdOK X) = true from decide_eq_true h]
      repeat (first | (refine sx ?_; try intro _))
      refine JO_call Try.call24 rfl rfl fun w hw => (ZHead_c _ _ _ X (vec_rd (cs := ints .u8 X) (by repeat (first | apply List.Mem.head | apply List.Mem.tail))) hXl hXk w hw).mono ?_
      rw [show decide (hdOK X) = true from decide_eq_true h]
      rintro e w' ⟨rfl, hw'⟩
      refine ⟨_, rfl, _, hw', ?_⟩
      clear hw' hw w w'
      repeat (first | (apply gJO; first | refine JO_v (V_eqStr1 (s := bstr o) rfl rfl rfl) ?_ | refine JO_v (V_str (tb := tb) rfl (vec_rd (cs := ints .u8 o) (List.Mem.head _)) rfl rfl rfl rfl rfl) ?_ | refine JO_v (V_str (tb := tb) rfl (Rd_weak hrB fun w hw => St.sub (by repeat (first | exact List.Sublist.refl _ | apply List.Sublist.cons_cons | apply List.Sublist.cons)) hw) hmB rfl rfl rfl rfl) ?_) | first | (refine sx ?_; try intro _))
      exact JS_ret Try.func9 rfl rfl fun w hw => ⟨rfl, St.sub (by repeat (first | exact List.Sublist.refl _ | apply List.Sublist.cons_cons | apply List.Sublist.cons)) hw⟩
    · obtain ⟨rfl, rfl⟩ := ZR_one hz (z2 h)
      rw [show decide (hdOK X) = false from decide_eq_false h]
      repeat (first | (refine sx ?_; try intro _))
      refine JO_call Try.call24 rfl rfl fun w hw => (ZHead_c _ _ _ X (vec_rd (cs := ints .u8 X) (by repeat (first | apply List.Mem.head | apply List.Mem.tail))) hXl hXk w hw).mono ?_
      rw [show decide (hdOK X) = false from decide_eq_false h]
      rintro e w' ⟨rfl, hw'⟩
      refine ⟨_, rfl, _, hw', ?_⟩
      clear hw' hw w w'
      repeat (first | (refine sx ?_; try intro _))
      exact JS_ret Try.func9 rfl rfl fun w hw => ⟨rfl, St.sub (by repeat (first | exact List.Sublist.refl _ | apply List.Sublist.cons_cons | apply List.Sublist.cons)) hw⟩
end
/-- the law, for the world before the call -/
theorem ZlibHeads_l (a b : Int) (p : Option Addr) (c m : Nat) (B : List Int) (w0 : World) (ha : 0 ≤ a ∧ a < 256) (hb : 0 ≤ b ∧ b < 256) (hA : ArgRd w0 (.slice p m c) m (ints .u8 B)) (hm : B.length = m) (hO : OKB B ∧ (p = none → m = 0) ∧ m ≤ 140737488351232) :
    Calls Try.prog 9 #[.int .u8 a, .int .u8 b, .slice p m c] w0 fun e w' => e = .returned (.bool true) ∧ RowKit.Below w0.heap.size w0 w' :=
  (ZlibHeads_c (w0 := w0) (H := []) a b p c m B ha hb (hA.rd _) hm hO.1 w0 (St.start w0)).mono fun e w' h => ⟨h.1, h.2.grown⟩
end Go.Proofs.Ytbiocgenbgbfpaa

namespace Go.Proofs.Ytbiocgenbgbfpaa
open Sx Go
set_option linter.unusedVariables false
set_option linter.unusedSimpArgs false
attribute [local irreducible] syA fc tk cds
theorem okb_last {l : List Int} (h : OKB l) : 0 ≤ l.getD (l.length - 1) 0 ∧ l.getD (l.length - 1) 0 < 256 := h _
theorem lenP_okb {many : Nat} {l l' : List Int} {x t : Int} {a a' : Nat} (hl : OKB l) (hx : 0 ≤ x ∧ x < 256) (h : lenP many l x t a = .go a' l') : OKB l' := by
  unfold lenP at h
  split at h
  · cases h
  · simp only [Stp.go.injEq] at h
    obtain ⟨rfl, rfl⟩ := h
    exact OKB_app hl (OKB_rep hx _)
theorem lenF_okb {bt : Nat → Int} {N a a' many : Nat} {C l l' : List Int} (hC : C.length ≤ 256) (ha : a ≤ N) (hl : OKB l) (h : lenF bt N C many a l = .go a' l') : OKB l' := by
  unfold lenF at h
  split at h
  · cases h
  · split at h
    · cases h
    · rename_i i a1 hs
      have hi := symS_gt hs ha
      split at h
      · split at h
        · cases h
        · split at h
          · cases h
          · exact lenP_okb hl (hl _) h
      · split at h
        · split at h
          · cases h
          · exact lenP_okb hl ⟨by decide, by decide⟩ h
        · split at h
          · split at h
            · cases h
            · exact lenP_okb hl ⟨by decide, by decide⟩ h
          · exact lenP_okb hl ⟨hi.2.2.1, by omega⟩ h
theorem lens_okb {bt : Nat → Int} {N many : Nat} {C : List Int} (hC : C.length ≤ 256) {a : Nat} {l : List Int} {r : Res} (h : It (lenF bt N C many) a l r) : a ≤ N → OKB l → ∀ a' l', r = .ok a' l' → OKB l' := by
  induction h with
  | err _ => intro _ _ a' l' h; cases h
  | stop h =>
    intro ha hl a' l' h'
    cases h'
    unfold lenF at h
    split at h
    · simp only [Stp.stop.injEq] at h; rw [← h.2]; exact hl
    · exfalso
      split at h
      · cases h
      · split at h
        · split at h
          · cases h
          · split at h
            · cases h
            · unfold lenP at h; split at h <;> cases h
        · split at h
          · split at h
            · cases h
            · unfold lenP at h; split at h <;> cases h
          · split at h
            · split at h
              · cases h
              · unfold lenP at h; split at h <;> cases h
            · unfold lenP at h; split at h <;> cases h
  | go h _ ih =>
    intro ha hl
    exact ih (lenF_gt ha h).2 (lenF_okb hC ha hl h)
section
variable {bt bt' : Nat → Int} {N N' M : Nat}
/-- some bits behind a symbol of the lengths -/
theorem lenQ (h : AG bt bt' N N' M) {many c a1 a' : Nat} {l l' : List Int} {x b : Int} (hs : (if N < a1 + c then .err 20 else lenP many l x (b + nbt bt a1 c) (a1 + c)) = Stp.go a' l') :
    (a' ≤ M → (if N' < a1 + c then .err 20 else lenP many l x (b + nbt bt' a1 c) (a1 + c)) = Stp.go a' l') ∧ (N' = M → M < a' → (if N' < a1 + c then .err 20 else lenP many l x (b + nbt bt' a1 c) (a1 + c)) = Stp.err 20) ∧ a1 ≤ a' := by
  split at hs
  · cases hs
  · have hp := lenP_go hs
    refine ⟨fun hle => ?_, fun hN hlt => ?_, by omega⟩
    · have e := h.nbt (a := a1) (c := c) (by omega)
      rw [if_neg (by have := h.le'; omega), ← e]; exact hs
    · rw [if_pos (by omega)]
theorem lenF_agg (h : AG bt bt' N N' M) {C : List Int} (hB : OKB C) (hk : OKL C) (many : Nat) : AGg M (N' = M) (lenF bt N C many) (lenF bt' N' C many) := by
  intro a l a' l' ha hs
  unfold lenF at hs ⊢
  split at hs
  · cases hs
  · rename_i h0
    rw [if_neg h0]
    cases hy : symS bt N C a with
    | err e => rw [hy] at hs; cases hs
    | ok i a1 =>
      rw [hy] at hs
      simp only at hs
      obtain ⟨s1, s2⟩ := symS_ag h hB hk ha hy
      rcases Nat.lt_or_ge M a1 with hl | hge
      · refine ⟨fun hle => ?_, fun hN hlt => ?_⟩
        · exfalso
          split at hs
          · split at hs
            · cases hs
            · have := (lenQ h (b := 3) hs).2.2; omega
          · split at hs
            · have := (lenQ h (b := 3) hs).2.2; omega
            · split at hs
              · have := (lenQ h (b := 11) hs).2.2; omega
              · have := lenP_go hs; omega
        · rw [s2 hN hl]
      · rw [s1 hge]
        simp only
        split at hs
        · rename_i h1
          rw [if_pos h1]
          split at hs
          · cases hs
          · rename_i h2
            rw [if_neg h2]
            exact ⟨(lenQ h (b := 3) hs).1, (lenQ h (b := 3) hs).2.1⟩
        · rename_i h1
          rw [if_neg h1]
          split at hs
          · rename_i h2
            rw [if_pos h2]
            exact ⟨(lenQ h (b := 3) hs).1, (lenQ h (b := 3) hs).2.1⟩
          · rename_i h2
            rw [if_neg h2]
            split at hs
            · rename_i h3
              rw [if_pos h3]
              exact ⟨(lenQ h (b := 11) hs).1, (lenQ h (b := 11) hs).2.1⟩
            · rename_i h3
              rw [if_neg h3]
              have hp := lenP_go hs
              exact ⟨fun _ => hs, fun hN hlt => by omega⟩
theorem lenF_ags (h : AG bt bt' N N' M) {C : List Int} (many : Nat) : AGs M (N' = M) (lenF bt N C many) (lenF bt' N' C many) := by
  intro a l a' l' ha hs
  have hst : many ≤ l.length := by
    rcases Nat.lt_or_ge l.length many with hlt | hge
    · exfalso
      unfold lenF at hs
      rw [if_neg (by omega)] at hs
      split at hs
      · cases hs
      · split at hs
        · split at hs
          · cases hs
          · split at hs
            · cases hs
            · unfold lenP at hs; split at hs <;> cases hs
        · split at hs
          · split at hs
            · cases hs
            · unfold lenP at hs; split at hs <;> cases hs
          · split at hs
            · split at hs
              · cases hs
              · unfold lenP at hs; split at hs <;> cases hs
            · unfold lenP at hs; split at hs <;> cases hs
    · exact hge
  unfold lenF at hs ⊢
  rw [if_pos hst] at hs ⊢
  simp only [Stp.stop.injEq] at hs
  obtain ⟨rfl, rfl⟩ := hs
  exact ⟨fun _ => rfl, fun _ hlt => by omega⟩
theorem ccl_ag (h : AG bt bt' N N' M) (a : Nat) : ∀ n, a + 3 * n ≤ M → ccl bt a n = ccl bt' a n
  | 0, _ => rfl
  | n + 1, hn => by
    simp only [ccl]
    rw [ccl_ag h a n (by omega), h.nbt (a := a + 3 * n) (c := 3) (by omega)]
theorem stoF_ag (h : AG bt bt' N N' M) (hM : M % 8 = 0 ∨ ¬ N' = M) (lim : Nat) : AGr M (N' = M) (stoF bt N lim) (stoF bt' N' lim) := by
  intro a o a' o' ha hs
  have hn := (nbt_bd bt h.b (upto8 a) 16).1
  unfold stoF at hs ⊢
  split at hs
  · cases hs
  · rename_i h1
    split at hs
    · cases hs
    · rename_i h2
      split at hs
      · cases hs
      · rename_i h3
        split at hs
        · cases hs
        · rename_i h4
          split at hs
          · cases hs
          · rename_i h5
            simp only [Res.ok.injEq] at hs
            obtain ⟨rfl, rfl⟩ := hs
            refine ⟨fun hle => ?_, fun hN hlt => ?_⟩
            · have e1 := h.nbt (a := upto8 a) (c := 16) (by omega)
              have e2 := h.nbt (a := upto8 a + 16) (c := 16) (by omega)
              have := h.le'
              rw [if_neg (by omega), if_neg (by omega), ← e1, ← e2, if_neg h3, if_neg h4, if_neg (by omega)]
              congr 2
              unfold byts
              apply List.map_congr_left
              intro j hj
              rw [List.mem_range] at hj
              exact (h.nbt (by omega)).symm
            · rcases Nat.lt_or_ge M (upto8 a + 16) with g1 | g1
              · rw [if_pos (by omega)]
              · rw [if_neg (by omega)]
                rcases Nat.lt_or_ge M (upto8 a + 32) with g2 | g2
                · rw [if_pos (by omega)]
                · rw [if_neg (by omega)]
                  have e1 := h.nbt (a := upto8 a) (c := 16) (by omega)
                  have e2 := h.nbt (a := upto8 a + 16) (c := 16) (by omega)
                  rw [← e1, ← e2, if_neg h3, if_neg h4, if_pos (by omega)]
theorem desF_ag (h : AG bt bt' N N' M) (lim : Nat) : AGr M (N' = M) (desF bt N lim) (desF bt' N' lim) := by
  intro a o a' o' ha hs
  have hleN := h.le
  unfold desF at hs ⊢
  split at hs
  · cases hs
  · rename_i h1
    split at hs
    · cases hs
    · rename_i h2
      split at hs
      · cases hs
      · rename_i h3
        rcases Nat.lt_or_ge M (a + 14) with g | g
        · have hge : a + 14 ≤ a' := by
            unfold des1 at hs
            split at hs
            · cases hs
            · split at hs
              · cases hs
              · split at hs
                · cases hs
                · split at hs
                  · cases hs
                  · rename_i a1 l1 hl1
                    have q1 := It_ge (fun a o a' o' => lenF_ge) (itF_ok hl1) _ _ rfl
                    unfold des2 at hs
                    split at hs
                    · cases hs
                    · split at hs
                      · cases hs
                      · split at hs
                        · cases hs
                        · have := It_ge (fun a o a' o' => blkF_ge) (itF_ok hs) _ _ rfl
                          omega
          refine ⟨fun hle => by omega, fun hN hlt => ?_⟩
          rcases Nat.lt_or_ge M (a + 5) with q1 | q1
          · rw [if_pos (by omega)]
          · rw [if_neg (by omega)]
            rcases Nat.lt_or_ge M (a + 10) with q2 | q2
            · rw [if_pos (by omega)]
            · rw [if_neg (by omega), if_pos (by omega)]
        · have hle' := h.le'
          rw [if_neg (by omega), if_neg (by omega), if_neg (by omega)]
          rw [← h.nbt (a := a) (c := 5) (by omega), ← h.nbt (a := a + 5) (c := 5) (by omega), ← h.nbt (a := a + 10) (c := 4) (by omega)]
          generalize (nbt bt a 5 + 257).toNat = lit at *
          generalize (nbt bt (a + 5) 5 + 1).toNat = sp at *
          generalize (nbt bt (a + 10) 4 + 4).toNat = ln at *
          unfold des1 at hs ⊢
          split at hs
          · cases hs
          · rename_i h4
            rw [if_neg h4]
            split at hs
            · cases hs
            · rename_i h5
              split at hs
              · cases hs
              · rename_i h6
                have hkC : OKL (ccl bt (a + 14) ln) := Classical.byContradiction fun hh => h6 (.inl hh)
                have hBC := ccl_okb bt h.b (a + 14) ln
                split at hs
                · cases hs
                · rename_i a1 l1 hl1
                  have q1 := It_ge (fun a o a' o' => lenF_ge) (itF_ok hl1) _ _ rfl
                  have hol : OKB l1 := lens_okb (by rw [ccl_len]; omega) (itF_ok hl1) (by omega) OKB_nil _ _ rfl
                  have q2 : a1 ≤ a' := by
                    unfold des2 at hs
                    split at hs
                    · cases hs
                    · split at hs
                      · cases hs
                      · split at hs
                        · cases hs
                        · exact It_ge (fun a o a' o' => blkF_ge) (itF_ok hs) _ _ rfl
                  have D2 : a1 ≤ M → (a' ≤ M → des2 bt' N' lim lit l1 a1 o = .ok a' o') ∧ (N' = M → M < a' → des2 bt' N' lim lit l1 a1 o = .err 20) := by
                    intro h1M
                    unfold des2 at hs ⊢
                    split at hs
                    · cases hs
                    · rename_i h7
                      rw [if_neg h7]
                      split at hs
                      · cases hs
                      · rename_i h8
                        rw [if_neg h8]
                        split at hs
                        · cases hs
                        · rename_i h9
                          rw [if_neg h9]
                          exact itblk_ag h (Byt_take hol _) (Classical.byContradiction h8) (Byt_drop hol _) (Classical.byContradiction h9) lim _ _ _ _ h1M hs
                  rcases Nat.lt_or_ge M (a + 14 + 3 * ln) with g2 | g2
                  · refine ⟨fun hle => by omega, fun hN hlt => ?_⟩
                    rw [if_pos (by omega)]
                  · rw [if_neg (by omega), ← ccl_ag h (a + 14) ln g2, if_neg h6]
                    obtain ⟨t1, t2⟩ := itF_ag (fun _ _ _ _ => lenF_ge) (lenF_agg h hBC hkC (lit + sp)) (lenF_ags h (C := ccl bt (a + 14) ln) (lit + sp)) _ _ _ _ g2 hl1
                    rcases Nat.lt_or_ge M a1 with g3 | g3
                    · refine ⟨fun hle => by omega, fun hN hlt => ?_⟩
                      rw [t2 hN g3]
                    · rw [t1 g3]
                      exact D2 g3
theorem kndF_ag (h : AG bt bt' N N' M) (hM : M % 8 = 0 ∨ ¬ N' = M) (lim : Nat) (k : Int) : AGr M (N' = M) (kndF bt N lim k) (kndF bt' N' lim k) := by
  intro a o a' o' ha hs
  unfold kndF at hs ⊢
  split at hs
  · rename_i h1
    rw [if_pos h1]
    exact stoF_ag h hM lim _ _ _ _ ha hs
  · rename_i h1
    rw [if_neg h1]
    split at hs
    · rename_i h2
      rw [if_pos h2]
      exact itblk_ag h fix_okb fix_okl spans_okb spans_okl lim _ _ _ _ ha hs
    · rename_i h2
      rw [if_neg h2]
      split at hs
      · rename_i h3
        rw [if_pos h3]
        exact desF_ag h lim _ _ _ _ ha hs
      · cases hs
theorem rdF_both (h : AG bt bt' N N' M) (hM : M % 8 = 0 ∨ ¬ N' = M) (lim : Nat) : AGg M (N' = M) (rdF bt N lim) (rdF bt' N' lim) ∧ AGs M (N' = M) (rdF bt N lim) (rdF bt' N' lim) := by
  have hle' := h.le'
  have key : ∀ a o a1 o1, a ≤ M → ¬ N < a + 1 → ¬ N < a + 3 → kndF bt N lim (nbt bt (a + 1) 2) (a + 3) o = .ok a1 o1 →
      (a1 ≤ M → rdF bt' N' lim a o = if nbt bt a 1 = 0 then .go a1 o1 else .stop a1 o1) ∧ (N' = M → M < a1 → rdF bt' N' lim a o = .err 20) := by
    intro a o a1 o1 ha h1 h2 hk
    have hge := kndF_ge hk
    unfold rdF
    rcases Nat.lt_or_ge M (a + 3) with g | g
    · refine ⟨fun hle => by omega, fun hN hlt => ?_⟩
      rcases Nat.lt_or_ge M (a + 1) with g1 | g1
      · rw [if_pos (by omega)]
      · rw [if_neg (by omega), if_pos (by omega)]
    · obtain ⟨k1, k2⟩ := kndF_ag h hM lim _ _ _ _ _ g hk
      rw [if_neg (by omega), if_neg (by omega), ← h.nbt (a := a) (c := 1) (by omega), ← h.nbt (a := a + 1) (c := 2) (by omega)]
      exact ⟨fun hle => by rw [k1 hle], fun hN hlt => by rw [k2 hN hlt]⟩
  constructor
  all_goals
    intro a o a' o' ha hs
    have hs0 := hs
    unfold rdF at hs
    split at hs
    · cases hs
    · rename_i h1
      split at hs
      · cases hs
      · rename_i h2
        split at hs
        · cases hs
        · rename_i a1 o1 hk
          obtain ⟨q1, q2⟩ := key a o a1 o1 ha h1 h2 hk
          split at hs
          all_goals first
            | cases hs; done
            | (rename_i h3
               first
                | (simp only [Stp.go.injEq] at hs
                   obtain ⟨rfl, rfl⟩ := hs
                   exact ⟨fun hle => by rw [q1 hle, if_pos h3], q2⟩)
                | (simp only [Stp.stop.injEq] at hs
                   obtain ⟨rfl, rfl⟩ := hs
                   exact ⟨fun hle => by rw [q1 hle, if_neg h3], q2⟩))
end
theorem rdF_ge {bt : Nat → Int} {N lim a a' : Nat} {o o' : List Int} (h : rdF bt N lim a o = .go a' o' ∨ rdF bt N lim a o = .stop a' o') : a ≤ a' := by
  unfold rdF at h
  split at h
  · rcases h with h | h <;> cases h
  · split at h
    · rcases h with h | h <;> cases h
    · split at h
      · rcases h with h | h <;> cases h
      · rename_i a1 o1 hk
        have := kndF_ge hk
        split at h
        · rcases h with h | h
          · simp only [Stp.go.injEq] at h; omega
          · cases h
        · rcases h with h | h
          · cases h
          · simp only [Stp.stop.injEq] at h; omega
/-- what stands behind makes no difference -/
theorem ALLR_behind {B B' : List Int} {lim a : Nat} {o : List Int} (h : ALLR B lim (.ok a o)) (ha : a ≤ 8 * B.length) (ha' : a ≤ 8 * B'.length) (he : ∀ j, j < a → bitB B 0 j = bitB B' 0 j) : ALLR B' lim (.ok a o) := by
  by_cases hN : 8 * B'.length = a
  · have ag : AG (bitB B 0) (bitB B' 0) (8 * B.length) (8 * B'.length) a := ⟨he, ha, ha', bitB_01 _ _, bitB_01 _ _⟩
    exact (It_ag (fun _ _ _ _ => rdF_ge) (rdF_both ag (.inl (by omega)) lim).1 (rdF_both ag (.inl (by omega)) lim).2 h (Nat.zero_le _) _ _ rfl).1 (Nat.le_refl _)
  · have ag : AG (bitB B 0) (bitB B' 0) (8 * B.length) (8 * B'.length) a := ⟨he, ha, ha', bitB_01 _ _, bitB_01 _ _⟩
    exact (It_ag (fun _ _ _ _ => rdF_ge) (rdF_both ag (.inr hN) lim).1 (rdF_both ag (.inr hN) lim).2 h (Nat.zero_le _) _ _ rfl).1 (Nat.le_refl _)
/-- a stream that is cut off ends -/
theorem ALLR_cut {B B' : List Int} {lim a : Nat} {o : List Int} (h : ALLR B lim (.ok a o)) (hl : 8 * B'.length < a) (hle : B'.length ≤ B.length) (he : ∀ j, j < 8 * B'.length → bitB B 0 j = bitB B' 0 j) : ALLR B' lim (.err 20) := by
  have ag : AG (bitB B 0) (bitB B' 0) (8 * B.length) (8 * B'.length) (8 * B'.length) := ⟨he, by omega, Nat.le_refl _, bitB_01 _ _, bitB_01 _ _⟩
  exact (It_ag (fun _ _ _ _ => rdF_ge) (rdF_both ag (.inl (by omega)) lim).1 (rdF_both ag (.inl (by omega)) lim).2 h (Nat.zero_le _) _ _ rfl).2 rfl hl
end Go.Proofs.Ytbiocgenbgbfpaa

set_option linter.unusedVariables false
set_option linter.unusedSimpArgs false
namespace Go.Proofs.Ytbiocgenbgbfpaa
open Sx Go
/-! layer 09: what was spoilt, what was cut (plain) -/
theorem bitB_tk {B : List Int} {n j : Nat} (h : j < 8 * n) : bitB B 0 j = bitB (B.take n) 0 j := by
  unfold bitB
  rw [Nat.zero_add, List.getD_eq_getElem?_getD, List.getD_eq_getElem?_getD, List.getElem?_take, if_pos (by omega)]
/-- another sum stands behind -/
theorem ZR_sum {B S : List Int} (hB : OKB B) (hS : OKB S) (h4 : S.length = 4) (hl : B.length ≤ 1000) (hne : S ≠ sb4 (adl B)) : ZR ([120, 1] ++ bestB B ++ S) 1000 91 [] := by
  obtain ⟨a, ha, hA⟩ := ALLR_best (lim := (1000 : Int).toNat) (S := S) hB (OKB_app (sbs_okb hB) hS) (by have : (1000 : Int).toNat = 1000 := rfl; omega)
  have e2 : ([120, 1] ++ bestB B ++ S).drop 2 = bestB B ++ S := by simp
  have e3 : ([120, 1] ++ bestB B ++ S).drop (2 + (bestB B).length) = S := by rw [← List.drop_drop, e2]; simp
  have hh : hdOK ([120, 1] ++ bestB B ++ S) := by
    have h0 : ([120, 1] ++ bestB B ++ S).getD 0 0 = 120 := rfl
    have h1 : ([120, 1] ++ bestB B ++ S).getD 1 0 = 1 := rfl
    unfold hdOK
    rw [h0, h1]
    exact ⟨by simp, by decide, by decide, by decide, by decide⟩
  refine .inr ⟨by omega, .inr ⟨by simp, .inr ⟨hh, _, by rw [e2]; exact hA, ?_⟩⟩⟩
  unfold ZT
  dsimp only
  rw [ha, e3]
  exact .inr ⟨by omega, .inl ⟨by rw [List.take_of_length_le (by omega)]; exact hne, rfl, rfl⟩⟩
/-- the end is cut off -/
theorem ZR_cut {B : List Int} (hB : OKB B) (hl : B.length ≤ 1000) (n : Nat) (hn : n < (pkB B).length) : ZR ((pkB B).take n) 1000 20 [] := by
  have hkl := pk_len B
  have hl' : ((pkB B).take n).length = n := by rw [List.length_take]; omega
  by_cases h2 : n < 2
  · exact .inr ⟨by omega, .inl ⟨by omega, rfl, rfl⟩⟩
  have hh : hdOK ((pkB B).take n) := by
    obtain ⟨k, rfl⟩ : ∃ k, n = k + 2 := ⟨n - 2, by omega⟩
    have h0 : ((pkB B).take (k + 2)).getD 0 0 = 120 := rfl
    have h1 : ((pkB B).take (k + 2)).getD 1 0 = 1 := rfl
    unfold hdOK
    rw [h0, h1]
    exact ⟨by omega, by decide, by decide, by decide, by decide⟩
  have hd : ((pkB B).take n).drop 2 = (bestB B ++ sb4 (adl B)).take (n - 2) := by
    have := pk_drop2 B []
    rw [List.append_nil, List.append_nil] at this
    rw [List.drop_take, this]
  have h4 : (sb4 (adl B)).length = 4 := rfl
  have ht : (1000 : Int).toNat = 1000 := rfl
  refine .inr ⟨by omega, .inr ⟨by omega, .inr ⟨hh, ?_⟩⟩⟩
  rw [hd]
  by_cases hc : n - 2 < (bestB B).length
  · obtain ⟨a, ha, hA⟩ := ALLR_best (lim := (1000 : Int).toNat) (S := sb4 (adl B)) hB (OKB_app (sbs_okb hB) (sb4_okb (adl_bd hB))) (by omega)
    have hlen : ((bestB B ++ sb4 (adl B)).take (n - 2)).length = n - 2 := by rw [List.length_take, List.length_append]; omega
    refine ⟨.err 20, ALLR_cut hA (by rw [hlen]; omega) (by rw [List.length_take]; omega) (fun j hj => bitB_tk (by rw [hlen] at hj; exact hj)), ⟨rfl, rfl⟩⟩
  · have e : (bestB B ++ sb4 (adl B)).take (n - 2) = bestB B ++ (sb4 (adl B)).take (n - 2 - (bestB B).length) := by rw [List.take_append, List.take_of_length_le (by omega)]
    obtain ⟨a, ha, hA⟩ := ALLR_best (lim := (1000 : Int).toNat) (S := (sb4 (adl B)).take (n - 2 - (bestB B).length)) hB (OKB_app (sbs_okb hB) (OKB_take (sb4_okb (adl_bd hB)) _)) (by omega)
    refine ⟨.ok a B, by rw [e]; exact hA, ?_⟩
    unfold ZT
    dsimp only
    rw [ha]
    exact .inl ⟨by rw [List.length_drop, hl']; omega, rfl, rfl⟩
end Go.Proofs.Ytbiocgenbgbfpaa

set_option linter.unusedVariables false
set_option linter.unusedSimpArgs false
namespace Go.Proofs.Ytbiocgenbgbfpaa
open Sx Go
theorem xor_u8 {x k : Int} (hx : 0 ≤ x ∧ x < 256) (hk : 0 ≤ k ∧ k < 256) : ∃ y, IntKind.u8.wrap ((BitVec.ofInt IntKind.u8.bits x ^^^ BitVec.ofInt IntKind.u8.bits k).toNat) = y ∧ (0 ≤ y ∧ y < 256) ∧ (k ≠ 0 → y ≠ x) := by
  have hb : x.toNat ^^^ k.toNat < 2 ^ 8 := Nat.xor_lt_two_pow (by omega) (by omega)
  have hb' : x.toNat ^^^ k.toNat < 256 := hb
  refine ⟨((x.toNat ^^^ k.toNat : Nat) : Int), ?_, ⟨by omega, by omega⟩, ?_⟩
  · rw [xor_nat .u8 ⟨hx.1, hx.2⟩ ⟨hk.1, hk.2⟩]
    exact wu8 (by omega)
  · intro h0 h
    have h1 : x.toNat ^^^ k.toNat = x.toNat := by omega
    have h2 := congrArg (x.toNat ^^^ ·) h1
    simp only [← Nat.xor_assoc, Nat.xor_self, Nat.zero_xor] at h2
    omega
section
variable {w0 : World} {H : List Asn}
set_option maxRecDepth 10000 in
set_option maxHeartbeats 2000000 in
theorem ZlibSpoilt_c (p : Option Addr) (c m : Nat) (B0 : List Int) (a b n : Int) (ha : 0 ≤ a ∧ a < 256) (hb : 0 ≤ b ∧ b < 256) (hn : -9223372036854775808 ≤ n ∧ n < 9223372036854775808) (hr : Rd w0 H (.slice p m c) m (ints .u8 B0)) (hm : B0.length = m) (hB0 : OKB B0) (w : World) (hw : St w0 H w) :
    Calls Try.prog 8 #[.slice p m c, .int .u8 a, .int .u8 b, .int .i64 n] w fun e w' => e = .returned (.bool true) ∧ St w0 H w' := by
  have hmc : m ≤ c := (hr.lcap hw).1
  refine enter (vs := [.slice p m c, .int .u8 a, .int .u8 b, .int .i64 n]) Try.func8 rfl rfl rfl hw ?_
  clear hw w
  repeat (first | (refine sx ?_; try intro _))
  refine JO_call Try.call19 rfl rfl fun w hw => (alive9_c w hw).mono ?_
  rintro e w' ⟨rfl, hw'⟩
  refine ⟨_, rfl, _, hw', ?_⟩
  clear hw' hw w w'
  by_cases hbig : 300 < m
  case' pos =>
    repeat (first | (apply gJO; refine JO_v (V_slice (tb := tb) (lo := 0) (hi := 300) rfl rfl rfl rfl rfl (by rfl) (by rfl) (fun w hw => ⟨by omega, by omega⟩) rfl) ?_) | first | (refine sx ?_; try intro _))
    have hrB := Rd_take (n := 300) hr hm (by omega)
    have hmB : (B0.take 300).length = 300 := by rw [List.length_take]; omega
    have hBk : OKB (B0.take 300) := OKB_take hB0 300
    have hB3 : (B0.take 300).length ≤ 300 := by omega
    obtain ⟨B, hBe⟩ : ∃ B, B0.take 300 = B := ⟨_, rfl⟩
    rw [hBe] at hrB hmB hBk hB3
    clear hBe hr hm hB0
  case' neg =>
    repeat (first | (refine sx ?_; try intro _))
    have hrB := hr
    have hmB := hm
    have hBk := hB0
    have hB3 : B0.length ≤ 300 := by omega
    obtain ⟨B, hBe⟩ : ∃ B, B0 = B := ⟨_, rfl⟩
    rw [hBe] at hrB hmB hBk hB3
    clear hBe hr hm hB0
  all_goals
    refine JO_call Try.call20 rfl rfl fun w hw => (ZPack_c _ _ _ B (Rd_weak hrB fun w hw => St.sub (by repeat (first | exact List.Sublist.refl _ | apply List.Sublist.cons_cons | apply List.Sublist.cons)) hw) hmB hBk (by omega) w hw).mono ?_
    have hEk := pk_okb hBk
    have hEl := pk_len B
    have hbl := bestB_len hBk
    have z2 := ZR_cut hBk (by omega)
    obtain ⟨at_, hat⟩ : ∃ at_ : Nat, (((bestB B).length + 6 : Nat) : Int) - 1 - a % 4 = at_ := ⟨(((bestB B).length + 6 : Nat) - 1 - a % 4 : Int).toNat, by omega⟩
    obtain ⟨y, hy, hyb, hyn⟩ := xor_u8 (x := (pkB B).getD at_ 0) (hEk at_) hb
    have z1 : b ≠ 0 → ZR ((pkB B).set at_ y) 1000 91 [] := by
      intro h0
      obtain ⟨i, rfl⟩ : ∃ i, at_ = 2 + (bestB B).length + i := ⟨at_ - (2 + (bestB B).length), by omega⟩
      have e : (pkB B).set (2 + (bestB B).length + i) y = [120, 1] ++ bestB B ++ (sb4 (adl B)).set i y := by
        unfold pkB
        rw [List.set_append_right _ _ (by simp; omega)]
        congr 2
        simp
        omega
      have hi : i < 4 := by omega
      have hg : (pkB B).getD (2 + (bestB B).length + i) 0 = (sb4 (adl B)).getD i 0 := by
        unfold pkB
        rw [List.getD_eq_getElem?_getD, List.getElem?_append_right (by simp; omega), ← List.getD_eq_getElem?_getD]
        congr 1
        simp
        omega
      rw [e]
      refine ZR_sum hBk ?_ (by simp [sb4]) (by omega) ?_
      · intro j
        rw [List.getD_eq_getElem?_getD, List.getElem?_set]
        have := sb4_okb (adl_bd hBk) j
        rw [List.getD_eq_getElem?_getD] at this
        split
        · split
          · exact hyb
          · simp
        · exact this
      · intro h
        have := congrArg (·.getD i 0) h
        rw [List.getD_eq_getElem?_getD, List.getElem?_set_self (show i < (sb4 (adl B)).length from hi)] at this
        exact hyn h0 (by rw [hg]; exact this)
    obtain ⟨E, hE⟩ : ∃ E, pkB B = E := ⟨_, rfl⟩
    rw [hE] at hEk hEl z1 z2 hy hyn ⊢
    rw [← hEl] at hat
    have hatl : at_ < E.length := by omega
    have hEb : E.length ≤ 2000 := by omega
    rintro e w' ⟨q1, d1, rfl, hw'⟩
    refine ⟨_, rfl, _, hw', ?_⟩
    clear hw' hw w w' hEl hbl
    repeat (first | (apply gJO; (refine JO_app (tb := tb) rfl rfl rfl rfl rfl rfl (by repeat (first | exact Sel.here _ _ | apply Sel.there)) (by first | exact vec_rd (by repeat (first | apply List.Mem.head | apply List.Mem.tail)) | assumption | exact ArgRd.rd (by assumption) _ | (apply Rd_weak; assumption; intro _ hx; exact St.sub (by repeat (first | exact List.Sublist.refl _ | apply List.Sublist.cons_cons | apply List.Sublist.cons)) hx)) (by simp only [ints_len, List.length_cons, List.length_nil]; first | omega | rfl) (by first | exact ints_one | (repeat (first | exact trivial | refine ⟨rfl, ?_⟩))) (by omega) rfl ?_; intro _ _)) | apply hIx 8 | first | (refine sx ?_; try intro _))
    rename_i p0 q2 d2
    rw [Nat.zero_add, hat, show (rep 0 [Value.int .u8 0] ++ ints .u8 E : List Value) = ints .u8 E from rfl]
    have gE : (ints .u8 E)[0 + ((at_ : Nat) : Int).toNat * 1]? = some (.int .u8 (E.getD at_ 0)) := by
      rw [show 0 + ((at_ : Nat) : Int).toNat * 1 = at_ by omega]
      unfold ints
      rw [List.getElem?_map, List.getElem?_eq_getElem hatl, List.getD_eq_getElem?_getD, List.getElem?_eq_getElem hatl]; rfl
    refine Hold.go ?_
    repeat (first | (apply gJO; first | refine JO_v (oL (V_loadC (tb := tb) rfl (vec_rd (cs := ints .u8 E) (List.Mem.head _)) rfl rfl gE rfl)) ?_ | refine JO_v (V_xor rfl rfl hy rfl) ?_) | (apply kS; refine JO_k (K_store (tb := tb) rfl rfl (by repeat (first | apply Upd.here | apply Upd.there)) rfl rfl rfl (by repeat (first | exact trivial | refine ⟨rfl, ?_⟩)) (by rw [show 0 + ((at_ : Nat) : Int).toNat * 1 = at_ by omega]; exact setSeg_ints (by omega)) rfl) ?_) | (first | (refine sx ?_; try intro _)))
    have hSk : OKB (E.set at_ y) := by
      intro j
      rw [List.getD_eq_getElem?_getD, List.getElem?_set]
      have := hEk j
      rw [List.getD_eq_getElem?_getD] at this
      split
      · exact hyb
      · exact this
    refine JO_call Try.call22 rfl rfl fun w hw => (ZOpen_c _ _ _ (E.set at_ y) (vec_rd (cs := ints .u8 (E.set at_ y)) (by repeat (first | apply List.Mem.head | apply List.Mem.tail))) (by rw [List.length_set]) hSk (by omega) 1000 (by omega) w hw).mono ?_
    rintro e w' ⟨x, o, q5, d5, hz, rfl, hw'⟩
    refine ⟨_, rfl, _, hw', ?_⟩
    clear hw' hw w w'
    by_cases hb0 : b = 0
    case' pos =>
      clear z1 hyn hz
      repeat (first | apply hIx 12 | first | (refine sx ?_; try intro _))
    case' neg =>
      obtain ⟨rfl, rfl⟩ := ZR_one hz (z1 hb0)
      clear hz z1 hyn
      rw [show ([] : List Int).length = 0 from rfl]
      repeat (first | apply hIx 12 | first | (refine sx ?_; try intro _))
    all_goals
      refine Hold.go ?_
      by_cases hc : n < 0 ∨ (E.length : Int) ≤ n
      · rcases (show n < 0 ∨ (¬ n < 0 ∧ (E.length : Int) ≤ n) by omega) with h | ⟨h, h'⟩
        · clear hc
          repeat (first | (refine sx ?_; try intro _))
          exact JS_ret Try.func8 rfl rfl fun w hw => ⟨rfl, St.sub (by repeat (first | exact List.Sublist.refl _ | apply List.Sublist.cons_cons | apply List.Sublist.cons)) hw⟩
        · clear hc
          repeat (first | (refine sx ?_; try intro _))
          exact JS_ret Try.func8 rfl rfl fun w hw => ⟨rfl, St.sub (by repeat (first | exact List.Sublist.refl _ | apply List.Sublist.cons_cons | apply List.Sublist.cons)) hw⟩
      · obtain ⟨k, rfl⟩ : ∃ k : Nat, n = k := ⟨n.toNat, by omega⟩
        have hk : k < E.length := by omega
        have z3 := z2 k hk
        repeat (first | (apply gJO; refine JO_v (V_slice (tb := tb) (lo := 0) (hi := k) rfl rfl rfl rfl rfl (by rfl) (by rfl) (fun w hw => ⟨by omega, Nat.le_trans (by omega) ((vec_rd (e := 5) (size := 1) (v := .slice q1 E.length d1) (n := E.length) (cs := ints .u8 E) (by repeat (first | apply List.Mem.head | apply List.Mem.tail))).lcap hw).1⟩) rfl) ?_) | first | (refine sx ?_; try intro _))
        refine JO_call Try.call22 rfl rfl fun w hw => (ZOpen_c _ _ _ (E.take k) (Rd_take (n := k) (X := E) (vec_rd (by repeat (first | apply List.Mem.head | apply List.Mem.tail))) rfl (by omega)) (by rw [List.length_take]; omega) (OKB_take hEk k) (by omega) 1000 (by omega) w hw).mono ?_
        rintro e w' ⟨x, o, q6, d6, hz, rfl, hw'⟩
        obtain ⟨rfl, rfl⟩ := ZR_one hz z3
        refine ⟨_, rfl, _, hw', ?_⟩
        clear hw' hw w w'
        repeat (first | (refine sx ?_; try intro _))
        exact JS_ret Try.func8 rfl rfl fun w hw => ⟨rfl, St.sub (by repeat (first | exact List.Sublist.refl _ | apply List.Sublist.cons_cons | apply List.Sublist.cons)) hw⟩
end
/-- the law, for the world before the call -/
theorem ZlibSpoilt_l (p : Option Addr) (c m : Nat) (B : List Int) (a b n : Int) (w0 : World) (hA : ArgRd w0 (.slice p m c) m (ints .u8 B)) (hm : B.length = m) (hO : OKB B ∧ (p = none → m = 0) ∧ m ≤ 140737488351232) (ha : 0 ≤ a ∧ a < 256) (hb : 0 ≤ b ∧ b < 256) (hn : -9223372036854775808 ≤ n ∧ n < 9223372036854775808) :
    Calls Try.prog 8 #[.slice p m c, .int .u8 a, .int .u8 b, .int .i64 n] w0 fun e w' => e = .returned (.bool true) ∧ RowKit.Below w0.heap.size w0 w' :=
  (ZlibSpoilt_c (w0 := w0) (H := []) p c m B a b n ha hb hn (hA.rd _) hm hO.1 w0 (St.start w0)).mono fun e w' h => ⟨h.1, h.2.grown⟩
end Go.Proofs.Ytbiocgenbgbfpaa
