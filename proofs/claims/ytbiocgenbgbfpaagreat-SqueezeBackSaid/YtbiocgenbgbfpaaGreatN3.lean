import Derived.WalkKit
import Derived.Test.YtbiocgenbgbfpaaGreatN2
namespace Go.Proofs.YtbiocgenbgbfpaaGreat
open Sx Go
set_option linter.unusedVariables false
set_option linter.unusedSimpArgs false
attribute [local irreducible] syA fc tk cds
theorem OKB_app {A C : List Int} (hA : OKB A) (hC : OKB C) : OKB (A ++ C) := by
  intro j
  rw [List.getD_eq_getElem?_getD]
  rcases Nat.lt_or_ge j A.length with h | h
  · rw [List.getElem?_append_left h]
    have := hA j
    rwa [List.getD_eq_getElem?_getD] at this
  · rw [List.getElem?_append_right h]
    have := hC (j - A.length)
    rwa [List.getD_eq_getElem?_getD] at this
theorem OKB_rep {x : Int} (hx : 0 ≤ x ∧ x < 256) (n : Nat) : OKB (List.replicate n x) := by
  intro j
  rw [List.getD_eq_getElem?_getD, List.getElem?_replicate]
  split
  · exact hx
  · exact ⟨by decide, by decide⟩
theorem last1 {l : List Int} (h : ¬ l.length = 0) : (l.drop (l.length - 1)).take 1 = [l.getD (l.length - 1) 0] := by
  rcases List.eq_nil_or_concat l with rfl | ⟨l', x, rfl⟩
  · exact absurd rfl h
  · simp
theorem OKB_nil : OKB [] := fun j => by simp
section
variable {w0 : World} {H : List Asn} {bf br : Nat} {q : Option Addr} {d m : Nat} {B : List Int} {lim : Nat} {po : Option Addr} {co : Nat} {o : List Int}
set_option maxRecDepth 10000 in
set_option maxHeartbeats 4000000 in
/-- lengths that are described -/
theorem Lens_c (hK : InfK m B lim) (a : Nat) (ha : a ≤ 8 * m) (many : Nat) (hmn : many ≤ 1000) (b : Nat) (C : List Int) (hs : IsSet w0 H b C) (hC : C.length = 19) (w : World) (hw : St w0 (infL bf br q d m B lim a po co o H) w) :
    Calls Tryz.prog 72 #[.pointer (some ⟨bf, 0, none⟩), .pointer (some ⟨b, 0, none⟩), .int .i64 many] w fun e w' => ∃ r, It (lenF (bitB B 0) (8 * m) C many) a [] r ∧ resP r (fun r => e = .panicked (FLT r) ∧ St w0 H w')
      (fun a' l => a' ≤ 8 * m ∧ l.length = many ∧ OKB l ∧ ∃ p c, e = .returned (.slice p many c) ∧ St w0 (infL bf br q d m B lim a' po co o (vec 5 1 (.slice p many c) many (ints .u8 l) :: H)) w') := by
  have hl := hK.hl
  have hm1 := hK.hm1
  refine enter (vs := [.pointer (some ⟨bf, 0, none⟩), .pointer (some ⟨b, 0, none⟩), .int .i64 many]) Tryz.func72 rfl rfl rfl hw ?_
  repeat (first | (apply gJR; first | (refine sx ?_; try intro _)) | (apply gJO; first | (refine sx ?_; try intro _)) | apply JS_seq | apply JS_region)
  refine JS_block ?_
  refine JS_loop4 (fun (a1 : Nat) (l : List Int) (p : Option Addr) (c : Nat) => [(0, .pointer (some ⟨bf, 0, none⟩)), (1, .pointer (some ⟨b, 0, none⟩)), (2, .int .i64 many), (7, .slice p l.length c)]) (fun a1 l p c => infL bf br q d m B lim a1 po co o (vec 5 1 (.slice p l.length c) l.length (ints .u8 l) :: H))
    (fun a1 l _ _ => a1 ≤ 8 * m ∧ l.length ≤ many ∧ OKB l ∧ ∀ r, It (lenF (bitB B 0) (8 * m) C many) a1 l r → It (lenF (bitB B 0) (8 * m) C many) a [] r) (fun a1 _ _ _ => 8 * m - a1) a [] none 0 ⟨ha, Nat.zero_le _, OKB_nil, fun _ h => h⟩ (by repeat (first | exact trivial | refine ⟨rfl, ?_⟩ | refine ⟨lookI rfl (by omega), ?_⟩)) (fun _ h => infL_in (St.nilvec h)) ?_
  intro a1 l p c ⟨ha1, hll, hOl, hinv⟩ again
  by_cases hmany : many ≤ l.length
  · obtain rfl : many = l.length := by omega
    clear again
    repeat (first | (refine sx ?_; try intro _))
    refine JS_ret Tryz.func72 rfl rfl ?_
    intro w hw
    exact ⟨.ok a1 l, hinv _ (.stop (by unfold lenF; rw [if_pos (Nat.le_refl _)])), ha1, rfl, hOl, p, c, rfl, hw⟩
  repeat (first | (refine sx ?_; try intro _))
  refine JO_callE Tryz.func72 Tryz.call106 rfl rfl fun A hA w hw => (Sym_c hK a1 ha1 b C (hs.sub (by repeat (first | exact List.Sublist.refl _ | apply List.Sublist.cons))) w hw).mono ?_
  intro e w' h
  unfold symP at h
  cases hsy : symS (bitB B 0) (8 * m) C a1 with
  | err r =>
    rw [hsy] at h
    obtain ⟨rfl, hw'⟩ := h
    exact .inr ⟨_, rfl, .err r, hinv _ (.err (by unfold lenF; rw [if_neg hmany, hsy])), rfl, hw'.drop⟩
  | ok i a2 =>
  rw [hsy] at h
  obtain ⟨hi0, hiC, ha12, ha2, rfl, hw'⟩ := h
  refine .inl ⟨_, rfl, _, hw', ?_⟩
  clear hw' hw w w' hA A
  have hF : lenF (bitB B 0) (8 * m) C many a1 l = if i = 16 then (if l.length = 0 then .err 62 else if 8 * m < a2 + 2 then .err 20 else lenP many l (l.getD (l.length - 1) 0) (3 + nbt (bitB B 0) a2 2) (a2 + 2))
    else if i = 17 then (if 8 * m < a2 + 3 then .err 20 else lenP many l 0 (3 + nbt (bitB B 0) a2 3) (a2 + 3))
    else if i = 18 then (if 8 * m < a2 + 7 then .err 20 else lenP many l 0 (11 + nbt (bitB B 0) a2 7) (a2 + 7))
    else lenP many l i 1 a2 := by unfold lenF; rw [if_neg hmany, hsy]
  repeat (first | (apply gJR; first | (refine sx ?_; try intro _)) | (apply gJO; first | (refine sx ?_; try intro _)) | apply JS_seq | apply JS_region)
  rename_i p1
  refine JS_join5 (fun (t : Nat) (x : Int) (pa : Option Addr) (ca : Nat) (a3 : Nat) => [(0, .pointer (some ⟨bf, 0, none⟩)), (1, .pointer (some ⟨b, 0, none⟩)), (2, .int .i64 many), (7, .slice p l.length c), (9, .slice pa t ca)])
    (fun t x pa ca a3 => vec 5 1 (.slice pa t ca) t (ints .u8 (List.replicate t x)) :: infL bf br q d m B lim a3 po co o (vec 5 1 (.slice p l.length c) l.length (ints .u8 l) :: H))
    (fun t x pa ca a3 => t ≤ 1000 ∧ 0 ≤ x ∧ x < 256 ∧ a3 ≤ 8 * m ∧ a1 < a3 ∧ lenF (bitB B 0) (8 * m) C many a1 l = lenP many l x t a3) ?_ ?_
  · clear hF hsy hi0 hiC ha12 ha2 a2 i
    intro t x pa ca a3 ⟨ht, hx0, hx1, ha3, ha13, hF⟩
    unfold lenP at hF
    by_cases h : (many : Int) < l.length + t
    · rw [if_pos h] at hF
      repeat (first | (refine sx ?_; try intro _))
      refine JO_callE Tryz.func72 Tryz.call32 rfl rfl fun A hA w hw => (Give_c 62 w hw).mono ?_
      rintro e w' (⟨h, rfl, hw'⟩ | ⟨_, rfl, hw'⟩)
      · exact absurd h (by decide)
      · exact .inr ⟨_, rfl, .err 62, hinv _ (.err hF), rfl, (infL_drop hw'.drop).drop⟩
    · rw [if_neg h, Int.toNat_natCast] at hF
      repeat (first | (refine sx ?_; try intro _))
      refine JO_app (tb := tb) rfl rfl rfl rfl rfl rfl (by repeat (first | exact Sel.here _ _ | apply Sel.there)) (vec_rd (List.Mem.head _)) (by rw [ints_len, List.length_replicate]; omega) (by first | exact ints_one | (repeat (first | exact trivial | refine ⟨rfl, ?_⟩))) (by omega) rfl ?_
      intro p2 c2
      repeat (first | (refine sx ?_; try intro _))
      exact JS_again4 again a3 (l ++ List.replicate t x) p2 c2 ⟨ha3, by rw [List.length_append, List.length_replicate]; omega, OKB_app hOl (OKB_rep ⟨hx0, hx1⟩ t), fun r hr => hinv r (.go hF hr)⟩ (by omega)
        (by rw [List.length_append, List.length_replicate]; exact ⟨rfl, rfl, rfl, rfl, trivial⟩) (fun w hw => by unfold infL; rw [List.length_append, List.length_replicate, ← ints_app]; exact St.sub (by repeat (first | exact List.Sublist.refl _ | apply List.Sublist.cons_cons | apply List.Sublist.cons)) hw)
  · clear again
    intro K
    by_cases h16 : i = 16
    · rw [if_pos h16] at hF
      by_cases hl0 : l.length = 0
      · rw [if_pos hl0] at hF
        repeat (first | (refine sx ?_; try intro _))
        refine JO_callE Tryz.func72 Tryz.call32 rfl rfl fun A hA w hw => (Give_c 62 w hw).mono ?_
        rintro e w' (⟨h, rfl, hw'⟩ | ⟨_, rfl, hw'⟩)
        · exact absurd h (by decide)
        · exact .inr ⟨_, rfl, .err 62, hinv _ (.err hF), rfl, (infL_drop hw'.drop).drop⟩
      rw [if_neg hl0] at hF
      refine JS_fact (fun w hw => (Rd.lcap (vec_rd (e := 5) (size := 1) (v := .slice p l.length c) (n := l.length) (cs := ints .u8 l) (H := vec 5 1 (.slice (some p1) 1 1) 1 (ints .u8 [i]) :: infL bf br q d m B lim a2 po co o (vec 5 1 (.slice p l.length c) l.length (ints .u8 l) :: H)) (by repeat (first | apply List.Mem.head | apply List.Mem.tail))) hw).1) fun hcap => ?_
      repeat (first | (apply gJR; first | (refine sx ?_; try intro _)) | (apply gJO; first | (refine sx ?_; try intro _)) | apply JS_seq | apply JS_region | apply JS_block | refine JS_condT rfl ?_ | refine JS_condF rfl ?_ | apply JS_skip)
      refine JS_order2 (vec 5 1 (.slice p l.length c) l.length (ints .u8 l) :: H) [0, 1, 2, 3, 4, 5, 6, 7, 8, 9] [] (fun w hw => St.sub (by repeat (first | exact List.Sublist.refl _ | apply List.Sublist.cons_cons | apply List.Sublist.cons)) hw) (Picks.cons rfl (Picks.cons rfl (Picks.cons rfl (Picks.cons rfl (Picks.cons rfl (Picks.cons rfl (Picks.cons rfl (Picks.cons rfl (Picks.cons rfl (Picks.cons rfl (Picks.nil))))))))))) (by kernel_rfl) (by kernel_rfl) rfl (by decide +kernel) ?_
      repeat (first | (apply gQR2; apply QR2_un) | (apply gQO2; first | refine QO2_v rfl (V_slice (tb := tb) (lo := l.length - 1) (hi := l.length) rfl rfl rfl rfl rfl (by omega) (by omega) (fun w hw => ⟨by omega, hcap⟩) rfl) ?_ | refine aQ2 ?_))
      have e1 : l.length - (l.length - 1) = 1 := by omega
      simp only [e1]
      refine QO2_callE Tryz.call31 rfl rfl fun w hw => (Grp_c hK a2 2 (by omega) ha2 w (infL_in hw)).mono ?_
      rintro e w' (⟨h, rfl, hw'⟩ | ⟨h1, he, hw'⟩)
      · exact .inr ⟨_, rfl, QK_e Tryz.func72 ⟨.err 20, hinv _ (.err (by rw [hF, if_pos h])), rfl, hw'.drop.drop⟩⟩
      rw [if_neg (by omega)] at hF
      obtain ⟨n, hn⟩ := Int.eq_ofNat_of_zero_le (nbt_bd (bitB B 0) (bitB_01 B 0) a2 2).1
      have hn1 := (nbt_bd (bitB B 0) (bitB_01 B 0) a2 2).2
      rw [hn] at he hn1 hF
      subst he
      have hn2 : (n : Int) < 4 := hn1
      refine .inl ⟨_, rfl, vec 5 1 (.slice p l.length c) l.length (ints .u8 l) :: H, _, hw', fun w hw => St.sub (by repeat (first | exact List.Sublist.refl _ | apply List.Sublist.cons_cons | apply List.Sublist.cons)) hw, .inl fun w hw => hw, ?_⟩
      clear hw' hw w w'
      repeat (first | (apply gQR2; apply QR2_un) | (apply gQO2; refine aQ2 ?_))
      have hlst := hOl (l.length - 1)
      have hsub := Rd_sub (lo := l.length - 1) (hi := l.length) (sz := 1) (vec_rd (w0 := w0) (e := 5) (size := 1) (v := .slice p l.length c) (n := l.length) (cs := ints .u8 l) (H := infL bf br q d m B lim (a2 + 2) po co o (vec 5 1 (.slice (some p1) 1 1) 1 (ints .u8 [i]) :: vec 5 1 (.slice p l.length c) l.length (ints .u8 l) :: H)) (by repeat (first | apply List.Mem.head | apply List.Mem.tail))) (by omega) (by omega)
      rw [e1, show ((ints .u8 l).drop ((l.length - 1) * 1)).take (1 * 1) = ints .u8 [l.getD (l.length - 1) 0] by
        rw [Nat.mul_one, Nat.mul_one, ints_drop, ints_take]
        rw [last1 hl0]] at hsub
      refine QO2_callE Tryz.call108 rfl rfl fun w hw => (Repeat1_c _ _ (3 + n) hsub ⟨_, _, rfl⟩ (by omega) w hw).mono ?_
      rintro e w' ⟨p2, c2, rfl, hw'⟩
      refine .inl ⟨_, rfl, vec 5 1 (.slice p l.length c) l.length (ints .u8 l) :: H, _, hw', fun w hw => St.sub (by repeat (first | exact List.Sublist.refl _ | apply List.Sublist.cons_cons | apply List.Sublist.cons)) hw, .inl fun w hw => hw, ?_⟩
      clear hw' hw w w'
      repeat (first | (apply gQR2; first | apply QR2_un | apply QR2_nil) | (apply gQO2; refine aQ2 ?_))
      apply JS_inBlock
      exact JS_to5 K (3 + n) (l.getD (l.length - 1) 0) p2 c2 (a2 + 2) ⟨by omega, hlst.1, hlst.2, h1, by omega, hF⟩ (by repeat (first | exact trivial | refine ⟨rfl, ?_⟩ | refine ⟨lookI rfl (by omega), ?_⟩)) (fun w hw => St.sub (by repeat (first | exact List.Sublist.refl _ | apply List.Sublist.cons_cons | apply List.Sublist.cons)) hw)
    rw [if_neg h16] at hF
    by_cases h17 : i = 17
    · rw [if_pos h17] at hF
      repeat (first | (refine sx ?_; try intro _))
      refine JO_callE Tryz.func72 Tryz.call31 rfl rfl fun A hA w hw => (Grp_c hK a2 3 (by omega) ha2 w (infL_in hw)).mono ?_
      rintro e w' (⟨h, rfl, hw'⟩ | ⟨h1, he, hw'⟩)
      · exact .inr ⟨_, rfl, .err 20, hinv _ (.err (by rw [hF, if_pos h])), rfl, hw'.drop.drop⟩
      rw [if_neg (by omega)] at hF
      obtain ⟨n, hn⟩ := Int.eq_ofNat_of_zero_le (nbt_bd (bitB B 0) (bitB_01 B 0) a2 3).1
      have hn1 := (nbt_bd (bitB B 0) (bitB_01 B 0) a2 3).2
      rw [hn] at he hn1 hF
      subst he
      have hn2 : (n : Int) < 8 := hn1
      refine .inl ⟨_, rfl, _, hw', ?_⟩
      clear hw' hw w w' hA A
      repeat (first | (apply gJR; first | (refine sx ?_; try intro _)) | (apply gJO; first | (refine sx ?_; try intro _)))
      rename_i p2
      apply JS_inBlock
      exact JS_to5 K (3 + n) 0 (some p2) (3 + n) (a2 + 3) ⟨by omega, by omega, by omega, h1, by omega, hF⟩ (by repeat (first | exact trivial | refine ⟨rfl, ?_⟩ | refine ⟨lookI rfl (by omega), ?_⟩)) (fun w hw => by rw [← ints_rep]; exact St.sub (by repeat (first | exact List.Sublist.refl _ | apply List.Sublist.cons_cons | apply List.Sublist.cons)) hw)
    rw [if_neg h17] at hF
    by_cases h18 : i = 18
    · rw [if_pos h18] at hF
      repeat (first | (refine sx ?_; try intro _))
      refine JO_callE Tryz.func72 Tryz.call31 rfl rfl fun A hA w hw => (Grp_c hK a2 7 (by omega) ha2 w (infL_in hw)).mono ?_
      rintro e w' (⟨h, rfl, hw'⟩ | ⟨h1, he, hw'⟩)
      · exact .inr ⟨_, rfl, .err 20, hinv _ (.err (by rw [hF, if_pos h])), rfl, hw'.drop.drop⟩
      rw [if_neg (by omega)] at hF
      obtain ⟨n, hn⟩ := Int.eq_ofNat_of_zero_le (nbt_bd (bitB B 0) (bitB_01 B 0) a2 7).1
      have hn1 := (nbt_bd (bitB B 0) (bitB_01 B 0) a2 7).2
      rw [hn] at he hn1 hF
      subst he
      have hn2 : (n : Int) < 128 := hn1
      refine .inl ⟨_, rfl, _, hw', ?_⟩
      clear hw' hw w w' hA A
      repeat (first | (apply gJR; first | (refine sx ?_; try intro _)) | (apply gJO; first | (refine sx ?_; try intro _)))
      rename_i p2
      apply JS_inBlock
      exact JS_to5 K (11 + n) 0 (some p2) (11 + n) (a2 + 7) ⟨by omega, by omega, by omega, h1, by omega, hF⟩ (by repeat (first | exact trivial | refine ⟨rfl, ?_⟩ | refine ⟨lookI rfl (by omega), ?_⟩)) (fun w hw => by rw [← ints_rep]; exact St.sub (by repeat (first | exact List.Sublist.refl _ | apply List.Sublist.cons_cons | apply List.Sublist.cons)) hw)
    rw [if_neg h18] at hF
    repeat (first | (apply gJR; first | (refine sx ?_; try intro _)) | (apply gJO; first | (refine sx ?_; try intro _)) | apply JS_seq | apply JS_region | apply JS_block | refine JS_condF rfl ?_ | apply JS_skip)
    apply JS_inBlock
    exact JS_to5 K 1 i (some p1) 1 a2 ⟨by omega, hi0, by omega, ha2, ha12, hF⟩ (by repeat (first | exact trivial | refine ⟨rfl, ?_⟩ | refine ⟨lookI rfl (by omega), ?_⟩)) (fun w hw => hw)
end
end Go.Proofs.YtbiocgenbgbfpaaGreat

namespace Go.Proofs.YtbiocgenbgbfpaaGreat
open Sx Go
set_option linter.unusedVariables false
set_option linter.unusedSimpArgs false
attribute [local irreducible] syA fc tk cds
theorem IsSet.perm {w0 H H' b B} (h : IsSet w0 H b B) (p : H'.Perm H) : IsSet w0 H' b B := by
  obtain ⟨⟨q, d, s, e, h1, h2, h3⟩, hB, hl⟩ := h
  exact ⟨⟨q, d, s, e, p.mem_iff.2 h1, Rd_weak h2 fun w hw => hw.perm p, Rd_weak h3 fun w hw => hw.perm p⟩, hB, hl⟩
theorem ordL_get (i : Nat) (h : i < 19) : ordL.getD i 0 < 19 := by
  have : ∀ k : Fin 19, ordL.getD k.val 0 < 19 := by decide
  exact this ⟨i, h⟩
def ordI : List Int := [16, 17, 18, 0, 8, 7, 9, 6, 10, 5, 11, 4, 12, 3, 13, 2, 14, 1, 15]
theorem ordI_get (i : Nat) (h : i < 19) : ordI.getD i 0 = (ordL.getD i 0 : Nat) := by
  have : ∀ k : Fin 19, ordI.getD k.val 0 = (ordL.getD k.val 0 : Nat) := by decide
  exact this ⟨i, h⟩
theorem ccl_okb (bt : Nat → Int) (hb : ∀ j, bt j = 0 ∨ bt j = 1) (a : Nat) : ∀ n, OKB (ccl bt a n)
  | 0 => OKB_rep ⟨by decide, by decide⟩ 19
  | n + 1 => by
    intro j
    have h0 := ccl_okb bt hb a n
    have h1 := nbt_bd bt hb (a + 3 * n) 3
    have h2 : (2 : Int) ^ 3 = 8 := by decide
    simp only [ccl]
    rw [List.getD_eq_getElem?_getD, List.getElem?_set]
    split
    · split
      · simp only [Option.getD_some]; omega
      · exact ⟨by decide, by decide⟩
    · have := h0 j; rwa [List.getD_eq_getElem?_getD] at this
section
variable {w0 : World} {H : List Asn} {bf br : Nat} {q : Option Addr} {d m : Nat} {B : List Int} {lim : Nat} {po : Option Addr} {co : Nat} {o : List Int}
theorem infL_ins {w : World} {a : Nat} (X : List Asn) (h : St w0 (X ++ infL bf br q d m B lim a po co o H) w) : St w0 (infL bf br q d m B lim a po co o (X ++ H)) w :=
  h.perm (List.perm_append_comm_assoc X [_, _, _, _] H)
/-- a block by the fixed sets -/
theorem Fix_c (hK : InfK m B lim) (a : Nat) (ha : a ≤ 8 * m) (ho : o.length ≤ lim) (w : World) (hw : St w0 (infL bf br q d m B lim a po co o H) w) :
    Calls Tryz.prog 29 #[.pointer (some ⟨bf, 0, none⟩)] w fun e w' => ∃ r, It (blkF (bitB B 0) (8 * m) lim (tab 288 fixF) (List.replicate 32 5)) a o r ∧ resP r (fun r => e = .panicked (FLT r) ∧ St w0 H w')
      (fun a' o' => a' ≤ 8 * m ∧ o'.length ≤ lim ∧ e = .returned (.tuple #[]) ∧ ∃ po co, St w0 (infL bf br q d m B lim a' po co o' H) w') := by
  refine enter (vs := [.pointer (some ⟨bf, 0, none⟩)]) Tryz.func29 rfl rfl rfl hw ?_
  repeat (first | (refine sx ?_; try intro _))
  refine JO_call Tryz.call69 rfl rfl fun w hw => (Fixed_c w hw).mono ?_
  rintro e w' ⟨p1, c1, rfl, hw'⟩
  refine ⟨_, rfl, _, hw', ?_⟩
  clear hw' hw w w'
  repeat (first | (refine sx ?_; try intro _))
  refine JO_callE Tryz.func29 Tryz.call68 rfl rfl fun A hA w hw => (Made_c p1 c1 288 _ (vec_rd (List.Mem.head _)) (tab_len _ _) fix_okb (by omega) w hw).mono ?_
  rintro e w' (⟨h, _⟩ | ⟨_, b1, a1, a2, a3, rfl, hs1, hw'⟩)
  · exact absurd fix_okl h
  refine .inl ⟨_, rfl, _, hw', ?_⟩
  clear hw' hw w w' hA A
  repeat (first | (refine sx ?_; try intro _))
  refine JO_call Tryz.call70 rfl rfl fun w hw => (Spans_c w hw).mono ?_
  rintro e w' ⟨p2, c2, rfl, hw'⟩
  refine ⟨_, rfl, _, hw', ?_⟩
  clear hw' hw w w'
  repeat (first | (refine sx ?_; try intro _))
  refine JO_callE Tryz.func29 Tryz.call68 rfl rfl fun A hA w hw => (Made_c p2 c2 32 _ (vec_rd (List.Mem.head _)) (List.length_replicate ..) spans_okb (by omega) w hw).mono ?_
  rintro e w' (⟨h, _⟩ | ⟨_, b2, a4, a5, a6, rfl, hs2, hw'⟩)
  · exact absurd spans_okl h
  refine .inl ⟨_, rfl, _, hw', ?_⟩
  clear hw' hw w w' hA A
  repeat (first | (refine sx ?_; try intro _))
  refine JO_callE Tryz.func29 Tryz.call67 rfl rfl fun A hA w hw => (Blk_c hK a ha ho b1 b2 _ _ (hs1.sub (by repeat (first | exact List.nil_sublist _ | apply List.Sublist.cons_cons | apply List.Sublist.cons))) (hs2.sub (by repeat (first | exact List.nil_sublist _ | apply List.Sublist.cons_cons | apply List.Sublist.cons))) w (infL_ins [a4, a5, a6, vec 5 1 (.slice p2 32 c2) 32 (ints .u8 (List.replicate 32 5)), a1, a2, a3, vec 5 1 (.slice p1 288 c1) 288 (ints .u8 (tab 288 fixF))] hw)).mono ?_
  rintro e w' ⟨r, hr, h⟩
  cases r with
  | err r =>
    obtain ⟨rfl, hw'⟩ := h
    exact .inr ⟨_, rfl, .err r, hr, rfl, St.sub (by repeat (first | exact List.Sublist.refl _ | apply List.Sublist.cons_cons | apply List.Sublist.cons)) hw'⟩
  | ok a' o' =>
    obtain ⟨h1, h2, rfl, p', c', hw'⟩ := h
    refine .inl ⟨_, rfl, _, hw', ?_⟩
    clear hw' hw w w' hA A
    repeat (first | (refine sx ?_; try intro _))
    refine JS_fin Tryz.func29 rfl rfl ?_
    intro w hw
    exact ⟨.ok a' o', hr, h1, h2, rfl, p', c', St.sub (by repeat (first | exact List.Sublist.refl _ | apply List.Sublist.cons_cons | apply List.Sublist.cons)) hw⟩
end
end Go.Proofs.YtbiocgenbgbfpaaGreat

namespace Go.Proofs.YtbiocgenbgbfpaaGreat
open Sx Go
set_option linter.unusedVariables false
set_option linter.unusedSimpArgs false
attribute [local irreducible] syA fc tk cds
section
variable {w0 : World} {H : List Asn} {bf br : Nat} {q : Option Addr} {d m : Nat} {B : List Int} {lim : Nat} {po : Option Addr} {co : Nat} {o : List Int}
set_option maxRecDepth 10000 in
set_option maxHeartbeats 4000000 in
/-- a described block -/
theorem Des_c (hK : InfK m B lim) (a : Nat) (ha : a ≤ 8 * m) (ho : o.length ≤ lim) (w : World) (hw : St w0 (infL bf br q d m B lim a po co o H) w) :
    Calls Tryz.prog 30 #[.pointer (some ⟨bf, 0, none⟩)] w fun e w' => resP (desF (bitB B 0) (8 * m) lim a o) (fun r => e = .panicked (FLT r) ∧ St w0 H w')
      (fun a' o' => a' ≤ 8 * m ∧ o'.length ≤ lim ∧ e = .returned (.tuple #[]) ∧ ∃ po co, St w0 (infL bf br q d m B lim a' po co o' H) w') := by
  have hl := hK.hl
  have hm1 := hK.hm1
  refine enter (vs := [.pointer (some ⟨bf, 0, none⟩)]) Tryz.func30 rfl rfl rfl hw ?_
  unfold desF
  obtain ⟨n1, hn1⟩ := Int.eq_ofNat_of_zero_le (nbt_bd (bitB B 0) (bitB_01 B 0) a 5).1
  have hb1 := (nbt_bd (bitB B 0) (bitB_01 B 0) a 5).2
  obtain ⟨n2, hn2⟩ := Int.eq_ofNat_of_zero_le (nbt_bd (bitB B 0) (bitB_01 B 0) (a + 5) 5).1
  have hb2 := (nbt_bd (bitB B 0) (bitB_01 B 0) (a + 5) 5).2
  obtain ⟨n3, hn3⟩ := Int.eq_ofNat_of_zero_le (nbt_bd (bitB B 0) (bitB_01 B 0) (a + 10) 4).1
  have hb3 := (nbt_bd (bitB B 0) (bitB_01 B 0) (a + 10) 4).2
  rw [hn1] at hb1
  rw [hn2] at hb2
  rw [hn3] at hb3
  have hb1 : (n1 : Int) < 32 := hb1
  have hb2 : (n2 : Int) < 32 := hb2
  have hb3 : (n3 : Int) < 16 := hb3
  rw [hn1, hn2, hn3, show ((n1 : Int) + 257).toNat = n1 + 257 by omega, show ((n2 : Int) + 1).toNat = n2 + 1 by omega, show ((n3 : Int) + 4).toNat = n3 + 4 by omega]
  repeat (first | (refine sx ?_; try intro _))
  refine JO_callE Tryz.func30 Tryz.call31 rfl rfl fun A hA w hw => (Grp_c hK a 5 (by omega) (by omega) w hw).mono ?_
  rintro e w' (⟨h, rfl, hw'⟩ | ⟨h1, he, hw'⟩)
  · refine .inr ⟨_, rfl, ?_⟩
    show resP _ _ _
    rw [if_pos h]; exact ⟨rfl, hw'⟩
  rw [hn1] at he; subst he
  refine .inl ⟨_, rfl, _, hw', ?_⟩
  clear hw' hw w w' hA A
  rw [if_neg (by omega)]
  repeat (first | (refine sx ?_; try intro _))
  refine JO_callE Tryz.func30 Tryz.call31 rfl rfl fun A hA w hw => (Grp_c hK (a + 5) 5 (by omega) (by omega) w hw).mono ?_
  rintro e w' (⟨h, rfl, hw'⟩ | ⟨h2, he, hw'⟩)
  · refine .inr ⟨_, rfl, ?_⟩
    show resP _ _ _
    rw [if_pos h]; exact ⟨rfl, hw'⟩
  rw [hn2] at he; subst he
  refine .inl ⟨_, rfl, _, hw', ?_⟩
  clear hw' hw w w' hA A
  rw [if_neg (by omega)]
  repeat (first | (refine sx ?_; try intro _))
  refine JO_callE Tryz.func30 Tryz.call31 rfl rfl fun A hA w hw => (Grp_c hK (a + 10) 4 (by omega) (by omega) w hw).mono ?_
  rintro e w' (⟨h, rfl, hw'⟩ | ⟨h3, he, hw'⟩)
  · refine .inr ⟨_, rfl, ?_⟩
    show resP _ _ _
    rw [if_pos h]; exact ⟨rfl, hw'⟩
  rw [hn3] at he; subst he
  refine .inl ⟨_, rfl, _, hw', ?_⟩
  clear hw' hw w w' hA A
  rw [if_neg (by omega)]
  unfold des1
  obtain ⟨lit, hlit⟩ : ∃ x, n1 + 257 = x := ⟨_, rfl⟩
  obtain ⟨sp, hsp⟩ : ∃ x, n2 + 1 = x := ⟨_, rfl⟩
  obtain ⟨ln, hln⟩ : ∃ x, n3 + 4 = x := ⟨_, rfl⟩
  rw [hlit, hsp, hln]
  have hlit' : (n1 : Int) + 257 = (lit : Int) := by omega
  have hsp' : (n2 : Int) + 1 = (sp : Int) := by omega
  have hln' : (n3 : Int) + 4 = (ln : Int) := by omega
  repeat (first | (apply gJR; first | (refine sx ?_; try intro _)) | (apply gJO; first | (refine sx ?_; try intro _)))
  simp only [hlit', hsp', hln']
  clear hlit' hsp' hln' hn1 hn2 hn3
  by_cases hbig : 286 < lit ∨ 30 < sp
  · have : (286 < lit) ∨ (¬ 286 < lit ∧ 30 < sp) := by omega
    rcases this with h | ⟨h, h'⟩
    · repeat (first | (refine sx ?_; try intro _))
      refine JO_callE Tryz.func30 Tryz.call32 rfl rfl fun A hA w hw => (Give_c 62 w hw).mono ?_
      rintro e w' (⟨h, rfl, hw'⟩ | ⟨_, rfl, hw'⟩)
      · exact absurd h (by decide)
      · refine .inr ⟨_, rfl, ?_⟩
        show resP _ _ _
        rw [if_pos hbig]; exact ⟨rfl, infL_drop hw'⟩
    · repeat (first | (refine sx ?_; try intro _))
      refine JO_callE Tryz.func30 Tryz.call32 rfl rfl fun A hA w hw => (Give_c 62 w hw).mono ?_
      rintro e w' (⟨h, rfl, hw'⟩ | ⟨_, rfl, hw'⟩)
      · exact absurd h (by decide)
      · refine .inr ⟨_, rfl, ?_⟩
        show resP _ _ _
        rw [if_pos hbig]; exact ⟨rfl, infL_drop hw'⟩
  rw [if_neg hbig]
  repeat (first | (apply gJR; first | (refine sx ?_; try intro _)) | (apply gJO; first | (refine JO_v (V_buildA (tb := tb) rfl rfl rfl rfl rfl) ?_) | (refine JO_v (V_sliceP (tb := tb) (lo := 0) (hi := ln) rfl rfl rfl rfl rfl (by rfl) (by rfl) (by omega) rfl) ?_) | first | (refine sx ?_; try intro _)) | apply JS_seq | apply JS_region | refine JS_condF rfl ?_ | refine JS_cond_F rfl (by omega) ?_ | apply JS_skip)
  rename_i b5 b6
  simp only [subB_0, Nat.sub_zero]
  refine JS_block ?_
  refine JS_loop1 (fun (i : Nat) => [(0, .pointer (some ⟨bf, 0, none⟩)), (2, .int .i64 lit), (3, .int .i64 sp), (6, .pointer (some ⟨b6, 0, none⟩)), (29, .slice (some ⟨b5, 0, none⟩) ln 19), (30, .int .i64 ln), (31, .int .i64 i)])
    (fun i => infL bf br q d m B lim (a + 14 + 3 * i) po co o (blk b6 (ints .u8 (ccl (bitB B 0) (a + 14) i)) :: blk b5 (ints .i64 ordI) :: H)) (fun i => i ≤ ln ∧ a + 14 + 3 * i ≤ 8 * m) (fun i => ln - i) 0 ⟨Nat.zero_le _, by omega⟩ (by repeat (first | exact trivial | refine ⟨rfl, ?_⟩ | refine ⟨lookI rfl (by omega), ?_⟩))
    (fun w h => infL_ins [blk b6 (ints .u8 (ccl (bitB B 0) (a + 14) 0)), blk b5 (ints .i64 ordI)] h) ?_
  intro i ⟨hi, hai⟩ again
  by_cases hil : i < ln
  · have gi : (ints .i64 ordI)[i]? = some (.int .i64 (ordI.getD i 0)) := ints_get (by show i < 19; omega)
    have ho19 := ordL_get i (by omega)
    have hcc := ccl_len (bitB B 0) (a + 14) i
    have hcs : ccl (bitB B 0) (a + 14) (i + 1) = (ccl (bitB B 0) (a + 14) i).set (ordL.getD i 0) (nbt (bitB B 0) (a + 14 + 3 * i) 3) := rfl
    rw [ordI_get i (by omega)] at gi
    generalize ordL.getD i 0 = k at *
    generalize ccl (bitB B 0) (a + 14) i = C at *
    repeat (first | (apply gJO; first | refine JO_v (V_index (tb := tb) (j := i) rfl rfl rfl rfl (Rd.sl (blk_rd (cs := ints .i64 ordI) (by repeat (first | apply List.Mem.head | apply List.Mem.tail)) (by omega))) (by omega) (by (try simp only [tn, tna, tn1, tn2, tn3, tn4, tnd16, tnd8, Int.reduceToNat]); first | exact Nat.mul_one _ | exact rfl) rfl) ?_ | refine JO_v (V_loadC (tb := tb) rfl (blk_rd (cs := ints .i64 ordI) (by repeat (first | apply List.Mem.head | apply List.Mem.tail)) (show ln ≤ 19 by omega)) rfl rfl gi rfl) ?_) | (first | (refine sx ?_; try intro _)))
    refine JO_callE Tryz.func30 Tryz.call31 rfl rfl fun A hA w hw => (Grp_c hK (a + 14 + 3 * i) 3 (by omega) (by omega) w hw).mono ?_
    rintro e w' (⟨h, rfl, hw'⟩ | ⟨h1, he, hw'⟩)
    · refine .inr ⟨_, rfl, ?_⟩
      show resP _ _ _
      rw [if_pos (by omega)]; exact ⟨rfl, hw'.drop.drop⟩
    obtain ⟨x, hx⟩ := Int.eq_ofNat_of_zero_le (nbt_bd (bitB B 0) (bitB_01 B 0) (a + 14 + 3 * i) 3).1
    have hx1 := (nbt_bd (bitB B 0) (bitB_01 B 0) (a + 14 + 3 * i) 3).2
    rw [hx] at he hx1 hcs
    subst he
    have hx2 : (x : Int) < 8 := hx1
    refine .inl ⟨_, rfl, _, hw', ?_⟩
    clear hw' hw w w' hA A
    repeat (first | (apply kS; refine JO_k (K_store (tb := tb) rfl rfl (by repeat (first | apply Upd.here | apply Upd.there)) rfl rfl rfl (by repeat (first | exact trivial | refine ⟨rfl, ?_⟩)) (by rw [show 0 + ((k : Nat) : Int).toNat * 1 = k by omega]; exact setSeg_ints (by omega)) rfl) ?_) | (first | (refine sx ?_; try intro _)))
    exact JS_again1 again (i + 1) ⟨by omega, by omega⟩ (by omega) (by repeat (first | exact trivial | refine ⟨rfl, ?_⟩ | refine ⟨lookI rfl (by omega), ?_⟩)) (fun w hw => by rw [hcs]; exact hw)
  obtain rfl : i = ln := by omega
  clear again
  rw [if_neg (by omega)]
  have hcc := ccl_len (bitB B 0) (a + 14) i
  have hco := ccl_okb (bitB B 0) (bitB_01 B 0) (a + 14) i
  generalize ccl (bitB B 0) (a + 14) i = C at *
  repeat (first | (apply gJO; refine JO_v (V_sliceP (tb := tb) (lo := 0) (hi := 19) rfl rfl rfl rfl rfl (by rfl) (by rfl) (by omega) rfl) ?_) | first | (refine sx ?_; try intro _))
  simp only [subB_0, Nat.sub_zero]
  refine JO_callE Tryz.func30 Tryz.call68 rfl rfl fun A hA w hw => (Made_c (some ⟨b6, 0, none⟩) 19 19 C (blk_rd (by repeat (first | apply List.Mem.head | apply List.Mem.tail)) (by omega)) hcc hco (by omega) w hw).mono ?_
  rintro e w' (⟨hno, rfl, hw'⟩ | ⟨hyes, b7, x1, x2, x3, rfl, hs7, hw'⟩)
  · refine .inr ⟨_, rfl, ?_⟩
    show resP _ _ _
    rw [if_pos (.inl hno)]; exact ⟨rfl, (infL_drop hw').drop.drop⟩
  refine .inl ⟨_, rfl, _, hw', ?_⟩
  clear hw' hw w w' hA A
  repeat (first | (refine sx ?_; try intro _))
  refine JO_call Tryz.call71 rfl rfl fun w hw => (Full2_c b7 C (hs7.sub (by repeat (first | exact List.nil_sublist _ | apply List.Sublist.cons_cons | apply List.Sublist.cons))) w hw).mono ?_
  rintro e w' ⟨rfl, hw'⟩
  refine ⟨_, rfl, _, hw', ?_⟩
  clear hw' hw w w'
  by_cases hfull : tk C = 32768
  rotate_left
  · repeat (first | (refine sx ?_; try intro _))
    refine JO_callE Tryz.func30 Tryz.call32 rfl rfl fun A hA w hw => (Give_c 62 w hw).mono ?_
    rintro e w' (⟨h, rfl, hw'⟩ | ⟨_, rfl, hw'⟩)
    · exact absurd h (by decide)
    · refine .inr ⟨_, rfl, ?_⟩
      show resP _ _ _
      rw [if_pos (.inr hfull)]; exact ⟨rfl, (infL_drop hw'.drop.drop.drop).drop.drop⟩
  rw [if_neg (by rintro (h | h); exact h hyes; exact h hfull)]
  have hls : (lit : Int) + sp = ((lit + sp : Nat) : Int) := by omega
  repeat (first | (refine sx ?_; try intro _))
  simp only [hls]
  refine JO_callE Tryz.func30 Tryz.call72 rfl rfl fun A hA w hw => (Lens_c hK (a + 14 + 3 * i) (by omega) (lit + sp) (by omega) b7 C (hs7.sub (by repeat (first | exact List.nil_sublist _ | apply List.Sublist.cons_cons | apply List.Sublist.cons))) hcc w (infL_ins [x1, x2, x3] hw)).mono ?_
  rintro e w' ⟨r, hr, h⟩
  rw [itF_of hr]
  clear hr
  cases r with
  | err r =>
    obtain ⟨rfl, hw'⟩ := h
    exact .inr ⟨_, rfl, rfl, hw'.drop.drop.drop.drop.drop⟩
  | ok a' l =>
  obtain ⟨ha', hll, hol, p, c, rfl, hw'⟩ := h
  have hcap : lit + sp ≤ c := (Rd.lcap (vec_rd (e := 5) (size := 1) (v := .slice p (lit + sp) c) (n := lit + sp) (cs := ints .u8 l) (by repeat (first | apply List.Mem.head | apply List.Mem.tail))) hw').1
  refine .inl ⟨_, rfl, _, hw', ?_⟩
  clear hw' hw w w' hA A
  simp only
  unfold des2
  have g256 : (ints .u8 l)[256]? = some (.int .u8 (l.getD 256 0)) := ints_get (by omega)
  have h256 := hol 256
  by_cases hz : l.getD 256 0 = 0
  · repeat (first | (apply gJO; refine JO_v (V_loadC (tb := tb) rfl (vec_rd (e := 5) (size := 1) (v := .slice p (lit + sp) c) (n := lit + sp) (cs := ints .u8 l) (by repeat (first | apply List.Mem.head | apply List.Mem.tail))) rfl rfl g256 rfl) ?_) | first | (refine sx ?_; try intro _))
    refine JO_callE Tryz.func30 Tryz.call32 rfl rfl fun A hA w hw => (Give_c 62 w hw).mono ?_
    rintro e w' (⟨h, rfl, hw'⟩ | ⟨_, rfl, hw'⟩)
    · exact absurd h (by decide)
    · refine .inr ⟨_, rfl, ?_⟩
      show resP _ _ _
      rw [if_pos hz]; exact ⟨rfl, (infL_drop hw').drop.drop.drop.drop.drop.drop⟩
  rw [if_neg hz]
  repeat (first | (apply gJO; refine JO_v (V_loadC (tb := tb) rfl (vec_rd (e := 5) (size := 1) (v := .slice p (lit + sp) c) (n := lit + sp) (cs := ints .u8 l) (by repeat (first | apply List.Mem.head | apply List.Mem.tail))) rfl rfl g256 rfl) ?_) | (apply gJR; first | (refine sx ?_; try intro _)) | (apply gJO; first | (refine sx ?_; try intro _)) | apply JS_seq | apply JS_region | refine JS_condF rfl ?_ | refine JS_cond_F rfl (by omega) ?_ | apply JS_skip)
  refine JS_order2 [] [0, 1, 2, 3, 5, 6, 7, 4, 8, 9] [] (fun w hw => St.sub (List.nil_sublist _) hw) (Picks.cons rfl (Picks.cons rfl (Picks.cons rfl (Picks.cons rfl (Picks.cons rfl (Picks.cons rfl (Picks.cons rfl (Picks.cons rfl (Picks.cons rfl (Picks.cons rfl (Picks.nil))))))))))) (by kernel_rfl) (by kernel_rfl) rfl (by decide +kernel) ?_
  repeat (first | (apply gQR2; apply QR2_un) | (apply gQO2; first | refine QO2_v rfl (V_slice (tb := tb) (lo := 0) (hi := lit) rfl rfl rfl rfl rfl (by rfl) (by rfl) (fun w hw => ⟨by omega, by omega⟩) rfl) ?_ | refine QO2_v rfl (V_slice (tb := tb) (lo := lit) (hi := lit + sp) rfl rfl rfl rfl rfl (by rfl) (by rfl) (fun w hw => ⟨by omega, by omega⟩) rfl) ?_ | refine aQ2 ?_))
  have e2 : lit + sp - lit = sp := by omega
  simp only [subB_0, Nat.sub_zero, e2]
  have hl1 : (l.take lit).length = lit := by rw [List.length_take]; omega
  have hl2 : (l.drop lit).length = sp := by rw [List.length_drop]; omega
  have ho1 : OKB (l.take lit) := Byt_take hol _
  have ho2 : OKB (l.drop lit) := Byt_drop hol _
  refine QO2_callE Tryz.call68 rfl rfl fun w hw => (Made_c p c lit (l.take lit) (by
    have := Rd_sub (lo := 0) (hi := lit) (sz := 1) (vec_rd (w0 := w0) (H := infL bf br q d m B lim a' po co o (vec 5 1 (.slice p (lit + sp) c) (lit + sp) (ints .u8 l) :: ([x1, x2, x3] ++ blk b6 (ints .u8 C) :: blk b5 (ints .i64 ordI) :: H))) (e := 5) (size := 1) (v := .slice p (lit + sp) c) (n := lit + sp) (cs := ints .u8 l) (by repeat (first | apply List.Mem.head | apply List.Mem.tail))) (by omega) (by omega)
    simp only [subB_0, Nat.sub_zero, Nat.zero_mul, Nat.mul_one, List.drop_zero, ints_take] at this
    exact this) hl1 ho1 (by omega) w hw).mono ?_
  rintro e w' (⟨hno, rfl, hw'⟩ | ⟨hyes1, b8, y1, y2, y3, rfl, hs8, hw'⟩)
  · refine .inr ⟨_, rfl, QK_e Tryz.func30 ?_⟩
    show resP _ _ _
    rw [if_pos hno]; exact ⟨rfl, (infL_drop hw').drop.drop.drop.drop.drop.drop⟩
  refine .inl ⟨_, rfl, [], _, hw', fun w hw => St.sub (List.nil_sublist _) hw, .inl fun w hw => hw, ?_⟩
  clear hw' hw w w'
  rw [if_neg (fun h => h hyes1)]
  repeat (first | (apply gQR2; apply QR2_un) | (apply gQO2; refine aQ2 ?_))
  refine QO2_callE Tryz.call68 rfl rfl fun w hw => (Made_c (subB p lit c 1) (c - lit) sp (l.drop lit) (by
    have := Rd_sub (lo := lit) (hi := lit + sp) (sz := 1) (vec_rd (w0 := w0) (H := y1 :: y2 :: y3 :: infL bf br q d m B lim a' po co o (vec 5 1 (.slice p (lit + sp) c) (lit + sp) (ints .u8 l) :: ([x1, x2, x3] ++ blk b6 (ints .u8 C) :: blk b5 (ints .i64 ordI) :: H))) (e := 5) (size := 1) (v := .slice p (lit + sp) c) (n := lit + sp) (cs := ints .u8 l) (by repeat (first | apply List.Mem.head | apply List.Mem.tail))) (by omega) (by omega)
    simp only [e2, Nat.mul_one, ints_drop, ints_take] at this
    rw [List.take_of_length_le (by omega)] at this
    exact this) hl2 ho2 (by omega) w hw).mono ?_
  rintro e w' (⟨hno, rfl, hw'⟩ | ⟨hyes2, b9, y4, y5, y6, rfl, hs9, hw'⟩)
  · refine .inr ⟨_, rfl, QK_e Tryz.func30 ?_⟩
    show resP _ _ _
    rw [if_pos hno]; exact ⟨rfl, (infL_drop hw'.drop.drop.drop).drop.drop.drop.drop.drop.drop⟩
  refine .inl ⟨_, rfl, [], _, hw', fun w hw => St.sub (List.nil_sublist _) hw, .inl fun w hw => hw, ?_⟩
  clear hw' hw w w'
  rw [if_neg (fun h => h hyes2)]
  repeat (first | (apply gQR2; apply QR2_un) | (apply gQO2; refine aQ2 ?_))
  refine QO2_callE Tryz.call67 rfl rfl fun w hw => (Blk_c hK a' ha' ho b8 b9 _ _ (hs8.sub (by repeat (first | exact List.nil_sublist _ | apply List.Sublist.cons_cons | apply List.Sublist.cons))) (hs9.sub (by repeat (first | exact List.nil_sublist _ | apply List.Sublist.cons_cons | apply List.Sublist.cons))) w (infL_ins [y4, y5, y6, y1, y2, y3] hw)).mono ?_
  rintro e w' ⟨r, hr, h⟩
  rw [itF_of hr]
  clear hr
  cases r with
  | err r =>
    obtain ⟨rfl, hw'⟩ := h
    exact .inr ⟨_, rfl, QK_e Tryz.func30 ⟨rfl, St.sub (by repeat (first | exact List.Sublist.refl _ | apply List.Sublist.cons_cons | apply List.Sublist.cons)) hw'⟩⟩
  | ok a2 o2 =>
  obtain ⟨h1, h2, rfl, p', c', hw'⟩ := h
  refine .inl ⟨_, rfl, [], _, hw', fun w hw => St.sub (List.nil_sublist _) hw, .inl fun w hw => hw, ?_⟩
  clear hw' hw w w'
  repeat (first | (apply gQR2; first | apply QR2_un | apply QR2_nil) | (apply gQO2; refine aQ2 ?_))
  refine JS_fin Tryz.func30 rfl rfl ?_
  intro w hw
  exact ⟨h1, h2, rfl, p', c', St.sub (by repeat (first | exact List.Sublist.refl _ | apply List.Sublist.cons_cons | apply List.Sublist.cons)) hw⟩
end
end Go.Proofs.YtbiocgenbgbfpaaGreat

namespace Go.Proofs.YtbiocgenbgbfpaaGreat
open Sx Go
set_option linter.unusedVariables false
set_option maxRecDepth 10000
set_option linter.unusedSimpArgs false
attribute [local irreducible] syA fc tk cds
section
variable {w0 : World} {H : List Asn}
theorem inv_fn {q : Nat} {cap args : Array Value} {w : World} (hc : ∀ args w, (callFunc q args).run Tryz.prog w = .ok (.enter q args) w) : (invoke (.fn (.func q) cap) args).run Tryz.prog w = .ok (.enter q (args ++ cap)) w := by
  simp only [invoke]
  simpa using hc (args ++ cap) w
/-- nothing is to be caught -/
theorem Catch_idle (be : Nat) (w : World) (hw : St w0 H w) :
    CallsD Tryz.prog 26 #[.pointer (some ⟨be, 0, none⟩)] .returning w fun e u' w' => u' = .returning ∧ e = .returned (.tuple #[]) ∧ St w0 H w' := by
  refine enterR (vs := [.pointer (some ⟨be, 0, none⟩)]) Tryz.func26 rfl rfl rfl rfl hw (.inl ⟨rfl, rfl, rfl⟩) ?_
  repeat (first | (apply gJO; refine JO_v (V_eqIN (tb := tb) rfl rfl rfl) ?_) | first | (refine sx ?_; try intro _))
  exact JS_fin Tryz.func26 rfl rfl fun w hw => ⟨rfl, hw⟩
/-- a fault is caught -/
theorem Catch_got (be : Nat) (r x : Int) (w : World) (hw : St w0 (blk be [.int .i64 x] :: H) w) :
    CallsD Tryz.prog 26 #[.pointer (some ⟨be, 0, none⟩)] (.panicking (FLT r)) w fun e u' w' => u' = .panicking [{ v := .iface 115 (.int .i64 r), recovered := true }] ∧ e = .returned (.tuple #[]) ∧ St w0 (blk be [.int .i64 r] :: H) w' := by
  refine enterR (vs := [.pointer (some ⟨be, 0, none⟩)]) Tryz.func26 rfl rfl rfl rfl hw (.inr ⟨[], rfl, rfl⟩) ?_
  repeat (first | (apply gJO; first | refine JO_v (V_eqIV (tb := tb) rfl rfl rfl) ?_ | refine JO_v (V_assertT (tb := tb) rfl rfl (by simp) rfl) ?_) | first | (refine sx ?_; try intro _))
  exact JS_fin Tryz.func26 rfl rfl fun w hw => ⟨rfl, hw⟩
/-- the last deferred call: an error leaves nothing -/
theorem Clos_ok (be bo bu : Nat) (u : FrameMode) (w : World) (hb : blk be [.int .i64 0] ∈ H) (hw : St w0 H w) :
    CallsD Tryz.prog 25 #[.pointer (some ⟨be, 0, none⟩), .pointer (some ⟨bo, 0, none⟩), .pointer (some ⟨bu, 0, none⟩)] u w fun e u' w' => u' = u ∧ e = .returned (.tuple #[]) ∧ St w0 H w' := by
  refine enterD (vs := [.pointer (some ⟨be, 0, none⟩), .pointer (some ⟨bo, 0, none⟩), .pointer (some ⟨bu, 0, none⟩)]) Tryz.func25 rfl rfl rfl hw ?_
  repeat (first | (apply gJO; refine JO_v (V_load (tb := tb) rfl hb rfl rfl rfl rfl) ?_) | first | (refine sx ?_; try intro _))
  exact JS_fin Tryz.func25 rfl rfl fun w hw => ⟨rfl, hw⟩
theorem Clos_err (be bo bu : Nat) (r x2 : Int) (v1 : Value) (hr : r ≠ 0) (hv : one v1) (u : FrameMode) (w : World) (hw : St w0 (blk be [.int .i64 r] :: blk bu [.int .i64 x2] :: blk bo [v1] :: H) w) :
    CallsD Tryz.prog 25 #[.pointer (some ⟨be, 0, none⟩), .pointer (some ⟨bo, 0, none⟩), .pointer (some ⟨bu, 0, none⟩)] u w fun e u' w' => u' = u ∧ e = .returned (.tuple #[]) ∧ St w0 (blk be [.int .i64 r] :: blk bu [.int .i64 0] :: blk bo [.slice none 0 0] :: H) w' := by
  refine enterD (vs := [.pointer (some ⟨be, 0, none⟩), .pointer (some ⟨bo, 0, none⟩), .pointer (some ⟨bu, 0, none⟩)]) Tryz.func25 rfl rfl rfl hw ?_
  repeat (first | (refine sx ?_; try intro _))
  exact JS_fin Tryz.func25 rfl rfl fun w hw => ⟨rfl, hw⟩
/-- the cells of the results -/
abbrev resC (be bu bo : Nat) (H : List Asn) : List Asn := blk be [.int .i64 0] :: blk bu [.int .i64 0] :: blk bo [.slice none 0 0] :: H
abbrev defs (be bu bo : Nat) : List Deferred := [⟨.fn (.func 26) #[], #[.pointer (some ⟨be, 0, none⟩)]⟩, ⟨.fn (.func 25) #[.pointer (some ⟨be, 0, none⟩), .pointer (some ⟨bo, 0, none⟩), .pointer (some ⟨bu, 0, none⟩)], #[]⟩]
/-- the way out when a reading was given up -/
theorem Lv_err {R : Ending → World → Prop} {n : Nat} {be bu bo : Nat} {r : Int} {a : Act} {D : List Deferred} (ha : Rep n D [(4, .pointer (some ⟨bo, 0, none⟩)), (5, .pointer (some ⟨bu, 0, none⟩)), (6, .pointer (some ⟨be, 0, none⟩))] a) {w : World} (hw : St w0 (resC be bu bo H) w)
    (hR : ∀ w, St w0 H w → R (.returned (.tuple #[.slice none 0 0, .int .i64 0, .int .i64 r])) w) : Leaves Tryz.prog Tryz.f8 a.tmps R (defs be bu bo) (.panicking (FLT r)) w := by
  refine leaves_cons (f := 26) (args := #[.pointer (some ⟨be, 0, none⟩)]) (by simp) (inv_fn Tryz.call26) ?_
  refine (Catch_got be r 0 w hw).mono ?_
  rintro e u' w' ⟨rfl, rfl, hw'⟩
  show Leaves _ _ _ _ _ (settle _) _
  rw [show settle (.panicking [{ v := .iface 115 (.int .i64 r), recovered := true }]) = .returning from rfl]
  refine leaves_cons (f := 25) (args := #[.pointer (some ⟨be, 0, none⟩), .pointer (some ⟨bo, 0, none⟩), .pointer (some ⟨bu, 0, none⟩)]) (by simp) (inv_fn Tryz.call25) ?_
  have fin : ∀ w, St w0 (blk be [.int .i64 r] :: blk bu [.int .i64 0] :: blk bo [.slice none 0 0] :: H) w → Leaves Tryz.prog Tryz.f8 a.tmps R [] .returning w := by
    intro w hw
    exact ⟨_, results_cells (tb := tb) (vs := [.slice none 0 0, .int .i64 0, .int .i64 r]) (ResV.one (tb := tb) rfl (by repeat (first | apply List.Mem.head | apply List.Mem.tail)) rfl rfl rfl (ResV.one (tb := tb) rfl (by repeat (first | apply List.Mem.head | apply List.Mem.tail)) rfl rfl rfl (ResV.one (tb := tb) rfl (by repeat (first | apply List.Mem.head | apply List.Mem.tail)) rfl rfl rfl ResV.nil))) ha hw, hR w hw.drop.drop.drop⟩
  by_cases hr : r = 0
  · subst hr
    refine (Clos_ok be bo bu .returning w' (List.Mem.head _) hw').mono ?_
    rintro e u' w'' ⟨rfl, rfl, hw''⟩
    exact fin w'' hw''
  · refine (Clos_err be bo bu r 0 (.slice none 0 0) hr rfl .returning w' hw').mono ?_
    rintro e u' w'' ⟨rfl, rfl, hw''⟩
    exact fin w'' hw''
/-- the way out when all went well -/
theorem Lv_ok {R : Ending → World → Prop} {n : Nat} {be bu bo : Nat} {x : Int} {v1 : Value} {a : Act} {D : List Deferred} (ha : Rep n D [(4, .pointer (some ⟨bo, 0, none⟩)), (5, .pointer (some ⟨bu, 0, none⟩)), (6, .pointer (some ⟨be, 0, none⟩))] a) {w : World} (hw : St w0 (blk be [.int .i64 0] :: blk bu [.int .i64 x] :: blk bo [v1] :: H) w)
    (hR : ∀ w, St w0 H w → R (.returned (.tuple #[v1, .int .i64 x, .int .i64 0])) w) : Leaves Tryz.prog Tryz.f8 a.tmps R (defs be bu bo) .returning w := by
  refine leaves_cons (f := 26) (args := #[.pointer (some ⟨be, 0, none⟩)]) (by simp) (inv_fn Tryz.call26) ?_
  refine (Catch_idle be w hw).mono ?_
  rintro e u' w' ⟨rfl, rfl, hw'⟩
  show Leaves _ _ _ _ _ (settle _) _
  rw [show settle .returning = .returning from rfl]
  refine leaves_cons (f := 25) (args := #[.pointer (some ⟨be, 0, none⟩), .pointer (some ⟨bo, 0, none⟩), .pointer (some ⟨bu, 0, none⟩)]) (by simp) (inv_fn Tryz.call25) ?_
  refine (Clos_ok be bo bu .returning w' (List.Mem.head _) hw').mono ?_
  rintro e u' w'' ⟨rfl, rfl, hw''⟩
  exact ⟨_, results_cells (tb := tb) (vs := [v1, .int .i64 x, .int .i64 0]) (ResV.one (tb := tb) rfl (by repeat (first | apply List.Mem.head | apply List.Mem.tail)) rfl rfl rfl (ResV.one (tb := tb) rfl (by repeat (first | apply List.Mem.head | apply List.Mem.tail)) rfl rfl rfl (ResV.one (tb := tb) rfl (by repeat (first | apply List.Mem.head | apply List.Mem.tail)) rfl rfl rfl ResV.nil))) ha hw'', hR w'' hw''.drop.drop.drop⟩
end
end Go.Proofs.YtbiocgenbgbfpaaGreat

namespace Go.Proofs.YtbiocgenbgbfpaaGreat
open Sx Go
set_option linter.unusedVariables false
set_option linter.unusedSimpArgs false
attribute [local irreducible] syA fc tk cds
theorem itF_ok {f : Nat → List Int → Stp} {a a' : Nat} {o o' : List Int} (h : itF f a o = .ok a' o') : It f a o (.ok a' o') := by
  unfold itF at h
  split at h
  · rename_i hex; rw [← h]; exact hex.choose_spec
  · cases h
theorem symS_ge {bt : Nat → Int} {N a a1 : Nat} {L : List Int} {i : Int} (h : symS bt N L a = .ok i a1) : a ≤ a1 := by
  unfold symS at h
  split at h
  · split at h
    · simp only [Sy.ok.injEq] at h; omega
    · cases h
  · cases h
theorem blk2_ge {bt : Nat → Int} {N lim a a' : Nat} {D o o' : List Int} {len : Int} (h : blk2 bt N lim D o len a = .go a' o') : a ≤ a' := by
  unfold blk2 at h
  split at h
  · cases h
  · rename_i d a2 hs
    have := symS_ge hs
    split at h
    · cases h
    · split at h
      · cases h
      · split at h
        · cases h
        · split at h
          · cases h
          · simp only [Stp.go.injEq] at h; omega
theorem blk2_stop {bt : Nat → Int} {N lim a a' : Nat} {D o o' : List Int} {len : Int} (h : blk2 bt N lim D o len a = .stop a' o') : False := by
  unfold blk2 at h
  split at h
  · cases h
  · split at h
    · cases h
    · split at h
      · cases h
      · split at h
        · cases h
        · split at h <;> cases h
theorem blkF_ge {bt : Nat → Int} {N lim a a' : Nat} {L D o o' : List Int} (h : blkF bt N lim L D a o = .go a' o' ∨ blkF bt N lim L D a o = .stop a' o') : a ≤ a' := by
  unfold blkF at h
  split at h
  · rcases h with h | h <;> cases h
  · rename_i i a1 hs
    have := symS_ge hs
    split at h
    · rcases h with h | h
      · cases h
      · simp only [Stp.stop.injEq] at h; omega
    · split at h
      · split at h
        · rcases h with h | h <;> cases h
        · rcases h with h | h
          · simp only [Stp.go.injEq] at h; omega
          · cases h
      · split at h
        · rcases h with h | h <;> cases h
        · split at h
          · rcases h with h | h <;> cases h
          · rcases h with h | h
            · have := blk2_ge h; omega
            · exact (blk2_stop h).elim
theorem It_ge {f : Nat → List Int → Stp} (hf : ∀ a o a' o', f a o = .go a' o' ∨ f a o = .stop a' o' → a ≤ a') {a : Nat} {o : List Int} {r : Res} (h : It f a o r) : ∀ a' o', r = .ok a' o' → a ≤ a' := by
  induction h with
  | err _ => intro a' o' h; cases h
  | stop h => intro a' o' h'; cases h'; exact hf _ _ _ _ (.inr h)
  | go h _ ih => intro a' o' h'; exact Nat.le_trans (hf _ _ _ _ (.inl h)) (ih a' o' h')
theorem lenP_ge {many : Nat} {l l' : List Int} {x t : Int} {a a' : Nat} (h : lenP many l x t a = .go a' l' ∨ lenP many l x t a = .stop a' l') : a = a' := by
  unfold lenP at h
  split at h
  · rcases h with h | h <;> cases h
  · rcases h with h | h
    · simp only [Stp.go.injEq] at h; exact h.1
    · cases h
theorem lenF_ge {bt : Nat → Int} {N a a' many : Nat} {C l l' : List Int} (h : lenF bt N C many a l = .go a' l' ∨ lenF bt N C many a l = .stop a' l') : a ≤ a' := by
  unfold lenF at h
  split at h
  · rcases h with h | h
    · cases h
    · simp only [Stp.stop.injEq] at h; omega
  · split at h
    · rcases h with h | h <;> cases h
    · rename_i i a1 hs
      have := symS_ge hs
      split at h
      · split at h
        · rcases h with h | h <;> cases h
        · split at h
          · rcases h with h | h <;> cases h
          · have := lenP_ge h; omega
      · split at h
        · split at h
          · rcases h with h | h <;> cases h
          · have := lenP_ge h; omega
        · split at h
          · split at h
            · rcases h with h | h <;> cases h
            · have := lenP_ge h; omega
          · have := lenP_ge h; omega
theorem kndF_ge {bt : Nat → Int} {N lim a a' : Nat} {o o' : List Int} {k : Int} (h : kndF bt N lim k a o = .ok a' o') : a ≤ a' := by
  unfold kndF at h
  split at h
  · unfold stoF at h
    split at h
    · cases h
    · split at h
      · cases h
      · split at h
        · cases h
        · split at h
          · cases h
          · split at h
            · cases h
            · simp only [Res.ok.injEq] at h
              have : a ≤ upto8 a := by unfold upto8; omega
              omega
  · split at h
    · exact It_ge (fun a o a' o' => blkF_ge) (itF_ok h) _ _ rfl
    · split at h
      · unfold desF at h
        split at h
        · cases h
        · split at h
          · cases h
          · split at h
            · cases h
            · unfold des1 at h
              split at h
              · cases h
              · split at h
                · cases h
                · split at h
                  · cases h
                  · split at h
                    · cases h
                    · rename_i a1 l1 hl1
                      have h1 := It_ge (fun a o a' o' => lenF_ge) (itF_ok hl1) _ _ rfl
                      unfold des2 at h
                      split at h
                      · cases h
                      · split at h
                        · cases h
                        · split at h
                          · cases h
                          · have := It_ge (fun a o a' o' => blkF_ge) (itF_ok h) _ _ rfl
                            omega
      · cases h
theorem perm5 (a b c d e : Asn) (L : List Asn) : (a :: b :: c :: d :: e :: L).Perm (d :: c :: a :: e :: b :: L) :=
  List.Perm.trans (List.perm_append_comm_assoc [a, b, c] [d] (e :: L)) (List.Perm.cons _ (List.Perm.trans (List.perm_append_comm_assoc [a, b] [c] (e :: L)) (List.Perm.cons _ (List.Perm.cons _ (List.Perm.swap _ _ _)))))
section
variable {w0 : World} {H : List Asn}
def kindC : List Value := [.func (.func 28) #[] #[], .func (.func 29) #[] #[], .func (.func 30) #[] #[]]
set_option maxRecDepth 10000 in
set_option maxHeartbeats 4000000 in
/-- a compressed stream is read -/
theorem IRead_c (p : Option Addr) (c m : Nat) (B : List Int) (hr : Rd w0 H (.slice p m c) m (ints .u8 B)) (hm : B.length = m) (hB : OKB B) (hm1 : m ≤ 140737488355328) (L : Int) (hL : -9223372036854775808 ≤ L ∧ L < 9223372036854775808) (w : World) (hw : St w0 H w) :
    Calls Tryz.prog 8 #[.slice p m c, .int .i64 L] w fun e w' => ((L < 0 ∨ 1048576 < L) ∧ e = .returned (.tuple #[.slice none 0 0, .int .i64 0, .int .i64 1]) ∧ St w0 H w') ∨
      (0 ≤ L ∧ L ≤ 1048576 ∧ ∃ r, ALLR B L.toNat r ∧ resP r (fun x => e = .returned (.tuple #[.slice none 0 0, .int .i64 0, .int .i64 x]) ∧ St w0 H w')
        (fun a o => a ≤ 8 * m ∧ o.length ≤ L.toNat ∧ ∃ p c, e = .returned (.tuple #[.slice p o.length c, .int .i64 ((a + 7) / 8 : Nat), .int .i64 0]) ∧ St w0 (vec 5 1 (.slice p o.length c) o.length (ints .u8 o) :: H) w')) := by
  refine enter (vs := [.slice p m c, .int .i64 L]) Tryz.func8 rfl rfl rfl hw ?_
  subst hm
  obtain ⟨m, hm⟩ : ∃ m, B.length = m := ⟨_, rfl⟩
  unfold ALLR
  rw [hm] at hr hm1 ⊢
  by_cases hbad : L < 0 ∨ 1048576 < L
  · have : (L < 0) ∨ (¬ L < 0 ∧ 1048576 < L) := by omega
    rcases this with h | ⟨h, h'⟩
    · repeat (first | (refine sx ?_; try intro _))
      exact JS_retC (tb := tb) (vs := [.slice none 0 0, .int .i64 0, .int .i64 1]) Tryz.func8 rfl (ResV.one (tb := tb) rfl (by repeat (first | apply List.Mem.head | apply List.Mem.tail)) rfl rfl rfl (ResV.one (tb := tb) rfl (by repeat (first | apply List.Mem.head | apply List.Mem.tail)) rfl rfl rfl (ResV.one (tb := tb) rfl (by repeat (first | apply List.Mem.head | apply List.Mem.tail)) rfl rfl rfl ResV.nil))) fun w hw => .inl ⟨hbad, rfl, hw.drop.drop.drop⟩
    · repeat (first | (refine sx ?_; try intro _))
      exact JS_retC (tb := tb) (vs := [.slice none 0 0, .int .i64 0, .int .i64 1]) Tryz.func8 rfl (ResV.one (tb := tb) rfl (by repeat (first | apply List.Mem.head | apply List.Mem.tail)) rfl rfl rfl (ResV.one (tb := tb) rfl (by repeat (first | apply List.Mem.head | apply List.Mem.tail)) rfl rfl rfl (ResV.one (tb := tb) rfl (by repeat (first | apply List.Mem.head | apply List.Mem.tail)) rfl rfl rfl ResV.nil))) fun w hw => .inl ⟨hbad, rfl, hw.drop.drop.drop⟩
  obtain ⟨lim, rfl⟩ : ∃ lim : Nat, L = lim := ⟨L.toNat, by omega⟩
  have hK : InfK m B lim := ⟨hm, hB, hm1, by omega⟩
  rw [Int.toNat_natCast]
  repeat (first | (apply gJR; first | (refine sx ?_; try intro _)) | (apply gJO; first | (refine JO_deferv rfl rfl rfl ?_) | (refine JO_defer rfl rfl ?_) | (refine JO_v (V_buildA (tb := tb) rfl rfl rfl rfl rfl) ?_) | first | (refine sx ?_; try intro _)) | apply JS_seq | apply JS_region | refine JS_condF rfl ?_ | refine JS_cond_F rfl (by omega) ?_ | apply JS_skip)
  rename_i bo bu be
  refine JO_call Tryz.call27 rfl rfl fun w hw => (New_c p c m B (Rd_weak hr fun w hw => St.sub (by repeat (first | exact List.Sublist.refl _ | apply List.Sublist.cons_cons | apply List.Sublist.cons)) hw) hm hB hm1 (hr.nil hw.drop.drop.drop) w hw).mono ?_
  rintro e w' ⟨br, q, d, rfl, hw'⟩
  refine ⟨_, rfl, _, hw', ?_⟩
  clear hw' hw w w'
  repeat (first | (apply gJR; first | (refine sx ?_; try intro _)) | (apply gJO; first | (refine JO_v (V_buildA (tb := tb) rfl rfl rfl rfl rfl) ?_) | first | (refine sx ?_; try intro _)) | apply JS_seq | apply JS_region)
  rename_i bf bk
  refine JS_block ?_
  refine JS_loop5 (fun (a : Nat) (o : List Int) (po : Option Addr) (co : Nat) (last : Int) => [(4, .pointer (some ⟨bo, 0, none⟩)), (5, .pointer (some ⟨bu, 0, none⟩)), (6, .pointer (some ⟨be, 0, none⟩)), (7, .pointer (some ⟨bf, 0, none⟩)), (8, .pointer (some ⟨bk, 0, none⟩)), (9, .int .i64 last)])
    (fun a o po co _ => infL bf br q d m B lim a po co o (blk bk kindC :: resC be bu bo H))
    (fun a o _ _ last => a ≤ 8 * m ∧ o.length ≤ lim ∧ ((last = 0 ∧ ∀ r, It (rdF (bitB B 0) (8 * m) lim) a o r → It (rdF (bitB B 0) (8 * m) lim) 0 [] r) ∨ (last ≠ 0 ∧ It (rdF (bitB B 0) (8 * m) lim) 0 [] (.ok a o))))
    (fun a _ _ _ _ => 8 * m - a) 0 [] none 0 0 ⟨Nat.zero_le _, Nat.zero_le _, .inl ⟨rfl, fun _ h => h⟩⟩ (by repeat (first | exact trivial | refine ⟨rfl, ?_⟩ | refine ⟨lookI rfl (by omega), ?_⟩)) ?_ ?_
  · intro w h
    exact (St.nilvec (e := 5) (sz := 1) (base := none) h).perm (perm5 _ _ _ _ _ _)
  intro a o po co last ⟨ha, ho, hinv⟩ again
  rcases hinv with ⟨rfl, hinv⟩ | ⟨hl0, hfin⟩
  · have hF : rdF (bitB B 0) (8 * m) lim a o = if 8 * m < a + 1 then .err 20
      else if 8 * m < a + 3 then .err 20
      else match kndF (bitB B 0) (8 * m) lim (nbt (bitB B 0) (a + 1) 2) (a + 3) o with
        | .err e => .err e
        | .ok a' o' => if nbt (bitB B 0) a 1 = 0 then .go a' o' else .stop a' o' := rfl
    obtain ⟨x1, hx1⟩ := Int.eq_ofNat_of_zero_le (nbt_bd (bitB B 0) (bitB_01 B 0) a 1).1
    have hb1 := (nbt_bd (bitB B 0) (bitB_01 B 0) a 1).2
    obtain ⟨k, hk⟩ := Int.eq_ofNat_of_zero_le (nbt_bd (bitB B 0) (bitB_01 B 0) (a + 1) 2).1
    have hb2 := (nbt_bd (bitB B 0) (bitB_01 B 0) (a + 1) 2).2
    rw [hx1] at hb1 hF
    rw [hk] at hb2 hF
    have hb1 : (x1 : Int) < 2 := hb1
    have hb2 : (k : Int) < 4 := hb2
    have err : ∀ {A : Act} {ov : Ov} {r : Int} {w' : World} {D : List Deferred}, It (rdF (bitB B 0) (8 * m) lim) 0 [] (.err r) → Rep Tryz.f8.ntmps D ov A → Sx.sub [(4, .pointer (some ⟨bo, 0, none⟩)), (5, .pointer (some ⟨bu, 0, none⟩)), (6, .pointer (some ⟨be, 0, none⟩))] ov → St w0 (blk bk kindC :: resC be bu bo H) w' →
        Leaves Tryz.prog Tryz.f8 A.tmps (fun e w' => (((lim : Int) < 0 ∨ 1048576 < (lim : Int)) ∧ e = .returned (.tuple #[.slice none 0 0, .int .i64 0, .int .i64 1]) ∧ St w0 H w') ∨
      (0 ≤ (lim : Int) ∧ (lim : Int) ≤ 1048576 ∧ ∃ r, It (rdF (bitB B 0) (8 * m) lim) 0 [] r ∧ resP r (fun x => e = .returned (.tuple #[.slice none 0 0, .int .i64 0, .int .i64 x]) ∧ St w0 H w')
        (fun a o => a ≤ 8 * m ∧ o.length ≤ lim ∧ ∃ p c, e = .returned (.tuple #[.slice p o.length c, .int .i64 ((a + 7) / 8 : Nat), .int .i64 0]) ∧ St w0 (vec 5 1 (.slice p o.length c) o.length (ints .u8 o) :: H) w'))) (defs be bu bo) (.panicking (FLT r)) w' := by
      intro A ov r w' D hi hA hs hw
      exact Lv_err (hA.sub hs) hw.drop fun w hw => .inr ⟨by omega, by omega, .err r, hi, rfl, hw⟩
    repeat (first | (refine sx ?_; try intro _))
    refine JO_callE Tryz.func8 Tryz.call31 rfl rfl fun A hA w hw => (Grp_c hK a 1 (by omega) ha w hw).mono ?_
    rintro e w' (⟨h, rfl, hw'⟩ | ⟨h1, he, hw'⟩)
    · exact .inr ⟨_, rfl, err (hinv _ (.err (by rw [hF, if_pos h]))) hA (by repeat (first | exact trivial | refine ⟨rfl, ?_⟩ | refine ⟨lookI rfl (by omega), ?_⟩)) hw'⟩
    rw [hx1] at he; subst he
    refine .inl ⟨_, rfl, _, hw', ?_⟩
    clear hw' hw w w' hA A
    rw [if_neg (by omega)] at hF
    repeat (first | (refine sx ?_; try intro _))
    refine JO_callE Tryz.func8 Tryz.call31 rfl rfl fun A hA w hw => (Grp_c hK (a + 1) 2 (by omega) h1 w hw).mono ?_
    rintro e w' (⟨h, rfl, hw'⟩ | ⟨h2, he, hw'⟩)
    · exact .inr ⟨_, rfl, err (hinv _ (.err (by rw [hF, if_pos (by omega)]))) hA (by repeat (first | exact trivial | refine ⟨rfl, ?_⟩ | refine ⟨lookI rfl (by omega), ?_⟩)) hw'⟩
    rw [hk] at he; subst he
    refine .inl ⟨_, rfl, _, hw', ?_⟩
    clear hw' hw w w' hA A
    rw [if_neg (by omega)] at hF
    have hgo : ∀ a' o', kndF (bitB B 0) (8 * m) lim k (a + 3) o = .ok a' o' → a' ≤ 8 * m → o'.length ≤ lim → (a' ≤ 8 * m ∧ o'.length ≤ lim ∧ (((x1 : Int) = 0 ∧ ∀ r, It (rdF (bitB B 0) (8 * m) lim) a' o' r → It (rdF (bitB B 0) (8 * m) lim) 0 [] r) ∨ ((x1 : Int) ≠ 0 ∧ It (rdF (bitB B 0) (8 * m) lim) 0 [] (.ok a' o')))) ∧ 8 * m - a' < 8 * m - a := by
      intro a' o' hkn h3 h4
      have hge := kndF_ge hkn
      rw [hkn] at hF
      simp only at hF
      refine ⟨⟨h3, h4, ?_⟩, by omega⟩
      by_cases h0 : (x1 : Int) = 0
      · rw [if_pos h0] at hF
        exact .inl ⟨h0, fun r hr => hinv r (.go hF hr)⟩
      · rw [if_neg h0] at hF
        exact .inr ⟨h0, hinv _ (.stop hF)⟩
    have herr : ∀ r, kndF (bitB B 0) (8 * m) lim k (a + 3) o = .err r → It (rdF (bitB B 0) (8 * m) lim) 0 [] (.err r) := by
      intro r hkn
      rw [hkn] at hF
      exact hinv _ (.err hF)
    clear hF hinv
    rcases (show k = 0 ∨ k = 1 ∨ k = 2 ∨ k = 3 by omega) with rfl | rfl | rfl | rfl
    · repeat (first | (refine sx ?_; try intro _))
      refine JO_callvE (us := []) (cs := []) Tryz.func8 rfl Tryz.call28 rfl rfl fun A hA w hw => (Sto_c hK (a + 3) (by omega) ho w hw).mono ?_
      intro e w' h
      obtain ⟨r, hr⟩ : ∃ r, stoF (bitB B 0) (8 * m) lim (a + 3) o = r := ⟨_, rfl⟩
      rw [hr] at h
      cases r with
      | err r =>
        obtain ⟨rfl, hw'⟩ := h
        exact .inr ⟨_, rfl, err (herr r hr) hA (by repeat (first | exact trivial | refine ⟨rfl, ?_⟩ | refine ⟨lookI rfl (by omega), ?_⟩)) hw'⟩
      | ok a' o' =>
      obtain ⟨h3, h4, rfl, p', c', hw'⟩ := h
      obtain ⟨g1, g2⟩ := hgo a' o' hr h3 h4
      refine .inl ⟨_, rfl, _, hw', ?_⟩
      clear hw' hw w w' hA A
      repeat (first | (refine sx ?_; try intro _))
      exact JS_again5 again a' o' p' c' x1 g1 g2 (by repeat (first | exact trivial | refine ⟨rfl, ?_⟩ | refine ⟨lookI rfl (by omega), ?_⟩)) (fun w hw => hw)
    · repeat (first | (refine sx ?_; try intro _))
      refine JO_callvE (us := []) (cs := []) Tryz.func8 rfl Tryz.call29 rfl rfl fun A hA w hw => (Fix_c hK (a + 3) (by omega) ho w hw).mono ?_
      rintro e w' ⟨r, hr, h⟩
      cases r with
      | err r =>
        obtain ⟨rfl, hw'⟩ := h
        exact .inr ⟨_, rfl, err (herr r (itF_of hr)) hA (by repeat (first | exact trivial | refine ⟨rfl, ?_⟩ | refine ⟨lookI rfl (by omega), ?_⟩)) hw'⟩
      | ok a' o' =>
      obtain ⟨h3, h4, rfl, p', c', hw'⟩ := h
      obtain ⟨g1, g2⟩ := hgo a' o' (itF_of hr) h3 h4
      refine .inl ⟨_, rfl, _, hw', ?_⟩
      clear hw' hw w w' hA A
      repeat (first | (refine sx ?_; try intro _))
      exact JS_again5 again a' o' p' c' x1 g1 g2 (by repeat (first | exact trivial | refine ⟨rfl, ?_⟩ | refine ⟨lookI rfl (by omega), ?_⟩)) (fun w hw => hw)
    · repeat (first | (refine sx ?_; try intro _))
      refine JO_callvE (us := []) (cs := []) Tryz.func8 rfl Tryz.call30 rfl rfl fun A hA w hw => (Des_c hK (a + 3) (by omega) ho w hw).mono ?_
      intro e w' h
      obtain ⟨r, hr⟩ : ∃ r, desF (bitB B 0) (8 * m) lim (a + 3) o = r := ⟨_, rfl⟩
      rw [hr] at h
      cases r with
      | err r =>
        obtain ⟨rfl, hw'⟩ := h
        exact .inr ⟨_, rfl, err (herr r hr) hA (by repeat (first | exact trivial | refine ⟨rfl, ?_⟩ | refine ⟨lookI rfl (by omega), ?_⟩)) hw'⟩
      | ok a' o' =>
      obtain ⟨h3, h4, rfl, p', c', hw'⟩ := h
      obtain ⟨g1, g2⟩ := hgo a' o' hr h3 h4
      refine .inl ⟨_, rfl, _, hw', ?_⟩
      clear hw' hw w w' hA A
      repeat (first | (refine sx ?_; try intro _))
      exact JS_again5 again a' o' p' c' x1 g1 g2 (by repeat (first | exact trivial | refine ⟨rfl, ?_⟩ | refine ⟨lookI rfl (by omega), ?_⟩)) (fun w hw => hw)
    · repeat (first | (refine sx ?_; try intro _))
      refine JO_callE Tryz.func8 Tryz.call32 rfl rfl fun A hA w hw => (Give_c 60 w hw).mono ?_
      rintro e w' (⟨h, rfl, hw'⟩ | ⟨_, rfl, hw'⟩)
      · exact absurd h (by decide)
      · exact .inr ⟨_, rfl, err (herr 60 rfl) hA (by repeat (first | exact trivial | refine ⟨rfl, ?_⟩ | refine ⟨lookI rfl (by omega), ?_⟩)) (infL_drop hw')⟩
  · clear again
    repeat (first | (apply gJR; first | (refine sx ?_; try intro _)) | (apply gJO; first | (refine sx ?_; try intro _)) | apply JS_seq | apply JS_region | apply JS_skip | apply JS_block | apply JS_inBlock | refine JS_exit rfl ?_ | refine JS_condF rfl ?_)
    refine JS_order2 (infL bf br q d m B lim a po co o []) [0, 1, 2, 3, 4, 5, 6, 7, 8, 9, 10, 11, 12, 13] [] (fun w hw => St.sub (by repeat (first | exact List.nil_sublist _ | apply List.Sublist.cons_cons | apply List.Sublist.cons)) hw) (Picks.cons rfl (Picks.cons rfl (Picks.cons rfl (Picks.cons rfl (Picks.cons rfl (Picks.cons rfl (Picks.cons rfl (Picks.cons rfl (Picks.cons rfl (Picks.cons rfl (Picks.cons rfl (Picks.cons rfl (Picks.cons rfl (Picks.cons rfl (Picks.nil))))))))))))))) (by kernel_rfl) (by kernel_rfl) rfl (by decide +kernel) ?_
    repeat (first | (apply gQR2; apply QR2_un) | (apply gQO2; refine aQ2 ?_))
    refine QO2_callE Tryz.call33 rfl rfl fun w hw => (ReaderAt_c br _ a (by repeat (first | apply List.Mem.head | apply List.Mem.tail)) w hw).mono ?_
    rintro e w' ⟨rfl, hw'⟩
    refine .inl ⟨_, rfl, _, _, hw', fun w hw => St.sub (by repeat (first | exact List.nil_sublist _ | apply List.Sublist.cons_cons | apply List.Sublist.cons)) hw, .inl fun w hw => hw, ?_⟩
    clear hw' hw w w'
    repeat (first | (apply gQR2; first | apply QR2_un | apply QR2_nil) | (apply gQO2; first | refine aQ2 ?_ | (refine aK2 ?_ ?_; exact fun w hw => St.sub (by repeat (first | exact List.nil_sublist _ | apply List.Sublist.cons_cons | apply List.Sublist.cons)) hw)))
    have hx : ((a : Int) + 7) / 8 = (((a + 7) / 8 : Nat) : Int) := by omega
    simp only [hx]
    refine JS_retD Tryz.func8 fun A w hA hw => Lv_ok (H := vec 5 1 (.slice po o.length co) o.length (ints .u8 o) :: H) (hA.sub (by repeat (first | exact trivial | refine ⟨rfl, ?_⟩ | refine ⟨lookI rfl (by omega), ?_⟩))) (St.perm (H := vec 5 1 (.slice po o.length co) o.length (ints .u8 o) :: blk be [.int .i64 0] :: blk bu [.int .i64 ((a + 7) / 8 : Nat)] :: blk bo [.slice po o.length co] :: H) (St.sub (by repeat (first | exact List.Sublist.refl _ | apply List.Sublist.cons_cons | apply List.Sublist.cons)) hw) (List.perm_append_comm_assoc [_] [_, _, _] H)) fun w hw => ?_
    exact .inr ⟨by omega, by omega, .ok a o, hfin, ha, ho, po, co, rfl, hw⟩
end
end Go.Proofs.YtbiocgenbgbfpaaGreat

namespace Go.Proofs.YtbiocgenbgbfpaaGreat
open Sx Go
set_option linter.unusedVariables false
set_option linter.unusedSimpArgs false
attribute [local irreducible] syA fc tk cds
/-! ## the reference -/
section
variable {w0 : World} {H : List Asn}
theorem RUp_c (a : Nat) (ha : a ≤ 4611686018427387904) (w : World) (hw : St w0 H w) :
    Calls Tryz.prog 76 #[.int .i64 a] w fun e w' => e = .returned (.int .i64 (upto8 a : Nat)) ∧ St w0 H w' := by
  refine enter (vs := [.int .i64 a]) Tryz.func76 rfl rfl rfl hw ?_
  repeat (first | (apply gJR; first | (refine sx ?_; try intro _)) | (apply gJO; first | (refine sx ?_; try intro _)) | apply JS_seq | apply JS_region)
  refine JS_block ?_
  refine JS_loop1 (fun (x : Nat) => [(0, .int .i64 x)]) (fun _ => H) (fun x => x ≤ upto8 a ∧ upto8 x = upto8 a) (fun x => upto8 a - x) a ⟨by unfold upto8; omega, rfl⟩ (by repeat (first | exact trivial | refine ⟨rfl, ?_⟩ | refine ⟨lookI rfl (by omega), ?_⟩)) (fun _ h => h) ?_
  intro x ⟨hx, hxu⟩ again
  have hu : upto8 a ≤ a + 7 := by unfold upto8; omega
  by_cases h : x % 8 = 0
  · clear again
    have hxe : upto8 x = x := by unfold upto8; omega
    repeat (first | (refine sx ?_; try intro _))
    refine JS_ret Tryz.func76 rfl rfl fun w hw => ⟨?_, hw⟩
    rw [← hxu, hxe]; rfl
  · have hxe : upto8 (x + 1) = upto8 x ∧ x + 1 ≤ upto8 x := by unfold upto8; omega
    repeat (first | (refine sx ?_; try intro _))
    exact JS_again1 again (x + 1) ⟨by omega, by omega⟩ (by omega) (by repeat (first | exact trivial | refine ⟨rfl, ?_⟩ | refine ⟨lookI rfl (by omega), ?_⟩)) (fun w hw => hw)
theorem nbt_low (bt : Nat → Int) (a : Nat) : ∀ c, nbt bt a (c + 1) = bt a + 2 * nbt bt (a + 1) c
  | 0 => by simp [nbt]
  | c + 1 => by
    have ih := nbt_low bt a c
    rw [nbt, ih, nbt, show a + 1 + c = a + (c + 1) by omega, Int.pow_succ, ← Int.mul_assoc, Int.mul_add]
    omega
theorem pw31 (i : Nat) (h : i ≤ 31) : (1 : Int) ≤ 2 ^ i ∧ (2 : Int) ^ i ≤ 2147483648 := by
  have : ∀ k : Fin 32, (1 : Int) ≤ 2 ^ k.val ∧ (2 : Int) ^ k.val ≤ 2147483648 := by decide
  exact this ⟨i, by omega⟩
set_option maxHeartbeats 1000000 in
theorem RNum_c (p : Option Addr) (c k : Nat) (X : List Int) (hr : Rd w0 H (.slice p k c) k (ints .u8 X)) (hX : X.length = k) (h01 : ∀ j, X.getD j 0 = 0 ∨ X.getD j 0 = 1) (hk : k ≤ 31) (w : World) (hw : St w0 H w) :
    Calls Tryz.prog 75 #[.slice p k c] w fun e w' => e = .returned (.int .u32 (nbt (fun j => X.getD j 0) 0 k)) ∧ St w0 H w' := by
  refine enter (vs := [.slice p k c]) Tryz.func75 rfl rfl rfl hw ?_
  repeat (first | (apply gJR; first | (refine sx ?_; try intro _)) | (apply gJO; first | (refine sx ?_; try intro _)) | apply JS_seq | apply JS_region)
  refine JS_block ?_
  refine JS_loop1 (fun (r : Nat) => [(0, .slice p k c), (3, .int .u32 (nbt (fun j => X.getD j 0) r (k - r))), (4, .int .i64 ((r : Int) - 1))]) (fun _ => H) (fun r => r ≤ k) (fun r => r) k (Nat.le_refl _) (by rw [Nat.sub_self]; exact ⟨rfl, rfl, rfl, trivial⟩) (fun _ h => h) ?_
  intro r hrk again
  by_cases h0 : r = 0
  · subst h0
    clear again
    repeat (first | (refine sx ?_; try intro _))
    exact JS_ret Tryz.func75 rfl rfl fun w hw => ⟨rfl, hw⟩
  · obtain ⟨s, rfl⟩ : ∃ s, r = s + 1 := ⟨r - 1, by omega⟩
    have hlo := nbt_low (fun j => X.getD j 0) s (k - (s + 1))
    rw [show k - (s + 1) + 1 = k - s by omega] at hlo
    obtain ⟨b0, b1⟩ := nbt_bd (fun j => X.getD j 0) h01 (s + 1) (k - (s + 1))
    obtain ⟨q0, q1⟩ := pw31 (k - (s + 1)) (by omega)
    have hpw : (2 : Int) ^ (k - (s + 1)) ≤ 1073741824 := by
      have : ∀ k : Fin 31, (2 : Int) ^ k.val ≤ 1073741824 := by decide
      exact this ⟨k - (s + 1), by omega⟩
    have gi : (ints .u8 X)[s]? = some (.int .u8 (X.getD s 0)) := ints_get (by omega)
    have hs01 := h01 s
    try simp only at hlo
    have es : (((s + 1 : Nat) : Int) - 1) = s := by omega
    simp only [es]
    generalize nbt (fun j => X.getD j 0) (s + 1) (k - (s + 1)) = v at *
    generalize X.getD s 0 = y at *
    repeat (first | (apply gJO; refine JO_v (V_loadC (tb := tb) rfl hr rfl rfl gi rfl) ?_) | (first | (refine sx ?_; try intro _)))
    refine JS_again1 again s (by omega) (by omega) ?_ (fun w hw => hw)
    refine ⟨rfl, ?_, rfl, trivial⟩
    exact lookI rfl (by rw [hlo]; omega)
/-- the reference's memory -/
abbrev strL (bs : Nat) (q : Option Addr) (d m : Nat) (B : List Int) (lim : Int) (a : Nat) (po : Option Addr) (co : Nat) (o : List Int) (E : Int) (H : List Asn) : List Asn :=
  blk bs [.slice q (8 * m) d, .int .i64 a, .slice po o.length co, .int .i64 lim, .int .i64 E] :: vec 5 1 (.slice po o.length co) o.length (ints .u8 o) :: vec 5 1 (.slice q (8 * m) d) (8 * m) (ints .u8 (bitsL B m)) :: H
variable {bs : Nat} {q : Option Addr} {d m : Nat} {B : List Int} {lim : Nat} {po : Option Addr} {co : Nat} {o : List Int}
/-- an error is told, if none was yet -/
theorem RFail_c (x : Int) (a : Nat) (E : Int) (w : World) (hw : St w0 (strL bs q d m B lim a po co o E H) w) :
    Calls Tryz.prog 80 #[.pointer (some ⟨bs, 0, none⟩), .int .i64 x] w fun e w' => e = .returned (.tuple #[]) ∧ St w0 (strL bs q d m B lim a po co o (if E = 0 then x else E) H) w' := by
  refine enter (vs := [.pointer (some ⟨bs, 0, none⟩), .int .i64 x]) Tryz.func80 rfl rfl rfl hw ?_
  by_cases h : E = 0
  · rw [if_pos h]
    repeat (first | (refine sx ?_; try intro _))
    exact JS_fin Tryz.func80 rfl rfl fun w hw => ⟨rfl, hw⟩
  · rw [if_neg h]
    repeat (first | (refine sx ?_; try intro _))
    exact JS_fin Tryz.func80 rfl rfl fun w hw => ⟨rfl, hw⟩
/-- a group behind an error -/
theorem RGrpE_c (c : Int) (a : Nat) (E : Int) (hE : E ≠ 0) (w : World) (hw : St w0 (strL bs q d m B lim a po co o E H) w) :
    Calls Tryz.prog 35 #[.pointer (some ⟨bs, 0, none⟩), .int .i64 c] w fun e w' => e = .returned (.int .i64 0) ∧ St w0 (strL bs q d m B lim a po co o E H) w' := by
  refine enter (vs := [.pointer (some ⟨bs, 0, none⟩), .int .i64 c]) Tryz.func35 rfl rfl rfl hw ?_
  repeat (first | (refine sx ?_; try intro _))
  exact JS_ret Tryz.func35 rfl rfl fun w hw => ⟨rfl, hw⟩
set_option maxHeartbeats 1000000 in
/-- a group -/
theorem RGrp4_c (hK : InfK m B lim) (a c : Nat) (hc : c ≤ 16) (ha : a ≤ 8 * m) (hm2 : m ≤ 17592186044410) (w : World) (hw : St w0 (strL bs q d m B lim a po co o 0 H) w) :
    Calls Tryz.prog 35 #[.pointer (some ⟨bs, 0, none⟩), .int .i64 c] w fun e w' => (8 * m < a + c ∧ e = .returned (.int .i64 0) ∧ St w0 (strL bs q d m B lim a po co o 20 H) w') ∨
      (a + c ≤ 8 * m ∧ e = .returned (.int .i64 (nbt (bitB B 0) a c)) ∧ St w0 (strL bs q d m B lim (a + c) po co o 0 H) w') := by
  refine enter (vs := [.pointer (some ⟨bs, 0, none⟩), .int .i64 c]) Tryz.func35 rfl rfl rfl hw ?_
  have hbl := bitsL_len B m
  by_cases h : 8 * m < a + c
  · repeat (first | (refine sx ?_; try intro _))
    exact JS_ret Tryz.func35 rfl rfl fun w hw => .inl ⟨h, rfl, hw⟩
  have hcap : ∀ w, St w0 (strL bs q d m B lim a po co o 0 H) w → a + c ≤ d := fun w hw => by
    have := (Rd.lcap (vec_rd (e := 5) (size := 1) (v := .slice q (8 * m) d) (n := 8 * m) (cs := ints .u8 (bitsL B m)) (by repeat (first | apply List.Mem.head | apply List.Mem.tail))) hw).1; omega
  repeat (first | (apply gJR; first | (refine sx ?_; try intro _)) | (apply gJO; first | (refine sx ?_; try intro _)) | (apply gQR; first | (refine sx ?_; try intro _)) | (apply gQO; first | refine QO_v rfl (V_slice (tb := tb) (lo := a) (hi := a + c) rfl rfl rfl rfl rfl (by rfl) (by rfl) (fun w hw => ⟨by omega, hcap w hw⟩) rfl) ?_ | first | (refine sx ?_; try intro _)) | (apply gJS; first | (refine sx ?_; try intro _)))
  have e1 : a + c - a = c := by omega
  simp only [e1]
  have hrs := Rd_sub (lo := a) (hi := a + c) (sz := 1) (vec_rd (w0 := w0) (H := strL bs q d m B lim a po co o 0 H) (e := 5) (size := 1) (v := .slice q (8 * m) d) (n := 8 * m) (cs := ints .u8 (bitsL B m)) (by repeat (first | apply List.Mem.head | apply List.Mem.tail))) (by omega) (by omega)
  simp only [e1, Nat.mul_one, ints_drop, ints_take] at hrs
  have hget : ∀ j, j < c → (((bitsL B m).drop a).take c).getD j 0 = bitB B 0 (a + j) := fun j hj => by
    rw [List.getD_eq_getElem?_getD, List.getElem?_take, if_pos hj, List.getElem?_drop, ← List.getD_eq_getElem?_getD]
    exact bitsL_get B m (a + j) (by omega)
  have h01 : ∀ j, (((bitsL B m).drop a).take c).getD j 0 = 0 ∨ (((bitsL B m).drop a).take c).getD j 0 = 1 := fun j => by
    by_cases hj : j < c
    · rw [hget j hj]; exact bitB_01 _ _ _
    · left; rw [List.getD_eq_getElem?_getD, List.getElem?_eq_none (by rw [List.length_take, List.length_drop]; omega)]; rfl
  have hnum : nbt (fun j => (((bitsL B m).drop a).take c).getD j 0) 0 c = nbt (bitB B 0) a c := nbt_congr (fun j hj => by rw [Nat.zero_add]; exact hget j hj)
  refine QO_call Tryz.call75 rfl rfl fun w hw => (RNum_c _ _ c _ hrs (by rw [List.length_take, List.length_drop]; omega) h01 (by omega) w hw).mono ?_
  rintro e w' ⟨rfl, hw'⟩
  rw [hnum]
  refine ⟨_, rfl, _, hw', .inl fun w hw => hw, ?_⟩
  clear hw' hw w w' hrs
  obtain ⟨b0, b1⟩ := nbt_bd (bitB B 0) (bitB_01 B 0) a c
  have hp := (pw16 c hc).2
  generalize nbt (bitB B 0) a c = v at *
  repeat (first | (refine sx ?_; try intro _))
  exact JS_ret Tryz.func35 rfl rfl fun w hw => .inr ⟨by omega, rfl, hw⟩
end
end Go.Proofs.YtbiocgenbgbfpaaGreat

set_option linter.unusedVariables false
set_option linter.unusedSimpArgs false
namespace Go.Proofs.YtbiocgenbgbfpaaGreat
open Sx Go
section
attribute [local irreducible] byteAt
variable {w0 : World} {H : List Asn}
end
end Go.Proofs.YtbiocgenbgbfpaaGreat

namespace Go.Proofs.YtbiocgenbgbfpaaGreat
open Sx Go
set_option linter.unusedVariables false
set_option linter.unusedSimpArgs false
attribute [local irreducible] syA
theorem V_eqStr1 {n : Nat} {D : List Deferred} {w0 : World} {ov : Ov} {H : List Asn} {d : Option Nat} {T T1 T2 : Nat} {pos : String} {af : Array Edge} {g : Option (Nat × Bool)} {x y : Operand} {s : ByteArray}
    (hx : ev ov x = some (.string s)) (hy : ev ov y = some (.string s)) (hd : dOk d n = true) : OpV Tryz.prog n D w0 ov H ⟨d, .binOp .eql T1 x y T2, T, pos, af, g⟩ (.bool true) := by
  unfold OpV
  exact ⟨hd, fun a w ha _ => by simp [execOp, ha.ev hx, ha.ev hy, eqGuard, binOp, Op.stringOp]⟩
theorem ALLR.one {B : List Int} {lim : Nat} {r r' : Res} (h : ALLR B lim r) (h' : ALLR B lim r') : r = r' := It.one h h'
/-! the document's examples -/
theorem okb_small {B : List Int} (h : B.all (fun x => decide (0 ≤ x ∧ x < 256)) = true) : OKB B := OKB_of h
section
variable {w0 : World} {H : List Asn}
/-- inflate.Read where its answer is known -/
theorem IRead_ok (p : Option Addr) (c m : Nat) (B : List Int) (hr : Rd w0 H (.slice p m c) m (ints .u8 B)) (hm : B.length = m) (hB : OKB B) (hm1 : m ≤ 140737488355328) (lim : Nat) (hlim : lim ≤ 1048576) {a : Nat} {o : List Int} (hA : ALLR B lim (.ok a o)) (w : World) (hw : St w0 H w) :
    Calls Tryz.prog 8 #[.slice p m c, .int .i64 lim] w fun e w' => ∃ p c, e = .returned (.tuple #[.slice p o.length c, .int .i64 ((a + 7) / 8 : Nat), .int .i64 0]) ∧ St w0 (vec 5 1 (.slice p o.length c) o.length (ints .u8 o) :: H) w' := by
  refine (IRead_c p c m B hr hm hB hm1 lim (by omega) w hw).mono ?_
  rintro e w' (⟨h, _⟩ | ⟨_, _, r, h, hp⟩)
  · omega
  · rw [Int.toNat_natCast] at h
    rw [h.one hA] at hp
    obtain ⟨_, _, p, c, h1, h2⟩ := hp
    exact ⟨p, c, h1, h2⟩
end
end Go.Proofs.YtbiocgenbgbfpaaGreat

set_option linter.unusedVariables false
set_option linter.unusedSimpArgs false
namespace Go.Proofs.YtbiocgenbgbfpaaGreat
open Sx Go
/-- the shorter one of both -/
def bestB (B : List Int) : List Int := if (sbs B).length < (pack (fixL B)).length then sbs B else pack (fixL B)
section
attribute [local irreducible] sbs pack fixL
variable {w0 : World} {H : List Asn}
set_option maxRecDepth 10000 in
theorem DBest_c (p : Option Addr) (c m : Nat) (B : List Int) (hr : Rd w0 H (.slice p m c) m (ints .u8 B)) (hm : B.length = m) (hB : OKB B) (h4 : m ≤ 100000) (w : World) (hw : St w0 H w) :
    Calls Tryz.prog 24 #[.slice p m c] w fun e w' => ∃ q d, e = .returned (.slice q (bestB B).length d) ∧ St w0 (vec 5 1 (.slice q (bestB B).length d) (bestB B).length (ints .u8 (bestB B)) :: H) w' := by
  refine enter (vs := [.slice p m c]) Tryz.func24 rfl rfl rfl hw ?_
  clear hw w
  repeat (first | (refine sx ?_; try intro _))
  refine JO_call Tryz.call62 rfl rfl fun w hw => (DFixed_c p c m B hr hm hB h4 w hw).mono ?_
  rintro e w' ⟨q1, d1, rfl, hw'⟩
  refine ⟨_, rfl, _, hw', ?_⟩
  clear hw' hw w w'
  repeat (first | (refine sx ?_; try intro _))
  refine JO_call Tryz.call63 rfl rfl fun w hw => (DStored_c p c m B (Rd_weak hr fun w hw => St.sub (by repeat (first | exact List.Sublist.refl _ | apply List.Sublist.cons_cons | apply List.Sublist.cons)) hw) hm hB h4 w hw).mono ?_
  rintro e w' ⟨q2, d2, rfl, hw'⟩
  refine ⟨_, rfl, _, hw', ?_⟩
  clear hw' hw w w'
  unfold bestB
  by_cases hlt : (sbs B).length < (pack (fixL B)).length
  · rw [if_pos hlt]
    repeat (first | (refine sx ?_; try intro _))
    exact JS_ret Tryz.func24 rfl rfl fun w hw => ⟨q2, d2, rfl, St.sub (by repeat (first | exact List.Sublist.refl _ | apply List.Sublist.cons_cons | apply List.Sublist.cons)) hw⟩
  · rw [if_neg hlt]
    repeat (first | (refine sx ?_; try intro _))
    exact JS_ret Tryz.func24 rfl rfl fun w hw => ⟨q1, d1, rfl, St.sub (by repeat (first | exact List.Sublist.refl _ | apply List.Sublist.cons_cons | apply List.Sublist.cons)) hw⟩
end
end Go.Proofs.YtbiocgenbgbfpaaGreat

set_option linter.unusedVariables false
set_option linter.unusedSimpArgs false
namespace Go.Proofs.YtbiocgenbgbfpaaGreat
open Sx Go
section
attribute [local irreducible] grp bms fxS spS lenS spanS toks tkv tkb cds pack
variable {w0 : World} {H : List Asn}
end
end Go.Proofs.YtbiocgenbgbfpaaGreat

namespace Go.Proofs.YtbiocgenbgbfpaaGreat
open Sx Go
set_option linter.unusedVariables false
set_option linter.unusedSimpArgs false
attribute [local irreducible] syA
/-! ## bytes in stored blocks -/
theorem nbt_app (bt : Nat → Int) (a c : Nat) : ∀ d, nbt bt a (c + d) = nbt bt a c + nbt bt (a + c) d * 2 ^ c
  | 0 => by simp [nbt]
  | d + 1 => by
    rw [← Nat.add_assoc, nbt, nbt_app bt a c d, nbt, show a + (c + d) = a + c + d by omega, Int.pow_add, Int.add_mul, Int.add_assoc, Int.mul_assoc, Int.mul_comm (2 ^ d) (2 ^ c)]
theorem nbt_16 (B : List Int) (hB : OKB B) (j : Nat) : nbt (bitB B 0) (8 * j) 16 = B.getD j 0 + 256 * B.getD (j + 1) 0 := by
  rw [show (16 : Nat) = 8 + 8 from rfl, nbt_app, nbt_byte B hB j, show 8 * j + 8 = 8 * (j + 1) by omega, nbt_byte B hB (j + 1)]
  have : (2 : Int) ^ 8 = 256 := by decide
  rw [this]; omega
theorem nbt_hd (B : List Int) (hB : OKB B) (j : Nat) : nbt (bitB B 0) (8 * j) 1 = B.getD j 0 % 2 ∧ nbt (bitB B 0) (8 * j + 1) 2 = B.getD j 0 / 2 % 4 := by
  have h := hB j
  simp only [nbt, bitB, Nat.zero_add]
  have e : ∀ t, t < 8 → (8 * j + t) / 8 = j ∧ (8 * j + t) % 8 = t := fun t ht => by omega
  rw [(e 0 (by omega)).1, (e 0 (by omega)).2, show 8 * j + 1 + 0 = 8 * j + 1 from rfl, show 8 * j + 1 + 1 = 8 * j + 2 from rfl, (e 1 (by omega)).1, (e 1 (by omega)).2, (e 2 (by omega)).1, (e 2 (by omega)).2]
  simp only [Int.reducePow]
  omega
/-- a stored block that is not the last one -/
def stb (X : List Int) : List Int := [0, (X.length : Int) % 256, (X.length : Int) / 256, 255 - (X.length : Int) % 256, 255 - (X.length : Int) / 256] ++ X
def stbs : List (List Int) → List Int
  | [] => []
  | X :: r => stb X ++ stbs r
def alls : List (List Int) → List Int
  | [] => []
  | X :: r => X ++ alls r
theorem getD_app_r {A C : List Int} {k : Nat} : (A ++ C).getD (A.length + k) 0 = C.getD k 0 := by
  rw [List.getD_eq_getElem?_getD, List.getElem?_append_right (by omega), ← List.getD_eq_getElem?_getD]
  congr 1; omega
end Go.Proofs.YtbiocgenbgbfpaaGreat

set_option linter.unusedVariables false
set_option linter.unusedSimpArgs false
namespace Go.Proofs.YtbiocgenbgbfpaaGreat
open Sx Go
attribute [local irreducible] syA
/-! ## stored blocks are read as they are -/
theorem hd5_len (la n : Int) : (hd5 la n).length = 5 := rfl
theorem sto_stepL {P X S : List Int} {lim : Nat} {o : List Int} {la : Int} (hla : la = 0 ∨ la = 1) (hB : OKB (P ++ (hd5 la X.length ++ X ++ S))) (hX : X.length ≤ 65535) (hl : o.length + X.length ≤ lim) :
    rdF (bitB (P ++ (hd5 la X.length ++ X ++ S)) 0) (8 * (P ++ (hd5 la X.length ++ X ++ S)).length) lim (8 * P.length) o = if la = 0 then .go (8 * (P.length + (5 + X.length))) (o ++ X) else .stop (8 * (P.length + (5 + X.length))) (o ++ X) := by
  obtain ⟨B, hBe⟩ : ∃ B, P ++ (hd5 la X.length ++ X ++ S) = B := ⟨_, rfl⟩
  have hlen : B.length = P.length + (5 + X.length) + S.length := by rw [← hBe]; simp only [List.length_append, hd5_len]; omega
  have g : ∀ k, k < 5 → B.getD (P.length + k) 0 = (hd5 la X.length).getD k 0 := by
    intro k hk
    rw [← hBe, getD_app_r, List.append_assoc, List.getD_eq_getElem?_getD, List.getElem?_append_left (by rw [hd5_len]; omega), ← List.getD_eq_getElem?_getD]
  have g0 : B.getD P.length 0 = la := by have := g 0 (by omega); simpa [hd5] using this
  have g1 : B.getD (P.length + 1) 0 = (X.length : Int) % 256 := by rw [g 1 (by omega)]; simp [hd5]
  have g2 : B.getD (P.length + 2) 0 = (X.length : Int) / 256 := by rw [g 2 (by omega)]; simp [hd5]
  have g3 : B.getD (P.length + 3) 0 = 255 - (X.length : Int) % 256 := by rw [g 3 (by omega)]; simp [hd5]
  have g4 : B.getD (P.length + 4) 0 = 255 - (X.length : Int) / 256 := by rw [g 4 (by omega)]; simp [hd5]
  rw [hBe] at hB ⊢
  have hrow : (B.drop (P.length + 5)).take X.length = X := by
    rw [← hBe, ← List.drop_drop, List.drop_left, List.append_assoc, show (5 : Nat) = (hd5 la X.length).length from rfl, List.drop_left, List.take_left]
  obtain ⟨h1, h2⟩ := nbt_hd B hB P.length
  have hu : upto8 (8 * P.length + 3) = 8 * (P.length + 1) := by unfold upto8; omega
  have n1 : nbt (bitB B 0) (8 * (P.length + 1)) 16 = X.length := by rw [nbt_16 B hB, g1, show P.length + 1 + 1 = P.length + 2 from rfl, g2]; omega
  have n2 : nbt (bitB B 0) (8 * (P.length + 1) + 16) 16 = 65535 - X.length := by rw [show 8 * (P.length + 1) + 16 = 8 * (P.length + 3) by omega, nbt_16 B hB, g3, show P.length + 3 + 1 = P.length + 4 from rfl, g4]; omega
  have hby : byts (bitB B 0) (8 * (P.length + 1) + 32) X.length = X := by
    rw [show 8 * (P.length + 1) + 32 = 8 * (P.length + 5) by omega, byts_eq B hB _ _ (by omega), hrow]
  have hk : kndF (bitB B 0) (8 * B.length) lim 0 (8 * P.length + 3) o = .ok (8 * (P.length + (5 + X.length))) (o ++ X) := by
    unfold kndF
    rw [if_pos rfl]
    unfold stoF
    rw [hu, n1, n2, if_neg (by omega), if_neg (by omega), if_neg (by omega), if_neg (by omega), if_neg (by omega), Int.toNat_natCast, hby]
    congr 1; omega
  unfold rdF
  have hla2 : la / 2 % 4 = 0 := by omega
  rw [if_neg (by omega), if_neg (by omega), h1, h2, g0, hla2, hk]
  simp only
  rcases hla with rfl | rfl
  · rw [if_pos (by decide), if_pos rfl]
  · rw [if_neg (by decide), if_neg (by decide)]
theorem stored_ItL {lim : Nat} {S : List Int} : ∀ (f : Nat) (X P o : List Int), X.length < f → OKB (P ++ (sb f X ++ S)) → o.length + X.length ≤ lim →
    It (rdF (bitB (P ++ (sb f X ++ S)) 0) (8 * (P ++ (sb f X ++ S)).length) lim) (8 * P.length) o (.ok (8 * (P.length + (sb f X).length)) (o ++ X))
  | 0, X, P, o, h, _, _ => absurd h (by omega)
  | f + 1, X, P, o, h, hB, hl => by
    rw [sb] at hB ⊢
    by_cases hX : X.length ≤ 65535
    · rw [if_pos hX] at hB ⊢
      have h1 := sto_stepL (P := P) (X := X) (S := S) (o := o) (lim := lim) (.inr rfl) hB hX hl
      rw [if_neg (by decide)] at h1
      have e : P.length + (hd5 1 X.length ++ X).length = P.length + (5 + X.length) := by rw [List.length_append, hd5_len]
      rw [e]
      exact .stop h1
    · rw [if_neg hX] at hB ⊢
      have ht : (X.take 65535).length = 65535 := by rw [List.length_take]; omega
      have hd : (X.drop 65535).length = X.length - 65535 := List.length_drop ..
      have e0 : P ++ (hd5 0 65535 ++ X.take 65535 ++ sb f (X.drop 65535) ++ S) = P ++ (hd5 0 (X.take 65535).length ++ X.take 65535 ++ (sb f (X.drop 65535) ++ S)) := by
        rw [ht]; simp only [List.append_assoc]; rfl
      have e1 : P ++ (hd5 0 (X.take 65535).length ++ X.take 65535 ++ (sb f (X.drop 65535) ++ S)) = (P ++ (hd5 0 65535 ++ X.take 65535)) ++ (sb f (X.drop 65535) ++ S) := by
        rw [ht]; simp only [List.append_assoc]; rfl
      rw [e0] at hB ⊢
      have h1 := sto_stepL (P := P) (X := X.take 65535) (S := sb f (X.drop 65535) ++ S) (o := o) (lim := lim) (.inl rfl) hB (by omega) (by omega)
      rw [if_pos rfl] at h1
      have h2 := stored_ItL (S := S) (lim := lim) f (X.drop 65535) (P ++ (hd5 0 65535 ++ X.take 65535)) (o ++ X.take 65535) (by omega) (by rw [← e1]; exact hB) (by rw [List.length_append]; omega)
      rw [← e1] at h2
      have e2 : (P ++ (hd5 0 65535 ++ X.take 65535)).length = P.length + (5 + (X.take 65535).length) := by rw [List.length_append, List.length_append, hd5_len]
      have e3 : o ++ X.take 65535 ++ X.drop 65535 = o ++ X := by rw [List.append_assoc, List.take_append_drop]
      rw [e2, e3] at h2
      refine .go h1 ?_
      have e4 : P.length + (hd5 0 65535 ++ X.take 65535 ++ sb f (X.drop 65535)).length = P.length + (5 + (X.take 65535).length) + (sb f (X.drop 65535)).length := by
        rw [List.length_append, List.length_append, hd5_len]; omega
      rw [e4]
      exact h2
/-- what was written in stored blocks, whatever stands behind -/
theorem ALLR_sbs {X S : List Int} {lim : Nat} (hB : OKB (sbs X ++ S)) (hl : X.length ≤ lim) : ALLR (sbs X ++ S) lim (.ok (8 * (sbs X).length) X) := by
  have := stored_ItL (S := S) (lim := lim) (X.length + 1) X [] [] (by omega) (by rw [List.nil_append]; exact hB) (by simpa using hl)
  unfold ALLR
  have e : 8 * (([] : List Int).length + (sb (X.length + 1) X).length) = 8 * (sbs X).length := by simp [sbs]
  rw [e] at this
  exact this
theorem sbs_okb {X : List Int} (hX : OKB X) : OKB (sbs X) := by
  have key : ∀ f X, OKB X → ∀ x ∈ sb f X, 0 ≤ x ∧ x < 256 := by
    intro f
    induction f with
    | zero => intro X _ x hx; rw [sb] at hx; simp at hx
    | succ f ih =>
      intro X hX x hx
      have hmem : ∀ Y : List Int, OKB Y → ∀ y ∈ Y, 0 ≤ y ∧ y < 256 := fun Y hY y hy => by
        obtain ⟨i, hi, rfl⟩ := List.mem_iff_getElem.1 hy
        have := hY i
        rwa [List.getD_eq_getElem?_getD, List.getElem?_eq_getElem hi] at this
      rw [sb] at hx
      split at hx
      · rcases List.mem_append.1 hx with h | h
        · exact hd5_okb (.inr rfl) ⟨by omega, by omega⟩ x h
        · exact hmem X hX x h
      · rcases List.mem_append.1 hx with h | h
        · rcases List.mem_append.1 h with h | h
          · exact hd5_okb (.inl rfl) ⟨by omega, by omega⟩ x h
          · exact hmem X hX x (List.mem_of_mem_take h)
        · exact ih (X.drop 65535) (fun j => by rw [List.getD_eq_getElem?_getD, List.getElem?_drop, ← List.getD_eq_getElem?_getD]; exact hX _) x h
  intro j
  rcases Nat.lt_or_ge j (sbs X).length with h | h
  · rw [List.getD_eq_getElem?_getD, List.getElem?_eq_getElem h]
    exact key _ X hX _ (List.getElem_mem h)
  · rw [List.getD_eq_getElem?_getD, List.getElem?_eq_none h]; decide
end Go.Proofs.YtbiocgenbgbfpaaGreat

set_option linter.unusedVariables false
set_option linter.unusedSimpArgs false
namespace Go.Proofs.YtbiocgenbgbfpaaGreat
open Sx Go
/-- a text of at most 300 bytes -/
def txt (B : List Int) (wide : Bool) : List Int := (B.take 300).map fun x => if wide then x else x % 3
theorem txt_okb {B : List Int} (hB : OKB B) (wide : Bool) : OKB (txt B wide) := fun j => by
  unfold txt
  rw [List.getD_eq_getElem?_getD, List.getElem?_map]
  cases h : (B.take 300)[j]? with
  | none => simp
  | some x =>
    have hx : B[j]? = some x := by
      rw [List.getElem?_take] at h
      split at h
      · exact h
      · cases h
    have := hB j
    rw [List.getD_eq_getElem?_getD, hx, Option.getD_some] at this
    rw [Option.map_some, Option.getD_some]
    split <;> omega
theorem txt_len (B : List Int) (wide : Bool) : (txt B wide).length ≤ 300 := by
  unfold txt; rw [List.length_map, List.length_take]; omega
theorem pack_okb' (L : List Int) (hL : ∀ j, L.getD j 0 = 0 ∨ L.getD j 0 = 1) : OKB (pack L) := fun j => by
  unfold pack tab
  rw [List.getD_eq_getElem?_getD, List.getElem?_map]
  rcases Nat.lt_or_ge j ((L.length + 7) / 8) with h | h
  · rw [List.getElem?_range h]; exact byteAt_bd L hL j
  · rw [List.getElem?_eq_none (by simpa using h)]; simp
section
variable {w0 : World} {H : List Asn}
end
end Go.Proofs.YtbiocgenbgbfpaaGreat

set_option linter.unusedVariables false
set_option linter.unusedSimpArgs false
namespace Go.Proofs.YtbiocgenbgbfpaaGreat
open Sx Go
theorem OpE.pre {ι : Type} {P : Program} {n : Nat} {D : List Deferred} {w0 : World} {ov : Ov} {H H1 : List Asn} {o : Oper} {v : ι → Value} {H' : ι → List Asn} (hp : ∀ w, St w0 H w → St w0 H1 w) (h : OpE P n D w0 ov H1 o v H') : OpE P n D w0 ov H o v H' :=
  ⟨h.1, fun a w ha hw => h.2 a w ha (hp w hw)⟩
theorem OpE.post {ι : Type} {P : Program} {n : Nat} {D : List Deferred} {w0 : World} {ov : Ov} {H : List Asn} {o : Oper} {v : ι → Value} {H' H2 : ι → List Asn} (h : OpE P n D w0 ov H o v H') (hp : ∀ c w, St w0 (H' c) w → St w0 (H2 c) w) : OpE P n D w0 ov H o v H2 :=
  ⟨h.1, fun a w ha hw => let ⟨c, w', h1, h2⟩ := h.2 a w ha hw; ⟨c, w', h1, hp c w' h2⟩⟩
section
variable {w0 : World} {H : List Asn}
theorem bestB_len {B : List Int} (hB : OKB B) : (bestB B).length ≤ (32 * B.length + 19) / 8 := by
  have h1 := fixL_len hB
  have h2 := pack_len (fixL B)
  unfold bestB; split <;> omega
/-- the packed bytes -/
def pkB (B : List Int) : List Int := [120, 1] ++ bestB B ++ sb4 (adl B)
end
end Go.Proofs.YtbiocgenbgbfpaaGreat

set_option linter.unusedVariables false
set_option linter.unusedSectionVars false
namespace Sx.Cm
open Go Sx
/-! regions that draw their order once more: a list of operations that look at no world comes first -/
def cmAt (ops : Array Oper) (cm : List Nat) (k : Nat) : Bool := calmAt ops k || cm.contains k
section
variable {P : Program} {E : List PanicEntry → List Deferred → World → Prop} {ops : Array Oper} {cm : List Nat} {C : World → Prop} {S : List Nat} {Q : Act → World → Prop}
/-- what came up before: behind each operation all that it waits for; and what is not in S only behind all of S -/
structure Sofar (ops : Array Oper) (cm : List Nat) (S : List Nat) (listed : Array Bool) : Prop where
  down : ∀ j oj, ops[j]? = some oj → listed.getD j false = true → ∀ e ∈ oj.after, Region.binds .any e = true → listed.getD e.on false = true
  last : ∀ k, k ∉ S → cmAt ops cm k = false → listed.getD k false = true → ∀ s ∈ S, listed.getD s false = true
def gateB (ops : Array Oper) (cm S : List Nat) (k : Nat) : Bool :=
  match ops[k]? with
  | none => true
  | some o => o.after.any (fun e => Region.binds .any e && (!S.contains e.on && !cmAt ops cm e.on)) ||
    S.all fun s => o.after.any (fun e => Region.binds .any e && e.on == s) || S.any fun t => Nat.blt s t && (match ops[t]? with
      | none => false
      | some ot => ot.after.any fun e => Region.binds .any e && e.on == s)
def Gate (ops : Array Oper) (cm S : List Nat) : Prop := ∀ k, k ∉ S → cmAt ops cm k = false → gateB ops cm S k = true
theorem Sofar.gate {listed : Array Bool} {S : List Nat} (h : Sofar ops cm S listed) (hg : Gate ops cm S) (hS : ∀ s ∈ S, s < ops.size) {k : Nat} (hk : k ∉ S) (hkc : cmAt ops cm k = false) (hr : k ∈ Region.ready .any ops listed) : ∀ s ∈ S, listed.getD s false = true := by
  obtain ⟨hun, o, ho, hall⟩ := mem_ready.1 hr
  have hb := hg k hk hkc
  unfold gateB at hb
  simp only [ho, Bool.or_eq_true, Array.any_eq_true', Bool.and_eq_true, Bool.not_eq_true', List.all_eq_true, beq_iff_eq, List.any_eq_true, Nat.blt_eq] at hb
  rcases hb with ⟨e, he, hb, hnot, hcal⟩ | hb
  · exact h.last e.on (by simpa using hnot) hcal (hall e he hb)
  · have key : ∀ m s, s ∈ S → ops.size - s = m → listed.getD s false = true := by
      intro m
      induction m using Nat.strongRecOn with
      | _ m ih =>
        intro s hs hm
        have hlt := hS s hs
        rcases hb s hs with ⟨e, he, hbe, rfl⟩ | ⟨t, ht, hst, hot⟩
        · exact hall e he hbe
        · have htl := ih (ops.size - t) (by have := hS t ht; omega) t ht rfl
          cases hopt : ops[t]? with
          | none => simp [hopt] at hot
          | some ot =>
            simp only [hopt, Array.any_eq_true', Bool.and_eq_true, beq_iff_eq] at hot
            obtain ⟨e, he, hbe, rfl⟩ := hot
            exact h.down t ot hopt htl e he hbe
    exact fun s hs => key _ s hs rfl
theorem Sofar.set {listed : Array Bool} {S : List Nat} (h : Sofar ops cm S listed) (hg : Gate ops cm S) (hS : ∀ s ∈ S, s < ops.size) {i : Nat} (hi : i ∈ Region.ready .any ops listed) : Sofar ops cm S (listed.setIfInBounds i true) := by
  obtain ⟨hun, o, ho, hall⟩ := mem_ready.1 hi
  refine ⟨fun j oj hj hl e he hb => ?_, fun k hk hkc hl s hs => ?_⟩
  · by_cases hij : i = j
    · subst hij
      rw [ho] at hj; cases hj
      exact getD_set_true (hall e he hb)
    · rw [getD_set_ne false hij] at hl
      exact getD_set_true (h.down j oj hj hl e he hb)
  · by_cases hik : i = k
    · subst hik
      exact getD_set_true (h.gate hg hS hk hkc hi s hs)
    · rw [getD_set_ne false hik] at hl
      exact getD_set_true (h.last k hk hkc hl s hs)

/-- a quiet operation that may come up now may be taken first -/
theorem wpS_first {i : Nat} {oi : Oper} {v : Value} (hi : ops[i]? = some oi) (hsel : ∀ (j : Nat) (o : Oper) cs b, ops[j]? = some o → o.op ≠ .select cs b) (hg : Gate ops cm S) (hS : ∀ s ∈ S, s < ops.size) (hiS : i ∈ S) :
    ∀ (fuel : Nat) (listed : Array Bool) (a : Act) (w : World), (∀ c ∈ cm, listed.getD c true = true) → Sofar ops cm S listed →
      (∀ j oj, ops[j]? = some oj → j ≠ i → listed.getD j true = false → (∀ e ∈ oj.after, Region.binds .any e = true → e.on ≠ i) → oi.apart ops oj = true) →
      i ∈ Region.ready .any ops listed → Stays P ops C oi v a → C w →
      wpS P E ops C S Q fuel (listed.setIfInBounds i true) (a.put oi.dst v) w → wpS P E ops C S Q (fuel + 1) listed a w := by
  intro fuel
  induction fuel with
  | zero =>
    intro listed a w _ _ _ hr hy hw H
    refine ⟨fun h => (by rw [h] at hr; cases hr), fun j hj => ?_⟩
    by_cases hji : j = i
    · subst hji; exact hy.step hi hw ⟨fun _ => hw, H⟩
    · have := ready_mono hj hji
      rw [H.1] at this
      cases this
  | succ fuel ih =>
    intro listed a w hcm hG hfree hr hy hw H
    refine ⟨fun h => (by rw [h] at hr; cases hr), fun j hj => ?_⟩
    by_cases hji : j = i
    · subst hji; exact hy.step hi hw ⟨fun _ => hw, H⟩
    · have h1 := H.2 j (ready_mono hj hji)
      obtain ⟨hjun, oj, hoj, hall⟩ := mem_ready.1 hj
      have hiun : listed.getD i false = false := by
        have h0 := (mem_ready.1 hr).1
        rcases Nat.lt_or_ge i listed.size with h' | h'
        · simp [h'] at h0 ⊢; exact h0
        · simp [Array.getElem?_eq_none h']
      have hnot : ∀ e ∈ oj.after, Region.binds .any e = true → e.on ≠ i := fun e he hb heq => by
        have h1 := hall e he hb
        rw [heq, hiun] at h1; cases h1
      have h2 := stepN_put hoj (hfree j oj hoj hji hjun hnot) (fun cs b => hsel i oi cs b hi) (fun cs b => hsel j oj cs b hoj) hy h1
      have hfree' : ∀ k ok, ops[k]? = some ok → k ≠ i → (listed.setIfInBounds j true).getD k true = false →
          (∀ e ∈ ok.after, Region.binds .any e = true → e.on ≠ i) → oi.apart ops ok = true := fun k ok hk hki hun hno => by
        refine hfree k ok hk hki ?_ hno
        by_cases hjk : j = k
        · subst hjk; exact hjun
        · rw [getD_set_ne true hjk] at hun; exact hun
      have hor : j ∈ S ∨ calm oj.op = true := by
        rcases Classical.em (j ∈ S) with h | h
        · exact .inl h
        · cases hcj : calm oj.op with
          | true => exact .inr rfl
          | false =>
            have := hG.gate hg hS h (by unfold cmAt calmAt; simp only [hoj, hcj, Bool.false_or]; simpa using fun (hc : j ∈ cm) => (show False by have h' := hcm j hc; rw [hjun] at h'; cases h')) hj i hiS
            rw [hiun] at this; cases this
      have fin : ∀ a' w', C w' → Stays P ops C oi v a' → (((j ∈ S → C w') ∧ wpS P E ops C S Q fuel ((listed.setIfInBounds i true).setIfInBounds j true) (a'.put oi.dst v) w')) →
          ((j ∈ S → C w') ∧ wpS P E ops C S Q (fuel + 1) (listed.setIfInBounds j true) a' w') := fun a' w' hcw h3 h45 => ⟨fun _ => hcw, by
        refine ih (listed.setIfInBounds j true) a' w' (fun c hc => by
          by_cases hjc : j = c
          · subst hjc; have h' := hcm j hc; rw [hjun] at h'; cases h'
          · rw [getD_set_ne true hjc]; exact hcm c hc) (hG.set hg hS hj) hfree' (ready_mono hr (Ne.symm hji)) h3 hcw ?_
        rw [Array.setIfInBounds_comm _ _ hji]
        exact h45.2⟩
      rcases hor with hjS | hjc
      · exact stepN_mono (fun a' w' ⟨h3, h4, h5⟩ => fin a' w' (h4 hjS) h3 ⟨h4, h5⟩) h2
      · exact stepN_mono (fun a' w' ⟨hww, h3, h45⟩ => fin a' w' (hww ▸ hw) h3 h45) (stepN_calm hoj hjc h2)
end
/-- the operations before the next such one -/
def till (ops : Array Oper) (cm sy : List Nat) : List Nat → List Nat → List Nat
  | done, [] => done.filter fun k => !cmAt ops cm k
  | done, i :: st => if sy.contains st.length then done.filter fun k => !cmAt ops cm k else till ops cm sy (i :: done) st
def ordB (ops : Array Oper) (cm sy : List Nat) : List Nat → List Nat → Array Bool → Bool
  | done, [], listed => (Region.ready .any ops listed).isEmpty && (List.range ops.size).all done.contains
  | done, i :: st, listed =>
    match ops[i]? with
    | none => false
    | some o =>
      (if sy.contains st.length then loud o.op && (List.range ops.size).all (fun k => done.contains k || (cmAt ops cm k || gateB ops cm (done.filter fun k => !cmAt ops cm k) k)) else true) &&
      (if loud o.op then Region.ready .any ops listed == [i] else (Region.ready .any ops listed).contains i && Region.free .any ops listed i) &&
      ordB ops cm sy (i :: done) st (listed.setIfInBounds i true)
section
variable {P : Program} {E : List PanicEntry → List Deferred → World → Prop} {ops : Array Oper} {cm : List Nat} {C : World → Prop} {S : List Nat}
theorem getD_conf {b : Array Bool} {j : Nat} (h : b.getD j true = false) (h' : b.getD j false = true) : False := by
  rw [Array.getD_eq_getD_getElem?] at h h'
  cases hb : b[j]? with
  | none => rw [hb] at h'; simp at h'
  | some x => rw [hb] at h h'; simp at h h'; rw [h] at h'; cases h'
theorem mem_noncalm {ops : Array Oper} {cm done : List Nat} {i : Nat} : i ∈ (done.filter fun k => !cmAt ops cm k) ↔ i ∈ done ∧ cmAt ops cm i = false := by
  rw [List.mem_filter]; simp
theorem till_sub {ops : Array Oper} {cm sy : List Nat} : ∀ (st done : List Nat) (i : Nat), i ∈ done → cmAt ops cm i = false → i ∈ till ops cm sy done st
  | [], _, _, h, hc => mem_noncalm.2 ⟨h, hc⟩
  | j :: st, done, i, h, hc => by
    simp only [till]
    split
    · exact mem_noncalm.2 ⟨h, hc⟩
    · exact till_sub st (j :: done) i (List.mem_cons_of_mem _ h) hc
theorem till_calm {ops : Array Oper} {cm sy : List Nat} : ∀ (st done : List Nat) (i : Nat), i ∈ till ops cm sy done st → cmAt ops cm i = false
  | [], _, _, h => (mem_noncalm.1 h).2
  | j :: st, done, i, h => by
    simp only [till] at h
    split at h
    · exact (mem_noncalm.1 h).2
    · exact till_calm st (j :: done) i h
theorem gate_oob {ops : Array Oper} {cm S : List Nat} {k : Nat} (h : ops.size ≤ k) : gateB ops cm S k = true := by
  simp [gateB, Array.getElem?_eq_none h]
theorem ordB_gate {sy : List Nat} : ∀ (st done : List Nat) (listed : Array Bool), ordB ops cm sy done st listed = true → (∀ s ∈ done, s < ops.size) → Gate ops cm (till ops cm sy done st) ∧ ∀ s ∈ till ops cm sy done st, s < ops.size
  | [], done, listed, h, hs => by
    simp only [ordB, Bool.and_eq_true, List.all_eq_true, List.mem_range] at h
    refine ⟨fun k hk hkc => ?_, fun s h' => hs s (mem_noncalm.1 h').1⟩
    rcases Nat.lt_or_ge k ops.size with hlt | hge
    · exact absurd (mem_noncalm.2 ⟨show k ∈ done by simpa using h.2 k hlt, hkc⟩) hk
    · exact gate_oob hge
  | i :: st, done, listed, h, hs => by
    simp only [ordB] at h
    cases ho : ops[i]? with
    | none => simp [ho] at h
    | some o =>
      simp only [ho, Bool.and_eq_true] at h
      have hi : i < ops.size := (Array.getElem?_eq_some_iff.1 ho).1
      simp only [till]
      split
      · rename_i hc
        simp only [hc, if_true, Bool.and_eq_true, List.all_eq_true, List.mem_range, Bool.or_eq_true] at h
        refine ⟨fun k hk hkc => ?_, fun s h' => hs s (mem_noncalm.1 h').1⟩
        rcases Nat.lt_or_ge k ops.size with hlt | hge
        · have h1 : done.contains k = true ∨ cmAt ops cm k = true ∨ gateB ops cm (done.filter fun k => !cmAt ops cm k) k = true := h.1.1.2 k hlt
          rcases h1 with h1 | h1 | h1
          · exact absurd (mem_noncalm.2 ⟨by simpa using h1, hkc⟩) hk
          · rw [hkc] at h1; cases h1
          · exact h1
        · exact gate_oob hge
      · exact ordB_gate st (i :: done) _ h.2 (fun s hs' => (List.mem_cons.1 hs').elim (fun e => e ▸ hi) (hs s))
theorem wpS_walk {sy : List Nat} {K : (World → Prop) → Act → Prop} (hsel : Region.noSelect ops = true) : ∀ (st done : List Nat) (l : List Oper) (listed : Array Bool) (C : World → Prop) (a : Act),
    l.map some = st.map (fun i => ops[i]?) → ordB ops cm sy done st listed = true → (∀ c ∈ cm, c ∈ done) → (∀ s ∈ done, s < ops.size) → (∀ j, listed.getD j false = true ↔ j ∈ done) → (∀ S, (∀ s ∈ done, cmAt ops cm s = false → s ∈ S) → Sofar ops cm S listed) → walkN P E ops sy K l C a →
    ∀ w, C w → wpS P E ops C (till ops cm sy done st) (fun a w => ∃ C' : World → Prop, C' w ∧ K C' a) st.length listed a w
  | [], done, l, listed, C, a, hl, hB, hc0, hs, hd, hG, h, w, hw => by
    have : l = [] := by simpa using hl
    subst this
    simp only [ordB, Bool.and_eq_true, List.isEmpty_iff] at hB
    exact ⟨hB.1, C, hw, h⟩
  | i :: st, done, [], listed, C, a, hl, hB, hc0, hs, hd, hG, h, w, hw => by simp at hl
  | i :: st, done, o :: l, listed, C, a, hl, hB, hc0, hs, hd, hG, h, w, hw => by
    obtain ⟨hgate, hsz⟩ := ordB_gate (i :: st) done listed hB hs
    simp only [List.map_cons, List.cons.injEq] at hl
    have ho : ops[i]? = some o := hl.1.symm
    have hlen : l.length = st.length := by simpa using congrArg List.length hl.2
    have hi : i < ops.size := (Array.getElem?_eq_some_iff.1 ho).1
    have hB0 := hB
    simp only [ordB, ho, Bool.and_eq_true] at hB
    obtain ⟨⟨hB1, hB2⟩, hB3⟩ := hB
    have hrdy : i ∈ Region.ready .any ops listed := by
      split at hB2
      · rw [beq_iff_eq] at hB2; rw [hB2]; simp
      · rw [Bool.and_eq_true] at hB2; simpa using hB2.1
    have hdn : ∀ c ∈ done, listed.getD c true = true := fun c hc => by
      cases hx : listed.getD c true with
      | true => rfl
      | false => exact (getD_conf hx ((hd c).2 hc)).elim
    have hcmi : cm.contains i = false := by
      cases hx : cm.contains i with
      | false => rfl
      | true =>
        have := hdn i (hc0 i (by simpa using hx))
        rw [(mem_ready.1 hrdy).1] at this; cases this
    have hs' : ∀ s ∈ i :: done, s < ops.size := fun s hs' => (List.mem_cons.1 hs').elim (fun e => e ▸ hi) (hs s)
    have hiun : listed.getD i true = false := (mem_ready.1 hrdy).1
    have hlt : i < listed.size := by
      rcases Nat.lt_or_ge i listed.size with h' | h'
      · exact h'
      · simp [Array.getElem?_eq_none h'] at hiun
    have hd' : ∀ j, (listed.setIfInBounds i true).getD j false = true ↔ j ∈ i :: done := fun j => by
      by_cases hij : i = j
      · subst hij
        simp [hlt]
      · rw [getD_set_ne false hij, hd j]
        simp [Ne.symm hij]
    have hG' : ∀ S, (∀ s ∈ i :: done, cmAt ops cm s = false → s ∈ S) → Sofar ops cm S (listed.setIfInBounds i true) := fun S hS => by
      refine ⟨fun j oj hj hl e he hb => ?_, fun k hk hkc hl => absurd (hS k ((hd' k).1 hl) hkc) hk⟩
      by_cases hij : i = j
      · subst hij
        rw [ho] at hj; cases hj
        obtain ⟨_, o', ho', hall⟩ := mem_ready.1 hrdy
        rw [ho] at ho'; cases ho'
        exact getD_set_true (hall e he hb)
      · rw [getD_set_ne false hij] at hl
        exact getD_set_true ((hG S fun s hs => hS s (List.mem_cons_of_mem _ hs)).down j oj hj hl e he hb)
    have IH := fun (C : World → Prop) (a : Act) (h : walkN P E ops sy K l C a) => wpS_walk hsel st (i :: done) l (listed.setIfInBounds i true) C a hl.2 hB3 (fun c hc => List.mem_cons_of_mem _ (hc0 c hc)) hs' hd' hG' h
    have hunl : ∀ j, (listed.setIfInBounds i true).getD j true = false → j ∉ i :: done := fun j h hj => getD_conf h ((hd' j).2 hj)
    simp only [walkN] at h
    have hpure : ∀ v, loud o.op = false → Stays P ops C o v a → walkN P E ops sy K l C (a.put o.dst v) → wpS P E ops C (till ops cm sy done (i :: st)) (fun a w => ∃ C' : World → Prop, C' w ∧ K C' a) (st.length + 1) listed a w := by
      intro v hlo hst hn
      have hnsy : sy.contains st.length = false := by
        cases hc : sy.contains st.length with
        | false => rfl
        | true => rw [hc] at hB1; simp [hlo] at hB1
      have htl : till ops cm sy done (i :: st) = till ops cm sy (i :: done) st := by simp only [till]; rw [hnsy]; simp
      simp only [hlo, Bool.false_eq_true, if_false, Bool.and_eq_true] at hB2
      cases hcal : calm o.op with
      | false =>
        refine wpS_first ho (Region.noSelect_spec hsel) hgate hsz (by rw [htl]; exact till_sub _ _ _ (List.mem_cons_self ..) (by unfold cmAt calmAt; simp only [ho, hcal, hcmi, Bool.or_false])) st.length listed a w (fun c hc => hdn c (hc0 c hc)) (hG _ fun s hs hc => till_sub _ _ _ hs hc) (Region.free_spec ho hB2.2) hrdy hst hw ?_
        rw [htl]
        exact IH C _ hn w hw
      | true =>
        refine wpS_calm ho (Region.noSelect_spec hsel) (fun h => by have h' := till_calm _ _ _ h; unfold cmAt calmAt at h'; simp only [ho, hcal, Bool.true_or] at h'; cases h') st.length listed a w (Region.free_spec ho hB2.2) hrdy (hst.calm hcal hw) ?_
        rw [htl]
        exact IH C _ hn w hw
    have hloud : loud o.op = true → ∀ (a' : Act) (w' : World) (C' : World → Prop), C' w' → ((∀ w, C' w → C w) ∨ sy.contains st.length = true) → walkN P E ops sy K l C' a' →
        ((i ∈ till ops cm sy done (i :: st) → C w') ∧ wpS P E ops C (till ops cm sy done (i :: st)) (fun a w => ∃ C' : World → Prop, C' w ∧ K C' a) st.length (listed.setIfInBounds i true) a' w') := by
      intro hlo a' w' C' hw' hor hn
      have h1 := IH C' a' hn w' hw'
      cases hc : sy.contains st.length with
      | true =>
        have htl : till ops cm sy done (i :: st) = done.filter fun k => !cmAt ops cm k := by simp only [till]; rw [hc]; simp
        rw [htl]
        refine ⟨fun hid => ?_, wpS_weak _ _ _ _ (fun j hj hu => absurd (List.mem_cons_of_mem _ (mem_noncalm.1 hj).1) (hunl j hu)) h1⟩
        exact (getD_conf hiun ((hd i).2 (mem_noncalm.1 hid).1)).elim
      | false =>
        have hsub := hor.resolve_right (by rw [hc]; simp)
        have htl : till ops cm sy done (i :: st) = till ops cm sy (i :: done) st := by simp only [till]; rw [hc]; simp
        rw [htl]
        exact ⟨fun _ => hsub _ hw', wpS_weak _ _ _ _ (fun j hj _ => ⟨hj, hsub⟩) h1⟩
    by_cases hwt : Region.wanted o (yielded ops a.tmps) = true
    · rw [if_pos hwt] at h
      rcases h with ⟨hlo, v, hv, hn⟩ | ⟨hlo, hn⟩
      · exact hpure v hlo (.inl ⟨hwt, hv⟩) hn
      · rw [if_pos hlo, beq_iff_eq] at hB2
        refine ⟨fun h0 => (by rw [h0] at hrdy; cases hrdy), fun j hj => ?_⟩
        have : j = i := by rw [hB2] at hj; simpa using hj
        subst this
        unfold stepN
        simp only [ho, hwt, if_true]
        exact Oper.wpN_mono (fun a' w' ⟨C', hw', hor, hn'⟩ => hloud hlo a' w' C' hw' (by rwa [hlen] at hor) hn') (hn w hw)
    · have hwt' : Region.wanted o (yielded ops a.tmps) = false := by simpa using hwt
      rw [if_neg hwt] at h
      cases hlo : loud o.op with
      | false => exact hpure undef hlo (.inr ⟨hwt', rfl⟩) h
      | true =>
        rw [if_pos hlo, beq_iff_eq] at hB2
        refine ⟨fun h0 => (by rw [h0] at hrdy; cases hrdy), fun j hj => ?_⟩
        have : j = i := by rw [hB2] at hj; simpa using hj
        subst this
        unfold stepN
        simp only [ho, hwt', Bool.false_eq_true, if_false]
        exact hloud hlo _ _ C hw (.inl fun _ h => h) h
end
/-- the list: quiet, ready, free -/
def preC (ops : Array Oper) (k : List Nat → Array Bool → Bool) : List Nat → List Nat → Array Bool → Bool
  | [], done, listed => k done listed
  | x :: st, done, listed =>
    match ops[x]? with
    | none => false
    | some o => !loud o.op && (Region.ready .any ops listed).contains x && Region.free .any ops listed x && preC ops k st (x :: done) (listed.setIfInBounds x true)
def walkC (P : Program) (ops : Array Oper) (K : Act → Prop) : List Oper → Act → Prop
  | [], a => K a
  | o :: r, a => Region.wanted o (yielded ops a.tmps) = true ∧ ∃ v, (∀ w, (execOp a.eval o).run P w = .ok (.value v) w) ∧ walkC P ops K r (a.put o.dst v)
section
variable {P : Program} {E : List PanicEntry → List Deferred → World → Prop} {ops : Array Oper}
theorem wpS_pre {cm sy : List Nat} {K : (World → Prop) → Act → Prop} (hsel : Region.noSelect ops = true) (st : List Nat) (l : List Oper) (C : World → Prop) (hl : l.map some = st.map (fun i => ops[i]?)) : ∀ (pre done : List Nat) (lp : List Oper) (listed : Array Bool) (a : Act),
    lp.map some = pre.map (fun i => ops[i]?) → preC ops (fun done listed => ordB ops cm sy done st listed) pre done listed = true → (∀ c, c ∈ cm ↔ c ∈ List.reverseAux pre done) → (∀ s ∈ done, s < ops.size) → (∀ j, listed.getD j false = true ↔ j ∈ done) →
    (∀ j oj, ops[j]? = some oj → listed.getD j false = true → ∀ e ∈ oj.after, Region.binds .any e = true → listed.getD e.on false = true) → (∀ c ∈ done, c ∈ cm) → walkC P ops (walkN P E ops sy K l C) lp a →
    ∀ w, C w → wpS P E ops C (till ops cm sy (List.reverseAux pre done) st) (fun a w => ∃ C' : World → Prop, C' w ∧ K C' a) (pre.length + st.length) listed a w
  | [], done, [], listed, a, hp, hB, hcm, hs, hd, hdn, hdc, h, w, hw => by
    rw [show ([] : List Nat).length + st.length = st.length from Nat.zero_add _]
    refine wpS_walk hsel st done l listed C a hl hB (fun c hc => (hcm c).1 hc) hs hd (fun S hS => ⟨fun j oj hj hl e he hb => hdn j oj hj hl e he hb, fun k hk hkc hlk => ?_⟩) h w hw
    have : k ∈ cm := hdc k ((hd k).1 hlk)
    unfold cmAt at hkc
    simp [this] at hkc
  | [], done, _ :: _, listed, a, hp, hB, hcm, hs, hd, hdn, hdc, h, w, hw => by simp at hp
  | i :: pre, done, [], listed, a, hp, hB, hcm, hs, hd, hdn, hdc, h, w, hw => by simp at hp
  | i :: pre, done, o :: lp, listed, a, hp, hB, hcm, hs, hd, hdn, hdc, h, w, hw => by
    simp only [List.map_cons, List.cons.injEq] at hp
    have ho : ops[i]? = some o := hp.1.symm
    simp only [preC, ho, Bool.and_eq_true, Bool.not_eq_true'] at hB
    obtain ⟨⟨⟨hlo, hrd⟩, hfr⟩, hB3⟩ := hB
    have hrdy : i ∈ Region.ready .any ops listed := by simpa using hrd
    have hi : i < ops.size := (Array.getElem?_eq_some_iff.1 ho).1
    have hlt : i < listed.size := by
      have hiun := (mem_ready.1 hrdy).1
      rcases Nat.lt_or_ge i listed.size with h' | h'
      · exact h'
      · simp [Array.getElem?_eq_none h'] at hiun
    have hd' : ∀ j, (listed.setIfInBounds i true).getD j false = true ↔ j ∈ i :: done := fun j => by
      by_cases hij : i = j
      · subst hij
        simp [hlt]
      · rw [getD_set_ne false hij, hd j]
        simp [Ne.symm hij]
    have hci : i ∈ cm := (hcm i).2 (by rw [List.reverseAux_eq]; simp)
    have hdn' : ∀ j oj, ops[j]? = some oj → (listed.setIfInBounds i true).getD j false = true → ∀ e ∈ oj.after, Region.binds .any e = true → (listed.setIfInBounds i true).getD e.on false = true := fun j oj hj hl e he hb => by
      by_cases hij : i = j
      · subst hij
        rw [ho] at hj; cases hj
        obtain ⟨_, o', ho', hall⟩ := mem_ready.1 hrdy
        rw [ho] at ho'; cases ho'
        exact getD_set_true (hall e he hb)
      · rw [getD_set_ne false hij] at hl
        exact getD_set_true (hdn j oj hj hl e he hb)
    obtain ⟨hwt, v, hv, hn⟩ := h
    have IH := wpS_pre (cm := cm) (sy := sy) hsel st l C hl pre (i :: done) lp (listed.setIfInBounds i true) (a.put o.dst v) hp.2 hB3 hcm (fun s hs' => (List.mem_cons.1 hs').elim (fun e => e ▸ hi) (hs s)) hd' hdn' (fun c hc => (List.mem_cons.1 hc).elim (fun e => e ▸ hci) (hdc c)) hn w hw
    rw [show (i :: pre).length + st.length = (pre.length + st.length) + 1 by simp only [List.length_cons]; omega]
    refine wpS_calm ho (Region.noSelect_spec hsel) (fun h => ?_) _ listed a w (Region.free_spec ho hfr) hrdy (.inl ⟨hwt, fun w _ => hv w⟩) IH
    have h' := till_calm _ _ _ h
    unfold cmAt at h'
    simp [hci] at h'
end
section
variable (P : Program) (n : Nat) (D : List Deferred) (w0 : World)
/-- the list's operations that are left -/
def QC (Z : Array Oper × List Nat) (lp l : List Oper) (ov : Ov) (H : List Asn) (K : KC) : Prop :=
  ∀ a, Rep n D ov a → walkC P Z.1 (walkN P K.e Z.1 Z.2 K.k l (St w0 H)) lp a
end
section
variable {P : Program} {f n : Nat} {R : Ending → World → Prop} {D : List Deferred} {w0 : World} {k : List Item} {ov : Ov} {H : List Asn} {K : KC}
  {Z : Array Oper × List Nat} {l lp : List Oper} {d : Option Nat} {T : Nat} {pos : String} {af : Array Edge} {v : Value} {op : Op}
theorem gQC (h : QC P n D w0 Z lp l ov H K) : QC P n D w0 Z lp l ov H K := h
theorem QC_nil (h : QR P n D w0 Z l ov H K) : QC P n D w0 Z [] l ov H K := by
  unfold QR at h
  exact fun a ha => h a ha
theorem QC_v (h : ∀ w0, OpV P n D w0 ov [] ⟨d, op, T, pos, af, none⟩ v) (hn : QC P n D w0 Z lp l (put d v ov) H K) : QC P n D w0 Z (⟨d, op, T, pos, af, none⟩ :: lp) l ov H K := by
  unfold OpV at h
  exact fun a ha => ⟨by simp [Region.wanted], v, fun w => (h w).2 a w ha (St.start w), hn _ (ha.put (h w0).1 v)⟩
theorem JS_orderC {id : Nat} {l : List Oper} (pre st sy : List Nat) {lp l' : List Oper} (hpp : Picks l pre lp) (hp : Picks l st l') (hm : P.follows .mixedOrders = true) (hs : Region.noSelect l.toArray = true) (hlen : pre.length + st.length = l.length)
    (hB : preC l.toArray (fun done listed => ordB l.toArray pre sy done st listed) pre [] (Array.replicate l.length false) = true) (h : QC P n D w0 (l.toArray, sy) lp l' ov H (QK P f R k)) :
    JS P f n R D w0 (.code (.region id l.toArray true) :: k) ov H := by
  unfold JS
  intro a w ha hw
  refine J_of_wpE (Q := QQ P f R k) (wp_region_any hm ?_) fun e a' w' h => h
  have h0 : ∀ j, (Array.replicate l.length false).getD j false = false := fun j => by
    rcases Nat.lt_or_ge j l.length with h | h
    · simp [h]
    · simp [h]
  have hws := wpS_pre (P := P) (E := (QK P f R k).e) (K := (QK P f R k).k) (cm := pre) (sy := sy) hs st l' (St w0 H) hp.map pre [] lp (Array.replicate l.length false) a hpp.map hB (fun c => by rw [List.reverseAux_eq]; simp) (by simp) (fun j => by rw [h0 j]; simp)
    (fun j oj _ hj => (by rw [h0 j] at hj; cases hj)) (by simp) (h a ha) w.drew hw.drew
  have := wpAny_of_S (Q' := QQ P f R k) (fun ch a w h => by unfold QK at h; exact h) (fun a w ⟨C, hC, hk⟩ => by unfold QK at hk; exact hk w hC) _ _ _ _ hws
  rw [hlen] at this
  simpa using this
attribute [irreducible] QC
end
end Sx.Cm
namespace Go.Proofs.YtbiocgenbgbfpaaGreat
open Sx Go
section
variable {n : Nat} {D : List Deferred} {w0 : World} {ov : Ov} {H : List Asn} {K : KC} {Z : Array Oper × List Nat} {l lp : List Oper} {d : Option Nat} {T : Nat} {pos : String} {af : Array Edge} {v : Value} {op : Op}
theorem aC (hn : Sx.Cm.QC Tryz.prog n D w0 Z lp l (put d v ov) H K) (h : ∀ w0, OpV Tryz.prog n D w0 ov [] ⟨d, op, T, pos, af, none⟩ v := by intro _; first | (apply oMv; exact V_move rfl rfl) | (apply oAs; exact V_assign rfl rfl) | (apply oL; first | exact V_load (tb := tb) rfl (by repeat (first | apply List.Mem.head | apply List.Mem.tail)) rfl rfl rfl rfl | exact V_loadC (tb := tb) rfl (by first | exact vec_rd (by repeat (first | apply List.Mem.head | apply List.Mem.tail)) | assumption | exact ArgRd.rd (by assumption) _ | (apply Rd_weak; assumption; intro _ hx; exact St.sub (by repeat (first | exact List.Sublist.refl _ | apply List.Sublist.cons_cons | apply List.Sublist.cons)) hx)) rfl rfl (by first | exact ints_get (by omega) | exact rfl) rfl | exact V_loadA (tb := tb) rfl (by repeat (first | apply List.Mem.head | apply List.Mem.tail)) rfl rfl rfl rfl) | (apply oB; first | (apply ob_add; first | exact V_add rfl rfl (by first | exact wi64 (by omega) | exact wu64 (by omega) | exact wu32 (by omega) | exact wu8 (by omega) | exact mu64 _ | exact mu32 _ | exact mu8 _ | exact mi64 _ | exact rfl) rfl) | (apply ob_sub; first | exact V_sub rfl rfl (by first | exact wi64 (by omega) | exact wu64 (by omega) | exact wu32 (by omega) | exact wu8 (by omega) | exact mu64 _ | exact mu32 _ | exact mu8 _ | exact mi64 _ | exact rfl) rfl) | (apply ob_mul; first | exact V_mul rfl rfl (by first | exact wi64 (by omega) | exact wu64 (by omega) | exact wu32 (by omega) | exact wu8 (by omega) | exact mu64 _ | exact mu32 _ | exact mu8 _ | exact mi64 _ | exact rfl) rfl) | (apply ob_eql; first | exact V_eqlT rfl rfl (by omega) rfl | exact V_eqlF rfl rfl (by omega) rfl | exact V_eql rfl rfl rfl) | (apply ob_neq; first | exact V_neqT rfl rfl (by omega) rfl | exact V_neqF rfl rfl (by omega) rfl | exact V_neq rfl rfl rfl) | (apply ob_lss; first | exact V_lssT rfl rfl (by omega) rfl | exact V_lssF rfl rfl (by omega) rfl | exact V_lss rfl rfl rfl) | (apply ob_leq; first | exact V_leqT rfl rfl (by omega) rfl | exact V_leqF rfl rfl (by omega) rfl | exact V_leq rfl rfl rfl) | (apply ob_gtr; first | exact V_gtrT rfl rfl (by omega) rfl | exact V_gtrF rfl rfl (by omega) rfl | exact V_gtr rfl rfl rfl) | (apply ob_geq; first | exact V_geqT rfl rfl (by omega) rfl | exact V_geqF rfl rfl (by omega) rfl | exact V_geq rfl rfl rfl) | (apply ob_quo; first | exact V_quo rfl rfl (by omega) (by first | exact IntWalk.i64_quo _ _ (by omega) | exact IntWalk.u64_quo _ _ (by omega) | exact IntWalk.u32_quo _ _ (by omega) | exact IntWalk.u8_quo _ _ (by omega)) rfl) | (apply ob_rem; first | exact V_rem rfl rfl (by omega) (Int.tmod_eq_emod_of_nonneg (by omega)) rfl) | (apply ob_and; first | exact V_and rfl rfl (by first | exact mask32_u64 (by omega) | exact mask_u64 8 (by decide) (by omega) rfl | exact mask_u64 16 (by decide) (by omega) rfl) rfl) | (apply ob_eql; first | exact V_eqP (tb := tb) rfl rfl rfl rfl | exact V_eqBB (tb := tb) rfl rfl rfl rfl | exact V_eqB (tb := tb) rfl rfl rfl rfl | exact V_eqNil (tb := tb) rfl rfl rfl rfl | exact V_eqStr rfl rfl (by assumption) (by assumption) rfl) | (apply ob_neq; first | exact V_neP (tb := tb) rfl rfl rfl rfl | exact V_neBB (tb := tb) rfl rfl rfl rfl | exact V_neB (tb := tb) rfl rfl rfl rfl | exact V_neStr rfl rfl (by assumption) (by assumption) rfl) | (apply oK; first | (apply ob_shr; exact V_shr (m := _) rfl rfl (by omega) (by simp only [IntKind.bits, Int.reduceToNat, Nat.reduceLeDiff, Nat.min_eq_left]; exact rfl) (by first | (simp only [Int.reducePow]; exact rfl) | exact rfl) rfl) | (apply ob_shl; exact V_shl (m := _) rfl rfl (by omega) (by simp only [IntKind.bits, Int.reduceToNat, Nat.reduceLeDiff, Nat.min_eq_left]; exact rfl) (by (try simp only [Int.reducePow]); first | exact wi64 (by omega) | exact wu64 (by omega) | exact wu32 (by omega) | exact wu8 (by omega) | exact mu64 _ | exact mu32 _ | exact mu8 _ | exact mi64 _ | exact rfl) rfl))) | (apply oE; first | exact V_extract rfl rfl rfl) | (apply oc_len; exact V_len (tb := tb) rfl rfl rfl) | (apply oc_len; exact V_lenS (tb := tb) rfl rfl rfl) | (apply oc_min; exact V_min rfl rfl rfl rfl) | (apply oc_max; exact V_max rfl rfl rfl rfl) | (apply oCv; first | exact V_conv (tb := tb) rfl rfl rfl (by first | exact wi64 (by omega) | exact wu64 (by omega) | exact wu32 (by omega) | exact wu8 (by omega) | exact mu64 _ | exact mu32 _ | exact mu8 _ | exact mi64 _ | exact rfl) rfl | exact V_str (tb := tb) rfl (by first | exact vec_rd (by repeat (first | apply List.Mem.head | apply List.Mem.tail)) | assumption | exact ArgRd.rd (by assumption) _ | (apply Rd_weak; assumption; intro _ hx; exact St.sub (by repeat (first | exact List.Sublist.refl _ | apply List.Sublist.cons_cons | apply List.Sublist.cons)) hx)) (by first | assumption | rfl | omega) rfl rfl rfl rfl) | (apply oP; first | exact V_pickT rfl rfl rfl | exact V_pickF rfl rfl rfl | exact V_pickB rfl rfl rfl rfl) | (apply oU; first | exact V_notD rfl rfl | exact V_not rfl rfl | exact V_neg rfl (by first | exact wi64 (by omega) | exact wu64 (by omega) | exact wu32 (by omega) | exact wu8 (by omega) | exact mu64 _ | exact mu32 _ | exact mu8 _ | exact mi64 _ | exact rfl) rfl) | (apply oN; first | exact V_nilCheck rfl rfl) | (apply oFA; first | exact V_field (tb := tb) rfl rfl rfl rfl rfl rfl | exact V_fieldC (tb := tb) rfl (by first | exact Rd.sl (vec_rd (by repeat (first | apply List.Mem.head | apply List.Mem.tail))) | exact Rd.sl (by assumption) | exact Rd.sl (ArgRd.rd (by assumption) _) | (apply Rd.sl; (apply Rd_weak; assumption; intro _ hx; exact St.sub (by repeat (first | exact List.Sublist.refl _ | apply List.Sublist.cons_cons | apply List.Sublist.cons)) hx))) (by omega) rfl rfl rfl rfl rfl) | (apply oIA; first | exact V_index (tb := tb) rfl rfl rfl rfl (by first | exact Rd.sl (vec_rd (by repeat (first | apply List.Mem.head | apply List.Mem.tail))) | exact Rd.sl (by assumption) | exact Rd.sl (ArgRd.rd (by assumption) _) | (apply Rd.sl; (apply Rd_weak; assumption; intro _ hx; exact St.sub (by repeat (first | exact List.Sublist.refl _ | apply List.Sublist.cons_cons | apply List.Sublist.cons)) hx))) (by omega) (by (try simp only [tn, tna, tn1, tn2, tn3, tn4, tnd16, tnd8, Int.reduceToNat]); first | exact Nat.mul_one _ | exact rfl) rfl | exact V_indexA (tb := tb) rfl rfl rfl rfl (by omega) rfl) | (apply oBd; first | exact V_build (tb := tb) rfl rfl rfl rfl rfl) | (apply oF; first | exact V_makeFunc rfl rfl rfl)) : Sx.Cm.QC Tryz.prog n D w0 Z (⟨d, op, T, pos, af, none⟩ :: lp) l ov H K := Sx.Cm.QC_v h hn
end
end Go.Proofs.YtbiocgenbgbfpaaGreat

set_option linter.unusedVariables false
set_option linter.unusedSimpArgs false
namespace Pm
/-! ## a stable sort (plain laws) -/
section
variable {α : Type} (w : α → Nat)
/-- two lists are merged; of equals those of the first list come first -/
def mrg : List α → List α → List α
  | [], ys => ys
  | x :: xs, ys => go x (mrg xs) ys
where
  go (x : α) (k : List α → List α) : List α → List α
    | [] => x :: k []
    | y :: ys => if w x ≤ w y then x :: k (y :: ys) else y :: go x k ys
theorem mrg_nil (ys : List α) : mrg w [] ys = ys := rfl
theorem mrg_nilR : ∀ xs : List α, mrg w xs [] = xs
  | [] => rfl
  | x :: xs => by show x :: mrg w xs [] = _; rw [mrg_nilR xs]
theorem mrg_cons (x : α) (xs : List α) (y : α) (ys : List α) : mrg w (x :: xs) (y :: ys) = if w x ≤ w y then x :: mrg w xs (y :: ys) else y :: mrg w (x :: xs) ys := rfl
theorem mrg_perm : ∀ (m : Nat) (A B : List α), A.length + B.length ≤ m → (mrg w A B).Perm (A ++ B)
  | _, [], B, _ => List.Perm.refl _
  | _, a :: A, [], _ => by rw [mrg_nilR, List.append_nil]
  | 0, a :: A, b :: B, h => absurd h (by simp)
  | m + 1, a :: A, b :: B, h => by
    rw [mrg_cons]
    split
    · exact (mrg_perm m A (b :: B) (by simp at h ⊢; omega)).cons a
    · exact ((mrg_perm m (a :: A) B (by simp at h ⊢; omega)).cons b).trans List.perm_middle.symm
theorem mrg_mem {A B : List α} {x : α} (h : x ∈ mrg w A B) : x ∈ A ∨ x ∈ B := List.mem_append.1 ((mrg_perm w _ A B (Nat.le_refl _)).mem_iff.1 h)
abbrev SrtW (l : List α) : Prop := l.Pairwise fun x y => w x ≤ w y
theorem mrg_srt : ∀ (m : Nat) (A B : List α), A.length + B.length ≤ m → SrtW w A → SrtW w B → SrtW w (mrg w A B)
  | _, [], B, _, _, h => h
  | _, a :: A, [], _, h, _ => by rw [mrg_nilR]; exact h
  | 0, a :: A, b :: B, h, _, _ => absurd h (by simp)
  | m + 1, a :: A, b :: B, h, hA, hB => by
    have a1 := (List.pairwise_cons.1 hA).1
    have b1 := (List.pairwise_cons.1 hB).1
    rw [mrg_cons]
    split
    · rename_i hab
      refine List.pairwise_cons.2 ⟨fun y hy => ?_, mrg_srt m A (b :: B) (by simp at h ⊢; omega) (List.Pairwise.of_cons hA) hB⟩
      rcases mrg_mem w hy with h | h
      · exact a1 y h
      · rcases List.mem_cons.1 h with rfl | h
        · exact hab
        · exact Nat.le_trans hab (b1 y h)
    · rename_i hab
      refine List.pairwise_cons.2 ⟨fun y hy => ?_, mrg_srt m (a :: A) B (by simp at h ⊢; omega) hA (List.Pairwise.of_cons hB)⟩
      rcases mrg_mem w hy with h | h
      · rcases List.mem_cons.1 h with rfl | h
        · omega
        · have := a1 y h; omega
      · exact b1 y h
/-- lists that are cut where nothing passes the cut are merged in parts -/
theorem mrg_split (L2 R2 : List α) : ∀ (m : Nat) (L1 R1 : List α), L1.length + R1.length ≤ m → (∀ l ∈ L1, ∀ r ∈ R2, w l ≤ w r) → (∀ l ∈ L2, ∀ r ∈ R1, w r < w l) → mrg w (L1 ++ L2) (R1 ++ R2) = mrg w L1 R1 ++ mrg w L2 R2
  | _, [], [], _, _, _ => rfl
  | 0, a :: A, _, h, _, _ => absurd h (by simp)
  | 0, [], b :: B, h, _, _ => absurd h (by simp)
  | m + 1, [], b :: B, h, h1, h2 => by
    have ih := mrg_split L2 R2 m [] B (by simp at h ⊢; omega) h1 (fun l hl r hr => h2 l hl r (by simp [hr]))
    cases L2 with
    | nil => rfl
    | cons c C =>
      have hc := h2 c (by simp) b (by simp)
      rw [List.nil_append, List.cons_append, mrg_cons, if_neg (by omega)]
      rw [List.nil_append] at ih
      rw [ih]; rfl
  | m + 1, a :: A, [], h, h1, h2 => by
    have ih := mrg_split L2 R2 m A [] (by simp at h ⊢; omega) (fun l hl r hr => h1 l (by simp [hl]) r hr) h2
    cases R2 with
    | nil => simp only [List.append_nil, mrg_nilR]
    | cons d D =>
      have hc := h1 a (by simp) d (by simp)
      rw [List.nil_append, List.cons_append, mrg_cons, if_pos (by omega)]
      rw [List.nil_append] at ih
      rw [ih, mrg_nilR, mrg_nilR]; rfl
  | m + 1, a :: A, b :: B, h, h1, h2 => by
    rw [List.cons_append, List.cons_append, mrg_cons, mrg_cons]
    split
    · rw [← List.cons_append, mrg_split L2 R2 m A (b :: B) (by simp at h ⊢; omega) (fun l hl r hr => h1 l (by simp [hl]) r hr) h2, List.cons_append]
    · rw [← List.cons_append, mrg_split L2 R2 m (a :: A) B (by simp at h ⊢; omega) h1 (fun l hl r hr => h2 l hl r (by simp [hr])), List.cons_append]
theorem mrg_assoc : ∀ (m : Nat) (A B C : List α), A.length + B.length + C.length ≤ m → mrg w (mrg w A B) C = mrg w A (mrg w B C)
  | _, [], B, C, _ => rfl
  | _, a :: A, [], C, _ => by rw [mrg_nilR]; rfl
  | _, a :: A, b :: B, [], _ => by rw [mrg_nilR, mrg_nilR]
  | 0, a :: A, b :: B, c :: C, h => absurd h (by simp)
  | m + 1, a :: A, b :: B, c :: C, h => by
    have i1 := mrg_assoc m A (b :: B) (c :: C) (by simp at h ⊢; omega)
    have i2 := mrg_assoc m (a :: A) B (c :: C) (by simp at h ⊢; omega)
    have i3 := mrg_assoc m (a :: A) (b :: B) C (by simp at h ⊢; omega)
    rw [mrg_cons w a A b B] at i3 ⊢
    rw [mrg_cons w b B c C] at i1 ⊢
    by_cases hab : w a ≤ w b
    · rw [if_pos hab] at i3 ⊢
      by_cases hbc : w b ≤ w c
      · rw [if_pos hbc] at i1 ⊢
        rw [mrg_cons w a _ c C, if_pos (by omega), mrg_cons w a A b _, if_pos hab, i1]
      · rw [if_neg hbc] at i1 ⊢
        by_cases hac : w a ≤ w c
        · rw [mrg_cons w a _ c C, if_pos hac, mrg_cons w a A c _, if_pos hac, i1]
        · rw [mrg_cons w a _ c C, if_neg hac, mrg_cons w a A c _, if_neg hac, i3]
    · rw [if_neg hab] at i3 ⊢
      by_cases hbc : w b ≤ w c
      · rw [if_pos hbc]
        rw [mrg_cons w b _ c C, if_pos hbc, mrg_cons w a A b _, if_neg hab, i2]
      · rw [if_neg hbc]
        rw [mrg_cons w b _ c C, if_neg hbc, mrg_cons w a A c _, if_neg (by omega), i3]
/-- the sorted list: each one behind all that are not more -/
def isrt (l : List α) : List α := l.foldl (fun acc x => mrg w acc [x]) []
theorem isrt_snoc (l : List α) (x : α) : isrt w (l ++ [x]) = mrg w (isrt w l) [x] := by unfold isrt; rw [List.foldl_append]; rfl
theorem isrt_nil : isrt w ([] : List α) = [] := rfl
theorem isrt_one (x : α) : isrt w [x] = [x] := rfl
theorem snoc_ind {p : List α → Prop} (h0 : p []) (hs : ∀ l x, p l → p (l ++ [x])) (l : List α) : p l := by
  have : ∀ (n : Nat) (l : List α), l.length = n → p l := by
    intro n
    induction n with
    | zero => intro l hl; rw [List.eq_nil_of_length_eq_zero hl]; exact h0
    | succ n ih =>
      intro l hl
      have hne : l ≠ [] := by intro h; rw [h] at hl; simp at hl
      rw [← List.dropLast_concat_getLast hne]
      exact hs _ _ (ih _ (by simp [hl]))
  exact this _ l rfl
theorem isrt_app (X Y : List α) : isrt w (X ++ Y) = mrg w (isrt w X) (isrt w Y) := by
  refine snoc_ind (p := fun Y => isrt w (X ++ Y) = mrg w (isrt w X) (isrt w Y)) ?_ ?_ Y
  · rw [List.append_nil, isrt_nil, mrg_nilR]
  · intro l x ih
    rw [← List.append_assoc, isrt_snoc, isrt_snoc, ih, mrg_assoc w _ _ _ _ (Nat.le_refl _)]
theorem isrt_srt (l : List α) : SrtW w (isrt w l) := by
  refine snoc_ind (p := fun l => SrtW w (isrt w l)) List.Pairwise.nil ?_ l
  intro l x ih
  rw [isrt_snoc]
  exact mrg_srt w _ _ _ (Nat.le_refl _) ih (List.pairwise_singleton _ _)
theorem isrt_perm (l : List α) : (isrt w l).Perm l := by
  refine snoc_ind (p := fun l => (isrt w l).Perm l) (List.Perm.refl _) ?_ l
  intro l x ih
  rw [isrt_snoc]
  exact (mrg_perm w _ _ _ (Nat.le_refl _)).trans (List.Perm.append_right _ ih)
theorem isrt_len (l : List α) : (isrt w l).length = l.length := (isrt_perm w l).length_eq
/-- one that is put into a sorted list -/
theorem mrg_ins (L1 L2 : List α) (x : α) (h1 : ∀ l ∈ L1, w l ≤ w x) (h2 : ∀ l ∈ L2, w x < w l) : mrg w (L1 ++ L2) [x] = L1 ++ x :: L2 := by
  have e := mrg_split w L2 [] _ L1 [x] (Nat.le_refl _) (by simp) (by simpa using h2)
  have e2 := mrg_split w [] [x] _ L1 [] (Nat.le_refl _) (by simpa using h1) (by simp)
  simp only [List.append_nil, List.nil_append, mrg_nilR, mrg_nil] at e e2
  rw [e, e2]; simp
theorem mrg_insL (R1 R2 : List α) (x : α) (h1 : ∀ r ∈ R1, w r < w x) (h2 : ∀ r ∈ R2, w x ≤ w r) : mrg w [x] (R1 ++ R2) = R1 ++ x :: R2 := by
  have e := mrg_split w [x] R2 _ [] R1 (Nat.le_refl _) (by simp) (by simpa using h1)
  have e2 := mrg_split w [] R2 _ [x] [] (Nat.le_refl _) (by simpa using h2) (by simp)
  simp only [List.append_nil, List.nil_append, mrg_nilR, mrg_nil] at e e2
  rw [e, e2]; simp
theorem isrt_id {l : List α} (h : SrtW w l) : isrt w l = l := by
  revert h
  refine snoc_ind (p := fun l => SrtW w l → isrt w l = l) (fun _ => rfl) ?_ l
  intro l x ih h
  obtain ⟨h1, _, h2⟩ := List.pairwise_append.1 h
  rw [isrt_snoc, ih h1]
  have := mrg_ins w l [] x (fun y hy => h2 y hy x (by simp)) (by simp)
  simpa using this
end
/-! parts of a row -/
section
variable {α : Type}
def sg (D : Nat → α) (a : Nat) : Nat → List α
  | 0 => []
  | n + 1 => D a :: sg D (a + 1) n
theorem sg_len (D : Nat → α) : ∀ (n a : Nat), (sg D a n).length = n
  | 0, _ => rfl
  | n + 1, a => by rw [sg, List.length_cons, sg_len D n]
theorem sg_add (D : Nat → α) (m : Nat) : ∀ (n a : Nat), sg D a (n + m) = sg D a n ++ sg D (a + n) m
  | 0, a => by rw [Nat.zero_add]; rfl
  | n + 1, a => by rw [Nat.succ_add_eq_add_succ, Nat.add_succ, sg, sg, sg_add D m n (a + 1), List.cons_append, show a + 1 + n = a + (n + 1) by omega]
theorem sg_congr {D D' : Nat → α} : ∀ (n a a' : Nat), (∀ k, k < n → D (a + k) = D' (a' + k)) → sg D a n = sg D' a' n
  | 0, _, _, _ => rfl
  | n + 1, a, a', h => by
    rw [sg, sg, show D a = D' a' from h 0 (by omega), sg_congr n (a + 1) (a' + 1) fun k hk => by rw [show a + 1 + k = a + (k + 1) by omega, show a' + 1 + k = a' + (k + 1) by omega]; exact h (k + 1) (by omega)]
theorem sg_get (D : Nat → α) : ∀ (n a k : Nat), k < n → (sg D a n)[k]? = some (D (a + k))
  | 0, _, _, h => absurd h (by omega)
  | n + 1, a, 0, _ => rfl
  | n + 1, a, k + 1, h => by rw [sg, List.getElem?_cons_succ, sg_get D n (a + 1) k (by omega), show a + 1 + k = a + (k + 1) by omega]
theorem sg_mem {D : Nat → α} {n a : Nat} {x : α} (h : x ∈ sg D a n) : ∃ k, k < n ∧ x = D (a + k) := by
  obtain ⟨k, hk, e⟩ := List.mem_iff_getElem.1 h
  rw [sg_len] at hk
  have := sg_get D n a k hk
  rw [List.getElem?_eq_getElem (by rw [sg_len]; exact hk), e] at this
  exact ⟨k, hk, by simpa using this⟩
theorem sg_in (D : Nat → α) {n a k : Nat} (h : k < n) : D (a + k) ∈ sg D a n := List.mem_of_getElem? (sg_get D n a k h)
theorem srt_sg {w : α → Nat} {D : Nat → α} : ∀ {n a : Nat}, SrtW w (sg D a n) → ∀ i j, a ≤ i → i < j → j < a + n → w (D i) ≤ w (D j)
  | 0, a, _, i, j, h1, h2, h3 => absurd h3 (by omega)
  | n + 1, a, h, i, j, h1, h2, h3 => by
    obtain ⟨g1, g2⟩ := List.pairwise_cons.1 h
    rcases Nat.lt_or_ge a i with hi | hi
    · exact srt_sg g2 i j (by omega) h2 (by omega)
    · obtain rfl : a = i := by omega
      have := g1 (D (a + 1 + (j - (a + 1)))) (sg_in D (by omega))
      rwa [show a + 1 + (j - (a + 1)) = j by omega] at this
end
end Pm

namespace Go.Proofs.YtbiocgenbgbfpaaGreat
open Sx Go Pm
set_option linter.unusedVariables false
set_option linter.unusedSimpArgs false
/-! rows of one-cell values in a slice -/
section
variable {α : Type} (enc : α → Value)
def vals (D : Nat → α) (N : Nat) : List Value := (List.range N).map fun k => enc (D k)
def upd (D : Nat → α) (i : Nat) (x : α) : Nat → α := fun k => if k = i then x else D k
theorem vals_len (D : Nat → α) (N : Nat) : (vals enc D N).length = N := by simp [vals]
theorem vals_get {D : Nat → α} {N k : Nat} (h : k < N) : (vals enc D N)[k]? = some (enc (D k)) := by simp [vals, h]
theorem vals_set {D : Nat → α} {N i : Nat} {x : α} : (vals enc D N).set i (enc x) = vals enc (upd D i x) N := by
  apply List.ext_getElem?
  intro k
  rw [List.getElem?_set, vals_len]
  by_cases hk : k < N
  · rw [vals_get enc hk]
    by_cases hik : i = k
    · subst hik; rw [if_pos rfl, if_pos hk, vals_get enc hk]; unfold upd; rw [if_pos rfl]
    · rw [if_neg hik, vals_get enc hk]; unfold upd; rw [if_neg (Ne.symm hik)]
  · by_cases hik : i = k
    · subst hik; rw [if_pos rfl, if_neg hk, List.getElem?_eq_none (by rw [vals_len]; omega)]
    · rw [if_neg hik, List.getElem?_eq_none (by rw [vals_len]; omega), List.getElem?_eq_none (by rw [vals_len]; omega)]
end
/-- two parts of a row change places -/
def swR {α : Type} (D : Nat → α) (a b n : Nat) : Nat → α := fun k => if a ≤ k ∧ k < a + n then D (k - a + b) else if b ≤ k ∧ k < b + n then D (k - b + a) else D k
theorem swR_zero {α : Type} (D : Nat → α) (a b : Nat) : swR D a b 0 = D := by
  funext k
  unfold swR
  rw [if_neg (by omega), if_neg (by omega)]
theorem swR_succ {α : Type} (D : Nat → α) (a b n : Nat) (h : a + n < b) : upd (upd (swR D a b n) (a + n) (swR D a b n (b + n))) (b + n) (swR D a b n (a + n)) = swR D a b (n + 1) := by
  funext k
  unfold upd swR
  by_cases h1 : k = b + n
  · subst h1
    rw [if_pos rfl, if_neg (by omega), if_neg (by omega), if_neg (by omega), if_pos (by omega), show b + n - b + a = a + n by omega]
  · rw [if_neg h1]
    by_cases h2 : k = a + n
    · subst h2
      rw [if_pos rfl, if_neg (by omega), if_neg (by omega), if_pos (by omega), show a + n - a + b = b + n by omega]
    · rw [if_neg h2]
      by_cases h3 : a ≤ k ∧ k < a + n
      · rw [if_pos h3, if_pos (by omega)]
      · rw [if_neg h3, if_neg (show ¬ (a ≤ k ∧ k < a + (n + 1)) by omega)]
        by_cases h4 : b ≤ k ∧ k < b + n
        · rw [if_pos h4, if_pos (by omega)]
        · rw [if_neg h4, if_neg (by omega)]
section
variable {α : Type} {enc : α → Value} {w0 : World} {H : List Asn}
set_option maxHeartbeats 1000000 in
theorem SwapR_c (h1 : ∀ x, Sx.one (enc x)) (u v : Value) (N : Nat) (D : Nat → α) (a b n : Nat) (hN : N ≤ 1000000) (hab : a + n ≤ b) (hb : b + n ≤ N) (w : World) (hw : St w0 (vec 89 1 u N (vals enc D N) :: H) w) :
    Calls Tryz.prog 128 #[u, .int .i64 a, .int .i64 b, .int .i64 n, v] w fun e w' => e = .returned (.tuple #[]) ∧ St w0 (vec 89 1 u N (vals enc (swR D a b n) N) :: H) w' := by
  refine enter (vs := [u, .int .i64 a, .int .i64 b, .int .i64 n, v]) Tryz.func128 rfl rfl rfl hw ?_
  repeat (first | (apply gJR; first | (refine sx ?_; try intro _)) | (apply gJO; first | (refine sx ?_; try intro _)) | apply JS_seq | apply JS_region)
  refine JS_block ?_
  refine JS_loop1 (fun (i : Nat) => [(0, u), (1, .int .i64 a), (2, .int .i64 b), (3, .int .i64 n), (10, .int .i64 i)]) (fun i => vec 89 1 u N (vals enc (swR D a b i) N) :: H)
    (fun i => i ≤ n) (fun i => n - i) 0 (Nat.zero_le _) (by repeat (first | exact trivial | refine ⟨rfl, ?_⟩ | refine ⟨lookI rfl (by omega), ?_⟩)) (fun w hw => by rw [swR_zero]; exact hw) ?_
  intro i hi again
  by_cases hin : i < n
  · repeat (first | (apply gJR; first | (refine sx ?_; try intro _)) | (apply gJO; first | (refine sx ?_; try intro _)) | apply JS_seq | apply JS_region | (apply gJS; refine JS_condT rfl ?_) | apply JS_skip | (apply gJS; refine JS_cond_T rfl (by omega) ?_) | apply JS_block)
    refine Sx.Cm.JS_orderC [0, 1, 2, 3, 4, 5, 6, 7, 8, 9, 10, 11, 14, 15, 16, 17] [12, 13, 18, 19, 20, 21, 22, 23] [2, 0] (Picks.cons rfl (Picks.cons rfl (Picks.cons rfl (Picks.cons rfl (Picks.cons rfl (Picks.cons rfl (Picks.cons rfl (Picks.cons rfl (Picks.cons rfl (Picks.cons rfl (Picks.cons rfl (Picks.cons rfl (Picks.cons rfl (Picks.cons rfl (Picks.cons rfl (Picks.cons rfl (Picks.nil))))))))))))))))) (Picks.cons rfl (Picks.cons rfl (Picks.cons rfl (Picks.cons rfl (Picks.cons rfl (Picks.cons rfl (Picks.cons rfl (Picks.cons rfl (Picks.nil))))))))) (by kernel_rfl) (by kernel_rfl) rfl (by decide +kernel) ?_
    have ha1 : a + i < N := by omega
    have hb1 : b + i < N := by omega
    repeat (first | (apply Sx.Cm.gQC; first | refine aC ?_ | refine Sx.Cm.QC_nil ?_) | (apply gQO; refine QO_v rfl (V_loadC (tb := tb) rfl (vec_rd (H := vec 89 1 u N (vals enc (swR D a b i) N) :: H) (List.Mem.head _)) rfl rfl (vals_get enc (by assumption)) rfl) ?_) | (apply gQO; refine QO_k rfl (K_storeC1 (tb := tb) rfl rfl (vals_set enc) (Upd.here _ _ _) rfl (h1 _) (by rw [vals_len]; assumption) rfl) rfl ?_) | (first | (refine sx ?_; try intro _)))
    rw [swR_succ D a b i (by omega)]
    exact JS_again1 again (i + 1) (by omega) (by omega) (by repeat (first | exact trivial | refine ⟨rfl, ?_⟩ | refine ⟨lookI rfl (by omega), ?_⟩)) (fun w hw => hw)
  · obtain rfl : i = n := by omega
    clear again
    repeat (first | (refine sx ?_; try intro _))
    refine JS_fin Tryz.func128 rfl rfl ?_
    intro w hw
    exact ⟨rfl, hw⟩
end
end Go.Proofs.YtbiocgenbgbfpaaGreat

namespace Go.Proofs.YtbiocgenbgbfpaaGreat
open Sx Go Pm
set_option linter.unusedVariables false
set_option linter.unusedSimpArgs false
/-! two parts side by side change places -/
def rot {α : Type} (D : Nat → α) (a m b : Nat) : Nat → α := fun k => if a ≤ k ∧ k < a + (b - m) then D (k + (m - a)) else if a + (b - m) ≤ k ∧ k < b then D (k - (b - m)) else D k
theorem rot_gt {α : Type} (E : Nat → α) (m i j : Nat) (hij : j < i) (him : i ≤ m) : rot (swR E (m - i) m j) (m - (i - j)) m (m + j) = rot E (m - i) m (m + j) := by
  funext k
  unfold rot swR
  repeat' split
  all_goals first | (exfalso; omega) | (congr 1 <;> omega)
theorem rot_lt {α : Type} (E : Nat → α) (m i j : Nat) (hij : i < j) (him : i ≤ m) : rot (swR E (m - i) (m + j - i) i) (m - i) m (m + (j - i)) = rot E (m - i) m (m + j) := by
  funext k
  unfold rot swR
  repeat' split
  all_goals first | (exfalso; omega) | (congr 1 <;> omega)
theorem rot_eq {α : Type} (E : Nat → α) (m i : Nat) (him : i ≤ m) : swR E (m - i) m i = rot E (m - i) m (m + i) := by
  funext k
  unfold rot swR
  repeat' split
  all_goals first | (exfalso; omega) | (congr 1 <;> omega)
section
variable {α : Type} {enc : α → Value} {w0 : World} {H : List Asn}
set_option maxHeartbeats 1000000 in
theorem Rot_c (h1 : ∀ x, Sx.one (enc x)) (u v : Value) (N : Nat) (D : Nat → α) (a m b : Nat) (hN : N ≤ 1000000) (ham : a < m) (hmb : m < b) (hb : b ≤ N) (w : World) (hw : St w0 (vec 89 1 u N (vals enc D N) :: H) w) :
    Calls Tryz.prog 127 #[u, .int .i64 a, .int .i64 m, .int .i64 b, v] w fun e w' => e = .returned (.tuple #[]) ∧ St w0 (vec 89 1 u N (vals enc (rot D a m b) N) :: H) w' := by
  refine enter (vs := [u, .int .i64 a, .int .i64 m, .int .i64 b, v]) Tryz.func127 rfl rfl rfl hw ?_
  repeat (first | (apply gJR; first | (refine sx ?_; try intro _)) | (apply gJO; first | (refine sx ?_; try intro _)) | apply JS_seq | apply JS_region)
  refine JS_block ?_
  refine JS_loop3 (fun (E : Nat → α) (i j : Nat) => [(0, u), (2, .int .i64 m), (4, v), (10, .int .i64 i), (11, .int .i64 j)]) (fun E _ _ => vec 89 1 u N (vals enc E N) :: H)
    (fun E i j => 1 ≤ i ∧ 1 ≤ j ∧ i ≤ m ∧ m + j ≤ b ∧ rot E (m - i) m (m + j) = rot D a m b) (fun _ i j => i + j) D (m - a) (b - m) ⟨by omega, by omega, by omega, by omega, by rw [show m - (m - a) = a by omega, show m + (b - m) = b by omega]⟩
    ⟨rfl, rfl, rfl, lookI rfl (by omega), lookI rfl (by omega), trivial⟩ (fun w hw => hw) ?_
  intro E i j ⟨hi, hj, him, hjb, hE⟩ again
  rcases Nat.lt_trichotomy i j with hij | hij | hij
  · have e1 : IntKind.i64.wrap ((m : Int) - (i : Int)) = ((m - i : Nat) : Int) := (wi64 (by omega)).trans (by omega)
    have e2 : IntKind.i64.wrap ((m : Int) + (j : Int)) = ((m + j : Nat) : Int) := (wi64 (by omega)).trans (by omega)
    have e3 : IntKind.i64.wrap (((m + j : Nat) : Int) - (i : Int)) = ((m + j - i : Nat) : Int) := (wi64 (by omega)).trans (by omega)
    have e4 : IntKind.i64.wrap ((j : Int) - (i : Int)) = ((j - i : Nat) : Int) := (wi64 (by omega)).trans (by omega)
    repeat (first | (apply gJO; first | refine JO_v (V_sub rfl rfl e1 rfl) ?_ | refine JO_v (V_add rfl rfl e2 rfl) ?_ | refine JO_v (V_sub rfl rfl e3 rfl) ?_ | refine JO_v (V_sub rfl rfl e4 rfl) ?_) | (first | (refine sx ?_; try intro _)))
    refine JO_call Tryz.call128 rfl rfl fun w hw => (SwapR_c h1 u v N E (m - i) (m + j - i) i hN (by omega) (by omega) w hw).mono ?_
    rintro e w' ⟨rfl, hw'⟩
    refine ⟨_, rfl, _, hw', ?_⟩
    clear hw' hw w w'
    repeat (first | (apply gJO; refine JO_v (V_sub rfl rfl e4 rfl) ?_) | (first | (refine sx ?_; try intro _)))
    exact JS_again3 again _ i (j - i) ⟨hi, by omega, him, by omega, (rot_lt E m i j hij him).trans hE⟩ (by omega) (by repeat (first | exact trivial | refine ⟨rfl, ?_⟩ | refine ⟨lookI rfl (by omega), ?_⟩)) (fun w hw => hw)
  · subst hij
    clear again
    have e1 : IntKind.i64.wrap ((m : Int) - (i : Int)) = ((m - i : Nat) : Int) := (wi64 (by omega)).trans (by omega)
    repeat (first | (apply gJO; first | refine JO_v (V_sub rfl rfl e1 rfl) ?_) | (first | (refine sx ?_; try intro _)))
    refine JO_call Tryz.call128 rfl rfl fun w hw => (SwapR_c h1 u v N E (m - i) m i hN (by omega) (by omega) w hw).mono ?_
    rintro e w' ⟨rfl, hw'⟩
    refine ⟨_, rfl, _, hw', ?_⟩
    clear hw' hw w w'
    repeat (first | (refine sx ?_; try intro _))
    refine JS_fin Tryz.func127 rfl rfl ?_
    intro w hw
    rw [rot_eq E m i him, hE] at hw
    exact ⟨rfl, hw⟩
  · have e1 : IntKind.i64.wrap ((m : Int) - (i : Int)) = ((m - i : Nat) : Int) := (wi64 (by omega)).trans (by omega)
    have e4 : IntKind.i64.wrap ((i : Int) - (j : Int)) = ((i - j : Nat) : Int) := (wi64 (by omega)).trans (by omega)
    repeat (first | (apply gJO; first | refine JO_v (V_sub rfl rfl e1 rfl) ?_ | refine JO_v (V_sub rfl rfl e4 rfl) ?_) | (first | (refine sx ?_; try intro _)))
    refine JO_call Tryz.call128 rfl rfl fun w hw => (SwapR_c h1 u v N E (m - i) m j hN (by omega) (by omega) w hw).mono ?_
    rintro e w' ⟨rfl, hw'⟩
    refine ⟨_, rfl, _, hw', ?_⟩
    clear hw' hw w w'
    repeat (first | (apply gJO; refine JO_v (V_sub rfl rfl e4 rfl) ?_) | (first | (refine sx ?_; try intro _)))
    exact JS_again3 again _ (i - j) j ⟨by omega, hj, by omega, hjb, (rot_gt E m i j hij him).trans hE⟩ (by omega) (by repeat (first | exact trivial | refine ⟨rfl, ?_⟩ | refine ⟨lookI rfl (by omega), ?_⟩)) (fun w hw => hw)
end
end Go.Proofs.YtbiocgenbgbfpaaGreat

namespace Go.Proofs.YtbiocgenbgbfpaaGreat
open Sx Go Pm
set_option linter.unusedVariables false
set_option linter.unusedSimpArgs false
/-! a sort by insertion -/
/-- which one is more -/
def cmpI (a b : Nat) : Int := if a < b then -1 else if b < a then 1 else 0
theorem cmpI_lt {a b : Nat} : cmpI a b < 0 ↔ a < b := by
  unfold cmpI
  split
  · rename_i h; exact ⟨fun _ => h, fun _ => by decide⟩
  · rename_i h
    split
    · exact ⟨fun h' => absurd h' (by decide), fun h' => absurd h' h⟩
    · exact ⟨fun h' => absurd h' (by decide), fun h' => absurd h' h⟩
/-- the one at i moves down to j -/
def mvD {α : Type} (E : Nat → α) (i j : Nat) : Nat → α := fun k => if k = j then E i else if j < k ∧ k ≤ i then E (k - 1) else E k
theorem mvD_id {α : Type} (E : Nat → α) (i : Nat) : mvD E i i = E := by
  funext k
  unfold mvD
  split
  · rename_i h; rw [h]
  · rw [if_neg (by omega)]
theorem mvD_step {α : Type} (E : Nat → α) (i j : Nat) (hj : j < i) : upd (upd (mvD E i (j + 1)) (j + 1) (mvD E i (j + 1) j)) j (mvD E i (j + 1) (j + 1)) = mvD E i j := by
  funext k
  have e1 : mvD E i (j + 1) j = E j := by unfold mvD; rw [if_neg (by omega), if_neg (by omega)]
  have e2 : mvD E i (j + 1) (j + 1) = E i := by unfold mvD; rw [if_pos rfl]
  rw [e1, e2]
  unfold mvD upd
  by_cases h1 : k = j
  · rw [if_pos h1, if_pos h1]
  · rw [if_neg h1, if_neg h1]
    show (if k = j + 1 then E j else if k = j + 1 then E i else if j + 1 < k ∧ k ≤ i then E (k - 1) else E k) = _
    by_cases h2 : k = j + 1
    · rw [if_pos h2, if_pos (by omega), show k - 1 = j by omega]
    · rw [if_neg h2, if_neg h2]
      by_cases h3 : j + 1 < k ∧ k ≤ i
      · rw [if_pos h3, if_pos (by omega)]
      · rw [if_neg h3, if_neg (by omega)]
theorem mvD_sg {α : Type} (E : Nat → α) (a i j : Nat) (h1 : a ≤ j) (h2 : j ≤ i) : sg (mvD E i j) a (i + 1 - a) = sg E a (j - a) ++ E i :: sg E j (i - j) := by
  rw [show i + 1 - a = (j - a) + ((i - j) + 1) by omega, sg_add, show a + (j - a) = j by omega, sg]
  congr 1
  · exact sg_congr _ _ _ fun k hk => by unfold mvD; rw [if_neg (by omega), if_neg (by omega)]
  · congr 1
    · unfold mvD; rw [if_pos rfl]
    · exact sg_congr _ _ _ fun k hk => by unfold mvD; rw [if_neg (by omega), if_pos (by omega), show j + 1 + k - 1 = j + k by omega]
theorem sg_snoc {α : Type} (D : Nat → α) (a n : Nat) : sg D a (n + 1) = sg D a n ++ [D (a + n)] := sg_add D 1 n a
section
variable {α : Type} {enc : α → Value} {ω : α → Nat} {w0 : World} {H : List Asn}
/-- two of a row are weighed, and the row stays -/
def Cmp (enc : α → Value) (ω : α → Nat) (w0 : World) (H : List Asn) (q : Nat) (u : Value) (N : Nat) : Prop :=
  (∀ args w, (callFunc q args).run Tryz.prog w = .ok (.enter q args) w) ∧
  ∀ (D : Nat → α) (x y : α) (w : World), 0 < N → St w0 (vec 89 1 u N (vals enc D N) :: H) w →
    Calls Tryz.prog q #[enc x, enc y] w fun e w' => e = .returned (.int .i64 (cmpI (ω x) (ω y))) ∧ St w0 (vec 89 1 u N (vals enc D N) :: H) w'
set_option maxHeartbeats 2000000 in
theorem Ins_c (h1 : ∀ x, Sx.one (enc x)) (u : Value) (q N : Nat) (hc : Cmp enc ω w0 H q u N) (D : Nat → α) (a b : Nat) (hN : N ≤ 1000000) (hab : a ≤ b) (hb : b ≤ N) (w : World) (hw : St w0 (vec 89 1 u N (vals enc D N) :: H) w) :
    Calls Tryz.prog 121 #[u, .int .i64 a, .int .i64 b, .func (.func q) #[] #[]] w fun e w' => e = .returned (.tuple #[]) ∧ ∃ D', St w0 (vec 89 1 u N (vals enc D' N) :: H) w' ∧ (∀ k, k < a ∨ b ≤ k → D' k = D k) ∧ sg D' a (b - a) = isrt ω (sg D a (b - a)) := by
  refine enter (vs := [u, .int .i64 a, .int .i64 b, .func (.func q) #[] #[]]) Tryz.func121 rfl rfl rfl hw ?_
  repeat (first | (apply gJR; first | (refine sx ?_; try intro _)) | (apply gJO; first | (refine sx ?_; try intro _)) | apply JS_seq | apply JS_region)
  refine JS_block ?_
  refine JS_loop2 (fun (E : Nat → α) (i : Nat) => [(0, u), (1, .int .i64 a), (2, .int .i64 b), (3, .func (.func q) #[] #[]), (8, .int .i64 i)]) (fun E _ => vec 89 1 u N (vals enc E N) :: H)
    (fun E i => a < i ∧ (i ≤ b ∨ i = a + 1) ∧ (∀ k, k < a ∨ i ≤ k → E k = D k) ∧ sg E a (i - a) = isrt ω (sg D a (i - a))) (fun _ i => b - i) D (a + 1) ⟨by omega, .inr rfl, fun _ _ => rfl, by rw [show a + 1 - a = 1 by omega]; exact (isrt_one ω _).symm⟩ (by repeat (first | exact trivial | refine ⟨rfl, ?_⟩ | refine ⟨lookI rfl (by omega), ?_⟩)) (fun w hw => hw) ?_
  intro E i ⟨hai, hib, hE1, hE2⟩ again
  by_cases hlt : i < b
  · repeat (first | (apply gJR; first | (refine sx ?_; try intro _)) | (apply gJO; first | (refine sx ?_; try intro _)) | apply JS_seq | apply JS_region | (apply gJS; refine JS_condT rfl ?_) | apply JS_skip | (apply gJS; refine JS_cond_T rfl (by omega) ?_))
    refine JS_block ?_
    repeat (first | (apply gJR; first | (refine sx ?_; try intro _)) | (apply gJO; first | (refine sx ?_; try intro _)) | apply JS_seq | apply JS_region)
    refine JS_block ?_
    have hs : SrtW ω (sg E a (i - a)) := by rw [hE2]; exact isrt_srt ω _
    refine JS_loop1 (fun (j : Nat) => [(0, u), (1, .int .i64 a), (2, .int .i64 b), (3, .func (.func q) #[] #[]), (8, .int .i64 i), (9, .int .i64 j)]) (fun j => vec 89 1 u N (vals enc (mvD E i j) N) :: H)
      (fun j => a ≤ j ∧ j ≤ i ∧ ∀ k, j ≤ k → k < i → ω (E i) < ω (E k)) (fun j => j) i ⟨by omega, Nat.le_refl _, fun k _ _ => by omega⟩ (by repeat (first | exact trivial | refine ⟨rfl, ?_⟩ | refine ⟨lookI rfl (by omega), ?_⟩)) (fun w hw => by rw [mvD_id]; exact hw) ?_
    intro j ⟨haj, hji, hjk⟩ again2
    have fin : (j = a ∨ a < j ∧ ω (E (j - 1)) ≤ ω (E i)) → sg (mvD E i j) a (i + 1 - a) = isrt ω (sg D a (i + 1 - a)) := fun h => by
      rw [mvD_sg E a i j haj hji, show i + 1 - a = (i - a) + 1 by omega, sg_snoc, isrt_snoc, ← hE2, show a + (i - a) = i by omega, ← hE1 i (.inr (Nat.le_refl _)), show i - a = (j - a) + (i - j) by omega, sg_add, show a + (j - a) = j by omega]
      refine (mrg_ins ω _ _ _ (fun l hl => ?_) (fun l hl => ?_)).symm
      · obtain ⟨k, hk, rfl⟩ := sg_mem hl
        rcases h with h | ⟨h, h'⟩
        · omega
        · rcases Nat.lt_or_ge (a + k) (j - 1) with hk' | hk'
          · exact Nat.le_trans (srt_sg hs (a + k) (j - 1) (by omega) hk' (by omega)) h'
          · rw [show a + k = j - 1 by omega]; exact h'
      · obtain ⟨k, hk, rfl⟩ := sg_mem hl
        exact hjk _ (by omega) (by omega)
    have next : ∀ k, k < a ∨ i + 1 ≤ k → mvD E i j k = D k := fun k hk => by
      unfold mvD
      rw [if_neg (by omega), if_neg (by omega)]
      exact hE1 k (by omega)
    by_cases hja : a < j
    · obtain ⟨j, rfl⟩ : ∃ j', j = j' + 1 := ⟨j - 1, by omega⟩
      have e1 : IntKind.i64.wrap (((j + 1 : Nat) : Int) - 1) = (j : Int) := (wi64 (by omega)).trans (by omega)
      have hj0 : j < N := by omega
      have hj1 : j + 1 < N := by omega
      repeat (first | (apply gQO; first | refine QO_v rfl (V_loadC (tb := tb) rfl (vec_rd (H := vec 89 1 u N (vals enc (mvD E i (j + 1)) N) :: H) (List.Mem.head _)) rfl rfl (vals_get enc (by assumption)) rfl) ?_ | refine QO_v rfl (V_sub rfl rfl e1 rfl) ?_) | (first | (refine sx ?_; try intro _)))
      refine QO_callv (us := []) (cs := []) rfl rfl hc.1 rfl rfl fun w hw => (hc.2 _ _ _ w (by omega) hw).mono ?_
      rintro e w' ⟨rfl, hw'⟩
      refine ⟨_, rfl, _, hw', .inl fun w hw => hw, ?_⟩
      clear hw' hw w w'
      have m1 : mvD E i (j + 1) (j + 1) = E i := by unfold mvD; rw [if_pos rfl]
      have m2 : mvD E i (j + 1) j = E j := by unfold mvD; rw [if_neg (by omega), if_neg (by omega)]
      rw [m1, m2]
      have hcm := cmpI_lt (a := ω (E i)) (b := ω (E j))
      obtain ⟨r, hr⟩ : ∃ r, cmpI (ω (E i)) (ω (E j)) = r := ⟨_, rfl⟩
      rw [hr] at hcm ⊢
      by_cases hlt2 : ω (E i) < ω (E j)
      · have hr0 := hcm.2 hlt2
        clear hr hcm
        repeat (first | (apply gQR; first | (refine sx ?_; try intro _)) | (apply gQO; first | (refine sx ?_; try intro _)) | (apply gJR; first | (refine sx ?_; try intro _)) | (apply gJO; first | (refine sx ?_; try intro _)) | apply JS_seq | apply JS_region | (apply gJS; refine JS_condT rfl ?_) | apply JS_skip | (apply gJS; refine JS_cond_T rfl (by omega) ?_) | apply JS_block)
        refine Sx.Cm.JS_orderC [0, 1, 2, 3, 4, 5, 6, 7, 10, 11] [8, 9, 12, 13, 14, 15, 16, 17] [2, 0] (Picks.cons rfl (Picks.cons rfl (Picks.cons rfl (Picks.cons rfl (Picks.cons rfl (Picks.cons rfl (Picks.cons rfl (Picks.cons rfl (Picks.cons rfl (Picks.cons rfl (Picks.nil))))))))))) (Picks.cons rfl (Picks.cons rfl (Picks.cons rfl (Picks.cons rfl (Picks.cons rfl (Picks.cons rfl (Picks.cons rfl (Picks.cons rfl (Picks.nil))))))))) (by kernel_rfl) (by kernel_rfl) rfl (by decide +kernel) ?_
        repeat (first | (apply Sx.Cm.gQC; first | refine Sx.Cm.QC_v (fun _ => V_sub rfl rfl e1 rfl) ?_ | refine aC ?_ | refine Sx.Cm.QC_nil ?_) | (apply gQO; refine QO_v rfl (V_loadC (tb := tb) rfl (vec_rd (H := vec 89 1 u N (vals enc (mvD E i (j + 1)) N) :: H) (List.Mem.head _)) rfl rfl (vals_get enc (by assumption)) rfl) ?_) | (apply gQO; refine QO_k rfl (K_storeC1 (tb := tb) rfl rfl (vals_set enc) (Upd.here _ _ _) rfl (h1 _) (by rw [vals_len]; assumption) rfl) rfl ?_) | (apply gJO; refine JO_v (V_sub rfl rfl e1 rfl) ?_) | (first | (refine sx ?_; try intro _)))
        rw [mvD_step E i j (by omega)]
        exact JS_again1 again2 j ⟨by omega, by omega, fun k hk hk2 => by
          rcases Nat.lt_or_ge j k with h | h
          · exact hjk k h hk2
          · rw [show k = j by omega]; exact hlt2⟩ (by omega) (by repeat (first | exact trivial | refine ⟨rfl, ?_⟩ | refine ⟨lookI rfl (by omega), ?_⟩)) (fun w hw => hw)
      · have hr0 : ¬ r < 0 := fun h => hlt2 (hcm.1 h)
        clear hr hcm
        clear again2
        have f := fin (.inr ⟨hja, by rw [show j + 1 - 1 = j by omega]; omega⟩)
        repeat (first | (refine sx ?_; try intro _))
        exact JS_again2 again (mvD E i (j + 1)) (i + 1) ⟨by omega, .inl (by omega), next, f⟩ (by omega) (by repeat (first | exact trivial | refine ⟨rfl, ?_⟩ | refine ⟨lookI rfl (by omega), ?_⟩)) (fun w hw => hw)
    · have hja' : j = a := by omega
      clear again2
      have f := fin (.inl hja')
      repeat (first | (refine sx ?_; try intro _))
      exact JS_again2 again (mvD E i j) (i + 1) ⟨by omega, .inl (by omega), next, f⟩ (by omega) (by repeat (first | exact trivial | refine ⟨rfl, ?_⟩ | refine ⟨lookI rfl (by omega), ?_⟩)) (fun w hw => hw)
  · clear again
    repeat (first | (refine sx ?_; try intro _))
    refine JS_fin Tryz.func121 rfl rfl ?_
    intro w hw
    refine ⟨rfl, E, hw, ?_, ?_⟩
    · intro k hk
      rcases hk with hk | hk
      · exact hE1 k (.inl hk)
      · rcases Nat.lt_or_ge k i with h | h
        · have hka : k = a := by omega
          have e := hE2
          rw [show i - a = 1 by omega] at e
          rw [hka]
          simpa [sg, isrt_one] using e
        · exact hE1 k (.inr h)
    · rcases Nat.lt_or_ge a b with h | h
      · rw [show b = i by omega]; exact hE2
      · rw [show b - a = 0 by omega]; rfl
end
end Go.Proofs.YtbiocgenbgbfpaaGreat

namespace Go.Proofs.YtbiocgenbgbfpaaGreat
open Sx Go Pm
set_option linter.unusedVariables false
set_option linter.unusedSimpArgs false
/-! two sorted parts are merged in place -/
/-- the one at a moves up to i -/
def mvU {α : Type} (E : Nat → α) (a i : Nat) : Nat → α := fun k => if k = i then E a else if a ≤ k ∧ k < i then E (k + 1) else E k
theorem mvU_id {α : Type} (E : Nat → α) (a : Nat) : mvU E a a = E := by
  funext k
  unfold mvU
  split
  · rename_i h; rw [h]
  · rw [if_neg (by omega)]
theorem mvU_step {α : Type} (E : Nat → α) (a k : Nat) (h : a ≤ k) : upd (upd (mvU E a k) k (mvU E a k (k + 1))) (k + 1) (mvU E a k k) = mvU E a (k + 1) := by
  have e1 : mvU E a k (k + 1) = E (k + 1) := by unfold mvU; rw [if_neg (by omega), if_neg (by omega)]
  have e2 : mvU E a k k = E a := by unfold mvU; rw [if_pos rfl]
  rw [e1, e2]
  funext p
  unfold mvU upd
  by_cases h1 : p = k + 1
  · rw [if_pos h1, if_pos h1]
  · rw [if_neg h1, if_neg h1]
    show (if p = k then E (k + 1) else if p = k then E a else if a ≤ p ∧ p < k then E (p + 1) else E p) = _
    by_cases h2 : p = k
    · rw [if_pos h2, if_pos (by omega), h2]
    · rw [if_neg h2, if_neg h2]
      by_cases h3 : a ≤ p ∧ p < k
      · rw [if_pos h3, if_pos (by omega)]
      · rw [if_neg h3, if_neg (by omega)]
theorem mvU_sg {α : Type} (E : Nat → α) (a i b : Nat) (h1 : a < i) (h2 : i ≤ b) : sg (mvU E a (i - 1)) a (b - a) = sg E (a + 1) (i - (a + 1)) ++ E a :: sg E i (b - i) := by
  rw [show b - a = (i - (a + 1)) + ((b - i) + 1) by omega, sg_add, show a + (i - (a + 1)) = i - 1 by omega, sg, show i - 1 + 1 = i by omega]
  congr 1
  · exact sg_congr _ _ _ fun k hk => by unfold mvU; rw [if_neg (by omega), if_pos (by omega), show a + k + 1 = a + 1 + k by omega]
  · congr 1
    · unfold mvU; rw [if_pos rfl]
    · exact sg_congr _ _ _ fun k hk => by unfold mvU; rw [if_neg (by omega), if_neg (by omega)]
section
variable {α : Type} {enc : α → Value} {ω : α → Nat} {w0 : World} {H : List Asn}
set_option maxHeartbeats 2000000 in
/-- one is put into those behind it -/
theorem SymL_c (h1 : ∀ x, Sx.one (enc x)) (u : Value) (q N : Nat) (hc : Cmp enc ω w0 H q u N) (D : Nat → α) (a m b : Nat) (hN : N ≤ 1000000) (ham : m = a + 1) (hmb : m < b) (hb : b ≤ N) (hR : SrtW ω (sg D m (b - m))) (w : World) (hw : St w0 (vec 89 1 u N (vals enc D N) :: H) w) :
    Calls Tryz.prog 122 #[u, .int .i64 a, .int .i64 m, .int .i64 b, .func (.func q) #[] #[]] w fun e w' => e = .returned (.tuple #[]) ∧ ∃ D', St w0 (vec 89 1 u N (vals enc D' N) :: H) w' ∧ (∀ k, k < a ∨ b ≤ k → D' k = D k) ∧ sg D' a (b - a) = mrg ω (sg D a (m - a)) (sg D m (b - m)) := by
  refine enter (vs := [u, .int .i64 a, .int .i64 m, .int .i64 b, .func (.func q) #[] #[]]) Tryz.func122 rfl rfl rfl hw ?_
  repeat (first | (apply gJR; first | (refine sx ?_; try intro _)) | (apply gJO; first | (refine sx ?_; try intro _)) | apply JS_seq | apply JS_region | (apply gJS; refine JS_condT rfl ?_) | (apply gJS; refine JS_cond_T rfl (by omega) ?_))
  refine JS_block ?_
  refine JS_loop2 (fun (i j : Nat) => [(0, u), (1, .int .i64 a), (2, .int .i64 m), (3, .int .i64 b), (4, .func (.func q) #[] #[]), (10, .int .i64 i), (11, .int .i64 j)]) (fun i _ => vec 89 1 u N (vals enc D N) :: H)
    (fun i j => m ≤ i ∧ i ≤ j ∧ j ≤ b ∧ (∀ k, m ≤ k → k < i → ω (D k) < ω (D a)) ∧ ∀ k, j ≤ k → k < b → ω (D a) ≤ ω (D k)) (fun i j => j - i) m b ⟨Nat.le_refl _, by omega, Nat.le_refl _, fun k _ _ => by omega, fun k _ _ => by omega⟩ (by repeat (first | exact trivial | refine ⟨rfl, ?_⟩ | refine ⟨lookI rfl (by omega), ?_⟩)) (fun w hw => hw) ?_
  intro i j ⟨hmi, hij, hjb, hlo, hhi⟩ again
  by_cases hlt : i < j
  · obtain ⟨h, hh⟩ : ∃ h : Nat, h = (i + j) / 2 := ⟨_, rfl⟩
    have e1 : IntKind.i64.wrap ((i : Int) + (j : Int)) = ((i + j : Nat) : Int) := (wi64 (by omega)).trans (by omega)
    have e2 : IntKind.u64.wrap ((i + j : Nat) : Int) = ((i + j : Nat) : Int) := wu64 (by omega)
    have e3 : ((i + j : Nat) : Int) / 2 ^ 1 = (h : Int) := by omega
    have e4 : IntKind.i64.wrap (h : Int) = (h : Int) := wi64 (by omega)
    have hh0 : h < N := by omega
    have ha0 : a < N := by omega
    have hho : h < j ∧ i ≤ h := by omega
    clear hh
    repeat (first | (apply gJO; first | refine JO_v (V_add rfl rfl e1 rfl) ?_ | refine JO_v (V_conv (tb := tb) rfl rfl rfl e2 rfl) ?_ | refine JO_v (V_shr (m := 1) rfl rfl (by omega) rfl e3 rfl) ?_ | refine JO_v (V_conv (tb := tb) rfl rfl rfl e4 rfl) ?_) | (apply gQO; refine QO_v rfl (V_loadC (tb := tb) rfl (vec_rd (List.Mem.head _)) rfl rfl (vals_get enc (by assumption)) rfl) ?_) | (first | (refine sx ?_; try intro _)))
    refine QO_callv (us := []) (cs := []) rfl rfl hc.1 rfl rfl fun w hw => (hc.2 _ _ _ w (by omega) hw).mono ?_
    rintro e w' ⟨rfl, hw'⟩
    refine ⟨_, rfl, _, hw', .inl fun w hw => hw, ?_⟩
    clear hw' hw w w'
    have hcm := cmpI_lt (a := ω (D h)) (b := ω (D a))
    obtain ⟨r, hr⟩ : ∃ r, cmpI (ω (D h)) (ω (D a)) = r := ⟨_, rfl⟩
    rw [hr] at hcm ⊢
    have hmon : ∀ k l, m ≤ k → k ≤ l → l < b → ω (D k) ≤ ω (D l) := fun k l hk hkl hl => by
      rcases Nat.lt_or_ge k l with h' | h'
      · exact srt_sg hR k l hk h' (by omega)
      · rw [show k = l by omega]; exact Nat.le_refl _
    by_cases hlt2 : ω (D h) < ω (D a)
    · have hr0 := hcm.2 hlt2
      clear hr hcm
      repeat (first | (refine sx ?_; try intro _))
      exact JS_again2 again (h + 1) j ⟨by omega, by omega, hjb, fun k hk hk2 => Nat.lt_of_le_of_lt (hmon k h hk (by omega) (by omega)) hlt2, hhi⟩ (by omega) (by repeat (first | exact trivial | refine ⟨rfl, ?_⟩ | refine ⟨lookI rfl (by omega), ?_⟩)) (fun w hw => hw)
    · have hr0 : ¬ r < 0 := fun h => hlt2 (hcm.1 h)
      clear hr hcm
      repeat (first | (refine sx ?_; try intro _))
      exact JS_again2 again i h ⟨hmi, by omega, by omega, hlo, fun k hk hk2 => Nat.le_trans (by omega) (hmon h k (by omega) hk hk2)⟩ (by omega) (by repeat (first | exact trivial | refine ⟨rfl, ?_⟩ | refine ⟨lookI rfl (by omega), ?_⟩)) (fun w hw => hw)
  · obtain rfl : i = j := by omega
    clear again hlt hij
    repeat (first | (apply gJR; first | (refine sx ?_; try intro _)) | (apply gJO; first | (refine sx ?_; try intro _)) | apply JS_seq | apply JS_region | (apply gJS; refine JS_condF rfl ?_) | (apply gJS; refine JS_cond_F rfl (by omega) ?_) | (apply gJS; refine JS_exit rfl ?_))
    refine JS_block ?_
    refine JS_loop1 (fun (k : Nat) => [(0, u), (1, .int .i64 a), (2, .int .i64 m), (3, .int .i64 b), (4, .func (.func q) #[] #[]), (10, .int .i64 i), (13, .int .i64 k)]) (fun k => vec 89 1 u N (vals enc (mvU D a k) N) :: H)
      (fun k => a ≤ k ∧ k ≤ i - 1) (fun k => i - k) a ⟨Nat.le_refl _, by omega⟩ (by repeat (first | exact trivial | refine ⟨rfl, ?_⟩ | refine ⟨lookI rfl (by omega), ?_⟩)) (fun w hw => by rw [mvU_id]; exact hw) ?_
    intro k ⟨hak, hki⟩ again
    have e1 : IntKind.i64.wrap ((i : Int) - 1) = ((i - 1 : Nat) : Int) := (wi64 (by omega)).trans (by omega)
    by_cases hlt : k < i - 1
    · have hk0 : k < N := by omega
      have hk1 : k + 1 < N := by omega
      repeat (first | (apply gJR; first | (refine sx ?_; try intro _)) | (apply gJO; first | refine JO_v (V_sub rfl rfl e1 rfl) ?_ | first | (refine sx ?_; try intro _)) | apply JS_seq | apply JS_region | (apply gJS; refine JS_condT rfl ?_) | apply JS_skip | (apply gJS; refine JS_cond_T rfl (by omega) ?_) | apply JS_block)
      refine Sx.Cm.JS_orderC [0, 1, 2, 3, 4, 5, 6, 7, 10, 11] [8, 9, 12, 13, 14, 15, 16, 17] [2, 0] (Picks.cons rfl (Picks.cons rfl (Picks.cons rfl (Picks.cons rfl (Picks.cons rfl (Picks.cons rfl (Picks.cons rfl (Picks.cons rfl (Picks.cons rfl (Picks.cons rfl (Picks.nil))))))))))) (Picks.cons rfl (Picks.cons rfl (Picks.cons rfl (Picks.cons rfl (Picks.cons rfl (Picks.cons rfl (Picks.cons rfl (Picks.cons rfl (Picks.nil))))))))) (by kernel_rfl) (by kernel_rfl) rfl (by decide +kernel) ?_
      clear e1
      repeat (first | (apply Sx.Cm.gQC; first | refine aC ?_ | refine Sx.Cm.QC_nil ?_) | (apply gQO; refine QO_v rfl (V_loadC (tb := tb) rfl (vec_rd (List.Mem.head _)) rfl rfl (vals_get enc (by assumption)) rfl) ?_) | (apply gQO; refine QO_k rfl (K_storeC1 (tb := tb) rfl rfl (vals_set enc) (Upd.here _ _ _) rfl (h1 _) (by rw [vals_len]; assumption) rfl) rfl ?_) | (first | (refine sx ?_; try intro _)))
      rw [mvU_step D a k hak]
      exact JS_again1 again (k + 1) ⟨by omega, by omega⟩ (by omega) (by repeat (first | exact trivial | refine ⟨rfl, ?_⟩ | refine ⟨lookI rfl (by omega), ?_⟩)) (fun w hw => hw)
    · obtain rfl : k = i - 1 := by omega
      clear again
      repeat (first | (apply gJO; first | refine JO_v (V_sub rfl rfl e1 rfl) ?_) | (first | (refine sx ?_; try intro _)))
      refine JS_ret Tryz.func122 rfl rfl ?_
      intro w hw
      refine ⟨rfl, _, hw, fun k hk => ?_, ?_⟩
      · unfold mvU; rw [if_neg (by omega), if_neg (by omega)]
      · rw [mvU_sg D a i b (by omega) hjb, show m - a = 1 by omega, show b - m = (i - m) + (b - i) by omega, sg_add, show m + (i - m) = i by omega, ← ham]
        refine (mrg_insL ω _ _ _ (fun r hr => ?_) (fun r hr => ?_)).symm
        · obtain ⟨k, hk, rfl⟩ := sg_mem hr
          exact hlo _ (by omega) (by omega)
        · obtain ⟨k, hk, rfl⟩ := sg_mem hr
          exact hhi _ (by omega) (by omega)
end
end Go.Proofs.YtbiocgenbgbfpaaGreat

namespace Go.Proofs.YtbiocgenbgbfpaaGreat
open Sx Go Pm
set_option linter.unusedVariables false
set_option linter.unusedSimpArgs false
section
variable {α : Type} {enc : α → Value} {ω : α → Nat} {w0 : World} {H : List Asn}
set_option maxHeartbeats 2000000 in
/-- one is put into those before it -/
theorem SymR_c (h1 : ∀ x, Sx.one (enc x)) (u : Value) (q N : Nat) (hc : Cmp enc ω w0 H q u N) (D : Nat → α) (a m b : Nat) (hN : N ≤ 1000000) (ham : a + 1 < m) (hmb : b = m + 1) (hb : b ≤ N) (hL : SrtW ω (sg D a (m - a))) (w : World) (hw : St w0 (vec 89 1 u N (vals enc D N) :: H) w) :
    Calls Tryz.prog 122 #[u, .int .i64 a, .int .i64 m, .int .i64 b, .func (.func q) #[] #[]] w fun e w' => e = .returned (.tuple #[]) ∧ ∃ D', St w0 (vec 89 1 u N (vals enc D' N) :: H) w' ∧ (∀ k, k < a ∨ b ≤ k → D' k = D k) ∧ sg D' a (b - a) = mrg ω (sg D a (m - a)) (sg D m (b - m)) := by
  refine enter (vs := [u, .int .i64 a, .int .i64 m, .int .i64 b, .func (.func q) #[] #[]]) Tryz.func122 rfl rfl rfl hw ?_
  repeat (first | (apply gJR; first | (refine sx ?_; try intro _)) | (apply gJO; first | (refine sx ?_; try intro _)) | apply JS_seq | apply JS_region | apply JS_skip | (apply gJS; refine JS_condT rfl ?_) | (apply gJS; refine JS_condF rfl ?_) | (apply gJS; refine JS_cond_T rfl (by omega) ?_) | (apply gJS; refine JS_cond_F rfl (by omega) ?_))
  refine JS_block ?_
  refine JS_loop2 (fun (i j : Nat) => [(0, u), (1, .int .i64 a), (2, .int .i64 m), (3, .int .i64 b), (4, .func (.func q) #[] #[]), (14, .int .i64 i), (15, .int .i64 j)]) (fun i _ => vec 89 1 u N (vals enc D N) :: H)
    (fun i j => a ≤ i ∧ i ≤ j ∧ j ≤ m ∧ (∀ k, a ≤ k → k < i → ω (D k) ≤ ω (D m)) ∧ ∀ k, j ≤ k → k < m → ω (D m) < ω (D k)) (fun i j => j - i) a m ⟨Nat.le_refl _, by omega, Nat.le_refl _, fun k _ _ => by omega, fun k _ _ => by omega⟩ (by repeat (first | exact trivial | refine ⟨rfl, ?_⟩ | refine ⟨lookI rfl (by omega), ?_⟩)) (fun w hw => hw) ?_
  intro i j ⟨hai, hij, hjm, hlo, hhi⟩ again
  by_cases hlt : i < j
  · obtain ⟨h, hh⟩ : ∃ h : Nat, h = (i + j) / 2 := ⟨_, rfl⟩
    have e1 : IntKind.i64.wrap ((i : Int) + (j : Int)) = ((i + j : Nat) : Int) := (wi64 (by omega)).trans (by omega)
    have e2 : IntKind.u64.wrap ((i + j : Nat) : Int) = ((i + j : Nat) : Int) := wu64 (by omega)
    have e3 : ((i + j : Nat) : Int) / 2 ^ 1 = (h : Int) := by omega
    have e4 : IntKind.i64.wrap (h : Int) = (h : Int) := wi64 (by omega)
    have hh0 : h < N := by omega
    have hm0 : m < N := by omega
    have hho : h < j ∧ i ≤ h := by omega
    clear hh
    repeat (first | (apply gJO; first | refine JO_v (V_add rfl rfl e1 rfl) ?_ | refine JO_v (V_conv (tb := tb) rfl rfl rfl e2 rfl) ?_ | refine JO_v (V_shr (m := 1) rfl rfl (by omega) rfl e3 rfl) ?_ | refine JO_v (V_conv (tb := tb) rfl rfl rfl e4 rfl) ?_) | (apply gQO; refine QO_v rfl (V_loadC (tb := tb) rfl (vec_rd (List.Mem.head _)) rfl rfl (vals_get enc (by assumption)) rfl) ?_) | (first | (refine sx ?_; try intro _)))
    refine QO_callv (us := []) (cs := []) rfl rfl hc.1 rfl rfl fun w hw => (hc.2 _ _ _ w (by omega) hw).mono ?_
    rintro e w' ⟨rfl, hw'⟩
    refine ⟨_, rfl, _, hw', .inl fun w hw => hw, ?_⟩
    clear hw' hw w w'
    have hcm := cmpI_lt (a := ω (D m)) (b := ω (D h))
    obtain ⟨r, hr⟩ : ∃ r, cmpI (ω (D m)) (ω (D h)) = r := ⟨_, rfl⟩
    rw [hr] at hcm ⊢
    have hmon : ∀ k l, a ≤ k → k ≤ l → l < m → ω (D k) ≤ ω (D l) := fun k l hk hkl hl => by
      rcases Nat.lt_or_ge k l with h' | h'
      · exact srt_sg hL k l hk h' (by omega)
      · rw [show k = l by omega]; exact Nat.le_refl _
    by_cases hlt2 : ω (D m) < ω (D h)
    · have hr0 := hcm.2 hlt2
      clear hr hcm
      repeat (first | (refine sx ?_; try intro _))
      exact JS_again2 again i h ⟨hai, by omega, by omega, hlo, fun k hk hk2 => Nat.lt_of_lt_of_le hlt2 (hmon h k (by omega) hk hk2)⟩ (by omega) (by repeat (first | exact trivial | refine ⟨rfl, ?_⟩ | refine ⟨lookI rfl (by omega), ?_⟩)) (fun w hw => hw)
    · have hr0 : ¬ r < 0 := fun h => hlt2 (hcm.1 h)
      clear hr hcm
      repeat (first | (refine sx ?_; try intro _))
      exact JS_again2 again (h + 1) j ⟨by omega, by omega, hjm, fun k hk hk2 => Nat.le_trans (hmon k h hk (by omega) (by omega)) (by omega), hhi⟩ (by omega) (by repeat (first | exact trivial | refine ⟨rfl, ?_⟩ | refine ⟨lookI rfl (by omega), ?_⟩)) (fun w hw => hw)
  · obtain rfl : i = j := by omega
    clear again hlt hij
    repeat (first | (apply gJR; first | (refine sx ?_; try intro _)) | (apply gJO; first | (refine sx ?_; try intro _)) | apply JS_seq | apply JS_region | (apply gJS; refine JS_condF rfl ?_) | (apply gJS; refine JS_cond_F rfl (by omega) ?_) | (apply gJS; refine JS_exit rfl ?_))
    refine JS_block ?_
    refine JS_loop1 (fun (k : Nat) => [(0, u), (1, .int .i64 a), (2, .int .i64 m), (3, .int .i64 b), (4, .func (.func q) #[] #[]), (14, .int .i64 i), (17, .int .i64 k)]) (fun k => vec 89 1 u N (vals enc (mvD D m k) N) :: H)
      (fun k => i ≤ k ∧ k ≤ m) (fun k => k) m ⟨hjm, Nat.le_refl _⟩ (by repeat (first | exact trivial | refine ⟨rfl, ?_⟩ | refine ⟨lookI rfl (by omega), ?_⟩)) (fun w hw => by rw [mvD_id]; exact hw) ?_
    intro k ⟨hik, hkm⟩ again
    by_cases hlt : i < k
    · obtain ⟨k, rfl⟩ : ∃ k', k = k' + 1 := ⟨k - 1, by omega⟩
      have hk0 : k < N := by omega
      have hk1 : k + 1 < N := by omega
      have e1 : IntKind.i64.wrap (((k + 1 : Nat) : Int) - 1) = (k : Int) := (wi64 (by omega)).trans (by omega)
      repeat (first | (apply gJR; first | (refine sx ?_; try intro _)) | (apply gJO; first | (refine sx ?_; try intro _)) | apply JS_seq | apply JS_region | (apply gJS; refine JS_condT rfl ?_) | apply JS_skip | (apply gJS; refine JS_cond_T rfl (by omega) ?_) | apply JS_block)
      refine Sx.Cm.JS_orderC [0, 1, 2, 3, 4, 5, 6, 7, 10, 11] [8, 9, 12, 13, 14, 15, 16, 17] [2, 0] (Picks.cons rfl (Picks.cons rfl (Picks.cons rfl (Picks.cons rfl (Picks.cons rfl (Picks.cons rfl (Picks.cons rfl (Picks.cons rfl (Picks.cons rfl (Picks.cons rfl (Picks.nil))))))))))) (Picks.cons rfl (Picks.cons rfl (Picks.cons rfl (Picks.cons rfl (Picks.cons rfl (Picks.cons rfl (Picks.cons rfl (Picks.cons rfl (Picks.nil))))))))) (by kernel_rfl) (by kernel_rfl) rfl (by decide +kernel) ?_
      repeat (first | (apply Sx.Cm.gQC; first | refine Sx.Cm.QC_v (fun _ => V_sub rfl rfl e1 rfl) ?_ | refine aC ?_ | refine Sx.Cm.QC_nil ?_) | (apply gQO; refine QO_v rfl (V_loadC (tb := tb) rfl (vec_rd (List.Mem.head _)) rfl rfl (vals_get enc (by assumption)) rfl) ?_) | (apply gQO; refine QO_k rfl (K_storeC1 (tb := tb) rfl rfl (vals_set enc) (Upd.here _ _ _) rfl (h1 _) (by rw [vals_len]; assumption) rfl) rfl ?_) | (apply gJO; refine JO_v (V_sub rfl rfl e1 rfl) ?_) | (first | (refine sx ?_; try intro _)))
      rw [mvD_step D m k (by omega)]
      exact JS_again1 again k ⟨by omega, by omega⟩ (by omega) (by repeat (first | exact trivial | refine ⟨rfl, ?_⟩ | refine ⟨lookI rfl (by omega), ?_⟩)) (fun w hw => hw)
    · obtain rfl : k = i := by omega
      clear again
      repeat (first | (refine sx ?_; try intro _))
      refine JS_ret Tryz.func122 rfl rfl ?_
      intro w hw
      refine ⟨rfl, _, hw, fun p hp => ?_, ?_⟩
      · unfold mvD; rw [if_neg (by omega), if_neg (by omega)]
      · subst hmb
        rw [mvD_sg D a m k (by omega) hkm, show m + 1 - m = 1 by omega, show m - a = (k - a) + (m - k) by omega, sg_add, show a + (k - a) = k by omega]
        refine (mrg_ins ω _ _ _ (fun r hr => ?_) (fun r hr => ?_)).symm
        · obtain ⟨p, hp, rfl⟩ := sg_mem hr
          exact hlo _ (by omega) (by omega)
        · obtain ⟨p, hp, rfl⟩ := sg_mem hr
          exact hhi _ (by omega) (by omega)
end
end Go.Proofs.YtbiocgenbgbfpaaGreat

namespace Go.Proofs.YtbiocgenbgbfpaaGreat
open Sx Go Pm
set_option linter.unusedVariables false
set_option linter.unusedSimpArgs false
/-- tells the region in front -/
theorem gIdU {P : Program} {f n : Nat} {R : Ending → World → Prop} {D : List Deferred} {w0 : World} {k : List Item} {ov : Ov} {H : List Asn} (i : Nat) {l : Array Oper} {b : Bool} {y : Code} (h : JS P f n R D w0 (.code (.seq (.region i l b) y) :: k) ov H) : JS P f n R D w0 (.code (.seq (.region i l b) y) :: k) ov H := h
section
variable {α : Type} {enc : α → Value} {ω : α → Nat} {w0 : World} {H : List Asn}
set_option maxHeartbeats 4000000 in
/-- two sorted parts that stand side by side are merged -/
theorem SymM_c (h1 : ∀ x, Sx.one (enc x)) (u : Value) (q N : Nat) (hc : Cmp enc ω w0 H q u N) (hN : N ≤ 1000000) : ∀ (d : Nat) (D : Nat → α) (a m b : Nat), b - a = d → a < m → m < b → b ≤ N → SrtW ω (sg D a (m - a)) → SrtW ω (sg D m (b - m)) → ∀ (w : World), St w0 (vec 89 1 u N (vals enc D N) :: H) w →
    Calls Tryz.prog 122 #[u, .int .i64 a, .int .i64 m, .int .i64 b, .func (.func q) #[] #[]] w fun e w' => e = .returned (.tuple #[]) ∧ ∃ D', St w0 (vec 89 1 u N (vals enc D' N) :: H) w' ∧ (∀ k, k < a ∨ b ≤ k → D' k = D k) ∧ sg D' a (b - a) = mrg ω (sg D a (m - a)) (sg D m (b - m)) := by
  intro d
  induction d using Nat.strongRecOn with
  | _ d ih =>
  intro D a m b hd ham hmb hb hL hR w hw
  by_cases hm1 : m = a + 1
  · exact SymL_c h1 u q N hc D a m b hN hm1 hmb hb hR w hw
  by_cases hb1 : b = m + 1
  · exact SymR_c h1 u q N hc D a m b hN (by omega) hb1 hb hL w hw
  refine enter (vs := [u, .int .i64 a, .int .i64 m, .int .i64 b, .func (.func q) #[] #[]]) Tryz.func122 rfl rfl rfl hw ?_
  clear hw w
  obtain ⟨h, hh⟩ : ∃ h : Nat, h = (a + b) / 2 := ⟨_, rfl⟩
  have e1 : IntKind.i64.wrap ((a : Int) + (b : Int)) = ((a + b : Nat) : Int) := (wi64 (by omega)).trans (by omega)
  have e2 : IntKind.u64.wrap ((a + b : Nat) : Int) = ((a + b : Nat) : Int) := wu64 (by omega)
  have e3 : ((a + b : Nat) : Int) / 2 ^ 1 = (h : Int) := by omega
  have e4 : IntKind.i64.wrap (h : Int) = (h : Int) := wi64 (by omega)
  have e5 : IntKind.i64.wrap ((h : Int) + (m : Int)) = ((h + m : Nat) : Int) := (wi64 (by omega)).trans (by omega)
  have hmid : a + 2 ≤ h ∧ h + 2 ≤ b ∧ 2 * h ≤ a + b ∧ a + b ≤ 2 * h + 1 := by omega
  clear hh
  repeat ((fail_if_success refine gIdU 27 ?_); first | (apply gJO; first | refine JO_v (V_add rfl rfl e1 rfl) ?_ | refine JO_v (V_conv (tb := tb) rfl rfl rfl e2 rfl) ?_ | refine JO_v (V_shr (m := 1) rfl rfl (by omega) rfl e3 rfl) ?_ | refine JO_v (V_conv (tb := tb) rfl rfl rfl e4 rfl) ?_) | (apply gJO; refine JO_v (V_add rfl rfl e5 rfl) ?_) | (apply gJR; first | (refine sx ?_; try intro _)) | (apply gJO; first | (refine sx ?_; try intro _)) | apply JS_region | apply JS_skip | (apply gJS; refine JS_condT rfl ?_) | (apply gJS; refine JS_condF rfl ?_) | (apply gJS; refine JS_cond_T rfl (by omega) ?_) | (apply gJS; refine JS_cond_F rfl (by omega) ?_) | apply JS_seq)
  refine gIdU 27 ?_
  refine JS_join2 (fun (s r : Nat) => [(0, u), (1, .int .i64 a), (2, .int .i64 m), (3, .int .i64 b), (4, .func (.func q) #[] #[]), (18, .int .i64 h), (19, .int .i64 (h + m : Nat)), (20, .int .i64 s), (21, .int .i64 r)]) (fun _ _ => vec 89 1 u N (vals enc D N) :: H)
    (fun s r => a ≤ s ∧ s ≤ r ∧ r ≤ m ∧ r ≤ h ∧ h + m ≤ b + s ∧ (∀ l q, a ≤ l → l < s → h + m ≤ q + s → q < b → ω (D l) ≤ ω (D q)) ∧ (∀ l q, r ≤ l → l < m → m ≤ q → q + r < h + m → ω (D q) < ω (D l))) ?_ ?_
  case' refine_2 =>
    intro K
    by_cases hmh : h < m
    · have e6 : IntKind.i64.wrap (((h + m : Nat) : Int) - (b : Int)) = ((h + m - b : Nat) : Int) := (wi64 (by omega)).trans (by omega)
      repeat (first | exact JS_to2 K (h + m - b) h ⟨by omega, by omega, by omega, Nat.le_refl _, by omega, fun l q _ _ _ _ => by omega, fun l q _ _ _ _ => by omega⟩ (by repeat (first | exact trivial | refine ⟨rfl, ?_⟩ | refine ⟨lookI rfl (by omega), ?_⟩)) (fun w hw => hw) | (apply gJO; refine JO_v (V_sub rfl rfl e6 rfl) ?_) | (first | (refine sx ?_; try intro _)))
    · repeat (first | exact JS_to2 K a m ⟨Nat.le_refl _, by omega, Nat.le_refl _, by omega, by omega, fun l q _ _ _ _ => by omega, fun l q _ _ _ _ => by omega⟩ (by repeat (first | exact trivial | refine ⟨rfl, ?_⟩ | refine ⟨lookI rfl (by omega), ?_⟩)) (fun w hw => hw) | (first | (refine sx ?_; try intro _)))
  intro s0 r0 ⟨j1, j2, j3, j4, j5, j6, j7⟩
  have e7 : IntKind.i64.wrap (((h + m : Nat) : Int) - 1) = ((h + m - 1 : Nat) : Int) := (wi64 (by omega)).trans (by omega)
  repeat (first | (apply gJO; refine JO_v (V_sub rfl rfl e7 rfl) ?_) | (apply gJR; first | (refine sx ?_; try intro _)) | (apply gJO; first | (refine sx ?_; try intro _)) | apply JS_seq | apply JS_region)
  refine JS_block ?_
  refine JS_loop2 (fun (s r : Nat) => [(0, u), (1, .int .i64 a), (2, .int .i64 m), (3, .int .i64 b), (4, .func (.func q) #[] #[]), (18, .int .i64 h), (19, .int .i64 (h + m : Nat)), (20, .int .i64 s), (21, .int .i64 r), (22, .int .i64 (h + m - 1 : Nat))]) (fun _ _ => vec 89 1 u N (vals enc D N) :: H)
    (fun s r => a ≤ s ∧ s ≤ r ∧ r ≤ m ∧ r ≤ h ∧ h + m ≤ b + s ∧ (∀ l q, a ≤ l → l < s → h + m ≤ q + s → q < b → ω (D l) ≤ ω (D q)) ∧ (∀ l q, r ≤ l → l < m → m ≤ q → q + r < h + m → ω (D q) < ω (D l))) (fun s r => r - s) s0 r0 ⟨j1, j2, j3, j4, j5, j6, j7⟩ (by repeat (first | exact trivial | refine ⟨rfl, ?_⟩ | refine ⟨lookI rfl (by omega), ?_⟩)) (fun w hw => hw) ?_
  clear j1 j2 j3 j4 j5 j6 j7
  intro s r ⟨j1, j2, j3, j4, j5, j6, j7⟩ again
  have monL : ∀ k l, a ≤ k → k ≤ l → l < m → ω (D k) ≤ ω (D l) := fun k l hk hkl hl => by
    rcases Nat.lt_or_ge k l with h' | h'
    · exact srt_sg hL k l hk h' (by omega)
    · rw [show k = l by omega]; exact Nat.le_refl _
  have monR : ∀ k l, m ≤ k → k ≤ l → l < b → ω (D k) ≤ ω (D l) := fun k l hk hkl hl => by
    rcases Nat.lt_or_ge k l with h' | h'
    · exact srt_sg hR k l hk h' (by omega)
    · rw [show k = l by omega]; exact Nat.le_refl _
  by_cases hlt : s < r
  · obtain ⟨c, hcd⟩ : ∃ c : Nat, c = (s + r) / 2 := ⟨_, rfl⟩
    clear e1 e2 e3 e4 e5
    have e1 : IntKind.i64.wrap ((s : Int) + (r : Int)) = ((s + r : Nat) : Int) := (wi64 (by omega)).trans (by omega)
    have e2 : IntKind.u64.wrap ((s + r : Nat) : Int) = ((s + r : Nat) : Int) := wu64 (by omega)
    have e3 : ((s + r : Nat) : Int) / 2 ^ 1 = (c : Int) := by omega
    have e4 : IntKind.i64.wrap (c : Int) = (c : Int) := wi64 (by omega)
    have hco : c < r ∧ s ≤ c := by omega
    clear hcd
    have e5 : IntKind.i64.wrap (((h + m - 1 : Nat) : Int) - (c : Int)) = ((h + m - 1 - c : Nat) : Int) := (wi64 (by omega)).trans (by omega)
    have hc0 : c < N := by omega
    have hp0 : h + m - 1 - c < N := by omega
    repeat (first | (apply gJO; first | refine JO_v (V_add rfl rfl e1 rfl) ?_ | refine JO_v (V_conv (tb := tb) rfl rfl rfl e2 rfl) ?_ | refine JO_v (V_shr (m := 1) rfl rfl (by omega) rfl e3 rfl) ?_ | refine JO_v (V_conv (tb := tb) rfl rfl rfl e4 rfl) ?_) | (apply gQO; first | refine QO_v rfl (V_sub rfl rfl e5 rfl) ?_ | refine QO_v rfl (V_loadC (tb := tb) rfl (vec_rd (List.Mem.head _)) rfl rfl (vals_get enc (by assumption)) rfl) ?_) | (first | (refine sx ?_; try intro _)))
    refine QO_callv (us := []) (cs := []) rfl rfl hc.1 rfl rfl fun w hw => (hc.2 _ _ _ w (by omega) hw).mono ?_
    rintro e w' ⟨rfl, hw'⟩
    refine ⟨_, rfl, _, hw', .inl fun w hw => hw, ?_⟩
    clear hw' hw w w'
    have hcm := cmpI_lt (a := ω (D (h + m - 1 - c))) (b := ω (D c))
    obtain ⟨x, hx⟩ : ∃ x, cmpI (ω (D (h + m - 1 - c))) (ω (D c)) = x := ⟨_, rfl⟩
    rw [hx] at hcm ⊢
    by_cases hlt2 : ω (D (h + m - 1 - c)) < ω (D c)
    · have hr0 := hcm.2 hlt2
      clear hx hcm
      repeat (first | (refine sx ?_; try intro _))
      exact JS_again2 again s c ⟨j1, by omega, by omega, by omega, j5, j6, fun l q hl hlm hq hqc => by
        have a1 := monL c l (by omega) hl hlm
        have a2 := monR q (h + m - 1 - c) hq (by omega) (by omega)
        omega⟩ (by omega) (by repeat (first | exact trivial | refine ⟨rfl, ?_⟩ | refine ⟨lookI rfl (by omega), ?_⟩)) (fun w hw => hw)
    · have hr0 : ¬ x < 0 := fun h => hlt2 (hcm.1 h)
      clear hx hcm
      repeat (first | (refine sx ?_; try intro _))
      exact JS_again2 again (c + 1) r ⟨by omega, by omega, j3, j4, by omega, fun l q hl hlm hq hqc => by
        have a1 := monL l c hl (by omega) (by omega)
        have a2 := monR (h + m - 1 - c) q (by omega) (by omega) hqc
        omega, j7⟩ (by omega) (by repeat (first | exact trivial | refine ⟨rfl, ?_⟩ | refine ⟨lookI rfl (by omega), ?_⟩)) (fun w hw => hw)
  · obtain rfl : s = r := by omega
    clear again hlt j2 e1 e2 e3 e4 e5 e7
    have e8 : IntKind.i64.wrap (((h + m : Nat) : Int) - (s : Int)) = ((h + m - s : Nat) : Int) := (wi64 (by omega)).trans (by omega)
    repeat ((fail_if_success refine gIdU 39 ?_); first | (apply gJO; refine JO_v (V_sub rfl rfl e8 rfl) ?_) | (apply gJR; first | (refine sx ?_; try intro _)) | (apply gJO; first | (refine sx ?_; try intro _)) | (apply gJS; refine JS_exit rfl ?_) | apply JS_region | apply JS_seq | (apply gJS; refine JS_condF rfl ?_) | (apply gJS; refine JS_cond_F rfl (by omega) ?_))
    obtain ⟨t, ht⟩ : ∃ t : Nat, h + m - s = t := ⟨_, rfl⟩
    rw [ht] at e8 ⊢
    have ht2 : t + s = h + m ∧ m ≤ t ∧ h ≤ t ∧ t ≤ b := by omega
    obtain ⟨k1, k2, k3, k4⟩ := ht2
    clear e8 ht
    repeat ((fail_if_success refine gIdU 39 ?_); refine JS_seq ?_)
    refine gIdU 39 ?_
    refine JS_join1 (fun (_ : Unit) => [(0, u), (1, .int .i64 a), (3, .int .i64 b), (4, .func (.func q) #[] #[]), (18, .int .i64 h), (20, .int .i64 s), (24, .int .i64 t)]) (fun _ => vec 89 1 u N (vals enc (rot D s m t) N) :: H) (fun _ => True) ?_ ?_
    case' refine_2 =>
      intro K
      by_cases c1 : s < m
      · by_cases c2 : m < t
        · repeat (first | (refine sx ?_; try intro _))
          refine JO_call Tryz.call127 rfl rfl fun w hw => (Rot_c h1 u _ N D s m t hN c1 c2 (by omega) w hw).mono ?_
          rintro e w' ⟨rfl, hw'⟩
          refine ⟨_, rfl, _, hw', ?_⟩
          clear hw' hw w w'
          repeat (first | exact JS_to1 K () trivial (by repeat (first | exact trivial | refine ⟨rfl, ?_⟩ | refine ⟨lookI rfl (by omega), ?_⟩)) (fun w hw => hw) | (first | (refine sx ?_; try intro _)))
        · have hr : rot D s m t = D := by
            funext k; unfold rot
            rw [if_neg (by omega)]
            split
            · rw [show t - m = 0 by omega, Nat.sub_zero]
            · rfl
          repeat (first | exact JS_to1 K () trivial (by repeat (first | exact trivial | refine ⟨rfl, ?_⟩ | refine ⟨lookI rfl (by omega), ?_⟩)) (fun w hw => by rw [hr]; exact hw) | (first | (refine sx ?_; try intro _)))
      · have hr : rot D s m t = D := by
          funext k; unfold rot
          split
          · rw [show m - s = 0 by omega, Nat.add_zero]
          · rw [if_neg (by omega)]
        repeat (first | exact JS_to1 K () trivial (by repeat (first | exact trivial | refine ⟨rfl, ?_⟩ | refine ⟨lookI rfl (by omega), ?_⟩)) (fun w hw => by rw [hr]; exact hw) | (first | (refine sx ?_; try intro _)))
    intro _ _
    have f1 : sg (rot D s m t) a (s - a) = sg D a (s - a) := sg_congr _ _ _ fun k hk => by unfold rot; rw [if_neg (by omega), if_neg (by omega)]
    have f2 : sg (rot D s m t) s (h - s) = sg D m (t - m) := by
      rw [show h - s = t - m by omega]
      exact sg_congr _ _ _ fun k hk => by unfold rot; rw [if_pos (by omega), show s + k + (m - s) = m + k by omega]
    have f3 : sg (rot D s m t) h (t - h) = sg D s (m - s) := by
      rw [show t - h = m - s by omega]
      exact sg_congr _ _ _ fun k hk => by unfold rot; rw [if_neg (by omega), if_pos (by omega), show h + k - (t - m) = s + k by omega]
    have f4 : sg (rot D s m t) t (b - t) = sg D t (b - t) := sg_congr _ _ _ fun k hk => by unfold rot; rw [if_neg (by omega), if_neg (by omega)]
    have f5 : ∀ k, k < a ∨ b ≤ k → rot D s m t k = D k := fun k hk => by unfold rot; rw [if_neg (by omega), if_neg (by omega)]
    have eL : sg D a (m - a) = sg D a (s - a) ++ sg D s (m - s) := by rw [show m - a = (s - a) + (m - s) by omega, sg_add, show a + (s - a) = s by omega]
    have eR : sg D m (b - m) = sg D m (t - m) ++ sg D t (b - t) := by rw [show b - m = (t - m) + (b - t) by omega, sg_add, show m + (t - m) = t by omega]
    have sL := hL
    have sR := hR
    rw [eL] at sL
    rw [eR] at sR
    obtain ⟨sL1, sL2, _⟩ := List.pairwise_append.1 sL
    obtain ⟨sR1, sR2, _⟩ := List.pairwise_append.1 sR
    have hspl := mrg_split ω (sg D s (m - s)) (sg D t (b - t)) _ (sg D a (s - a)) (sg D m (t - m)) (Nat.le_refl _) (fun l hl r hr => by
      obtain ⟨x, hx, rfl⟩ := sg_mem hl
      obtain ⟨y, hy, rfl⟩ := sg_mem hr
      exact j6 _ _ (by omega) (by omega) (by omega) (by omega)) (fun l hl r hr => by
      obtain ⟨x, hx, rfl⟩ := sg_mem hl
      obtain ⟨y, hy, rfl⟩ := sg_mem hr
      exact j7 _ _ (by omega) (by omega) (by omega) (by omega))
    rw [← eL, ← eR] at hspl
    rw [← f1] at sL1
    rw [← f3] at sL2
    rw [← f2] at sR1
    rw [← f4] at sR2
    rw [← f1, ← f2, ← f3, ← f4] at hspl
    generalize rot D s m t = E at *
    clear f1 f2 f3 f4 eL eR sL sR j6 j7 monL monR
    repeat ((fail_if_success refine gIdU 41 ?_); refine JS_seq ?_)
    refine gIdU 41 ?_
    refine JS_join1 (fun (_ : Nat → α) => [(0, u), (1, .int .i64 a), (3, .int .i64 b), (4, .func (.func q) #[] #[]), (18, .int .i64 h), (20, .int .i64 s), (24, .int .i64 t)]) (fun D2 => vec 89 1 u N (vals enc D2 N) :: H) (fun D2 => (∀ k, k < a ∨ h ≤ k → D2 k = E k) ∧ sg D2 a (h - a) = mrg ω (sg E a (s - a)) (sg E s (h - s))) ?_ ?_
    case' refine_2 =>
      intro K
      by_cases c1 : a < s
      · by_cases c2 : s < h
        · repeat (first | (refine sx ?_; try intro _))
          refine JO_call Tryz.call122 rfl rfl fun w hw => (ih (h - a) (by omega) E a s h rfl c1 c2 (by omega) sL1 sR1 w hw).mono ?_
          rintro e w' ⟨rfl, D2, hw', g1, g2⟩
          refine ⟨_, rfl, _, hw', ?_⟩
          clear hw' hw w w'
          repeat (first | exact JS_to1 K D2 ⟨g1, g2⟩ (by repeat (first | exact trivial | refine ⟨rfl, ?_⟩ | refine ⟨lookI rfl (by omega), ?_⟩)) (fun w hw => hw) | (first | (refine sx ?_; try intro _)))
        · have g : sg E a (h - a) = mrg ω (sg E a (s - a)) (sg E s (h - s)) := by
            rw [show h - s = 0 by omega, show h - a = s - a by omega]
            exact (mrg_nilR ω _).symm
          repeat (first | exact JS_to1 K E ⟨fun _ _ => rfl, g⟩ (by repeat (first | exact trivial | refine ⟨rfl, ?_⟩ | refine ⟨lookI rfl (by omega), ?_⟩)) (fun w hw => hw) | (first | (refine sx ?_; try intro _)))
      · have g : sg E a (h - a) = mrg ω (sg E a (s - a)) (sg E s (h - s)) := by
          rw [show s - a = 0 by omega, show s = a by omega]; rfl
        repeat (first | exact JS_to1 K E ⟨fun _ _ => rfl, g⟩ (by repeat (first | exact trivial | refine ⟨rfl, ?_⟩ | refine ⟨lookI rfl (by omega), ?_⟩)) (fun w hw => hw) | (first | (refine sx ?_; try intro _)))
    intro D2 ⟨g1, g2⟩
    have x1 : sg D2 h (t - h) = sg E h (t - h) := sg_congr _ _ _ fun k hk => g1 _ (.inr (by omega))
    have x2 : sg D2 t (b - t) = sg E t (b - t) := sg_congr _ _ _ fun k hk => g1 _ (.inr (by omega))
    rw [← x1] at sL2 hspl
    rw [← x2] at sR2 hspl
    have fin : ∀ D3 : Nat → α, (∀ k, k < h ∨ b ≤ k → D3 k = D2 k) → sg D3 h (b - h) = mrg ω (sg D2 h (t - h)) (sg D2 t (b - t)) → (∀ k, k < a ∨ b ≤ k → D3 k = D k) ∧ sg D3 a (b - a) = mrg ω (sg D a (m - a)) (sg D m (b - m)) := fun D3 y1 y2 => by
      refine ⟨fun k hk => by rw [y1 k (by omega), g1 k (by omega), f5 k hk], ?_⟩
      rw [show b - a = (h - a) + (b - h) by omega, sg_add, show a + (h - a) = h by omega, hspl, y2, ← g2]
      congr 1
      exact sg_congr _ _ _ fun k hk => y1 _ (.inl (by omega))
    by_cases c1 : h < t
    · by_cases c2 : t < b
      · repeat (first | (refine sx ?_; try intro _))
        refine JO_call Tryz.call122 rfl rfl fun w hw => (ih (b - h) (by omega) D2 h t b rfl c1 c2 (by omega) sL2 sR2 w hw).mono ?_
        rintro e w' ⟨rfl, D3, hw', y1, y2⟩
        refine ⟨_, rfl, _, hw', ?_⟩
        clear hw' hw w w'
        repeat (first | (refine sx ?_; try intro _))
        refine JS_fin Tryz.func122 rfl rfl ?_
        intro w hw
        exact ⟨rfl, D3, hw, fin D3 y1 y2⟩
      · have y2 : sg D2 h (b - h) = mrg ω (sg D2 h (t - h)) (sg D2 t (b - t)) := by
          rw [show b - t = 0 by omega, show b - h = t - h by omega]
          exact (mrg_nilR ω _).symm
        repeat (first | (refine sx ?_; try intro _))
        refine JS_fin Tryz.func122 rfl rfl ?_
        intro w hw
        exact ⟨rfl, D2, hw, fin D2 (fun _ _ => rfl) y2⟩
    · have y2 : sg D2 h (b - h) = mrg ω (sg D2 h (t - h)) (sg D2 t (b - t)) := by
        rw [show t - h = 0 by omega, show t = h by omega]; rfl
      repeat (first | (refine sx ?_; try intro _))
      refine JS_fin Tryz.func122 rfl rfl ?_
      intro w hw
      exact ⟨rfl, D2, hw, fin D2 (fun _ _ => rfl) y2⟩
end
end Go.Proofs.YtbiocgenbgbfpaaGreat

namespace Go.Proofs.YtbiocgenbgbfpaaGreat
open Sx Go Pm
set_option linter.unusedVariables false
set_option linter.unusedSimpArgs false
theorem dvd_step {d x a : Nat} (hx : d ∣ x) (ha : d ∣ a) (h : x < a) : x + d ≤ a := by
  obtain ⟨q, rfl⟩ := hx
  obtain ⟨p, rfl⟩ := ha
  have hqp : q < p := Nat.lt_of_mul_lt_mul_left h
  have := Nat.mul_le_mul_left d (show q + 1 ≤ p from hqp)
  rw [Nat.mul_add, Nat.mul_one] at this
  exact this
section
variable {α : Type} {enc : α → Value} {ω : α → Nat} {w0 : World} {H : List Asn}
/-- blocks of so many are sorted -/
def BK (ω : α → Nat) (D E : Nat → α) (N s lo hi : Nat) : Prop := ∀ x, s ∣ x → lo ≤ x → x < hi → sg E x (min s (N - x)) = isrt ω (sg D x (min s (N - x)))
theorem BK.one {D E : Nat → α} {N s lo hi x n : Nat} (h : BK ω D E N s lo hi) (hd : s ∣ x) (h1 : lo ≤ x) (h2 : x < hi) (hn : min s (N - x) = n) : sg E x n = isrt ω (sg D x n) := hn ▸ h x hd h1 h2
/-- a part that is merged out of two -/
theorem BK.two {D E E' : Nat → α} {x s n : Nat} (h1 : sg E x s = isrt ω (sg D x s)) (h2 : sg E (x + s) n = isrt ω (sg D (x + s) n)) (h : sg E' x (s + n) = mrg ω (sg E x s) (sg E (x + s) n)) : sg E' x (s + n) = isrt ω (sg D x (s + n)) := by
  rw [h, h1, h2, ← isrt_app, sg_add]
set_option maxHeartbeats 4000000 in
/-- a stable sort -/
theorem Stable_c (h1 : ∀ x, Sx.one (enc x)) (u : Value) (q N : Nat) (hc : Cmp enc ω w0 H q u N) (hN : N ≤ 1000000) (D : Nat → α) (w : World) (hw : St w0 (vec 89 1 u N (vals enc D N) :: H) w) :
    Calls Tryz.prog 113 #[u, .int .i64 N, .func (.func q) #[] #[]] w fun e w' => e = .returned (.tuple #[]) ∧ ∃ D', St w0 (vec 89 1 u N (vals enc D' N) :: H) w' ∧ sg D' 0 N = isrt ω (sg D 0 N) := by
  refine enter (vs := [u, .int .i64 N, .func (.func q) #[] #[]]) Tryz.func113 rfl rfl rfl hw ?_
  repeat (first | (apply gJR; first | (refine sx ?_; try intro _)) | (apply gJO; first | (refine sx ?_; try intro _)) | apply JS_seq | apply JS_region)
  refine JS_block ?_
  refine JS_loop2 (fun (E : Nat → α) (a : Nat) => [(0, u), (1, .int .i64 N), (2, .func (.func q) #[] #[]), (6, .int .i64 20), (7, .int .i64 a), (8, .int .i64 (a + 20 : Nat))]) (fun E _ => vec 89 1 u N (vals enc E N) :: H)
    (fun E a => 20 ∣ a ∧ a ≤ N ∧ BK ω D E N 20 0 a ∧ ∀ k, a ≤ k → E k = D k) (fun _ a => N - a) D 0 ⟨⟨0, rfl⟩, Nat.zero_le _, fun x _ _ hx => absurd hx (by omega), fun _ _ => rfl⟩ (by repeat (first | exact trivial | refine ⟨rfl, ?_⟩ | refine ⟨lookI rfl (by omega), ?_⟩)) (fun w hw => hw) ?_
  intro E a ⟨ha, haN, hE1, hE2⟩ again
  by_cases hlt : a + 20 ≤ N
  · repeat (first | (refine sx ?_; try intro _))
    refine JO_call Tryz.call121 rfl rfl fun w hw => (Ins_c h1 u q N hc E a (a + 20) hN (by omega) hlt w hw).mono ?_
    rintro e w' ⟨rfl, E', hw', g1, g2⟩
    refine ⟨_, rfl, _, hw', ?_⟩
    clear hw' hw w w'
    rw [show a + 20 - a = 20 by omega] at g2
    repeat (first | (refine sx ?_; try intro _))
    refine JS_again2 again E' (a + 20) ⟨Nat.dvd_add ha ⟨1, rfl⟩, hlt, fun x hx _ hxa => ?_, fun k hk => by rw [g1 k (.inr hk), hE2 k (by omega)]⟩ (by omega) (by repeat (first | exact trivial | refine ⟨rfl, ?_⟩ | refine ⟨lookI rfl (by omega), ?_⟩)) (fun w hw => hw)
    rcases Nat.lt_or_ge x a with h | h
    · rw [← hE1 x hx (Nat.zero_le _) h]
      have := dvd_step hx ha h
      exact sg_congr _ _ _ fun k hk => g1 _ (.inl (by omega))
    · obtain rfl : x = a := by
        rcases Nat.lt_or_ge a x with h' | h'
        · have := dvd_step ha hx h'; omega
        · omega
      rw [show min 20 (N - x) = 20 by omega, g2]
      congr 1
      exact sg_congr _ _ _ fun k hk => hE2 _ (by omega)
  clear again
  repeat (first | (refine sx ?_; try intro _))
  refine JO_call Tryz.call121 rfl rfl fun w hw => (Ins_c h1 u q N hc E a N hN haN (Nat.le_refl _) w hw).mono ?_
  rintro e w' ⟨rfl, E0, hw', g1, g2⟩
  refine ⟨_, rfl, _, hw', ?_⟩
  clear hw' hw w w'
  have hB : BK ω D E0 N 20 0 N := fun x hx _ hxN => by
    rcases Nat.lt_or_ge x a with h | h
    · rw [← hE1 x hx (Nat.zero_le _) h]
      have := dvd_step hx ha h
      exact sg_congr _ _ _ fun k hk => g1 _ (.inl (by omega))
    · obtain rfl : x = a := by
        rcases Nat.lt_or_ge a x with h' | h'
        · have := dvd_step ha hx h'; omega
        · omega
      rw [show min 20 (N - x) = N - x by omega, g2]
      congr 1
      exact sg_congr _ _ _ fun k hk => hE2 _ (by omega)
  clear g1 g2 hE1 hE2
  repeat (first | (apply gJR; first | (refine sx ?_; try intro _)) | (apply gJO; first | (refine sx ?_; try intro _)) | apply JS_seq | apply JS_region)
  refine JS_block ?_
  refine JS_loop2 (fun (E : Nat → α) (s : Nat) => [(0, u), (1, .int .i64 N), (2, .func (.func q) #[] #[]), (6, .int .i64 s)]) (fun E _ => vec 89 1 u N (vals enc E N) :: H)
    (fun E s => 1 ≤ s ∧ s ≤ 2 * N + 20 ∧ BK ω D E N s 0 N) (fun _ s => N - s) E0 20 ⟨by omega, by omega, hB⟩ (by repeat (first | exact trivial | refine ⟨rfl, ?_⟩ | refine ⟨lookI rfl (by omega), ?_⟩)) (fun w hw => hw) ?_
  clear hB hlt ha haN
  intro E1 s ⟨hs, hsb, hB⟩ again
  by_cases hlt : s < N
  · repeat (first | (apply gJR; first | (refine sx ?_; try intro _)) | (apply gJO; first | (refine sx ?_; try intro _)) | apply JS_seq | apply JS_region | (apply gJS; refine JS_condT rfl ?_) | apply JS_skip | (apply gJS; refine JS_cond_T rfl (by omega) ?_))
    refine JS_block ?_
    repeat (first | (apply gJR; first | (refine sx ?_; try intro _)) | (apply gJO; first | (refine sx ?_; try intro _)) | apply JS_seq | apply JS_region)
    refine JS_block ?_
    have d2 : ∀ {x}, 2 * s ∣ x → s ∣ x := fun h => Nat.dvd_trans ⟨2, by omega⟩ h
    refine JS_loop2 (fun (E : Nat → α) (a : Nat) => [(0, u), (1, .int .i64 N), (2, .func (.func q) #[] #[]), (6, .int .i64 s), (7, .int .i64 a), (8, .int .i64 (a + 2 * s : Nat))]) (fun E _ => vec 89 1 u N (vals enc E N) :: H)
      (fun E a => 2 * s ∣ a ∧ a ≤ N ∧ BK ω D E N (2 * s) 0 a ∧ BK ω D E N s a N) (fun _ a => N - a) E1 0 ⟨⟨0, rfl⟩, Nat.zero_le _, fun x _ _ hx => absurd hx (by omega), hB⟩ ⟨rfl, rfl, rfl, rfl, rfl, lookI rfl (by omega), trivial⟩ (fun w hw => hw) ?_
    intro E a ⟨ha, haN, hE1, hE2⟩ again2
    have e1 : IntKind.i64.wrap ((a : Int) + (s : Int)) = ((a + s : Nat) : Int) := (wi64 (by omega)).trans (by omega)
    by_cases hlt2 : a + 2 * s ≤ N
    · have b1 := hE2.one (x := a) (n := s) (d2 ha) (Nat.le_refl _) (by omega) (by omega)
      have b2 := hE2.one (x := a + s) (n := s) (Nat.dvd_add (d2 ha) ⟨1, by omega⟩) (by omega) (by omega) (by omega)
      repeat (first | (apply gJO; refine JO_v (V_add rfl rfl e1 rfl) ?_) | (first | (refine sx ?_; try intro _)))
      refine JO_call Tryz.call122 rfl rfl fun w hw => (SymM_c h1 u q N hc hN _ E a (a + s) (a + 2 * s) rfl (by omega) (by omega) hlt2 (by rw [show a + s - a = s by omega, b1]; exact isrt_srt ω _) (by rw [show a + 2 * s - (a + s) = s by omega, b2]; exact isrt_srt ω _) w hw).mono ?_
      rintro e w' ⟨rfl, E', hw', g1, g2⟩
      refine ⟨_, rfl, _, hw', ?_⟩
      clear hw' hw w w'
      rw [show a + 2 * s - a = s + s by omega, show a + s - a = s by omega, show a + 2 * s - (a + s) = s by omega] at g2
      have b3 := BK.two b1 b2 g2
      repeat (first | (refine sx ?_; try intro _))
      refine JS_again2 again2 E' (a + 2 * s) ⟨Nat.dvd_add ha ⟨1, by omega⟩, hlt2, fun x hx _ hxa => ?_, fun x hx hax hxN => ?_⟩ (by omega) ⟨rfl, rfl, rfl, rfl, lookI rfl (by omega), lookI rfl (by omega), trivial⟩ (fun w hw => hw)
      · rcases Nat.lt_or_ge x a with h | h
        · rw [← hE1 x hx (Nat.zero_le _) h]
          have := dvd_step hx ha h
          exact sg_congr _ _ _ fun k hk => g1 _ (.inl (by omega))
        · obtain rfl : x = a := by
            rcases Nat.lt_or_ge a x with h' | h'
            · have := dvd_step ha hx h'; omega
            · omega
          rw [show min (2 * s) (N - x) = s + s by omega]
          exact b3
      · rw [← hE2 x hx (by omega) hxN]
        exact sg_congr _ _ _ fun k hk => g1 _ (.inr (by omega))
    · clear again2
      have next : ∀ E' : Nat → α, (∀ k, k < a ∨ N ≤ k → E' k = E k) → (a < N → sg E' a (N - a) = isrt ω (sg D a (N - a))) → BK ω D E' N (s * 2) 0 N := fun E' g1 g2 x hx _ hxN => by
        rw [Nat.mul_comm s 2] at hx ⊢
        rcases Nat.lt_or_ge x a with h | h
        · rw [← hE1 x hx (Nat.zero_le _) h]
          have := dvd_step hx ha h
          exact sg_congr _ _ _ fun k hk => g1 _ (.inl (by omega))
        · obtain rfl : x = a := by
            rcases Nat.lt_or_ge a x with h' | h'
            · have := dvd_step ha hx h'; omega
            · omega
          rw [show min (2 * s) (N - x) = N - x by omega]
          exact g2 hxN
      by_cases hm : a + s < N
      · have b1 := hE2.one (x := a) (n := s) (d2 ha) (Nat.le_refl _) (by omega) (by omega)
        have b2 := hE2.one (x := a + s) (n := N - (a + s)) (Nat.dvd_add (d2 ha) ⟨1, by omega⟩) (by omega) (by omega) (by omega)
        repeat (first | (apply gJO; refine JO_v (V_add rfl rfl e1 rfl) ?_) | (first | (refine sx ?_; try intro _)))
        refine JO_call Tryz.call122 rfl rfl fun w hw => (SymM_c h1 u q N hc hN _ E a (a + s) N rfl (by omega) hm (Nat.le_refl _) (by rw [show a + s - a = s by omega, b1]; exact isrt_srt ω _) (by rw [b2]; exact isrt_srt ω _) w hw).mono ?_
        rintro e w' ⟨rfl, E', hw', g1, g2⟩
        refine ⟨_, rfl, _, hw', ?_⟩
        clear hw' hw w w'
        rw [show N - a = s + (N - (a + s)) by omega, show a + s - a = s by omega] at g2
        have b3 := BK.two b1 b2 g2
        rw [show s + (N - (a + s)) = N - a by omega] at b3
        have nx := next E' g1 fun _ => b3
        repeat (first | (refine sx ?_; try intro _))
        exact JS_again2 again E' (s * 2) ⟨by omega, by omega, nx⟩ (by omega) ⟨rfl, rfl, rfl, lookI rfl (by omega), trivial⟩ (fun w hw => hw)
      · have nx := next E (fun _ _ => rfl) fun haN' => hE2.one (x := a) (n := N - a) (d2 ha) (Nat.le_refl _) haN' (by omega)
        repeat (first | (apply gJO; refine JO_v (V_add rfl rfl e1 rfl) ?_) | (first | (refine sx ?_; try intro _)))
        exact JS_again2 again E (s * 2) ⟨by omega, by omega, nx⟩ (by omega) ⟨rfl, rfl, rfl, lookI rfl (by omega), trivial⟩ (fun w hw => hw)
  · clear again
    repeat (first | (refine sx ?_; try intro _))
    refine JS_fin Tryz.func113 rfl rfl ?_
    intro w hw
    refine ⟨rfl, E1, hw, ?_⟩
    rcases Nat.eq_zero_or_pos N with h | h
    · subst h; rfl
    · exact hB.one (x := 0) (n := N) ⟨0, rfl⟩ (Nat.zero_le _) h (by omega)
theorem SortS_c (h1 : ∀ x, Sx.one (enc x)) (p : Option Addr) (c q N : Nat) (hc : Cmp enc ω w0 H q (.slice p N c) N) (hN : N ≤ 1000000) (D : Nat → α) (w : World) (hw : St w0 (vec 89 1 (.slice p N c) N (vals enc D N) :: H) w) :
    Calls Tryz.prog 89 #[.slice p N c, .func (.func q) #[] #[]] w fun e w' => e = .returned (.tuple #[]) ∧ ∃ D', St w0 (vec 89 1 (.slice p N c) N (vals enc D' N) :: H) w' ∧ sg D' 0 N = isrt ω (sg D 0 N) := by
  refine enter (vs := [.slice p N c, .func (.func q) #[] #[]]) Tryz.func89 rfl rfl rfl hw ?_
  repeat (first | (refine sx ?_; try intro _))
  refine JO_call Tryz.call113 rfl rfl fun w hw => (Stable_c h1 _ q N hc hN D w hw).mono ?_
  rintro e w' ⟨rfl, E', hw', g⟩
  refine ⟨_, rfl, _, hw', ?_⟩
  clear hw' hw w w'
  repeat (first | (refine sx ?_; try intro _))
  refine JS_fin Tryz.func89 rfl rfl ?_
  intro w hw
  exact ⟨rfl, E', hw, g⟩
end
end Go.Proofs.YtbiocgenbgbfpaaGreat

set_option linter.unusedVariables false
set_option linter.unusedSimpArgs false
namespace Pm
/-! ## the best lengths within a bound: packs of two and two (plain laws) -/
inductive T where
  | leaf (w s : Nat)
  | node (a b : T)
def wt : T → Nat
  | .leaf w _ => w
  | .node a b => wt a + wt b
/-- how often a symbol stands in a pack -/
def cn (s : Nat) : T → Nat
  | .leaf _ s' => if s' = s then 1 else 0
  | .node a b => cn s a + cn s b
def sw (l : List T) : Nat := (l.map wt).sum
def sc (s : Nat) (l : List T) : Nat := (l.map (cn s)).sum
def prs : List T → List T
  | a :: b :: r => .node a b :: prs r
  | _ => []
theorem prs_len : ∀ l : List T, (prs l).length = l.length / 2
  | [] => rfl
  | [_] => by simp [prs]
  | a :: b :: r => by rw [prs, List.length_cons, prs_len r]; simp only [List.length_cons]; omega
/-- the first ones of two lists that are merged -/
def mg : Nat → List T → List T → List T
  | 0, _, _ => []
  | _ + 1, [], [] => []
  | f + 1, a :: A, [] => a :: mg f A []
  | f + 1, [], b :: B => b :: mg f [] B
  | f + 1, a :: A, b :: B => if wt a ≤ wt b then a :: mg f A (b :: B) else b :: mg f (a :: A) B
abbrev Srt (l : List T) : Prop := l.Pairwise fun x y => wt x ≤ wt y
theorem mg_take : ∀ (f c : Nat) (A B : List T), c ≤ f → (mg f A B).take c = mg c A B
  | f, 0, A, B, _ => by rw [List.take_zero]; cases A <;> cases B <;> rfl
  | 0, c + 1, _, _, h => absurd h (by omega)
  | f + 1, c + 1, [], [], _ => by simp [mg]
  | f + 1, c + 1, a :: A, [], h => by rw [mg, mg, List.take_succ_cons, mg_take f c A [] (by omega)]
  | f + 1, c + 1, [], b :: B, h => by rw [mg, mg, List.take_succ_cons, mg_take f c [] B (by omega)]
  | f + 1, c + 1, a :: A, b :: B, h => by
    rw [mg, mg]
    split
    · rw [List.take_succ_cons, mg_take f c A (b :: B) (by omega)]
    · rw [List.take_succ_cons, mg_take f c (a :: A) B (by omega)]
/-- what the first ones are: so many of each list; who is left out is more than who is in -/
theorem mg_split : ∀ (c : Nat) (A B : List T), Srt A → Srt B → c ≤ A.length + B.length →
    ∃ i j, i + j = c ∧ i ≤ A.length ∧ j ≤ B.length ∧ (mg c A B).Perm (A.take i ++ B.take j) ∧ (∀ a ∈ A.drop i, ∀ b ∈ B.take j, wt b < wt a) ∧ (∀ a ∈ A.take i, ∀ b ∈ B.drop j, wt a ≤ wt b)
  | 0, A, B, _, _, _ => ⟨0, 0, rfl, Nat.zero_le _, Nat.zero_le _, by rw [show mg 0 A B = [] by cases A <;> cases B <;> rfl]; simp, by simp, by simp⟩
  | c + 1, [], [], _, _, h => absurd h (by simp)
  | c + 1, a :: A, [], hA, hB, h => by
    obtain ⟨i, j, h1, h2, h3, h4, h5, h6⟩ := mg_split c A [] (List.Pairwise.of_cons hA) hB (by simp at h ⊢; omega)
    simp at h3
    subst h3
    refine ⟨i + 1, 0, by omega, by simp; omega, by simp, ?_, by simp, by simp⟩
    rw [mg]
    simpa using h4
  | c + 1, [], b :: B, hA, hB, h => by
    obtain ⟨i, j, h1, h2, h3, h4, h5, h6⟩ := mg_split c [] B hA (List.Pairwise.of_cons hB) (by simp at h ⊢; omega)
    simp at h2
    subst h2
    refine ⟨0, j + 1, by omega, by simp, by simp; omega, ?_, by simp, by simp⟩
    rw [mg]
    simpa using h4
  | c + 1, a :: A, b :: B, hA, hB, h => by
    rw [mg]
    split
    · rename_i hab
      obtain ⟨i, j, h1, h2, h3, h4, h5, h6⟩ := mg_split c A (b :: B) (List.Pairwise.of_cons hA) hB (by simp at h ⊢; omega)
      refine ⟨i + 1, j, by omega, by simp; omega, h3, ?_, ?_, ?_⟩
      · rw [List.take_succ_cons, List.cons_append]; exact h4.cons a
      · rw [List.drop_succ_cons]; exact h5
      · intro x hx y hy
        rw [List.take_succ_cons] at hx
        rcases List.mem_cons.1 hx with rfl | hx
        · have hy' : y ∈ b :: B := List.mem_of_mem_drop hy
          rcases List.mem_cons.1 hy' with rfl | hy'
          · exact hab
          · exact Nat.le_trans hab ((List.pairwise_cons.1 hB).1 y hy')
        · exact h6 x hx y hy
    · rename_i hab
      obtain ⟨i, j, h1, h2, h3, h4, h5, h6⟩ := mg_split c (a :: A) B hA (List.Pairwise.of_cons hB) (by simp at h ⊢; omega)
      refine ⟨i, j + 1, by omega, h2, by simp; omega, ?_, ?_, ?_⟩
      · rw [List.take_succ_cons]
        exact (h4.cons b).trans (List.perm_middle.symm)
      · intro x hx y hy
        rw [List.take_succ_cons] at hy
        rcases List.mem_cons.1 hy with rfl | hy
        · have hx' : x ∈ a :: A := List.mem_of_mem_drop hx
          rcases List.mem_cons.1 hx' with rfl | hx'
          · omega
          · have := (List.pairwise_cons.1 hA).1 x hx'; omega
        · exact h5 x hx y hy
      · rw [List.drop_succ_cons]; exact h6
theorem mg_all (A B : List T) (hA : Srt A) (hB : Srt B) : (mg (A.length + B.length) A B).Perm (A ++ B) := by
  obtain ⟨i, j, h1, h2, h3, h4, _⟩ := mg_split (A.length + B.length) A B hA hB (Nat.le_refl _)
  rw [List.take_of_length_le (by omega), List.take_of_length_le (by omega)] at h4
  exact h4
theorem mg_srt : ∀ (c : Nat) (A B : List T), Srt A → Srt B → Srt (mg c A B)
  | 0, A, B, _, _ => by rw [show mg 0 A B = [] by cases A <;> cases B <;> rfl]; exact List.Pairwise.nil
  | c + 1, [], [], _, _ => by rw [mg]; exact List.Pairwise.nil
  | c + 1, a :: A, [], hA, hB => by
    rw [mg]
    refine List.pairwise_cons.2 ⟨fun y hy => ?_, mg_srt c A [] (List.Pairwise.of_cons hA) hB⟩
    exact (List.pairwise_cons.1 hA).1 y (mg_mem c A [] y hy |>.elim id fun h => absurd h (by simp))
  | c + 1, [], b :: B, hA, hB => by
    rw [mg]
    refine List.pairwise_cons.2 ⟨fun y hy => ?_, mg_srt c [] B hA (List.Pairwise.of_cons hB)⟩
    exact (List.pairwise_cons.1 hB).1 y (mg_mem c [] B y hy |>.elim (fun h => absurd h (by simp)) id)
  | c + 1, a :: A, b :: B, hA, hB => by
    rw [mg]
    have a1 := (List.pairwise_cons.1 hA).1
    have b1 := (List.pairwise_cons.1 hB).1
    split
    · rename_i hab
      refine List.pairwise_cons.2 ⟨fun y hy => ?_, mg_srt c A (b :: B) (List.Pairwise.of_cons hA) hB⟩
      rcases mg_mem c A (b :: B) y hy with h | h
      · exact a1 y h
      · rcases List.mem_cons.1 h with rfl | h
        · exact hab
        · exact Nat.le_trans hab (b1 y h)
    · rename_i hab
      refine List.pairwise_cons.2 ⟨fun y hy => ?_, mg_srt c (a :: A) B hA (List.Pairwise.of_cons hB)⟩
      rcases mg_mem c (a :: A) B y hy with h | h
      · rcases List.mem_cons.1 h with rfl | h
        · omega
        · have := a1 y h; omega
      · exact b1 y h
where
  mg_mem : ∀ (c : Nat) (A B : List T) (y : T), y ∈ mg c A B → y ∈ A ∨ y ∈ B
    | 0, A, B, y, h => by rw [show mg 0 A B = [] by cases A <;> cases B <;> rfl] at h; simp at h
    | c + 1, [], [], y, h => by rw [mg] at h; simp at h
    | c + 1, a :: A, [], y, h => by
      rw [mg] at h
      rcases List.mem_cons.1 h with rfl | h
      · simp
      · exact (mg_mem c A [] y h).imp (List.mem_cons_of_mem _) id
    | c + 1, [], b :: B, y, h => by
      rw [mg] at h
      rcases List.mem_cons.1 h with rfl | h
      · simp
      · exact (mg_mem c [] B y h).imp id (List.mem_cons_of_mem _)
    | c + 1, a :: A, b :: B, y, h => by
      rw [mg] at h
      split at h
      · rcases List.mem_cons.1 h with rfl | h
        · simp
        · exact (mg_mem c A (b :: B) y h).imp (List.mem_cons_of_mem _) id
      · rcases List.mem_cons.1 h with rfl | h
        · simp
        · exact (mg_mem c (a :: A) B y h).imp id (List.mem_cons_of_mem _)
theorem prs_srt : ∀ {l : List T}, Srt l → Srt (prs l)
  | [], _ => List.Pairwise.nil
  | [_], _ => List.Pairwise.nil
  | a :: b :: r, h => by
    rw [prs]
    refine List.pairwise_cons.2 ⟨fun y hy => ?_, prs_srt (List.Pairwise.of_cons (List.Pairwise.of_cons h))⟩
    obtain ⟨x, z, hx, hz, rfl⟩ := prs_mem r y hy
    have h1 := (List.pairwise_cons.1 h).1
    have h2 := (List.pairwise_cons.1 (List.Pairwise.of_cons h)).1
    show wt a + wt b ≤ wt x + wt z
    have := h1 x (by simp [hx]); have := h2 z hz
    omega
where
  prs_mem : ∀ (l : List T) (y : T), y ∈ prs l → ∃ x z, x ∈ l ∧ z ∈ l ∧ y = .node x z
    | [], y, h => by simp [prs] at h
    | [_], y, h => by simp [prs] at h
    | a :: b :: r, y, h => by
      rw [prs] at h
      rcases List.mem_cons.1 h with rfl | h
      · exact ⟨a, b, by simp, by simp, rfl⟩
      · obtain ⟨x, z, hx, hz, e⟩ := prs_mem r y h
        exact ⟨x, z, by simp [hx], by simp [hz], e⟩
theorem sw_app (A B : List T) : sw (A ++ B) = sw A + sw B := by simp [sw]
theorem sc_app (s : Nat) (A B : List T) : sc s (A ++ B) = sc s A + sc s B := by simp [sc]
theorem sw_perm {A B : List T} (h : A.Perm B) : sw A = sw B := (h.map wt).sum_nat
theorem sc_perm {s : Nat} {A B : List T} (h : A.Perm B) : sc s A = sc s B := (h.map (cn s)).sum_nat
theorem prs_sw : ∀ (l : List T) (p : Nat), 2 * p ≤ l.length → sw ((prs l).take p) = sw (l.take (2 * p))
  | l, 0, _ => rfl
  | [], p + 1, h => absurd h (by simp)
  | [_], p + 1, h => absurd h (by simp; omega)
  | a :: b :: r, p + 1, h => by
    have ih := prs_sw r p (by simp at h; omega)
    rw [prs, List.take_succ_cons, show 2 * (p + 1) = 2 * p + 1 + 1 by omega, List.take_succ_cons, List.take_succ_cons]
    simp only [sw, List.map_cons, List.sum_cons] at ih ⊢
    rw [ih]; simp only [wt]; omega
theorem prs_sc (s : Nat) : ∀ (l : List T) (p : Nat), 2 * p ≤ l.length → sc s ((prs l).take p) = sc s (l.take (2 * p))
  | l, 0, _ => rfl
  | [], p + 1, h => absurd h (by simp)
  | [_], p + 1, h => absurd h (by simp; omega)
  | a :: b :: r, p + 1, h => by
    have ih := prs_sc s r p (by simp at h; omega)
    rw [prs, List.take_succ_cons, show 2 * (p + 1) = 2 * p + 1 + 1 by omega, List.take_succ_cons, List.take_succ_cons]
    simp only [sc, List.map_cons, List.sum_cons] at ih ⊢
    rw [ih]; simp only [cn]; omega
/-- the least ones of a sorted list weigh least -/
theorem min_sum : ∀ (l X Y : List T), Srt l → (X ++ Y).Perm l → sw (l.take X.length) ≤ sw X := by
  intro l
  induction l with
  | nil =>
    intro X Y _ h
    have := h.length_eq
    simp at this
    simp [this.1, sw]
  | cons a r ih =>
    intro X Y hl h
    have hr := List.Pairwise.of_cons hl
    have hmem : a ∈ X ++ Y := h.symm.mem_iff.1 (by simp)
    rcases List.mem_append.1 hmem with hX | hY
    · obtain ⟨X1, X2, rfl⟩ := List.append_of_mem hX
      have hp : ((X1 ++ X2) ++ Y).Perm r := by
        have : (a :: (X1 ++ X2 ++ Y)).Perm (a :: r) := by
          refine List.Perm.trans ?_ h
          simp only [List.append_assoc, List.cons_append]
          exact (List.perm_middle).symm
        exact (List.perm_cons a).1 this
      have h1 := ih (X1 ++ X2) Y hr hp
      have e : (X1 ++ a :: X2).length = (X1 ++ X2).length + 1 := by simp; omega
      rw [e, List.take_succ_cons]
      have e2 : sw (X1 ++ a :: X2) = wt a + sw (X1 ++ X2) := by simp [sw]; omega
      rw [e2]
      simp only [sw, List.map_cons, List.sum_cons] at h1 ⊢
      omega
    · obtain ⟨Y1, Y2, rfl⟩ := List.append_of_mem hY
      have hp : (X ++ (Y1 ++ Y2)).Perm r := by
        have : (a :: (X ++ (Y1 ++ Y2))).Perm (a :: r) := by
          refine List.Perm.trans ?_ h
          have e : X ++ (Y1 ++ a :: Y2) = (X ++ Y1) ++ a :: Y2 := by simp
          have e2 : X ++ (Y1 ++ Y2) = (X ++ Y1) ++ Y2 := by simp
          rw [e, e2]
          exact (List.perm_middle).symm
        exact (List.perm_cons a).1 this
      have h1 := ih X (Y1 ++ Y2) hr hp
      refine Nat.le_trans ?_ h1
      have hlen : X.length ≤ r.length := by have := hp.length_eq; simp at this; omega
      cases hm : X.length with
      | zero => simp
      | succ m =>
        rw [List.take_succ_cons, List.take_add_one, List.getElem?_eq_getElem (show m < r.length by omega), sw_app]
        have h2 := (List.pairwise_cons.1 hl).1 (r[m]'(by omega)) (List.getElem_mem _)
        simp only [sw, List.map_cons, List.sum_cons, Option.toList, List.map_nil, List.sum_nil] at h2 ⊢
        omega
end Pm

set_option linter.unusedVariables false
set_option linter.unusedSimpArgs false
namespace Pm
/-- the lists of packs, level by level -/
def lev (one : List T) : Nat → List T
  | 0 => one
  | k + 1 => mg (one.length + (prs (lev one k)).length) one (prs (lev one k))
def sm (f : Nat → Nat) : Nat → Nat
  | 0 => f 0
  | k + 1 => sm f k + f (k + 1)
theorem sm_congr {f g : Nat → Nat} : ∀ k, (∀ j, j ≤ k → f j = g j) → sm f k = sm g k
  | 0, h => h 0 (Nat.le_refl _)
  | k + 1, h => by rw [sm, sm, sm_congr k fun j hj => h j (by omega), h (k + 1) (Nat.le_refl _)]
theorem sm_add (f g : Nat → Nat) : ∀ k, sm (fun j => f j + g j) k = sm f k + sm g k
  | 0 => rfl
  | k + 1 => by rw [sm, sm, sm, sm_add f g k]; omega
theorem sm_zero : ∀ k, sm (fun _ => 0) k = 0
  | 0 => rfl
  | k + 1 => by rw [sm, sm_zero k]
/-- sums over the first ones -/
def rs : Nat → (Nat → Nat) → Nat
  | 0, _ => 0
  | n + 1, f => rs n f + f n
theorem rs_congr {f g : Nat → Nat} : ∀ n, (∀ r, r < n → f r = g r) → rs n f = rs n g
  | 0, _ => rfl
  | n + 1, h => by rw [rs, rs, rs_congr n fun r hr => h r (by omega), h n (by omega)]
theorem rs_add (f g : Nat → Nat) : ∀ n, rs n (fun r => f r + g r) = rs n f + rs n g
  | 0 => rfl
  | n + 1 => by rw [rs, rs, rs, rs_add f g n]; omega
theorem rs_const (c : Nat) : ∀ n, rs n (fun _ => c) = n * c
  | 0 => by simp [rs]
  | n + 1 => by rw [rs, rs_const c n, Nat.succ_mul]
theorem rs_ind (i c : Nat) : ∀ n, i ≤ n → rs n (fun r => if r < i then c else 0) = i * c := by
  intro n
  induction n with
  | zero =>
    intro h
    obtain rfl : i = 0 := by omega
    rw [rs, Nat.zero_mul]
  | succ n ih =>
    intro h
    rw [rs]
    by_cases hi : i ≤ n
    · rw [ih hi, if_neg (by omega), Nat.add_zero]
    · obtain rfl : i = n + 1 := by omega
      rw [if_pos (by omega), rs_congr n (g := fun _ => c) fun r hr => if_pos (by omega), rs_const, Nat.succ_mul]
section
variable {one : List T}
theorem lev_srt (h : Srt one) : ∀ k, Srt (lev one k)
  | 0 => h
  | k + 1 => mg_srt _ _ _ h (prs_srt (lev_srt h k))
theorem lev_perm (h : Srt one) (k : Nat) : (lev one (k + 1)).Perm (one ++ prs (lev one k)) := mg_all one _ h (prs_srt (lev_srt h k))
theorem lev_len (h : Srt one) (k : Nat) : (lev one (k + 1)).length = one.length + (lev one k).length / 2 := by
  rw [(lev_perm h k).length_eq, List.length_append, prs_len]
theorem lev_big (h : Srt one) : ∀ (k e : Nat), one.length ≤ e * 2 ^ k → 2 * one.length ≤ (lev one k).length + e
  | 0, e, he => by simp at he; show 2 * one.length ≤ one.length + e; omega
  | k + 1, e, he => by
    have ih := lev_big h k (2 * e) (by rw [Nat.pow_succ, Nat.mul_comm (2 ^ k) 2, ← Nat.mul_assoc, Nat.mul_comm e 2] at he; exact he)
    rw [lev_len h k]; omega
theorem coin (h : Srt one) : ∀ (k : Nat) (Q : Nat → List T) (m p : Nat → Nat), (∀ j, j ≤ k → ∃ R, (Q j ++ R).Perm one) → m 0 = (Q 0).length → (∀ j, j < k → m j = 2 * p j ∧ m (j + 1) = (Q (j + 1)).length + p j) →
    m k ≤ (lev one k).length ∧ sw ((lev one k).take (m k)) ≤ sm (fun j => sw (Q j)) k
  | 0, Q, m, p, hQ, h0, _ => by
    obtain ⟨R, hR⟩ := hQ 0 (Nat.le_refl _)
    refine ⟨?_, ?_⟩
    · have := hR.length_eq; simp at this; show m 0 ≤ one.length; omega
    · rw [h0]; exact min_sum one (Q 0) R h hR
  | k + 1, Q, m, p, hQ, h0, hm => by
    obtain ⟨ih1, ih2⟩ := coin h k Q m p (fun j hj => hQ j (by omega)) h0 (fun j hj => hm j (by omega))
    obtain ⟨e1, e2⟩ := hm k (by omega)
    obtain ⟨R, hR⟩ := hQ (k + 1) (Nat.le_refl _)
    have hpl : p k ≤ (prs (lev one k)).length := by rw [prs_len]; omega
    have hX : ((Q (k + 1) ++ (prs (lev one k)).take (p k)) ++ (R ++ (prs (lev one k)).drop (p k))).Perm (lev one (k + 1)) := by
      refine List.Perm.trans ?_ (lev_perm h k).symm
      have a1 : ((Q (k + 1) ++ (prs (lev one k)).take (p k)) ++ (R ++ (prs (lev one k)).drop (p k))).Perm ((Q (k + 1) ++ R) ++ ((prs (lev one k)).take (p k) ++ (prs (lev one k)).drop (p k))) := by
        simp only [List.append_assoc]
        refine List.Perm.append_left _ ?_
        rw [← List.append_assoc, ← List.append_assoc]
        exact List.Perm.append_right _ List.perm_append_comm
      rw [List.take_append_drop] at a1
      exact a1.trans (List.Perm.append_right _ hR)
    have hl : (Q (k + 1) ++ (prs (lev one k)).take (p k)).length = m (k + 1) := by
      rw [List.length_append, List.length_take, e2]; omega
    have h1 := min_sum _ _ _ (lev_srt h (k + 1)) hX
    rw [hl, sw_app, prs_sw _ _ (by omega), ← e1] at h1
    refine ⟨?_, by rw [sm]; omega⟩
    have := hX.length_eq
    rw [List.length_append, hl] at this
    omega
theorem prs_in : ∀ (l : List T) (j : Nat) (x : T), (∀ y ∈ l, 0 < wt y) → 2 * j ≤ l.length → x ∈ l.take (2 * j) → ∃ b ∈ (prs l).take j, wt x < wt b
  | l, 0, x, _, _, h => by simp at h
  | [], j + 1, x, _, hl, h => by simp at h
  | [_], j + 1, x, _, hl, h => absurd hl (by simp; omega)
  | a :: b :: r, j + 1, x, hp, hl, h => by
    rw [show 2 * (j + 1) = 2 * j + 1 + 1 by omega, List.take_succ_cons, List.take_succ_cons] at h
    have ha := hp a (by simp)
    have hb := hp b (by simp)
    rw [prs, List.take_succ_cons]
    rcases List.mem_cons.1 h with rfl | h
    · exact ⟨.node x b, by simp, by show wt x < wt x + wt b; omega⟩
    · rcases List.mem_cons.1 h with rfl | h
      · exact ⟨.node a x, by simp, by show wt x < wt a + wt x; omega⟩
      · obtain ⟨c, hc, hw⟩ := prs_in r j x (fun y hy => hp y (by simp [hy])) (by simp at hl; omega) h
        exact ⟨c, by simp [hc], hw⟩
theorem lev_pos (h : Srt one) (hp : ∀ y ∈ one, 0 < wt y) : ∀ k, ∀ y ∈ lev one k, 0 < wt y
  | 0 => hp
  | k + 1 => fun y hy => by
    rcases List.mem_append.1 ((lev_perm h k).mem_iff.1 hy) with hy | hy
    · exact hp y hy
    · obtain ⟨x, z, hx, hz, rfl⟩ := prs_srt.prs_mem _ _ hy
      have := lev_pos h hp k x hx
      show 0 < wt x + wt z
      omega
/-- how many leaves of each level are among the first packs -/
theorem sel (h : Srt one) (hp : ∀ y ∈ one, 0 < wt y) : ∀ (k c : Nat), c ≤ (lev one k).length → ∃ I : Nat → Nat, (∀ t, t ≤ k → I t ≤ one.length) ∧ (∀ t, t < k → I t ≤ I (t + 1)) ∧ sm (fun t => I t * 2 ^ t) k = c * 2 ^ k ∧
      (∀ s, sc s ((lev one k).take c) = sm (fun t => sc s (one.take (I t))) k) ∧ sw ((lev one k).take c) = sm (fun t => sw (one.take (I t))) k ∧ (∀ x ∈ one.take (I k), x ∈ (lev one k).take c)
  | 0, c, hc => ⟨fun _ => c, fun t _ => hc, fun t ht => absurd ht (by omega), rfl, fun s => rfl, rfl, fun x hx => hx⟩
  | k + 1, c, hc => by
    have hs := prs_srt (lev_srt h k)
    have hl : c ≤ one.length + (prs (lev one k)).length := by rw [lev_len h k] at hc; rw [prs_len]; exact hc
    obtain ⟨i, j, h1, h2, h3, h4, h5, h6⟩ := mg_split c one (prs (lev one k)) h hs hl
    have htk : (lev one (k + 1)).take c = mg c one (prs (lev one k)) := mg_take _ _ _ _ hl
    rw [prs_len] at h3
    obtain ⟨I, g1, g2, g3, g4, g5, g6⟩ := sel h hp k (2 * j) (by omega)
    have hik : I k ≤ i := by
      rcases Nat.lt_or_ge i (I k) with hlt | hge
      · exfalso
        have hil : i < one.length := Nat.lt_of_lt_of_le hlt (g1 k (Nat.le_refl _))
        have hm : one[i] ∈ one.take (I k) := by
          rw [List.mem_take_iff_getElem]
          exact ⟨i, by omega, rfl⟩
        have hd : one[i] ∈ one.drop i := by
          rw [List.mem_drop_iff_getElem]
          exact ⟨0, by omega, by simp⟩
        obtain ⟨b, hb, hw⟩ := prs_in (lev one k) j one[i] (lev_pos h hp k) (by omega) (g6 _ hm)
        have := h5 _ hd b hb
        omega
      · exact hge
    have hI : ∀ (f : Nat → Nat) , (fun t => f (if t = k + 1 then i else I t)) (k + 1) = f i := fun f => by simp
    refine ⟨fun t => if t = k + 1 then i else I t, ?_, ?_, ?_, ?_, ?_, ?_⟩
    · intro t ht
      by_cases e : t = k + 1
      · simp only [e, if_true]; exact h2
      · simp only [if_neg e]; exact g1 t (by omega)
    · intro t ht
      by_cases e : t = k
      · subst e; simp only [if_neg (show ¬ t = t + 1 by omega), if_true]; exact hik
      · simp only [if_neg (show ¬ t = k + 1 by omega), if_neg (show ¬ t + 1 = k + 1 by omega)]; exact g2 t (by omega)
    · rw [sm, sm_congr k (g := fun t => I t * 2 ^ t) fun t ht => by simp only [if_neg (show ¬ t = k + 1 by omega)], g3]
      simp only [if_true]
      rw [← h1, Nat.add_mul, Nat.pow_succ]
      have : 2 * j * 2 ^ k = j * (2 ^ k * 2) := by rw [Nat.mul_comm (2 ^ k) 2, ← Nat.mul_assoc, Nat.mul_comm j 2]
      omega
    · intro s
      have e := sm_congr (f := fun t => sc s (one.take (if t = k + 1 then i else I t))) (g := fun t => sc s (one.take (I t))) k fun t ht => by simp only [if_neg (show ¬ t = k + 1 by omega)]
      rw [htk, sc_perm h4, sc_app, prs_sc s _ _ (by omega), g4 s, sm, e]
      simp only [if_true]
      omega
    · have e := sm_congr (f := fun t => sw (one.take (if t = k + 1 then i else I t))) (g := fun t => sw (one.take (I t))) k fun t ht => by simp only [if_neg (show ¬ t = k + 1 by omega)]
      rw [htk, sw_perm h4, sw_app, prs_sw _ _ (by omega), g5, sm, e]
      simp only [if_true]
      omega
    · intro x hx
      simp only [if_true] at hx
      rw [htk]
      exact h4.symm.mem_iff.1 (List.mem_append_left _ hx)
end
end Pm

set_option linter.unusedVariables false
set_option linter.unusedSimpArgs false
namespace Pm
/-! what the numbers of leaves say of the lengths -/
/-- a symbol's length: in how many levels it stands -/
def ln (I : Nat → Nat) (k r : Nat) : Nat := sm (fun t => if r < I t then 1 else 0) k
theorem ln_le (I : Nat → Nat) : ∀ k r, ln I k r ≤ k + 1
  | 0, r => by show (if r < I 0 then 1 else 0) ≤ 1; split <;> omega
  | k + 1, r => by
    have := ln_le I k r
    show ln I k r + (if r < I (k + 1) then 1 else 0) ≤ k + 1 + 1
    split <;> omega
theorem ln_pow (I : Nat → Nat) (r : Nat) : ∀ k, (∀ t, t < k → I t ≤ I (t + 1)) → (r < I k → True) ∧ (¬ r < I k → ln I k r = 0) ∧ sm (fun t => if r < I t then 2 ^ t else 0) k + 2 ^ (k + 1 - ln I k r) = 2 ^ (k + 1)
  | 0, _ => by
    refine ⟨fun _ => trivial, fun h => ?_, ?_⟩
    · show (if r < I 0 then 1 else 0) = 0; rw [if_neg h]
    · show (if r < I 0 then 2 ^ 0 else 0) + 2 ^ (0 + 1 - (if r < I 0 then 1 else 0)) = 2 ^ (0 + 1)
      split <;> decide
  | k + 1, hI => by
    obtain ⟨_, h1, h2⟩ := ln_pow I r k fun t ht => hI t (by omega)
    have hm := hI k (by omega)
    have hle := ln_le I k r
    have e : ln I (k + 1) r = ln I k r + (if r < I (k + 1) then 1 else 0) := rfl
    refine ⟨fun _ => trivial, fun h => ?_, ?_⟩
    · rw [e, if_neg h, h1 (by omega)]
    · rw [sm, e]
      by_cases h : r < I (k + 1)
      · rw [if_pos h, if_pos h, show k + 1 + 1 - (ln I k r + 1) = k + 1 - ln I k r by omega, Nat.pow_succ 2 (k + 1)]
        omega
      · rw [if_neg h, if_neg h]
        have hz := h1 (by omega)
        rw [hz] at h2 ⊢
        have : sm (fun t => if r < I t then 2 ^ t else 0) k = 0 := by
          rw [Nat.sub_zero] at h2; omega
        rw [this]
        simp
theorem rs_sm (n : Nat) (f : Nat → Nat → Nat) : ∀ k, rs n (fun r => sm (fun t => f r t) k) = sm (fun t => rs n (fun r => f r t)) k
  | 0 => rfl
  | k + 1 => by
    rw [sm, ← rs_sm n f k, ← rs_add]; rfl
/-- the lengths are just full -/
theorem kraft {I : Nat → Nat} {n k c : Nat} (hn : ∀ t, t ≤ k → I t ≤ n) (hI : ∀ t, t < k → I t ≤ I (t + 1)) (hw : sm (fun t => I t * 2 ^ t) k = c * 2 ^ k) : c * 2 ^ k + rs n (fun r => 2 ^ (k + 1 - ln I k r)) = n * 2 ^ (k + 1) := by
  have h1 : rs n (fun r => sm (fun t => if r < I t then 2 ^ t else 0) k + 2 ^ (k + 1 - ln I k r)) = n * 2 ^ (k + 1) := by
    rw [rs_congr n (g := fun _ => 2 ^ (k + 1)) fun r _ => (ln_pow I r k hI).2.2, rs_const]
  rw [rs_add, rs_sm, sm_congr k (g := fun t => I t * 2 ^ t) fun t ht => rs_ind (I t) (2 ^ t) n (hn t ht), hw] at h1
  exact h1
theorem rs_ge (f : Nat → Nat) : ∀ n r, r < n → f r ≤ rs n f
  | 0, r, h => absurd h (by omega)
  | n + 1, r, h => by
    rw [rs]
    rcases Nat.lt_or_ge r n with h' | h'
    · have := rs_ge f n r h'; omega
    · obtain rfl : r = n := by omega
      omega
theorem rs_two (f : Nat → Nat) (h1 : ∀ r, 0 < f r) : ∀ n r, r < n → 2 ≤ n → f r < rs n f
  | 0, r, h, _ => absurd h (by omega)
  | 1, r, _, h => absurd h (by omega)
  | n + 2, r, h, _ => by
    rw [rs]
    rcases Nat.lt_or_ge r (n + 1) with h' | h'
    · have := rs_ge f (n + 1) r h'; have := h1 (n + 1); omega
    · obtain rfl : r = n + 1 := by omega
      have := rs_ge f (n + 1) 0 (by omega)
      have := h1 0
      omega
/-- each symbol has a length -/
theorem ln_pos {I : Nat → Nat} {n k : Nat} (h2 : 2 ≤ n) (hn : ∀ t, t ≤ k → I t ≤ n) (hI : ∀ t, t < k → I t ≤ I (t + 1)) (hw : sm (fun t => I t * 2 ^ t) k = (2 * n - 2) * 2 ^ k) : (∀ r, r < n → 1 ≤ ln I k r) ∧ rs n (fun r => 2 ^ (k + 1 - ln I k r)) = 2 ^ (k + 1) := by
  have hk := kraft hn hI hw
  have hsum : rs n (fun r => 2 ^ (k + 1 - ln I k r)) = 2 ^ (k + 1) := by
    have e1 : n * 2 ^ (k + 1) = (2 * n) * 2 ^ k := by rw [Nat.pow_succ, Nat.mul_comm (2 ^ k) 2, ← Nat.mul_assoc, Nat.mul_comm n 2]
    have e2 : (2 * n) * 2 ^ k = (2 * n - 2) * 2 ^ k + 2 * 2 ^ k := by rw [← Nat.add_mul]; congr 1; omega
    have e3 : 2 ^ (k + 1) = 2 * 2 ^ k := by rw [Nat.pow_succ, Nat.mul_comm]
    omega
  refine ⟨fun r hr => ?_, hsum⟩
  rcases Nat.eq_zero_or_pos (ln I k r) with h | h
  · have : 2 ^ (k + 1 - ln I k r) < rs n (fun r => 2 ^ (k + 1 - ln I k r)) := rs_two (fun r => 2 ^ (k + 1 - ln I k r)) (fun r => Nat.pow_pos (by omega)) n r hr h2
    rw [hsum, h, Nat.sub_zero] at this
    omega
  · exact h
end Pm

set_option linter.unusedVariables false
set_option linter.unusedSimpArgs false
namespace Pm
/-! other lengths cost no less -/
section
variable (L : Nat) (o : T → Nat)
/-- the leaves whose other length reaches down to a level -/
def Qj (one : List T) (j : Nat) : List T := one.filter fun x => decide (L - j ≤ o x)
def qn (one : List T) (j : Nat) : Nat := (Qj L o one j).length
def Kj (one : List T) (j : Nat) : Nat := ((Qj L o one j).map fun x => 2 ^ (L - o x)).sum
def al (one : List T) : Nat := (one.map fun x => 2 ^ (L - o x)).sum
/-- how many are just at a level -/
def at_ (one : List T) (j : Nat) : Nat := (one.filter fun x => decide (o x = L - j)).length
theorem Qj_cons (a : T) (r : List T) (j : Nat) : Qj L o (a :: r) j = if L - j ≤ o a then a :: Qj L o r j else Qj L o r j := by
  unfold Qj
  by_cases h : L - j ≤ o a
  · rw [List.filter_cons_of_pos (by simpa using h), if_pos h]
  · rw [List.filter_cons_of_neg (by simpa using h), if_neg h]
theorem at_cons (a : T) (r : List T) (j : Nat) : at_ L o (a :: r) j = at_ L o r j + if o a = L - j then 1 else 0 := by
  unfold at_
  by_cases h : o a = L - j
  · rw [List.filter_cons_of_pos (by simpa using h), if_pos h]; rfl
  · rw [List.filter_cons_of_neg (by simpa using h), if_neg h]; rfl
theorem q_step (j : Nat) (hj : j + 1 ≤ L) : ∀ one : List T, qn L o one (j + 1) = qn L o one j + at_ L o one (j + 1) ∧ Kj L o one (j + 1) = Kj L o one j + at_ L o one (j + 1) * 2 ^ (j + 1)
  | [] => ⟨rfl, by simp [Kj, Qj, at_]⟩
  | a :: r => by
    obtain ⟨h1, h2⟩ := q_step j hj r
    unfold qn Kj at *
    rw [Qj_cons, Qj_cons, at_cons]
    by_cases ha : L - j ≤ o a
    · rw [if_pos (show L - (j + 1) ≤ o a by omega), if_pos ha, if_neg (show ¬ o a = L - (j + 1) by omega)]
      simp only [List.length_cons, List.map_cons, List.sum_cons, Nat.add_zero]
      omega
    · rw [if_neg ha]
      by_cases hb : o a = L - (j + 1)
      · rw [if_pos (show L - (j + 1) ≤ o a by omega), if_pos hb]
        simp only [List.length_cons, List.map_cons, List.sum_cons, Nat.add_mul, Nat.one_mul]
        rw [show L - o a = j + 1 by omega]
        omega
      · rw [if_neg (show ¬ L - (j + 1) ≤ o a by omega), if_neg hb, Nat.add_zero]
        exact ⟨h1, h2⟩
theorem q_zero : ∀ one : List T, (∀ x ∈ one, o x ≤ L) → Kj L o one 0 = qn L o one 0
  | [], _ => rfl
  | a :: r, h => by
    have ih := q_zero r fun x hx => h x (by simp [hx])
    have ha := h a (by simp)
    unfold qn Kj at *
    rw [Qj_cons]
    split
    · rename_i hc
      simp only [List.length_cons, List.map_cons, List.sum_cons, ih]
      rw [show L - o a = 0 by omega]; omega
    · exact ih
theorem q_last : ∀ one : List T, (∀ x ∈ one, 1 ≤ o x) → qn L o one (L - 1) = one.length ∧ Kj L o one (L - 1) = al L o one
  | [], _ => ⟨rfl, rfl⟩
  | a :: r, h => by
    obtain ⟨i1, i2⟩ := q_last r fun x hx => h x (by simp [hx])
    have ha := h a (by simp)
    unfold qn Kj al at *
    rw [Qj_cons, if_pos (by omega)]
    simp only [List.length_cons, List.map_cons, List.sum_cons]
    omega
/-- the rest are multiples of a greater part -/
theorem rest_div (j : Nat) : ∀ one : List T, ∃ e, al L o one = Kj L o one j + e * 2 ^ (j + 1)
  | [] => ⟨0, by simp [al, Kj, Qj]⟩
  | a :: r => by
    obtain ⟨e, he⟩ := rest_div j r
    unfold al Kj at *
    rw [Qj_cons]
    split
    · exact ⟨e, by simp only [List.map_cons, List.sum_cons]; omega⟩
    · rename_i hc
      obtain ⟨d, hd⟩ : ∃ d, L - o a = j + 1 + d := ⟨L - o a - (j + 1), by omega⟩
      refine ⟨e + 2 ^ d, ?_⟩
      simp only [List.map_cons, List.sum_cons]
      rw [hd, Nat.pow_add, Nat.add_mul, Nat.mul_comm (2 ^ (j + 1)) (2 ^ d)]
      omega
theorem K_le (j : Nat) : ∀ one : List T, Kj L o one j ≤ qn L o one j * 2 ^ j
  | [] => by simp [Kj, Qj]
  | a :: r => by
    have ih := K_le j r
    unfold qn Kj at *
    rw [Qj_cons]
    split
    · rename_i hc
      simp only [List.length_cons, List.map_cons, List.sum_cons, Nat.add_mul, Nat.one_mul]
      have : 2 ^ (L - o a) ≤ 2 ^ j := Nat.pow_le_pow_right (by omega) (by omega)
      omega
    · exact ih
theorem cost_eq (hL : 1 ≤ L) : ∀ one : List T, (∀ x ∈ one, 1 ≤ o x ∧ o x ≤ L) → sm (fun j => sw (Qj L o one j)) (L - 1) = (one.map fun x => wt x * o x).sum
  | [], _ => by
    have e := sm_congr (f := fun j => sw (Qj L o [] j)) (g := fun _ => 0) (L - 1) fun j _ => rfl
    rw [e, sm_zero]; rfl
  | a :: r, h => by
    have ih := cost_eq hL r fun x hx => h x (by simp [hx])
    obtain ⟨a1, a2⟩ := h a (by simp)
    have hs : ∀ k, sm (fun j => if L - j ≤ o a then wt a else 0) k = wt a * (k + 1 - (L - o a)) := by
      intro k
      induction k with
      | zero =>
        show (if L - 0 ≤ o a then wt a else 0) = _
        split
        · rw [show 0 + 1 - (L - o a) = 1 by omega, Nat.mul_one]
        · rw [show 0 + 1 - (L - o a) = 0 by omega, Nat.mul_zero]
      | succ k ih =>
        rw [sm, ih]
        split
        · rw [show k + 1 + 1 - (L - o a) = (k + 1 - (L - o a)) + 1 by omega, Nat.mul_add, Nat.mul_one]
        · rw [show k + 1 + 1 - (L - o a) = k + 1 - (L - o a) by omega, Nat.add_zero]
    have e : sm (fun j => sw (Qj L o (a :: r) j)) (L - 1) = sm (fun j => (if L - j ≤ o a then wt a else 0) + sw (Qj L o r j)) (L - 1) := sm_congr _ fun j _ => by
      rw [Qj_cons]
      split
      · simp [sw]
      · rw [Nat.zero_add]
    rw [e, sm_add, ih, hs]
    simp only [List.map_cons, List.sum_cons]
    rw [show L - 1 + 1 - (L - o a) = o a by omega]
end
/-- no other lengths that are just full cost less -/
theorem best {one : List T} (h : Srt one) (L : Nat) (hL : 1 ≤ L) (o : T → Nat) (ho : ∀ x ∈ one, 1 ≤ o x ∧ o x ≤ L) (hf : al L o one = 2 ^ L) : 2 * one.length - 2 ≤ (lev one (L - 1)).length ∧ sw ((lev one (L - 1)).take (2 * one.length - 2)) ≤ (one.map fun x => wt x * o x).sum := by
  have hdiv : ∀ j, j + 1 ≤ L → ∃ e, Kj L o one j = e * 2 ^ (j + 1) := fun j hj => by
    obtain ⟨e, he⟩ := rest_div L o j one
    obtain ⟨d, hd⟩ : ∃ d, L = j + 1 + d := ⟨L - (j + 1), by omega⟩
    have h2 : 2 ^ L = 2 ^ d * 2 ^ (j + 1) := by rw [hd, Nat.pow_add, Nat.mul_comm]
    rw [hf, h2] at he
    refine ⟨2 ^ d - e, ?_⟩
    rw [Nat.sub_mul]; omega
  have hm : ∀ j, j < L - 1 → (fun j => 2 * qn L o one j - Kj L o one j / 2 ^ j) j = 2 * (fun j => qn L o one j - Kj L o one j / 2 ^ (j + 1)) j ∧ (fun j => 2 * qn L o one j - Kj L o one j / 2 ^ j) (j + 1) = (Qj L o one (j + 1)).length + (fun j => qn L o one j - Kj L o one j / 2 ^ (j + 1)) j := by
    intro j hj
    obtain ⟨e, he⟩ := hdiv j (by omega)
    obtain ⟨s1, s2⟩ := q_step L o j (by omega) one
    have hle := K_le L o j one
    have hp : 0 < 2 ^ j := Nat.pow_pos (by omega)
    have hp1 : 0 < 2 ^ (j + 1) := Nat.pow_pos (by omega)
    have e1 : Kj L o one j / 2 ^ j = 2 * e := by
      rw [he, Nat.pow_succ, Nat.mul_comm (2 ^ j) 2, ← Nat.mul_assoc, Nat.mul_div_cancel _ hp, Nat.mul_comm]
    have e2 : Kj L o one j / 2 ^ (j + 1) = e := by rw [he, Nat.mul_div_cancel _ hp1]
    have e3 : Kj L o one (j + 1) / 2 ^ (j + 1) = e + at_ L o one (j + 1) := by rw [s2, he, ← Nat.add_mul, Nat.mul_div_cancel _ hp1]
    have hle2 : 2 * e ≤ qn L o one j := by
      rw [he, Nat.pow_succ, Nat.mul_comm (2 ^ j) 2, ← Nat.mul_assoc] at hle
      have := Nat.le_of_mul_le_mul_right hle hp
      omega
    show 2 * qn L o one j - Kj L o one j / 2 ^ j = 2 * (qn L o one j - Kj L o one j / 2 ^ (j + 1)) ∧ 2 * qn L o one (j + 1) - Kj L o one (j + 1) / 2 ^ (j + 1) = (Qj L o one (j + 1)).length + (qn L o one j - Kj L o one j / 2 ^ (j + 1))
    rw [e1, e2, e3]
    have : (Qj L o one (j + 1)).length = qn L o one (j + 1) := rfl
    rw [this, s1]
    omega
  have hc := coin h (L - 1) (fun j => Qj L o one j) (fun j => 2 * qn L o one j - Kj L o one j / 2 ^ j) (fun j => qn L o one j - Kj L o one j / 2 ^ (j + 1))
    (fun j _ => ⟨one.filter fun x => !decide (L - j ≤ o x), List.filter_append_perm _ _⟩)
    (by show 2 * qn L o one 0 - Kj L o one 0 / 2 ^ 0 = qn L o one 0; rw [q_zero L o one fun x hx => (ho x hx).2, Nat.pow_zero, Nat.div_one]; omega) hm
  obtain ⟨l1, l2⟩ := q_last L o one fun x hx => (ho x hx).1
  have e4 : 2 ^ L / 2 ^ (L - 1) = 2 := by
    rw [show (2 : Nat) ^ L = 2 * 2 ^ (L - 1) by rw [← Nat.pow_succ', show (L - 1).succ = L by omega], Nat.mul_div_cancel _ (Nat.pow_pos (by omega))]
  rw [l1, l2, hf, e4, cost_eq L o hL one ho] at hc
  exact hc
end Pm

set_option linter.unusedVariables false
set_option linter.unusedSimpArgs false
namespace Pm
/-! the lengths of symbols (plain laws) -/
theorem mg_mrg : ∀ (f : Nat) (A B : List T), A.length + B.length ≤ f → mg f A B = mrg wt A B
  | 0, [], [], _ => rfl
  | 0, a :: A, _, h => absurd h (by simp)
  | 0, [], b :: B, h => absurd h (by simp)
  | f + 1, [], [], _ => rfl
  | f + 1, a :: A, [], h => by rw [mg, mg_mrg f A [] (by simp at h ⊢; omega), mrg_nilR, mrg_nilR]
  | f + 1, [], b :: B, h => by rw [mg, mg_mrg f [] B (by simp at h ⊢; omega)]; rfl
  | f + 1, a :: A, b :: B, h => by
    rw [mg, mrg_cons, mg_mrg f A (b :: B) (by simp at h ⊢; omega), mg_mrg f (a :: A) B (by simp at h ⊢; omega)]
/-- the leaves of the symbols that come -/
def lvf : Nat → List Nat → List T
  | _, [] => []
  | i, w :: r => if 0 < w then .leaf w i :: lvf (i + 1) r else lvf (i + 1) r
def sy : T → Nat
  | .leaf _ s => s
  | .node _ _ => 0
def isLf : T → Prop
  | .leaf _ _ => True
  | .node _ _ => False
theorem lvf_app : ∀ (A B : List Nat) (i : Nat), lvf i (A ++ B) = lvf i A ++ lvf (i + A.length) B
  | [], B, i => by simp [lvf]
  | a :: A, B, i => by
    rw [List.cons_append, lvf, lvf, lvf_app A B (i + 1), List.length_cons, show i + 1 + A.length = i + (A.length + 1) by omega]
    split <;> rfl
theorem lvf_mem : ∀ {W : List Nat} {i : Nat} {x : T}, x ∈ lvf i W → ∃ k, k < W.length ∧ x = .leaf (W.getD k 0) (i + k) ∧ 0 < W.getD k 0
  | [], i, x, h => by simp [lvf] at h
  | w :: r, i, x, h => by
    rw [lvf] at h
    split at h
    · rename_i hw
      rcases List.mem_cons.1 h with rfl | h
      · exact ⟨0, by simp, by simp, by simpa using hw⟩
      · obtain ⟨k, h1, h2, h3⟩ := lvf_mem h
        exact ⟨k + 1, by simp; omega, by rw [h2, show i + 1 + k = i + (k + 1) by omega]; simp, by simpa using h3⟩
    · obtain ⟨k, h1, h2, h3⟩ := lvf_mem h
      exact ⟨k + 1, by simp; omega, by rw [h2, show i + 1 + k = i + (k + 1) by omega]; simp, by simpa using h3⟩
theorem lvf_in : ∀ {W : List Nat} {i k : Nat}, k < W.length → 0 < W.getD k 0 → T.leaf (W.getD k 0) (i + k) ∈ lvf i W
  | [], i, k, h, _ => absurd h (by simp)
  | w :: r, i, 0, h, h0 => by
    rw [lvf, if_pos (by simpa using h0)]; simp
  | w :: r, i, k + 1, h, h0 => by
    have := lvf_in (W := r) (i := i + 1) (k := k) (by simpa using h) (by simpa using h0)
    rw [show i + 1 + k = i + (k + 1) by omega] at this
    rw [lvf]
    have e : (w :: r).getD (k + 1) 0 = r.getD k 0 := by simp
    rw [e]
    split
    · exact List.mem_cons_of_mem _ this
    · exact this
theorem lvf_inc : ∀ (W : List Nat) (i : Nat), ((lvf i W).map sy).Pairwise (· < ·)
  | [], i => List.Pairwise.nil
  | w :: r, i => by
    rw [lvf]
    split
    · rw [List.map_cons]
      refine List.pairwise_cons.2 ⟨fun y hy => ?_, lvf_inc r (i + 1)⟩
      obtain ⟨x, hx, rfl⟩ := List.mem_map.1 hy
      obtain ⟨k, _, rfl, _⟩ := lvf_mem hx
      show i < i + 1 + k
      omega
    · exact lvf_inc r (i + 1)
theorem lvf_len_le : ∀ (W : List Nat) (i : Nat), (lvf i W).length ≤ W.length
  | [], i => by simp [lvf]
  | w :: r, i => by
    have := lvf_len_le r (i + 1)
    rw [lvf]
    split <;> simp <;> omega
/-- the symbols that come, the rarest ones first -/
def oneW (W : List Nat) : List T := isrt wt (lvf 0 W)
theorem oneW_perm (W : List Nat) : (oneW W).Perm (lvf 0 W) := isrt_perm wt _
theorem oneW_srt (W : List Nat) : Srt (oneW W) := isrt_srt wt _
theorem oneW_len (W : List Nat) : (oneW W).length = (lvf 0 W).length := isrt_len wt _
theorem oneW_nodup (W : List Nat) : ((oneW W).map sy).Nodup := by
  refine ((oneW_perm W).map sy).nodup_iff.2 ?_
  exact (lvf_inc W 0).imp (fun h => by omega)
theorem oneW_mem {W : List Nat} {x : T} (h : x ∈ oneW W) : ∃ k, k < W.length ∧ x = .leaf (W.getD k 0) k ∧ 0 < W.getD k 0 := by
  obtain ⟨k, h1, h2, h3⟩ := lvf_mem ((oneW_perm W).mem_iff.1 h)
  exact ⟨k, h1, by rw [h2, Nat.zero_add], h3⟩
theorem oneW_in {W : List Nat} {k : Nat} (h : k < W.length) (h0 : 0 < W.getD k 0) : T.leaf (W.getD k 0) k ∈ oneW W := by
  have := lvf_in (i := 0) h h0
  rw [Nat.zero_add] at this
  exact (oneW_perm W).mem_iff.2 this
theorem oneW_pos (W : List Nat) : ∀ y ∈ oneW W, 0 < wt y := fun y hy => by
  obtain ⟨k, _, rfl, h⟩ := oneW_mem hy
  exact h
/-- the length of a symbol -/
def LL (W : List Nat) (L s : Nat) : Nat :=
  match (oneW W).length with
  | 0 => 0
  | 1 => sc s (oneW W)
  | _ => sc s ((lev (oneW W) (L - 1)).take (2 * (oneW W).length - 2))
theorem LL_two {W : List Nat} {L : Nat} (s : Nat) (h : 2 ≤ (oneW W).length) : LL W L s = sc s ((lev (oneW W) (L - 1)).take (2 * (oneW W).length - 2)) := by
  unfold LL
  split <;> first | omega | rfl
theorem sc_none {s : Nat} : ∀ {l : List T}, (∀ x ∈ l, isLf x ∧ sy x ≠ s) → sc s l = 0
  | [], _ => rfl
  | .leaf w t :: r, h => by
    have h1 : ¬ t = s := (h (.leaf w t) (by simp)).2
    have h2 := sc_none (l := r) fun x hx => h x (by simp [hx])
    simp only [sc, List.map_cons, List.sum_cons, cn] at h2 ⊢
    rw [h2, if_neg h1]
  | .node a b :: r, h => (h (.node a b) (by simp)).1.elim
theorem sc_rank : ∀ {l : List T} {r : Nat} (i : Nat) (hr : r < l.length), (∀ x ∈ l, isLf x) → (l.map sy).Nodup → sc (sy l[r]) (l.take i) = if r < i then 1 else 0
  | [], r, i, hr, _, _ => absurd hr (by simp)
  | .node a b :: l, r, i, hr, h, _ => (h (.node a b) (by simp)).elim
  | .leaf w t :: l, r, 0, hr, h, hd => by simp [sc]
  | .leaf w t :: l, 0, i + 1, hr, h, hd => by
    rw [List.map_cons, List.nodup_cons] at hd
    have h2 : sc t (l.take i) = 0 := sc_none fun x hx => ⟨h x (by simp [List.mem_of_mem_take hx]), fun e => hd.1 (List.mem_map.2 ⟨x, List.mem_of_mem_take hx, e⟩)⟩
    rw [List.take_succ_cons, if_pos (by omega)]
    show sc t (_ :: _) = 1
    simp only [sc, List.map_cons, List.sum_cons, cn, if_true] at h2 ⊢
    omega
  | .leaf w t :: l, r + 1, i + 1, hr, h, hd => by
    rw [List.map_cons, List.nodup_cons] at hd
    have hr' : r < l.length := by simpa using hr
    have ih := sc_rank i hr' (fun x hx => h x (by simp [hx])) hd.2
    rw [List.take_succ_cons]
    show sc (sy l[r]) (_ :: _) = _
    have hne : ¬ t = sy l[r] := fun e => hd.1 (List.mem_map.2 ⟨l[r], List.getElem_mem _, e.symm⟩)
    simp only [sc, List.map_cons, List.sum_cons, cn] at ih ⊢
    rw [ih, if_neg hne, Nat.zero_add]
    by_cases hri : r < i
    · rw [if_pos hri, if_pos (by omega)]
    · rw [if_neg hri, if_neg (by omega)]
theorem rs_list (g : T → Nat) : ∀ l : List T, (l.map g).sum = rs l.length fun r => g (l.getD r (.leaf 0 0)) := by
  intro l
  refine snoc_ind (p := fun l => (l.map g).sum = rs l.length fun r => g (l.getD r (.leaf 0 0))) rfl ?_ l
  intro l x ih
  rw [List.length_append, List.length_singleton, rs, List.map_append, List.sum_append, ih]
  congr 1
  · exact rs_congr _ fun r hr => by
      congr 1
      rw [List.getD_eq_getElem?_getD, List.getD_eq_getElem?_getD, List.getElem?_append_left hr]
  · simp
theorem rs_sw (l : List T) (i : Nat) (hi : i ≤ l.length) : rs l.length (fun r => if r < i then wt (l.getD r (.leaf 0 0)) else 0) = sw (l.take i) := by
  have key : ∀ n, n ≤ l.length → rs n (fun r => if r < i then wt (l.getD r (.leaf 0 0)) else 0) = sw ((l.take i).take n) := by
    intro n
    induction n with
    | zero => intro _; rfl
    | succ n ih =>
      intro hn
      rw [rs, ih (by omega)]
      have hx : l.getD n (.leaf 0 0) = l[n] := by rw [List.getD_eq_getElem?_getD, List.getElem?_eq_getElem (by omega)]; rfl
      rw [List.take_take, List.take_take]
      by_cases h : n < i
      · rw [if_pos h, hx, show min n i = n by omega, show min (n + 1) i = n + 1 by omega, List.take_add_one, List.getElem?_eq_getElem (show n < l.length by omega), sw_app]
        simp [sw]
      · rw [if_neg h, show min n i = i by omega, show min (n + 1) i = i by omega, Nat.add_zero]
  rw [key _ (Nat.le_refl _), List.take_of_length_le (by rw [List.length_take]; omega)]
theorem sm_mul (c : Nat) (f : Nat → Nat) : ∀ k, c * sm f k = sm (fun t => c * f t) k
  | 0 => rfl
  | k + 1 => by rw [sm, sm, Nat.mul_add, sm_mul c f k]
/-- what the packs say of the lengths -/
structure Lens (W : List Nat) (L : Nat) : Prop where
  long : 2 * (oneW W).length - 2 ≤ (lev (oneW W) (L - 1)).length
  ranks : ∃ I : Nat → Nat, (∀ r (hr : r < (oneW W).length), LL W L (sy (oneW W)[r]) = ln I (L - 1) r ∧ 1 ≤ ln I (L - 1) r ∧ ln I (L - 1) r ≤ L) ∧
    rs (oneW W).length (fun r => 2 ^ (L - ln I (L - 1) r)) = 2 ^ L ∧ rs (oneW W).length (fun r => wt ((oneW W).getD r (.leaf 0 0)) * ln I (L - 1) r) = sw ((lev (oneW W) (L - 1)).take (2 * (oneW W).length - 2))
  none : ∀ s, (∀ x ∈ oneW W, sy x ≠ s) → LL W L s = 0
theorem lens {W : List Nat} {L : Nat} (hL : 1 ≤ L) (h2 : 2 ≤ (oneW W).length) (hb : (oneW W).length ≤ 2 ^ L) : Lens W L := by
  have hs := oneW_srt W
  have hlong : 2 * (oneW W).length - 2 ≤ (lev (oneW W) (L - 1)).length := by
    have := lev_big hs (L - 1) 2 (by rw [← Nat.pow_succ', show (L - 1).succ = L by omega]; exact hb)
    omega
  obtain ⟨I, g1, g2, g3, g4, g5, g6⟩ := sel hs (oneW_pos W) (L - 1) _ hlong
  have hlf : ∀ x ∈ oneW W, isLf x := fun x hx => by obtain ⟨k, _, rfl, _⟩ := oneW_mem hx; trivial
  obtain ⟨p1, p2⟩ := ln_pos h2 g1 g2 g3
  have eL : L - 1 + 1 = L := by omega
  rw [eL] at p2
  refine ⟨hlong, ⟨I, fun r hr => ⟨?_, p1 r hr, by have := ln_le I (L - 1) r; omega⟩, p2, ?_⟩, fun s hn => ?_⟩
  · rw [LL_two _ h2, g4]
    exact sm_congr _ fun t ht => sc_rank _ hr hlf (oneW_nodup W)
  · rw [g5]
    have e : rs (oneW W).length (fun r => wt ((oneW W).getD r (.leaf 0 0)) * ln I (L - 1) r) = rs (oneW W).length (fun r => sm (fun t => if r < I t then wt ((oneW W).getD r (.leaf 0 0)) else 0) (L - 1)) := rs_congr _ fun r _ => by
      unfold ln
      rw [sm_mul]
      exact sm_congr _ fun t _ => by split <;> simp
    rw [e, rs_sm]
    exact sm_congr _ fun t ht => rs_sw _ _ (g1 t ht)
  · rw [LL_two _ h2, g4]
    rw [sm_congr (g := fun _ => 0) _ fun t ht => sc_none fun x hx => ⟨hlf x (List.mem_of_mem_take hx), hn x (List.mem_of_mem_take hx)⟩, sm_zero]
end Pm

set_option linter.unusedVariables false
set_option linter.unusedSimpArgs false
namespace Pm
/-! the lengths may be, and none cost less (plain laws) -/
theorem sum_perm {A B : List T} (h : A.Perm B) (g : T → Nat) : (A.map g).sum = (B.map g).sum := (h.map g).sum_nat
theorem sum_congr {l : List T} {f g : T → Nat} (h : ∀ x ∈ l, f x = g x) : (l.map f).sum = (l.map g).sum := by rw [List.map_congr_left h]
theorem sum_mul (c : Nat) (g : T → Nat) : ∀ l : List T, (l.map fun x => c * g x).sum = c * (l.map g).sum
  | [] => rfl
  | a :: r => by rw [List.map_cons, List.map_cons, List.sum_cons, List.sum_cons, sum_mul c g r, Nat.mul_add]
theorem one_getD {W : List Nat} {r : Nat} (hr : r < (oneW W).length) : (oneW W).getD r (.leaf 0 0) = (oneW W)[r] := by rw [List.getD_eq_getElem?_getD, List.getElem?_eq_getElem hr]; rfl
theorem pw15 {L l : Nat} (hL : L ≤ 15) (hl : l ≤ L) : 32768 / 2 ^ l = 2 ^ (15 - L) * 2 ^ (L - l) := by
  rw [← Nat.pow_add, show 15 - L + (L - l) = 15 - l by omega]
  exact (Nat.pow_div (show l ≤ 15 by omega) (by omega) : 2 ^ 15 / 2 ^ l = 2 ^ (15 - l))
theorem LL_zero {W : List Nat} {L : Nat} (s : Nat) (h : (oneW W).length = 0) : LL W L s = 0 := by
  unfold LL
  rw [h]; rfl
theorem LL_one {W : List Nat} {L : Nat} (s : Nat) (h : (oneW W).length = 1) : LL W L s = sc s (oneW W) := by
  unfold LL
  rw [h]; rfl
theorem sc_leaf {W : List Nat} {k s : Nat} (h : oneW W = [.leaf (W.getD k 0) k]) : sc s (oneW W) = if k = s then 1 else 0 := by
  rw [h]; simp [sc, cn]
theorem one_leaf {W : List Nat} (h : (oneW W).length = 1) : ∃ k, k < W.length ∧ oneW W = [.leaf (W.getD k 0) k] ∧ 0 < W.getD k 0 := by
  obtain ⟨x, hx⟩ := List.length_eq_one_iff.1 h
  obtain ⟨k, h1, rfl, h3⟩ := oneW_mem (show x ∈ oneW W by rw [hx]; simp)
  exact ⟨k, h1, hx, h3⟩
/-- just those that come have a length, within the bound -/
theorem LL_bd {W : List Nat} {L s : Nat} (hL : 1 ≤ L) (hb : (oneW W).length ≤ 2 ^ L) (hs : s < W.length) : LL W L s ≤ L ∧ (0 < LL W L s ↔ 0 < W.getD s 0) := by
  have key : (¬ 0 < W.getD s 0) → ∀ x ∈ oneW W, sy x ≠ s := fun h0 x hx e => by
    obtain ⟨k, _, rfl, h⟩ := oneW_mem hx
    exact h0 (by rw [← e]; exact h)
  match hm : (oneW W).length with
  | 0 =>
    rw [LL_zero s hm]
    refine ⟨Nat.zero_le _, ⟨fun h => absurd h (by omega), fun h => ?_⟩⟩
    have := List.length_pos_of_mem (oneW_in hs h)
    omega
  | 1 =>
    obtain ⟨k, h1, h2, h3⟩ := one_leaf hm
    rw [LL_one s hm, sc_leaf h2]
    by_cases hks : k = s
    · subst hks; rw [if_pos rfl]; exact ⟨hL, ⟨fun _ => h3, fun _ => by omega⟩⟩
    · rw [if_neg hks]
      refine ⟨Nat.zero_le _, ⟨fun h => absurd h (by omega), fun h => ?_⟩⟩
      have := oneW_in hs h
      rw [h2] at this
      simp at this
      exact absurd this.2.symm hks
  | n + 2 =>
    obtain ⟨_, ⟨I, g1, _, _⟩, g4⟩ := lens (L := L) hL (by omega) hb
    by_cases h0 : 0 < W.getD s 0
    · obtain ⟨r, hr, e⟩ := List.mem_iff_getElem.1 (oneW_in hs h0)
      obtain ⟨a1, a2, a3⟩ := g1 r hr
      rw [e] at a1
      rw [show LL W L s = ln I (L - 1) r from a1]
      exact ⟨a3, ⟨fun _ => h0, fun _ => by omega⟩⟩
    · rw [g4 s (key h0)]
      exact ⟨Nat.zero_le _, ⟨fun h => absurd h (by omega), fun h => absurd h h0⟩⟩
/-- what the lengths take of the whole -/
def tkn (W : List Nat) (g : Nat → Nat) : Nat := ((lvf 0 W).map fun x => 32768 / 2 ^ g (sy x)).sum
def cst (W : List Nat) (g : Nat → Nat) : Nat := ((lvf 0 W).map fun x => wt x * g (sy x)).sum
theorem tkn_one (W : List Nat) (g : Nat → Nat) : tkn W g = ((oneW W).map fun x => 32768 / 2 ^ g (sy x)).sum := (sum_perm (oneW_perm W) _).symm
theorem tkn_L {W : List Nat} {L : Nat} {g : Nat → Nat} (hL : L ≤ 15) (hg : ∀ x ∈ oneW W, g (sy x) ≤ L) : tkn W g = 2 ^ (15 - L) * ((oneW W).map fun x => 2 ^ (L - g (sy x))).sum := by
  rw [tkn_one, ← sum_mul]
  exact sum_congr fun x hx => pw15 hL (hg x hx)
theorem LL_tkn {W : List Nat} {L : Nat} (hL : 1 ≤ L) (hL2 : L ≤ 15) (hb : (oneW W).length ≤ 2 ^ L) : ((oneW W).length = 1 → tkn W (LL W L) = 16384) ∧ (2 ≤ (oneW W).length → tkn W (LL W L) = 32768) := by
  refine ⟨fun h => ?_, fun h => ?_⟩
  · obtain ⟨k, h1, h2, h3⟩ := one_leaf h
    rw [tkn_one, h2]
    simp only [List.map_cons, List.map_nil, List.sum_cons, List.sum_nil, sy]
    rw [LL_one k h, sc_leaf h2, if_pos rfl]; rfl
  · obtain ⟨_, ⟨I, g1, g2, _⟩, _⟩ := lens (L := L) hL h hb
    have hle : ∀ x ∈ oneW W, LL W L (sy x) ≤ L := fun x hx => by
      obtain ⟨k, hk, rfl, _⟩ := oneW_mem hx
      exact (LL_bd hL hb hk).1
    rw [tkn_L hL2 hle, rs_list]
    rw [rs_congr (g := fun r => 2 ^ (L - ln I (L - 1) r)) _ fun r hr => by rw [one_getD hr, (g1 r hr).1], g2, ← Nat.pow_add, show 15 - L + L = 15 by omega]
end Pm

namespace Go.Proofs.YtbiocgenbgbfpaaGreat
open Sx Go Pm
set_option linter.unusedVariables false
set_option linter.unusedSimpArgs false
/-! packs in memory -/
abbrev ptr (b : Nat) : Value := .pointer (some ⟨b, 0, none⟩)
/-- a pack lies at block b -/
def Rp (H : List Asn) : Nat → T → Prop
  | b, .leaf w s => blk b [.int .u64 w, .int .i64 s, .pointer none, .pointer none] ∈ H
  | b, .node x y => ∃ p q, blk b [.int .u64 (wt x + wt y : Nat), .int .i64 0, ptr p, ptr q] ∈ H ∧ Rp H p x ∧ Rp H q y
theorem Rp.sub {H H' : List Asn} (h : ∀ a ∈ H, a ∈ H') : ∀ {t : T} {b : Nat}, Rp H b t → Rp H' b t
  | .leaf w s, b, hr => h _ hr
  | .node x y, b, ⟨p, q, h1, h2, h3⟩ => ⟨p, q, h _ h1, Rp.sub h h2, Rp.sub h h3⟩
theorem Rp.head {H : List Asn} : ∀ {t : T} {b : Nat}, Rp H b t → ∃ x y z, blk b [.int .u64 (wt t : Nat), x, y, z] ∈ H
  | .leaf w s, b, hr => ⟨_, _, _, hr⟩
  | .node x y, b, ⟨p, q, h1, _, _⟩ => ⟨_, _, _, h1⟩
theorem mrg_map {α β : Type} (f : α → β) (ω : β → Nat) : ∀ (m : Nat) (A B : List α), A.length + B.length ≤ m → (mrg (fun x => ω (f x)) A B).map f = mrg ω (A.map f) (B.map f)
  | _, [], B, _ => rfl
  | _, a :: A, [], _ => by rw [mrg_nilR, List.map_nil, mrg_nilR]
  | 0, a :: A, b :: B, h => absurd h (by simp)
  | m + 1, a :: A, b :: B, h => by
    rw [mrg_cons, List.map_cons, List.map_cons, mrg_cons]
    split
    · rw [List.map_cons, mrg_map f ω m A (b :: B) (by simp at h ⊢; omega), List.map_cons]
    · rw [List.map_cons, mrg_map f ω m (a :: A) B (by simp at h ⊢; omega), List.map_cons]
theorem isrt_map {α β : Type} (f : α → β) (ω : β → Nat) (l : List α) : (isrt (fun x => ω (f x)) l).map f = isrt ω (l.map f) := by
  refine snoc_ind (p := fun l => (isrt (fun x => ω (f x)) l).map f = isrt ω (l.map f)) rfl ?_ l
  intro l x ih
  rw [isrt_snoc, mrg_map f ω _ _ _ (Nat.le_refl _), ih, List.map_append, List.map_cons, List.map_nil, isrt_snoc]
theorem sg_map {α β : Type} (f : α → β) (D : Nat → α) : ∀ (n a : Nat), (sg D a n).map f = sg (fun k => f (D k)) a n
  | 0, _ => rfl
  | n + 1, a => by rw [sg, sg, List.map_cons, sg_map f D n]
section
variable {w0 : World} {H : List Asn}
theorem Rarer_c (b1 b2 : Nat) (t1 t2 : T) (h1 : Rp H b1 t1) (h2 : Rp H b2 t2) (w : World) (hw : St w0 H w) :
    Calls Tryz.prog 90 #[ptr b1, ptr b2] w fun e w' => e = .returned (.int .i64 (cmpI (wt t1) (wt t2))) ∧ St w0 H w' := by
  obtain ⟨x1, y1, z1, m1⟩ := h1.head
  obtain ⟨x2, y2, z2, m2⟩ := h2.head
  refine enter (vs := [ptr b1, ptr b2]) Tryz.func90 rfl rfl rfl hw ?_
  clear h1 h2
  generalize wt t1 = p at *
  generalize wt t2 = q at *
  unfold cmpI
  by_cases ha : p < q
  · rw [if_pos ha]
    repeat (first | (apply gQO; first | refine QO_v rfl (V_load (tb := tb) rfl m1 rfl rfl rfl rfl) ?_ | refine QO_v rfl (V_load (tb := tb) rfl m2 rfl rfl rfl rfl) ?_) | (first | (refine sx ?_; try intro _)))
    exact JS_ret Tryz.func90 rfl rfl fun w hw => ⟨rfl, hw⟩
  · rw [if_neg ha]
    by_cases hb : q < p
    · rw [if_pos hb]
      repeat (first | (apply gQO; first | refine QO_v rfl (V_load (tb := tb) rfl m1 rfl rfl rfl rfl) ?_ | refine QO_v rfl (V_load (tb := tb) rfl m2 rfl rfl rfl rfl) ?_) | (first | (refine sx ?_; try intro _)))
      exact JS_ret Tryz.func90 rfl rfl fun w hw => ⟨rfl, hw⟩
    · rw [if_neg hb]
      repeat (first | (apply gQO; first | refine QO_v rfl (V_load (tb := tb) rfl m1 rfl rfl rfl rfl) ?_ | refine QO_v rfl (V_load (tb := tb) rfl m2 rfl rfl rfl rfl) ?_) | (first | (refine sx ?_; try intro _)))
      exact JS_ret Tryz.func90 rfl rfl fun w hw => ⟨rfl, hw⟩
/-- a row of packs in memory -/
def encP (x : Nat × T) : Value := ptr x.1
theorem encP_one (x : Nat × T) : Sx.one (encP x) := rfl
set_option maxRecDepth 10000 in
/-- packs are sorted -/ 
theorem SortP_c {K : List Asn} (hK : ∀ a ∈ K, a ∈ H) (p : Option Addr) (c N : Nat) (hN : N ≤ 1000000) (D : Nat → Nat × T) (hD : ∀ k, k < N → Rp K (D k).1 (D k).2) (w : World) (hw : St w0 (vec 89 1 (.slice p N c) N (vals encP D N) :: H) w) :
    Calls Tryz.prog 89 #[.slice p N c, .func (.func 90) #[] #[]] w fun e w' => e = .returned (.tuple #[]) ∧ ∃ D' : Nat → Nat × T, St w0 (vec 89 1 (.slice p N c) N (vals encP D' N) :: H) w' ∧ (∀ k, k < N → Rp K (D' k).1 (D' k).2) ∧ sg (fun k => (D' k).2) 0 N = isrt wt (sg (fun k => (D k).2) 0 N) := by
  rcases Nat.eq_zero_or_pos N with h0 | h0
  · subst h0
    refine (SortS_c (α := Unit) (enc := fun _ => .pointer none) (ω := fun _ => 0) (H := H) (fun _ => rfl) p c _ 0 ⟨Tryz.call90, fun D x y w h => absurd h (by omega)⟩ hN (fun _ => ()) w hw).mono ?_
    rintro e w' ⟨rfl, D', hw', _⟩
    exact ⟨rfl, D, hw', fun k hk => absurd hk (by omega), rfl⟩
  · let α := { x : Nat × T // Rp K x.1 x.2 }
    let d0 : α := ⟨D 0, hD 0 h0⟩
    let E : Nat → α := fun k => if h : k < N then ⟨D k, hD k h⟩ else d0
    have hE : ∀ k, k < N → (E k).1 = D k := fun k hk => by show (if h : k < N then (⟨D k, hD k h⟩ : α) else d0).1 = _; rw [dif_pos hk]
    have hv : vals encP D N = vals (fun x : α => encP x.1) E N := by
      unfold vals
      exact List.map_congr_left fun k hk => by show encP (D k) = encP (E k).1; rw [hE k (by simpa using hk)]
    rw [hv] at hw
    refine (SortS_c (α := α) (enc := fun x => encP x.1) (ω := fun x => wt x.1.2) (H := H) (fun _ => rfl) p c _ N ⟨Tryz.call90, fun D x y w _ hw => Rarer_c x.1.1 y.1.1 x.1.2 y.1.2 (x.2.sub fun a ha => List.Mem.tail _ (hK a ha)) (y.2.sub fun a ha => List.Mem.tail _ (hK a ha)) w hw⟩ hN E w hw).mono ?_
    rintro e w' ⟨rfl, D', hw', hs⟩
    refine ⟨rfl, fun k => (D' k).1, hw', fun k _ => (D' k).2, ?_⟩
    have e1 := congrArg (List.map fun x : α => x.1.2) hs
    rw [isrt_map (fun x : α => x.1.2) wt, sg_map, sg_map] at e1
    rw [e1]
    congr 1
    exact sg_congr _ _ _ fun k hk => by show (E (0 + k)).1.2 = _; rw [hE (0 + k) (by omega)]
set_option maxHeartbeats 1000000 in
/-- a row of packs, cloned -/
theorem CloneP_c (p : Option Addr) (c m : Nat) (cs : List Value) (hr : Rd w0 H (.slice p m c) m cs) (hm : cs.length = m) (h1 : All1 cs) (hm1 : m ≤ 1000000) (hpm : p = none → m = 0) (w : World) (hw : St w0 H w) :
    Calls Tryz.prog 91 #[.slice p m c] w fun e w' => ∃ q d, e = .returned (.slice q m d) ∧ St w0 (vec 89 1 (.slice q m d) m cs :: H) w' := by
  refine enter (vs := [.slice p m c]) Tryz.func91 rfl rfl rfl hw ?_
  repeat (first | (apply gJO; refine JO_v (V_eqNil (tb := tb) rfl rfl rfl rfl) ?_) | (apply gJR; first | (refine sx ?_; try intro _)) | (apply gJO; first | (refine sx ?_; try intro _)) | apply JS_seq | apply JS_region)
  cases p with
  | none =>
    obtain rfl : m = 0 := hpm rfl
    obtain rfl : cs = [] := List.eq_nil_of_length_eq_zero hm
    repeat (first | (refine sx ?_; try intro _))
    refine JS_ret Tryz.func91 rfl rfl ?_
    intro w hw
    exact ⟨none, 0, rfl, St.nilvec hw⟩
  | some a =>
    repeat (first | (refine sx ?_; try intro _))
    refine JO_app (tb := tb) rfl rfl rfl rfl rfl rfl (by repeat (first | exact Sel.here _ _ | apply Sel.there)) (Rd_weak hr fun w hw => St.sub (by repeat (first | exact List.Sublist.refl _ | apply List.Sublist.cons_cons | apply List.Sublist.cons)) hw) (by omega) h1 (by omega) rfl ?_
    intro q d
    repeat (first | (refine sx ?_; try intro _))
    refine JS_ret Tryz.func91 rfl rfl ?_
    intro w hw
    rw [Nat.zero_add] at hw
    exact ⟨q, d, by rw [Nat.zero_add]; rfl, hw⟩
end
end Go.Proofs.YtbiocgenbgbfpaaGreat
