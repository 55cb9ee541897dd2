import Derived.Maps.RangeRun
import Derived.Test.YtmnilpjgkjkecaaGreatG1
namespace Go.Proofs.YtmnilpjgkjkecaaGreat
open Sx Go Hd
set_option linter.unusedVariables false
set_option linter.unusedSimpArgs false
section
variable {w0 : World} {H : List Asn} {lo hi dg : Int} {u g : Nat}
theorem sw_all {T : List (Int × Int)} (hT : OKT T) (hR : RIGHT T) : 0 ≤ sw T ∧ sw T ≤ 4611686018427387904 := by
  have h1 := swT_nn hT T.length (Nat.le_refl _)
  have h2 := swT_le (i := T.length) hT hR (Nat.le_refl _)
  rw [List.take_length] at h1 h2
  exact ⟨h1, h2⟩
set_option maxRecDepth 10000 in
set_option maxHeartbeats 4000000 in
theorem RCheck18_c (b : Nat) (gr : Bool) (bu : Nat) (q : Option Addr) (d : Nat) (T : List (Int × Int)) (hh : blk b (rc lo hi dg u g gr bu (.slice q T.length d)) ∈ H) (hr : Rd w0 H (.slice q T.length d) T.length (flat T)) (hT : OKT T) (hR : RIGHT T) (hl : T.length ≤ 1000000) (hug : u + g ≤ 62) (hg : 1 ≤ g) (hbu : bu ≤ 64) (v n : Int) (hv : -9223372036854775808 ≤ v ∧ v < 9223372036854775808) (hn : 0 ≤ n ∧ n < 18446744073709551616) (w : World) (hw : St w0 H w) :
    Calls Tryz.prog 68 #[.pointer (some ⟨b, 0, none⟩), .int .i64 v, .int .u64 n] w fun e w' => e = .returned (.int .i64 (chk u g gr bu (sw T) v n)) ∧ St w0 H w' := by
  have hck : chk u g gr bu (sw T) v n = if n = 0 then 4 else if v < 0 ∨ ((topv u g bu : Nat) : Int) < v ∧ gr = false then 5 else if 4611686018427387904 - sw T < n then 6 else 0 := rfl
  have htot := sw_all hT hR
  have hTot := fun w hw => RTotal_c (w0 := w0) (H := H) q d T.length T hr rfl hT hR hl w hw
  have k1 : IntKind.u64.wrap (4611686018427387904 - sw T) = 4611686018427387904 - sw T := wu64 (by omega)
  generalize sw T = tot at *
  refine enter (vs := [.pointer (some ⟨b, 0, none⟩), .int .i64 v, .int .u64 n]) Tryz.func68 rfl rfl rfl hw ?_
  clear hw w
  by_cases h0 : n = 0
  · rw [if_pos h0] at hck
    repeat (first | (refine sx ?_; try intro _))
    exact JS_ret Tryz.func68 rfl rfl fun w hw => ⟨by rw [hck]; rfl, hw⟩
  rw [if_neg h0] at hck
  by_cases hv0 : v < 0
  · rw [if_pos (.inl hv0)] at hck
    repeat (first | (apply gJO; refine JO_v (oL (V_load (tb := tb) rfl hh rfl rfl rfl rfl)) ?_) | (apply gQO; refine QO_v rfl (oL (V_load (tb := tb) rfl hh rfl rfl rfl rfl)) ?_) | first | (refine sx ?_; try intro _))
    exact JS_ret Tryz.func68 rfl rfl fun w hw => ⟨by rw [hck]; rfl, hw⟩
  have fin : ¬ (((topv u g bu : Nat) : Int) < v ∧ gr = false) → JS Tryz.prog 68 Tryz.f68.ntmps (fun e w' => e = .returned (.int .i64 (chk u g gr bu tot v n)) ∧ St w0 H w') [] w0 (todo Tryz.f68 [.b, .b, .b]) [(0, .pointer (some ⟨b, 0, none⟩)), (2, .int .u64 n)] H := by
    intro hc5
    rw [if_neg (fun h => h.elim hv0 hc5)] at hck
    repeat (first | (apply gJO; refine JO_v (oL (V_load (tb := tb) rfl hh rfl rfl rfl rfl)) ?_) | (apply gQO; refine QO_v rfl (oL (V_load (tb := tb) rfl hh rfl rfl rfl rfl)) ?_) | first | (refine sx ?_; try intro _))
    refine JO_call Tryz.call9 rfl rfl fun w hw => (hTot w hw).mono ?_
    rintro e w' ⟨rfl, hw'⟩
    refine ⟨_, rfl, _, hw', ?_⟩
    clear hw' hw w w'
    by_cases h6 : 4611686018427387904 - tot < n
    · rw [if_pos h6] at hck
      repeat (first | (apply gJO; refine JO_v (V_sub rfl rfl k1 rfl) ?_) | first | (refine sx ?_; try intro _))
      exact JS_ret Tryz.func68 rfl rfl fun w hw => ⟨by rw [hck]; rfl, hw⟩
    · rw [if_neg h6] at hck
      repeat (first | (apply gJO; refine JO_v (V_sub rfl rfl k1 rfl) ?_) | first | (refine sx ?_; try intro _))
      exact JS_ret Tryz.func68 rfl rfl fun w hw => ⟨by rw [hck]; rfl, hw⟩
  cases gr with
  | true =>
    have fin := fin (fun h => by cases h.2)
    repeat (first | exact JS_of_at (fn := Tryz.f68) (p := [.b, .b, .b]) (JS_ov (by repeat (first | exact trivial | refine ⟨rfl, ?_⟩ | refine ⟨lookI rfl (by omega), ?_⟩)) fin) rfl | (apply gJO; refine JO_v (oL (V_load (tb := tb) rfl hh rfl rfl rfl rfl)) ?_) | (apply gQO; refine QO_v rfl (oL (V_load (tb := tb) rfl hh rfl rfl rfl rfl)) ?_) | first | (refine sx ?_; try intro _))
  | false =>
    repeat (first | (apply gJO; refine JO_v (oL (V_load (tb := tb) rfl hh rfl rfl rfl rfl)) ?_) | (apply gQO; refine QO_v rfl (oL (V_load (tb := tb) rfl hh rfl rfl rfl rfl)) ?_) | first | (refine sx ?_; try intro _))
    refine QO_call Tryz.call94 rfl rfl fun w hw => (RTop_c hug hg bu (by omega) w hw).mono ?_
    rintro e w' ⟨rfl, hw'⟩
    refine ⟨_, rfl, _, hw', .inl fun w hw => hw, ?_⟩
    clear hw' hw w w'
    generalize ((topv u g bu : Nat) : Int) = t at *
    by_cases hc5 : t < v
    · rw [if_pos (.inr ⟨hc5, rfl⟩)] at hck
      clear fin
      repeat (first | (apply gJO; refine JO_v (oL (V_load (tb := tb) rfl hh rfl rfl rfl rfl)) ?_) | (apply gQO; refine QO_v rfl (oL (V_load (tb := tb) rfl hh rfl rfl rfl rfl)) ?_) | first | (refine sx ?_; try intro _))
      exact JS_ret Tryz.func68 rfl rfl fun w hw => ⟨by rw [hck]; rfl, hw⟩
    · have fin := fin (fun h => hc5 h.1)
      repeat (first | exact JS_of_at (fn := Tryz.f68) (p := [.b, .b, .b]) (JS_ov (by repeat (first | exact trivial | refine ⟨rfl, ?_⟩ | refine ⟨lookI rfl (by omega), ?_⟩)) fin) rfl | (apply gJO; refine JO_v (oL (V_load (tb := tb) rfl hh rfl rfl rfl rfl)) ?_) | (apply gQO; refine QO_v rfl (oL (V_load (tb := tb) rfl hh rfl rfl rfl rfl)) ?_) | first | (refine sx ?_; try intro _))
end
end Go.Proofs.YtmnilpjgkjkecaaGreat

namespace Go.Proofs.YtmnilpjgkjkecaaGreat
open Sx Go Hd
set_option linter.unusedVariables false
set_option linter.unusedSimpArgs false
/-! ## lists of cells by rising keys (plain) -/
abbrev Srt (T : List (Int × Int)) : Prop := T.Pairwise fun a b => a.1 < b.1
theorem putT_mem {k n : Int} : ∀ {T : List (Int × Int)} {x : Int × Int}, x ∈ putT k n T → x ∈ T ∨ x.1 = k
  | [], x, h => by
    rw [putT] at h
    right
    rw [List.mem_singleton.1 h]
  | y :: r, x, h => by
    rw [putT] at h
    split at h
    · rcases List.mem_cons.1 h with rfl | h
      · exact .inl (by simp)
      · rcases putT_mem h with h | h
        · exact .inl (by simp [h])
        · exact .inr h
    · split at h
      · rcases List.mem_cons.1 h with rfl | h
        · exact .inr rfl
        · exact .inl (by simp [h])
      · rcases List.mem_cons.1 h with rfl | h
        · exact .inr rfl
        · exact .inl h
theorem putT_srt {k n : Int} : ∀ {T : List (Int × Int)}, Srt T → Srt (putT k n T)
  | [], _ => by rw [putT]; exact List.pairwise_singleton _ _
  | y :: r, h => by
    obtain ⟨h1, h2⟩ := List.pairwise_cons.1 h
    rw [putT]
    split
    · rename_i hlt
      refine List.pairwise_cons.2 ⟨fun z hz => ?_, putT_srt h2⟩
      rcases putT_mem hz with hz | hz
      · exact h1 z hz
      · omega
    · split
      · rename_i heq
        exact List.pairwise_cons.2 ⟨fun z hz => by have := h1 z hz; show k < z.1; omega, h2⟩
      · refine List.pairwise_cons.2 ⟨fun z hz => ?_, h⟩
        rcases List.mem_cons.1 hz with rfl | hz
        · show k < z.1; omega
        · have := h1 z hz
          show k < z.1; omega
theorem putT_len {k n : Int} : ∀ (T : List (Int × Int)), (putT k n T).length ≤ T.length + 1
  | [] => by rw [putT]; simp
  | y :: r => by
    rw [putT]
    split
    · simp only [List.length_cons]
      have := putT_len (k := k) (n := n) r
      omega
    · split
      · simp
      · simp
theorem putT_new {k n : Int} : ∀ {T : List (Int × Int)}, (∀ x ∈ T, x.1 ≠ k) → (putT k n T).Perm ((k, n) :: T)
  | [], _ => by rw [putT]
  | y :: r, h => by
    have hy := h y (by simp)
    rw [putT]
    split
    · exact ((putT_new fun x hx => h x (by simp [hx])).cons y).trans (List.Perm.swap _ _ _)
    · exact List.Perm.refl _
theorem putT_old {k n b : Int} : ∀ {T : List (Int × Int)}, Srt T → (k, b) ∈ T → ∃ A B, T = A ++ (k, b) :: B ∧ putT k n T = A ++ (k, b + n) :: B
  | [], _, h => absurd h (by simp)
  | y :: r, hs, h => by
    obtain ⟨h1, h2⟩ := List.pairwise_cons.1 hs
    rcases List.mem_cons.1 h with rfl | h
    · exact ⟨[], r, rfl, by rw [putT_eq (x := (k, b)) rfl]; rfl⟩
    · have hy : y.1 < k := h1 (k, b) h
      obtain ⟨A, B, e1, e2⟩ := putT_old (n := n) h2 h
      exact ⟨y :: A, B, by rw [e1]; rfl, by rw [putT_lt hy, e2]; rfl⟩
/-- where a list holds the same in any order -/
theorem perm_old {k n b : Int} {T A B : List (Int × Int)} (hs : Srt T) (hp : (A ++ (k, b) :: B).Perm T) : (A ++ (k, b + n) :: B).Perm (putT k n T) := by
  obtain ⟨A', B', e1, e2⟩ := putT_old (n := n) hs (hp.subset (by simp) : (k, b) ∈ T)
  rw [e2]
  rw [e1] at hp
  have h1 := (List.perm_middle.symm.trans hp).trans List.perm_middle
  exact (List.perm_middle.trans ((List.Perm.cons_inv h1).cons _)).trans List.perm_middle.symm
theorem perm_new {k n : Int} {T L : List (Int × Int)} (hp : L.Perm T) (hn : ∀ x ∈ L, x.1 ≠ k) : (L ++ [(k, n)]).Perm (putT k n T) :=
  (List.perm_append_comm.trans (hp.cons _)).trans (putT_new fun x hx => hn x (hp.symm.subset hx)).symm
end Go.Proofs.YtmnilpjgkjkecaaGreat

namespace Go.Proofs.YtmnilpjgkjkecaaGreat
open Sx Go Hd
set_option linter.unusedVariables false
set_option linter.unusedSimpArgs false
theorem kundI : Tryz.prog.underlying 3 = some (.int .i64) := by kernel_rfl
theorem kI : KeyT Tryz.prog 3 := KeyT.of (Maps.int_keyed kundI)
theorem keyI {k : Int} (h : -9223372036854775808 ≤ k ∧ k < 9223372036854775808) : isKey Tryz.prog 3 (.int .i64 k) :=
  ⟨_, Maps.keyOf_int_mk kundI (by simp [Lit.wf, IntKind.min, IntKind.max, IntKind.bits, IntKind.signed]; omega)⟩
/-- a map's entries are these cells, in any order -/
structure HM (es : List MapEntry) (clock : Nat) (T : List (Int × Int)) : Prop where
  ok : MOk Tryz.prog 3 es clock
  ex : ∃ L : List (Int × Int), L.Perm T ∧ es.map (fun e => (e.key, e.val)) = L.map (fun p => (Value.int .i64 p.1, Value.int .u64 p.2))
theorem HM.nil {clock : Nat} : HM [] clock [] := ⟨MOk.nil, [], List.Perm.refl _, rfl⟩
theorem map_split {α β γ : Type} {f : α → γ} {h : β → γ} : ∀ {es : List α} {A B : List β} {x : β}, es.map f = (A ++ x :: B).map h → ∃ A' e B', es = A' ++ e :: B' ∧ A'.map f = A.map h ∧ f e = h x ∧ B'.map f = B.map h
  | [], A, B, x, e => by cases A <;> simp at e
  | y :: es, [], B, x, e => by
    simp only [List.map_cons, List.nil_append, List.cons.injEq] at e
    exact ⟨[], y, es, rfl, rfl, e.1, e.2⟩
  | y :: es, a :: A, B, x, e => by
    simp only [List.map_cons, List.cons_append, List.cons.injEq] at e
    obtain ⟨A', e', B', h1, h2, h3, h4⟩ := map_split (A := A) e.2
    exact ⟨y :: A', e', B', by rw [h1]; rfl, by simp [e.1, h2], h3, h4⟩
/-- a key that is there -/
theorem HM.old {es : List MapEntry} {clock : Nat} {T : List (Int × Int)} {k b n : Int} (h : HM es clock T) (hs : Srt T) (hm : (k, b) ∈ T) : ∃ A e B, es = A ++ e :: B ∧ e.key = .int .i64 k ∧ e.val = .int .u64 b ∧ HM (A ++ { e with val := .int .u64 (b + n) } :: B) clock (putT k n T) := by
  obtain ⟨L, hp, he⟩ := h.ex
  obtain ⟨A, B, rfl⟩ := List.append_of_mem (hp.symm.subset hm)
  obtain ⟨A', e, B', rfl, h2, h3, h4⟩ := map_split he
  have hk : e.key = .int .i64 k := congrArg Prod.fst h3
  have hv : e.val = .int .u64 b := congrArg Prod.snd h3
  refine ⟨A', e, B', rfl, hk, hv, ⟨h.ok.setv _, _, perm_old hs hp, ?_⟩⟩
  simp only [List.map_append, List.map_cons, h2, h4, hk]
/-- a new key -/
theorem HM.new {es : List MapEntry} {clock : Nat} {T : List (Int × Int)} {k n : Int} (h : HM es clock T) (hk : -9223372036854775808 ≤ k ∧ k < 9223372036854775808) (hn : ∀ x ∈ T, x.1 ≠ k) : (∀ e ∈ es, e.key ≠ .int .i64 k) ∧ HM (es ++ [⟨.int .i64 k, .int .u64 n, clock⟩]) (clock + 1) (putT k n T) := by
  obtain ⟨L, hp, he⟩ := h.ex
  have hno : ∀ e ∈ es, e.key ≠ .int .i64 k := fun e hm hek => by
    have h1 : (e.key, e.val) ∈ es.map (fun e => (e.key, e.val)) := List.mem_map.2 ⟨e, hm, rfl⟩
    rw [he] at h1
    obtain ⟨p, hpL, hpe⟩ := List.mem_map.1 h1
    have h2 := congrArg Prod.fst hpe
    simp only [hek, Value.int.injEq, true_and] at h2
    exact hn p (hp.subset hpL) h2
  refine ⟨hno, h.ok.push (keyI hk) hno, _, perm_new hp (fun x hx => hn x (hp.subset hx)), ?_⟩
  rw [List.map_append, List.map_append, he]; rfl
theorem kzeroU (w : World) : (zeroValue 22).run Tryz.prog w = .ok (.int .u64 0) w := by
  have h : (Tryz.prog.info? 22).bind (·.zero) = some (.int .u64 0) := by kernel_rfl
  obtain ⟨x, h1, h2⟩ := Option.bind_eq_some_iff.1 h
  simp [zeroValue, typeInfo, h1, h2]
section
variable {w0 : World} {H : List Asn} {lo hi dg : Int} {u g : Nat}
set_option maxRecDepth 10000 in
set_option maxHeartbeats 4000000 in
/-- a value that may be is counted -/
theorem HCount_c (bh mb bm : Nat) (gr : Bool) (bu : Nat) (tot : Int) (es : List MapEntry) (clock : Nat) (T : List (Int × Int)) (hM : blk mb (mc lo hi dg u g) ∈ H) (hug : u + g ≤ 62) (hg : 1 ≤ g ∧ g ≤ 18) (hbu : bu ≤ 64) (htot : 0 ≤ tot) (hE : HM es clock T) (hs : Srt T) (v : Nat) (hv : v < 9223372036854775808) (n : Int) (hn : 0 ≤ n ∧ tot + n ≤ 4611686018427387904)
    (hT : ∀ x ∈ T, 0 ≤ x.2 ∧ x.2 ≤ tot) (w : World) (hw : St w0 (blk bh (hc mb bm gr bu tot) :: mapL bm es clock :: H) w) :
    Calls Tryz.prog 56 #[.pointer (some ⟨bh, 0, none⟩), .int .i64 v, .int .u64 n] w fun e w' => e = .returned (.tuple #[]) ∧ ∃ es' clock', HM es' clock' (putT (idx u g v) n T) ∧ St w0 (blk bh (hc mb bm gr (max bu (1 + bkt u g v)) (tot + n)) :: mapL bm es' clock' :: H) w' := by
  obtain ⟨i1, i2, _⟩ := idx_bd hug hg hv
  have k2 : IntKind.u64.wrap (tot + n) = tot + n := wu64 (by omega)
  have k3 : max (bu : Int) ((1 + bkt u g v : Nat) : Int) = ((max bu (1 + bkt u g v) : Nat) : Int) := by omega
  refine enter (vs := [.pointer (some ⟨bh, 0, none⟩), .int .i64 v, .int .u64 n]) Tryz.func56 rfl rfl rfl hw ?_
  clear hw w
  repeat (first | (refine sx ?_; try intro _))
  refine JO_call Tryz.call46 rfl rfl fun w hw => (MIndex_c mb (List.Mem.tail _ (List.Mem.tail _ hM)) hug hg v hv w hw).mono ?_
  rintro e w' ⟨rfl, hw'⟩
  refine ⟨_, rfl, _, hw', ?_⟩
  clear hw' hw w w'
  have hin : -9223372036854775808 ≤ ((idx u g v : Nat) : Int) ∧ ((idx u g v : Nat) : Int) < 9223372036854775808 := by omega
  generalize ((idx u g v : Nat) : Int) = i at *
  by_cases hex : ∃ b, (i, b) ∈ T
  · obtain ⟨b, hmem⟩ := hex
    have hb := hT (i, b) hmem
    obtain ⟨A, e0, B, rfl, hk, hvl, hE2⟩ := hE.old (n := n) hs hmem
    have k1 : IntKind.u64.wrap (b + n) = b + n := wu64 (by simp only [] at hb; omega)
    obtain ⟨ek, el, eb⟩ := e0
    simp only [] at hk hvl
    subst hk hvl
    repeat (first | (apply gJO; first | refine JO_v (V_lookupT (tb := tb) kI rfl rfl rfl (by repeat (first | apply List.Mem.head | apply List.Mem.tail)) hE.ok (e0 := ⟨.int .i64 i, .int .u64 b, eb⟩) (by simp) rfl rfl) ?_ | refine JO_v (V_add rfl rfl k1 rfl) ?_ | refine JO_v (V_add rfl rfl k2 rfl) ?_ | refine JO_k (K_mapUpdateT (tb := tb) kI rfl rfl rfl rfl (by repeat (first | exact Sel.here _ _ | apply Sel.there)) hE.ok rfl) ?_) | (first | (refine sx ?_; try intro _)))
    refine QO_call Tryz.call54 rfl rfl fun w hw => (MBuckets_c mb (List.Mem.tail _ (List.Mem.tail _ hM)) hug v (by omega) w hw).mono ?_
    rw [Int.toNat_natCast]
    rintro e w' ⟨rfl, hw'⟩
    refine ⟨_, rfl, _, hw', .inl fun w hw => hw, ?_⟩
    clear hw' hw w w'
    repeat (first | (apply gQO; refine QO_v rfl (V_max rfl rfl k3 rfl) ?_) | (first | (refine sx ?_; try intro _)))
    exact JS_fin Tryz.func56 rfl rfl (vs := []) fun w hw => ⟨rfl, _, clock, hE2, St.sub (by repeat (first | exact List.Sublist.refl _ | apply List.Sublist.cons_cons | apply List.Sublist.cons)) hw⟩
  · have hnoT : ∀ x ∈ T, x.1 ≠ i := fun x hx hxi => hex ⟨x.2, by rw [← hxi]; exact hx⟩
    obtain ⟨hno, hE2⟩ := hE.new (n := n) hin hnoT
    have k1 : IntKind.u64.wrap (0 + n) = n := (wu64 (by omega)).trans (by omega)
    repeat (first | (apply gJO; first | refine JO_v (V_lookupF (tb := tb) kI rfl rfl rfl (by repeat (first | apply List.Mem.head | apply List.Mem.tail)) hE.ok (keyI hin) hno kzeroU rfl) ?_ | refine JO_v (V_add rfl rfl k1 rfl) ?_ | refine JO_v (V_add rfl rfl k2 rfl) ?_ | refine JO_k (K_mapUpdateF (tb := tb) kI rfl rfl rfl rfl (by repeat (first | exact Sel.here _ _ | apply Sel.there)) hE.ok (keyI hin) hno rfl) ?_) | (first | (refine sx ?_; try intro _)))
    refine QO_call Tryz.call54 rfl rfl fun w hw => (MBuckets_c mb (List.Mem.tail _ (List.Mem.tail _ hM)) hug v (by omega) w hw).mono ?_
    rw [Int.toNat_natCast]
    rintro e w' ⟨rfl, hw'⟩
    refine ⟨_, rfl, _, hw', .inl fun w hw => hw, ?_⟩
    clear hw' hw w w'
    repeat (first | (apply gQO; refine QO_v rfl (V_max rfl rfl k3 rfl) ?_) | (first | (refine sx ?_; try intro _)))
    exact JS_fin Tryz.func56 rfl rfl (vs := []) fun w hw => ⟨rfl, _, _, hE2, St.sub (by repeat (first | exact List.Sublist.refl _ | apply List.Sublist.cons_cons | apply List.Sublist.cons)) hw⟩
end
end Go.Proofs.YtmnilpjgkjkecaaGreat

namespace Go.Proofs.YtmnilpjgkjkecaaGreat
open Sx Go Hd Go.Shelf Go.RowKit Go.Lib Go.Sort
set_option linter.unusedVariables false
set_option linter.unusedSimpArgs false
/-! ## the pairs, sorted by their keys -/
abbrev PK : Type := {p : Int × Int // -4611686018427387904 ≤ p.1 ∧ p.1 < 4611686018427387904}
instance : Inhabited PK := ⟨⟨(0, 0), by decide⟩⟩
def pkE (x : PK) : List Value := [.int .i64 x.1.1, .int .u64 x.1.2]
def pkC (x y : PK) : Int := x.1.1 - y.1.1
theorem pk_swo : SWO (ltOf pkC) where
  irrefl x := by simp [ltOf, pkC]
  trans x y z h1 h2 := by
    have h1 : x.1.1 - y.1.1 < 0 := of_decide_eq_true h1
    have h2 : y.1.1 - z.1.1 < 0 := of_decide_eq_true h2
    exact decide_eq_true (show x.1.1 - z.1.1 < 0 by omega)
  ntrans x y z h1 h2 := by
    have h1 : ¬ x.1.1 - y.1.1 < 0 := of_decide_eq_false h1
    have h2 : ¬ y.1.1 - z.1.1 < 0 := of_decide_eq_false h2
    exact decide_eq_false (show ¬ x.1.1 - z.1.1 < 0 by omega)
set_option maxHeartbeats 1000000 in
theorem pk_cmp (x y : PK) (W : World) : Calls Tryz.prog 97 #[.agg #[.int .i64 x.1.1, .int .u64 x.1.2], .agg #[.int .i64 y.1.1, .int .u64 y.1.2]] W fun e w' => e = .returned (.int .i64 (x.1.1 - y.1.1)) ∧ ∃ q os', w' = grow (W.drewN q) os' := by
  obtain ⟨⟨a, b⟩, ha⟩ := x
  obtain ⟨⟨c, d⟩, hc⟩ := y
  simp only [] at ha hc ⊢
  have hw : IntKind.i64.wrap (a - c) = a - c := Sx.wi64 (by omega)
  go_enter Tryz.func97, Tryz.ntmps97
  go_wp2
  go_ret
  exact ⟨rfl, 0, _, by rw [alloc_eq_grow, alloc_eq_grow, grow_grow]; rfl⟩
theorem pk_flat (d : Array PK) : (flatK pkE 2 d).toList = flat (d.toList.map (·.1)) := by
  apply List.ext_getElem?
  intro j
  by_cases hj : j < d.size * 2
  · have h1 : (flatK pkE 2 d)[j]? = some ((pkE d[j / 2]!)[j % 2]!) := by
      rw [← get_flatK pkE 2 d j hj, getElem!_pos _ j (by simpa using hj), Array.getElem?_eq_getElem]
    rw [Array.getElem?_toList, h1]
    have hq : j / 2 < d.size := by omega
    have hq' : j / 2 < (d.toList.map (·.1)).length := by simpa using hq
    have hx : (d.toList.map (·.1)).getD (j / 2) (0, 0) = d[j / 2]!.1 := by
      rw [List.getD_eq_getElem?_getD, List.getElem?_eq_getElem hq', getElem!_pos d _ hq]; simp
    rcases Nat.mod_two_eq_zero_or_one j with h | h
    · have := flat_get0 _ _ hq'
      rw [show j / 2 * 2 = j by omega, hx] at this
      rw [this, h]; rfl
    · have := flat_get1 _ _ hq'
      rw [show j / 2 * 2 + 1 = j by omega, hx] at this
      rw [this, h]; rfl
  · rw [List.getElem?_eq_none (by simp; omega), List.getElem?_eq_none (by rw [flat_len]; simp; omega)]
/-- two sorted lists of the same pairs, no key twice -/
theorem srt_unique {L T : List (Int × Int)} (hp : L.Perm T) (hL : L.Pairwise fun a b => a.1 ≤ b.1) (hT : Srt T) : L = T := by
  have hT' : T.Pairwise fun a b => a.1 ≤ b.1 := hT.imp fun h => by omega
  refine List.Perm.eq_of_pairwise (le := fun a b : Int × Int => a.1 ≤ b.1) (fun a b ha hb h1 h2 => ?_) hL hT' hp
  have ha' := hp.subset ha
  obtain ⟨i, hi, rfl⟩ := List.getElem_of_mem ha'
  obtain ⟨j, hj, rfl⟩ := List.getElem_of_mem hb
  rcases Nat.lt_trichotomy i j with h | rfl | h
  · have := List.pairwise_iff_getElem.1 hT i j hi hj h; omega
  · rfl
  · have := List.pairwise_iff_getElem.1 hT j i hj hi h; omega
theorem pk_of : ∀ (L : List (Int × Int)), (∀ x ∈ L, -4611686018427387904 ≤ x.1 ∧ x.1 < 4611686018427387904) → ∃ d : List PK, d.map (·.1) = L
  | [], _ => ⟨[], rfl⟩
  | x :: r, h => by
    obtain ⟨d, hd⟩ := pk_of r fun y hy => h y (by simp [hy])
    exact ⟨⟨x, h x (by simp)⟩ :: d, by simp [hd]⟩
section
variable {w0 : World} {H : List Asn}
set_option maxHeartbeats 1000000 in
theorem SortP_c (p : Option Addr) (c : Nat) (L T : List (Int × Int)) (hp : L.Perm T) (hT : Srt T) (hk : ∀ x ∈ T, -4611686018427387904 ≤ x.1 ∧ x.1 < 4611686018427387904) (hl : T.length < 4611686018427387904) (w : World) (hw : St w0 (vec 63 2 (.slice p L.length c) L.length (flat L) :: H) w) :
    Calls Tryz.prog 96 #[.slice p L.length c, .func (.func 97) #[] #[]] w fun e w' => e = .returned (.tuple #[]) ∧ St w0 (vec 63 2 (.slice p T.length c) T.length (flat T) :: H) w' := by
  have hlen : L.length = T.length := hp.length_eq
  cases hn : L with
  | nil =>
    subst hn
    have : T = [] := by simpa using hlen.symm
    subst this
    exact (AnyF.slices_SortFunc_none sortP_lays p c _ w).mono fun e w' ⟨he, hw'⟩ => ⟨he, hw' ▸ hw⟩
  | cons y r =>
    rw [← hn]
    obtain ⟨D, hD⟩ := pk_of L fun x hx => hk x (hp.subset hx)
    have hDs : D.length = L.length := by rw [← hD, List.length_map]
    have hpos : 0 < L.length := by rw [hn]; simp
    clear hn
    obtain ⟨f1, hv⟩ := hw.mem (List.Mem.head _)
    obtain ⟨hv1, hv2⟩ := vec_holds.1 hv
    rcases hv2 with ⟨b, _, hz, _⟩ | ⟨g, cap, cur, hu, rfl, hg, hc1, hc2, hc3, hc4⟩
    · omega
    · injection hu with hu1 hu2 hu3
      subst hu1 hu3
      have hgs : g < w.heap.size := (Array.getElem?_eq_some_iff.1 hg).1
      have hF : (flatK pkE 2 D.toArray).toList = flat L := by rw [pk_flat]; simp [hD]
      have hFs : (flatK pkE 2 D.toArray).size = L.length * 2 := by rw [← Array.length_toList, hF, flat_len]
      have hH : HoldsK pkE 2 w g 0 D.toArray := by
        intro j hj
        rw [hFs] at hj
        have hjc : j < cur.size := by rw [hc3]; have := Nat.mul_le_mul_right 2 hc1; omega
        have h1 : cur[j]? = some ((flatK pkE 2 D.toArray)[j]!) := by
          have h2 : (cur.toList.take (L.length * 2))[j]? = (flatK pkE 2 D.toArray).toList[j]? := by rw [hc4, hF]
          rw [List.getElem?_take_of_lt hj, Array.getElem?_toList, Array.getElem?_toList] at h2
          rw [h2, getElem!_pos _ j (by rw [hFs]; exact hj), Array.getElem?_eq_getElem]
        refine ⟨?_, ?_⟩
        · simp [World.cell?, hg, h1]
        · simp [World.frozen?, hg]
      have hcon := AnyQ.slices_SortFunc sortP_lays 2 Tryz.isAgg63 Tryz.sizeOf63 pkE (fun _ => rfl) (fun x v hv => by simp [pkE] at hv; rcases hv with rfl | rfl <;> rfl) pkC pk_swo _ #[] g 0 c D.toArray w Tryz.call97 (fun _ _ _ _ x y => pk_cmp x y _) hH hgs (by simp [hDs]; omega)
      rw [show D.toArray.size = L.length by simp [hDs]] at hcon
      refine hcon.mono ?_
      rintro e w' ⟨rfl, d', m, os, hperm, hsort, rfl⟩
      refine ⟨rfl, ?_⟩
      have hds : d'.size = L.length := by rw [hperm.1]; simp [hDs]
      have hp2 : d'.toList.Perm D := by
        have := hperm.2.2
        rw [← hDs] at this
        simpa [Array.extract_eq_self_of_le, hds, hDs] using this
      have hT' : d'.toList.map (·.1) = T := by
        refine srt_unique (((hp2.map (·.1)).trans (by rw [hD])).trans hp) ?_ hT
        rw [List.pairwise_map, List.pairwise_iff_getElem]
        intro i j hi hj hij
        have h1 := hsort i j (Nat.zero_le _) hij (by rw [Array.length_toList] at hj; omega)
        rw [Array.length_toList] at hi hj
        rw [getElem!_pos d' i hi, getElem!_pos d' j hj] at h1
        have h1 : ¬ d'[j].1.1 - d'[i].1.1 < 0 := of_decide_eq_false h1
        simp only [Array.getElem_toList]
        omega
      have hF2 : (flatK pkE 2 d').toList = flat T := by rw [pk_flat, hT']
      have hFs2 : (flatK pkE 2 d').size = L.length * 2 := by simp [hds]
      refine St.upd hw (Upd.here _ _ _) rfl rfl rfl ?_ ?_
      · simp [sortWorldK, grow, putRowK, putRow, mapBlock, Sort.ahead]
      · intro f hf
        have hfe : f = [g] := by
          obtain ⟨_, hf2⟩ := vec_holds.1 hf
          rcases hf2 with ⟨b, _, hz, _⟩ | ⟨g', cap', cur', hu', rfl, _⟩
          · omega
          · injection hu' with h1 _ _
            injection h1 with h1
            injection h1 with h1 _ _
            rw [h1]
        subst hfe
        have hheap : ∀ b, b < w.heap.size → (sortWorldK pkE 2 w g 0 m d' os).heap[b]? = (w.heap.modify g (onCells (putCells id 0 (flatK pkE 2 d'))))[b]? := fun b hb => by
          show ((w.heap.modify g (onCells (putCells id 0 (flatK pkE 2 d')))) ++ os)[b]? = _
          rw [Array.getElem?_append_left (by simpa using hb)]
        refine ⟨fun b hb hbn => ?_, [g], by simp, fun b hb => .inl hb, vec_holds.2 ⟨by rw [flat_len], .inr ⟨g, c, putCells id 0 (flatK pkE 2 d') cur, by rw [← hlen], rfl, ?_, by omega, hc2, ?_, ?_⟩⟩⟩
        · rw [hheap b hb, Array.getElem?_modify, if_neg (fun h => hbn (by simp [h]))]
        · rw [hheap g hgs, Array.getElem?_modify, if_pos rfl, hg]; rfl
        · simp [putCells, hc3]
        · rw [← hF2]
          apply List.ext_getElem?
          intro j
          by_cases hj : j < L.length * 2
          · have hjc : j < cur.size := by rw [hc3]; have := Nat.mul_le_mul_right 2 hc1; omega
            rw [← hlen, List.getElem?_take_of_lt hj, Array.getElem?_toList, Array.getElem?_toList]
            simp only [putCells, Array.getElem?_mapIdx, Array.getElem?_eq_getElem hjc, Option.map_some, Nat.zero_le, true_and, Nat.zero_add, hFs2, hj, if_true, Nat.sub_zero, id]
            rw [getElem!_pos _ j (by rw [hFs2]; exact hj), Array.getElem?_eq_getElem]
          · rw [List.getElem?_eq_none (by simp; omega), List.getElem?_eq_none (by rw [Array.length_toList, hFs2]; omega)]
end
end Go.Proofs.YtmnilpjgkjkecaaGreat

set_option linter.unusedVariables false
set_option linter.unusedSimpArgs false
namespace Sx
open Go
/-! a range over a map that the loop does not write; a field of a value -/
/-- block r holds the iterator of the map in block bm -/
@[irreducible] def iterA (r bm since c0 : Nat) (seen : List Nat) : Asn where
  holds w fp := fp = [r] ∧ w.heap[r]? = some (.mapIter (some bm) since seen.toArray c0)
  frame w w' fp h hk := ⟨h.1, by rw [hk r (by simp [h.1])]; exact h.2⟩
  live w fp h b' hb := by
    obtain ⟨rfl, hT⟩ := h
    simp at hb; subst hb
    exact (Array.getElem?_eq_some_iff.1 hT).1
theorem iterA_holds {r bm since c0 seen w fp} : (iterA r bm since c0 seen).holds w fp ↔ fp = [r] ∧ w.heap[r]? = some (.mapIter (some bm) since seen.toArray c0) := by unfold iterA; exact Iff.rfl
theorem St.iter_get {w0 H w r bm since c0 seen} (h : St w0 H w) (hm : iterA r bm since c0 seen ∈ H) : w.heap[r]? = some (.mapIter (some bm) since seen.toArray c0) := by
  obtain ⟨f, hf⟩ := h.mem hm
  exact (iterA_holds.1 hf).2
theorem St.iter_put {w0 H w r bm since c0 seen} {F : Asn → List Asn} (seen' : List Nat) (c1 : Nat) (h : St w0 H w) (hu : Sel H (iterA r bm since c0 seen) F) (w1 : World) (hw1 : w1 = w ∨ w1 = w.drew) : St w0 (F (iterA r bm since c1 seen')) (ChangeMaps.setBlock w1 r (.mapIter (some bm) since seen'.toArray c1)) := by
  have h1 : St w0 H w1 := by rcases hw1 with rfl | rfl; exact h; exact h.drew
  refine h1.upd (hu.upd _) rfl rfl rfl (by simp [ChangeMaps.setBlock]) ?_
  intro f1 hf
  obtain ⟨rfl, hb⟩ := iterA_holds.1 hf
  have hs := MapKept.heap_set (o' := .mapIter (some bm) since seen'.toArray c1) hb
  exact ⟨fun b' _ hb' => hs.2 b' (by simpa using hb'), [r], by simp, by simp, iterA_holds.2 ⟨rfl, hs.1⟩⟩
theorem St.iter_new {w0 H w} (h : St w0 H w) (bm since c0 : Nat) (seen : List Nat) : St w0 (iterA w.heap.size bm since c0 seen :: H) (w.alloc (.mapIter (some bm) since seen.toArray c0)) := by
  refine St.step («as» := []) (bs := [iterA w.heap.size bm since c0 seen]) h rfl rfl rfl (by simp) ?_
  intro f1 hf _ _
  simp [All] at hf
  subst hf
  refine ⟨fun b hb _ => (by first | exact heap_alloc_old w _ hb | exact heap_alloc_old w _ _ hb), [w.heap.size], by simp, by simp, [w.heap.size], [], by simp, iterA_holds.2 ⟨rfl, heap_alloc_new w _⟩, rfl⟩
section
variable {P : Program} {f n : Nat} {R : Ending → World → Prop} {D : List Deferred} {w0 : World} {k : List Item} {ov : Ov} {H : List Asn}
  {ops : Array Oper} {l : List Oper} {d : Option Nat} {T : Nat} {pos : String} {af : Array Edge} {g : Option (Nat × Bool)} {x y : Operand} {v : Value} {tb : Tb P}
theorem JO_rangeM {t km em s1 b1 bm clock : Nat} {z1 : Option (List Value)} {es : List MapEntry} (hx : ev ov x = some (.map (some bm))) (h : tlook tb.l t = some ⟨.map km em, s1, b1, z1⟩) (hb : mapL bm es clock ∈ H) (hd : dOk d n = true)
    (hn : ∀ r, JR P f n R D w0 ops l k (put d (.pointer (some ⟨r, 0, none⟩)) ov) (iterA r bm clock clock [] :: H)) : JO P f n R D w0 ops ⟨d, .range t x, T, pos, af, g⟩ l k ov H :=
  JO_step fun a w ha hw => ⟨.pointer (some ⟨w.heap.size, 0, none⟩), w.alloc (.mapIter (some bm) clock #[] clock), by
    simp only [execOp, ha.ev hx]
    simp [run_range_map w t km em bm es.toArray clock (und_map h) (hw.map_get hb)], hd, _, hw.iter_new bm clock clock [], hn w.heap.size⟩
theorem JO_nextM {r bm since c0 clock : Nat} {seen : List Nat} {es : List MapEntry} {F : Asn → List Asn} (hx : ev ov x = some (.pointer (some ⟨r, 0, none⟩))) (hu : Sel H (iterA r bm since c0 seen) F) (hb : mapL bm es clock ∈ H) (hold : ∀ e ∈ es, e.born < since) (hsc : since ≤ c0) (hd : dOk d n = true)
    (hno : (∀ e ∈ es, e.born ∈ seen) → JR P f n R D w0 ops l k (put d (.tuple #[.bool false]) ov) H)
    (hyes : ∀ e ∈ es, e.born ∉ seen → JR P f n R D w0 ops l k (put d (.tuple #[.bool true, e.key, e.val]) ov) (F (iterA r bm since clock (seen ++ [e.born])))) : JO P f n R D w0 ops ⟨d, .next x false, T, pos, af, g⟩ l k ov H :=
  JO_step fun a w ha hw => by
    rcases run_next_at (P := P) w T r bm since c0 seen.toArray es.toArray clock (hw.iter_get (Sel.mem hu)) (hw.map_get hb) (by simpa using hold) hsc with ⟨h0, hrun⟩ | ⟨e, he, w1, hw1, hrun⟩
    · refine ⟨_, w, by simp only [execOp, ha.ev hx]; simp [hrun], hd, H, hw, hno fun e he => ?_⟩
      refine Classical.byContradiction fun hne => ?_
      have : e ∈ (leftOf es.toArray seen.toArray).toList := by simp [leftOf, he, hne]
      have h1 := List.length_pos_of_mem this
      rw [Array.length_toList] at h1
      omega
    · have he' : e ∈ es ∧ e.born ∉ seen := by simpa [leftOf] using he
      refine ⟨_, _, by simp only [execOp, ha.ev hx]; simp [hrun]; rfl, hd, _, ?_, hyes e he'.1 he'.2⟩
      have := hw.iter_put (seen ++ [e.born]) clock hu w1 hw1
      simpa using this
theorem V_entryM {r bm since c0 clock : Nat} {seen : List Nat} {es : List MapEntry} {e : MapEntry} (hx : ev ov x = some (.pointer (some ⟨r, 0, none⟩))) (hi : iterA r bm since clock (seen ++ [e.born]) ∈ H) (hb : mapL bm es clock ∈ H) (he : e ∈ es) (hnd : (es.map (·.born)).Nodup) (hd : dOk d n = true) :
    OpV P n D w0 ov H ⟨d, .entry x, T, pos, af, g⟩ (.tuple #[e.key, e.val]) := by
  unfold OpV
  exact ⟨hd, fun a w ha hw => by
    have hr := hw.iter_get hi
    have := run_entry_at (P := P) w r bm since seen.toArray es.toArray clock e (by simpa using hr) (hw.map_get hb) (by simpa using he) (by simpa using hnd)
    simp only [execOp, ha.ev hx]
    simp [this]⟩
theorem V_entryK {r bm since clock : Nat} {seen : List Nat} {es : List MapEntry} {e : MapEntry} {kv vv : Value} (hx : ev ov x = some (.pointer (some ⟨r, 0, none⟩))) (hi : iterA r bm since clock (seen ++ [e.born]) ∈ H) (hb : mapL bm es clock ∈ H) (he : e ∈ es) (hnd : (es.map (·.born)).Nodup) (hk : e.key = kv) (hv : e.val = vv) (hd : dOk d n = true) :
    OpV P n D w0 ov H ⟨d, .entry x, T, pos, af, g⟩ (.tuple #[kv, vv]) := by
  subst hk hv
  exact V_entryM (c0 := clock) hx hi hb he hnd hd
theorem V_fieldV {t s1 b1 s2 b2 fi ft fo : Nat} {z1 z2 : Option (List Value)} {fs : List (Nat × Nat)} {ty2 : Ty} {cs : List Value} (hx : ev ov x = some (.agg cs.toArray)) (h : tlook tb.l t = some ⟨.struct fs, s1, b1, z1⟩) (h2 : nthP fs fi = some (ft, fo)) (h3 : tlook tb.l ft = some ⟨ty2, s2, b2, z2⟩) (ha : aggT ty2 = false) (hv : nth cs fo = some v) (hd : dOk d n = true) :
    OpV P n D w0 ov H ⟨d, .field t x fi, T, pos, af, g⟩ v := by
  unfold OpV
  exact ⟨hd, fun a w haa hw => by
    obtain ⟨fa, e1, e2⟩ := und_struct h
    rw [nth_eq] at hv
    rw [nthP_eq, ← e2, List.getElem?_map] at h2
    cases hf : fa[fi]? with
    | none => simp [hf] at h2
    | some fd =>
      simp [hf] at h2
      obtain ⟨rfl, rfl⟩ := h2
      simp [execOp, haa.ev hx, Instr.field, run_underlying e1, hf, asAgg, part, run_isAgg w h3, ha, hv]⟩
theorem oFd {t fi : Nat} (h : OpV P n D w0 ov H ⟨d, .field t x fi, T, pos, af, g⟩ v) : OpV P n D w0 ov H ⟨d, .field t x fi, T, pos, af, g⟩ v := h
end
end Sx

namespace Go.Proofs.YtmnilpjgkjkecaaGreat
open Sx Go Hd
set_option linter.unusedVariables false
set_option linter.unusedSimpArgs false
/-- an entry as a pair -/
def prOf (e : MapEntry) : Int × Int := match e.key, e.val with
  | .int _ a, .int _ b => (a, b)
  | _, _ => (0, 0)
theorem HM.prs {es : List MapEntry} {clock : Nat} {T : List (Int × Int)} (h : HM es clock T) : (es.map prOf).Perm T := by
  obtain ⟨L, hp, he⟩ := h.ex
  have : es.map prOf = L := by
    have h1 : es.map prOf = (es.map fun e => (e.key, e.val)).map fun q : Value × Value => match q.1, q.2 with
      | .int _ a, .int _ b => (a, b)
      | _, _ => (0, 0) := by rw [List.map_map]; rfl
    rw [h1, he, List.map_map]
    exact (List.map_congr_left fun x _ => rfl).trans (List.map_id _)
  rw [this]; exact hp
theorem HM.at' {es : List MapEntry} {clock : Nat} {T : List (Int × Int)} (h : HM es clock T) {e : MapEntry} (he : e ∈ es) : e.key = .int .i64 (prOf e).1 ∧ e.val = .int .u64 (prOf e).2 ∧ prOf e ∈ T := by
  obtain ⟨L, hp, hx⟩ := h.ex
  have h1 : (e.key, e.val) ∈ L.map fun p : Int × Int => (Value.int .i64 p.1, Value.int .u64 p.2) := by rw [← hx]; exact List.mem_map.2 ⟨e, he, rfl⟩
  obtain ⟨p, hpL, hpe⟩ := List.mem_map.1 h1
  injection hpe with h2 h3
  have h4 : prOf e = p := by unfold prOf; rw [← h2, ← h3]
  exact ⟨by rw [h4, h2], by rw [h4, h3], h.prs.subset (List.mem_map.2 ⟨e, he, rfl⟩)⟩
theorem HM.lenT {es : List MapEntry} {clock : Nat} {T : List (Int × Int)} (h : HM es clock T) : es.length = T.length := by rw [← h.prs.length_eq, List.length_map]
theorem nodup_of_map {α β : Type} {f : α → β} {l : List α} (h : (l.map f).Nodup) : l.Nodup := (List.pairwise_map.1 h).imp fun hne he => hne (by rw [he])
/-- entries that were told, each once: some of all, and all at the end -/
theorem told_le {es S : List MapEntry} (hn : (S.map (·.born)).Nodup) (hs : ∀ e ∈ S, e ∈ es) : S.length ≤ es.length := by
  have hS : S.Nodup := nodup_of_map hn
  exact hS.length_le_of_subset hs
theorem told_all {es S : List MapEntry} (hb : (es.map (·.born)).Nodup) (hn : (S.map (·.born)).Nodup) (hs : ∀ e ∈ S, e ∈ es) (ha : ∀ e ∈ es, e.born ∈ S.map (·.born)) : S.Perm es := by
  have hS : S.Nodup := nodup_of_map hn
  have hE : es.Nodup := nodup_of_map hb
  rw [List.perm_ext_iff_of_nodup hS hE]
  intro x
  refine ⟨hs x, fun hx => ?_⟩
  obtain ⟨y, hy, hxy⟩ := List.mem_map.1 (ha x hx)
  have : y = x := by
    obtain ⟨i, hi, rfl⟩ := List.getElem_of_mem (hs y hy)
    obtain ⟨j, hj, rfl⟩ := List.getElem_of_mem hx
    have := (List.getElem_inj (i := i) (j := j) (h₀ := by simpa using hi) (h₁ := by simpa using hj) hb).1 (by simpa using hxy)
    subst this; rfl
  exact this ▸ hy
theorem maps_snoc (S : List MapEntry) (e : MapEntry) : (S ++ [e]).map (·.born) = S.map (·.born) ++ [e.born] ∧ (S ++ [e]).map prOf = S.map prOf ++ [prOf e] := by simp
section
variable {w0 : World} {H : List Asn} {lo hi dg : Int} {u g : Nat}
set_option maxRecDepth 10000 in
set_option maxHeartbeats 4000000 in
/-- the pairs of a histogram, by rising keys -/
theorem HPairs_c (bh mb bm : Nat) (gr : Bool) (bu : Nat) (tot : Int) (es : List MapEntry) (clock : Nat) (T : List (Int × Int)) (hh : blk bh (hc mb bm gr bu tot) ∈ H) (hm : mapL bm es clock ∈ H) (hE : HM es clock T) (hT : Srt T) (hk : ∀ x ∈ T, 0 ≤ x.1 ∧ x.1 < 4611686018427387904) (hl : T.length ≤ 1000000) (w : World) (hw : St w0 H w) :
    Calls Tryz.prog 71 #[.pointer (some ⟨bh, 0, none⟩)] w fun e w' => ∃ q d, e = .returned (.slice q T.length d) ∧ St w0 (vec 63 2 (.slice q T.length d) T.length (flat T) :: H) w' := by
  have hlen := hE.lenT
  refine enter (vs := [.pointer (some ⟨bh, 0, none⟩)]) Tryz.func71 rfl rfl rfl hw ?_
  clear hw w
  repeat (first | (apply gJO; first | refine JO_v (oL (V_load (tb := tb) rfl hh rfl rfl rfl rfl)) ?_ | (refine JO_rangeM (tb := tb) rfl rfl hm rfl ?_; intro r)) | (apply gJR; first | (refine sx ?_; try intro _)) | (apply gJO; first | (refine sx ?_; try intro _)) | apply JS_seq | apply JS_region)
  refine JS_block ?_
  refine JS_loop3 (fun (S : List MapEntry) (q : Option Addr) (d : Nat) => [(0, .pointer (some ⟨bh, 0, none⟩)), (3, .slice q S.length d), (10, .pointer (some ⟨r, 0, none⟩))])
    (fun S q d => vec 63 2 (.slice q S.length d) S.length (flat (S.map prOf)) :: iterA r bm clock clock (S.map (·.born)) :: H)
    (fun S q d => (S.map (·.born)).Nodup ∧ ∀ e ∈ S, e ∈ es) (fun S _ _ => es.length - S.length) [] none 0 ⟨by simp, by simp⟩ (by repeat (first | exact trivial | refine ⟨rfl, ?_⟩ | refine ⟨lookI rfl (by omega), ?_⟩)) (fun w hw => St.nilvec hw) ?_
  intro S q d ⟨hS1, hS2⟩ again
  have hle := told_le hS1 hS2
  repeat (first | apply JS_seq | apply JS_region | apply JR_un)
  refine JO_nextM (c0 := clock) rfl (by repeat (first | exact Sel.here _ _ | apply Sel.there)) (List.Mem.tail _ (List.Mem.tail _ hm)) hE.ok.lt (Nat.le_refl _) rfl ?_ ?_
  · intro hall
    clear again
    have hperm := told_all hE.ok.born hS1 hS2 hall
    have hp2 : (S.map prOf).Perm T := (hperm.map prOf).trans hE.prs
    have hsl : S.length = (S.map prOf).length := by simp
    rw [hsl]
    repeat (first | (refine sx ?_; try intro _))
    refine JO_call Tryz.call96 rfl rfl fun w hw => (SortP_c q d (S.map prOf) T hp2 hT (fun x hx => by have := hk x hx; omega) (by omega) w hw).mono ?_
    rintro e w' ⟨rfl, hw'⟩
    refine ⟨_, rfl, _, hw', ?_⟩
    clear hw' hw w w'
    rw [hp2.length_eq]
    repeat (first | (refine sx ?_; try intro _))
    exact JS_ret Tryz.func71 rfl rfl fun w hw => ⟨q, d, rfl, St.sub (by repeat (first | exact List.Sublist.refl _ | apply List.Sublist.cons_cons | apply List.Sublist.cons)) hw⟩
  · intro e he hne
    obtain ⟨hke, hve, heT⟩ := hE.at' he
    have hms := maps_snoc S e
    have hnd : ((S ++ [e]).map (·.born)).Nodup := by
      rw [hms.1]
      exact List.nodup_append.2 ⟨hS1, by simp, fun a ha b hb hab => hne (by rw [List.mem_singleton.1 hb] at hab; exact hab ▸ ha)⟩
    have hsub : ∀ x ∈ S ++ [e], x ∈ es := fun x hx => by
      rcases List.mem_append.1 hx with hx | hx
      · exact hS2 x hx
      · rw [List.mem_singleton.1 hx]; exact he
    have hle2 := told_le hnd hsub
    rw [List.length_append, List.length_singleton] at hle2
    rw [hke, hve]
    generalize he2 : prOf e = p at *
    obtain ⟨pk, pn⟩ := p
    simp only [] at *
    repeat (first | (apply gJO; first | refine JO_v (V_entryK rfl (List.Mem.tail _ (List.Mem.head _)) (List.Mem.tail _ (List.Mem.tail _ hm)) he hE.ok.born hke hve rfl) ?_ | (refine JO_app (tb := tb) rfl rfl rfl rfl rfl rfl (by repeat (first | exact Sel.here _ _ | apply Sel.there)) (vec_rd (List.Mem.head _)) (by rfl) ⟨rfl, rfl, trivial⟩ (by omega) rfl ?_; intro _ _)) | first | (refine sx ?_; try intro _))
    refine JS_again3 again (S ++ [e]) _ _ ⟨hnd, hsub⟩ (by rw [List.length_append, List.length_singleton]; omega) (by rw [List.length_append, List.length_singleton]; exact (by repeat (first | exact trivial | refine ⟨rfl, ?_⟩ | refine ⟨lookI rfl (by omega), ?_⟩))) (fun w hw => ?_)
    rw [hms.1, hms.2, ← flat_app1, List.length_append, List.length_singleton]
    exact St.sub (by repeat (first | exact List.Sublist.refl _ | apply List.Sublist.cons_cons | apply List.Sublist.cons)) hw
end
end Go.Proofs.YtmnilpjgkjkecaaGreat

namespace Go.Proofs.YtmnilpjgkjkecaaGreat
open Sx Go Hd
set_option linter.unusedVariables false
set_option linter.unusedSimpArgs false
/-! ## right lists of cells (plain) -/
structure GT (T : List (Int × Int)) : Prop where
  srt : Srt T
  key : ∀ x ∈ T, 0 ≤ x.1 ∧ x.1 < 4611686018427387904
  pos : ∀ x ∈ T, 0 < x.2
  tot : sw T ≤ 4611686018427387904
theorem GT.nil : GT [] := ⟨List.Pairwise.nil, by simp, by simp, by decide⟩
theorem sw_nn : ∀ {T : List (Int × Int)}, (∀ x ∈ T, 0 < x.2) → 0 ≤ sw T
  | [], _ => Int.le_refl _
  | y :: r, h => by
    have h1 := h y (by simp)
    have h2 := sw_nn (T := r) fun x hx => h x (by simp [hx])
    rw [sw]; omega
theorem sw_mem : ∀ {T : List (Int × Int)}, (∀ x ∈ T, 0 < x.2) → ∀ x ∈ T, x.2 ≤ sw T
  | [], _, x, hx => absurd hx (by simp)
  | y :: r, h, x, hx => by
    have h1 := h y (by simp)
    have h2 := sw_nn (T := r) fun x hx => h x (by simp [hx])
    rw [sw]
    rcases List.mem_cons.1 hx with rfl | hx
    · omega
    · have := sw_mem (T := r) (fun x hx => h x (by simp [hx])) x hx
      omega
theorem getD_mem {T : List (Int × Int)} {i : Nat} (h : i < T.length) : T.getD i (0, 0) ∈ T := by
  rw [List.getD_eq_getElem?_getD, List.getElem?_eq_getElem h]
  exact List.getElem_mem h
theorem GT.okt {T : List (Int × Int)} (h : GT T) : OKT T := fun x hx => by
  have h1 := h.key x hx
  have h2 := h.pos x hx
  have h3 := sw_mem h.pos x hx
  have h4 := h.tot
  omega
theorem GT.le {T : List (Int × Int)} (h : GT T) (i : Nat) (hi : i < T.length) : 0 ≤ (T.getD i (0, 0)).2 ∧ (T.getD i (0, 0)).2 ≤ sw T := by
  have h2 := h.pos _ (getD_mem hi)
  exact ⟨by omega, sw_mem h.pos _ (getD_mem hi)⟩
theorem GT.right {T : List (Int × Int)} (h : GT T) : RIGHT T := fun i hi => by
  have h1 := h.pos _ (getD_mem hi)
  have h2 := sw_take T i hi
  have h3 : sw (T.take (i + 1)) + sw (T.drop (i + 1)) = sw T := by rw [← sw_app, List.take_append_drop]
  have h4 := sw_nn (T := T.drop (i + 1)) fun x hx => h.pos x (List.mem_of_mem_drop hx)
  have h5 := h.tot
  refine ⟨by omega, by omega, fun h0 => ?_⟩
  have h6 := List.pairwise_iff_getElem.1 h.srt (i - 1) i (by omega) hi (by omega)
  have e : ∀ j (hj : j < T.length), T.getD j (0, 0) = T[j] := fun j hj => by rw [List.getD_eq_getElem?_getD, List.getElem?_eq_getElem hj]; rfl
  rw [e (i - 1) (by omega), e i hi]
  exact h6
theorem putT_sw {k n : Int} : ∀ (T : List (Int × Int)), sw (putT k n T) = sw T + n
  | [] => by rw [putT, sw, sw]; simp [sw]
  | y :: r => by
    rw [putT]
    split
    · rw [sw, sw, putT_sw r]; omega
    · split
      · simp only [sw]; omega
      · simp only [sw]; omega
theorem putT_pos {k n : Int} (hn : 0 < n) : ∀ {T : List (Int × Int)}, (∀ x ∈ T, 0 < x.2) → ∀ x ∈ putT k n T, 0 < x.2
  | [], _, x, hx => by rw [putT] at hx; rw [List.mem_singleton.1 hx]; exact hn
  | y :: r, h, x, hx => by
    have hy := h y (by simp)
    rw [putT] at hx
    split at hx
    · rcases List.mem_cons.1 hx with rfl | hx
      · exact hy
      · exact putT_pos hn (fun x hx => h x (by simp [hx])) x hx
    · split at hx
      · rcases List.mem_cons.1 hx with rfl | hx
        · show 0 < y.2 + n; omega
        · exact h x (by simp [hx])
      · rcases List.mem_cons.1 hx with rfl | hx
        · exact hn
        · exact h x hx
theorem GT.put {T : List (Int × Int)} (h : GT T) {k n : Int} (hk : 0 ≤ k ∧ k < 4611686018427387904) (hn : 0 < n) (ht : sw T + n ≤ 4611686018427387904) : GT (putT k n T) :=
  ⟨putT_srt h.srt, fun x hx => by rcases putT_mem hx with hx | hx; exact h.key x hx; omega, putT_pos hn h.pos, by rw [putT_sw]; exact ht⟩
end Go.Proofs.YtmnilpjgkjkecaaGreat

namespace Go.Proofs.YtmnilpjgkjkecaaGreat
open Sx Go Hd
set_option linter.unusedVariables false
set_option linter.unusedSimpArgs false
section
variable {w0 : World} {H : List Asn} {lo hi dg : Int} {u g : Nat}
theorem HTotal_c (bh mb bm : Nat) (gr : Bool) (bu : Nat) (tot : Int) (hh : blk bh (hc mb bm gr bu tot) ∈ H) (w : World) (hw : St w0 H w) :
    Calls Tryz.prog 52 #[.pointer (some ⟨bh, 0, none⟩)] w fun e w' => e = .returned (.int .u64 tot) ∧ St w0 H w' := by
  refine enter (vs := [.pointer (some ⟨bh, 0, none⟩)]) Tryz.func52 rfl rfl rfl hw ?_
  clear hw w
  repeat (first | (apply gJO; first | refine JO_v (oL (V_load (tb := tb) rfl hh rfl rfl rfl rfl)) ?_) | first | (refine sx ?_; try intro _))
  exact JS_ret Tryz.func52 rfl rfl fun w hw => ⟨rfl, hw⟩
theorem HBuckets_c (bh mb bm : Nat) (gr : Bool) (bu : Nat) (tot : Int) (hh : blk bh (hc mb bm gr bu tot) ∈ H) (w : World) (hw : St w0 H w) :
    Calls Tryz.prog 29 #[.pointer (some ⟨bh, 0, none⟩)] w fun e w' => e = .returned (.int .i64 bu) ∧ St w0 H w' := by
  refine enter (vs := [.pointer (some ⟨bh, 0, none⟩)]) Tryz.func29 rfl rfl rfl hw ?_
  clear hw w
  repeat (first | (apply gJO; first | refine JO_v (oL (V_load (tb := tb) rfl hh rfl rfl rfl rfl)) ?_) | first | (refine sx ?_; try intro _))
  exact JS_ret Tryz.func29 rfl rfl fun w hw => ⟨rfl, hw⟩
end
end Go.Proofs.YtmnilpjgkjkecaaGreat

namespace Go.Proofs.YtmnilpjgkjkecaaGreat
open Sx Go Hd
set_option linter.unusedVariables false
set_option linter.unusedSimpArgs false
/-- how far a histogram reaches -/
def rchv (u g : Nat) (hi : Int) (bu : Nat) : Int := if bu = 1 + bkt u g hi.toNat then hi else (topv u g bu : Nat)
section
variable {w0 : World} {H : List Asn} {lo hi dg : Int} {u g : Nat}
set_option maxRecDepth 10000 in
set_option maxHeartbeats 2000000 in
theorem HFirst_c (bh mb bm : Nat) (gr : Bool) (bu : Nat) (tot : Int) (hh : blk bh (hc mb bm gr bu tot) ∈ H) (hM : blk mb (mc lo hi dg u g) ∈ H) (hug : u + g ≤ 62) (hhi : -9223372036854775808 ≤ hi ∧ hi < 9223372036854775808) (w : World) (hw : St w0 H w) :
    Calls Tryz.prog 64 #[.pointer (some ⟨bh, 0, none⟩)] w fun e w' => e = .returned (.int .i64 (1 + bkt u g hi.toNat : Nat)) ∧ St w0 H w' := by
  refine enter (vs := [.pointer (some ⟨bh, 0, none⟩)]) Tryz.func64 rfl rfl rfl hw ?_
  clear hw w
  repeat (first | (apply gJO; first | refine JO_v (oL (V_load (tb := tb) rfl hh rfl rfl rfl rfl)) ?_ | refine JO_v (V_fieldV (tb := tb) rfl rfl rfl rfl rfl rfl rfl) ?_) | (apply gQO; first | refine QO_v rfl (oL (V_load (tb := tb) rfl hh rfl rfl rfl rfl)) ?_ | refine QO_v rfl (V_fieldV (tb := tb) rfl rfl rfl rfl rfl rfl rfl) ?_) | first | (refine sx ?_; try intro _))
  refine QO_call Tryz.call65 rfl rfl fun w hw => (MShape_c mb hM w hw).mono ?_
  rintro e w' ⟨rfl, hw'⟩
  refine ⟨_, rfl, _, hw', .inl fun w hw => hw, ?_⟩
  clear hw' hw w w'
  repeat (first | (apply gJO; first | refine JO_v (oL (V_load (tb := tb) rfl hh rfl rfl rfl rfl)) ?_ | refine JO_v (V_fieldV (tb := tb) rfl rfl rfl rfl rfl rfl rfl) ?_) | (apply gQO; first | refine QO_v rfl (oL (V_load (tb := tb) rfl hh rfl rfl rfl rfl)) ?_ | refine QO_v rfl (V_fieldV (tb := tb) rfl rfl rfl rfl rfl rfl rfl) ?_) | first | (refine sx ?_; try intro _))
  refine QO_call Tryz.call54 rfl rfl fun w hw => (MBuckets_c mb hM hug hi hhi w hw).mono ?_
  rintro e w' ⟨rfl, hw'⟩
  refine ⟨_, rfl, _, hw', .inl fun w hw => hw, ?_⟩
  clear hw' hw w w'
  repeat (first | (refine sx ?_; try intro _))
  exact JS_ret Tryz.func64 rfl rfl fun w hw => ⟨rfl, hw⟩
set_option maxRecDepth 10000 in
set_option maxHeartbeats 2000000 in
theorem HReach_c (bh mb bm : Nat) (gr : Bool) (bu : Nat) (tot : Int) (hh : blk bh (hc mb bm gr bu tot) ∈ H) (hM : blk mb (mc lo hi dg u g) ∈ H) (hug : u + g ≤ 62) (hg : 1 ≤ g) (hbu : bu ≤ 64) (hhi : -9223372036854775808 ≤ hi ∧ hi < 9223372036854775808) (w : World) (hw : St w0 H w) :
    Calls Tryz.prog 30 #[.pointer (some ⟨bh, 0, none⟩)] w fun e w' => e = .returned (.int .i64 (rchv u g hi bu)) ∧ St w0 H w' := by
  have hr : rchv u g hi bu = if bu = 1 + bkt u g hi.toNat then hi else (topv u g bu : Nat) := rfl
  refine enter (vs := [.pointer (some ⟨bh, 0, none⟩)]) Tryz.func30 rfl rfl rfl hw ?_
  clear hw w
  repeat (first | (apply gJO; first | refine JO_v (oL (V_load (tb := tb) rfl hh rfl rfl rfl rfl)) ?_ | refine JO_v (V_fieldV (tb := tb) rfl rfl rfl rfl rfl rfl rfl) ?_) | (apply gQO; first | refine QO_v rfl (oL (V_load (tb := tb) rfl hh rfl rfl rfl rfl)) ?_ | refine QO_v rfl (V_fieldV (tb := tb) rfl rfl rfl rfl rfl rfl rfl) ?_) | first | (refine sx ?_; try intro _))
  refine QO_call Tryz.call64 rfl rfl fun w hw => (HFirst_c bh mb bm gr bu tot hh hM hug hhi w hw).mono ?_
  rintro e w' ⟨rfl, hw'⟩
  refine ⟨_, rfl, _, hw', .inl fun w hw => hw, ?_⟩
  clear hw' hw w w'
  by_cases hb : bu = 1 + bkt u g hi.toNat
  · rw [if_pos hb] at hr
    generalize 1 + bkt u g hi.toNat = z at *
    repeat (first | (apply gJO; first | refine JO_v (oL (V_load (tb := tb) rfl hh rfl rfl rfl rfl)) ?_ | refine JO_v (V_fieldV (tb := tb) rfl rfl rfl rfl rfl rfl rfl) ?_) | (apply gQO; first | refine QO_v rfl (oL (V_load (tb := tb) rfl hh rfl rfl rfl rfl)) ?_ | refine QO_v rfl (V_fieldV (tb := tb) rfl rfl rfl rfl rfl rfl rfl) ?_) | first | (refine sx ?_; try intro _))
    refine JO_call Tryz.call65 rfl rfl fun w hw => (MShape_c mb hM w hw).mono ?_
    rintro e w' ⟨rfl, hw'⟩
    refine ⟨_, rfl, _, hw', ?_⟩
    clear hw' hw w w'
    repeat (first | (apply gJO; first | refine JO_v (oL (V_load (tb := tb) rfl hh rfl rfl rfl rfl)) ?_ | refine JO_v (V_fieldV (tb := tb) rfl rfl rfl rfl rfl rfl rfl) ?_) | (apply gQO; first | refine QO_v rfl (oL (V_load (tb := tb) rfl hh rfl rfl rfl rfl)) ?_ | refine QO_v rfl (V_fieldV (tb := tb) rfl rfl rfl rfl rfl rfl rfl) ?_) | first | (refine sx ?_; try intro _))
    exact JS_ret Tryz.func30 rfl rfl fun w hw => ⟨by rw [hr]; rfl, hw⟩
  · rw [if_neg hb] at hr
    generalize 1 + bkt u g hi.toNat = z at *
    repeat (first | (apply gJO; first | refine JO_v (oL (V_load (tb := tb) rfl hh rfl rfl rfl rfl)) ?_ | refine JO_v (V_fieldV (tb := tb) rfl rfl rfl rfl rfl rfl rfl) ?_) | (apply gQO; first | refine QO_v rfl (oL (V_load (tb := tb) rfl hh rfl rfl rfl rfl)) ?_ | refine QO_v rfl (V_fieldV (tb := tb) rfl rfl rfl rfl rfl rfl rfl) ?_) | first | (refine sx ?_; try intro _))
    refine QO_call Tryz.call66 rfl rfl fun w hw => (MTop_c mb hM hug hg bu (by omega) w hw).mono ?_
    rintro e w' ⟨rfl, hw'⟩
    refine ⟨_, rfl, _, hw', .inl fun w hw => hw, ?_⟩
    clear hw' hw w w'
    repeat (first | (refine sx ?_; try intro _))
    exact JS_ret Tryz.func30 rfl rfl fun w hw => ⟨by rw [hr]; rfl, hw⟩
end
end Go.Proofs.YtmnilpjgkjkecaaGreat

namespace Go.Proofs.YtmnilpjgkjkecaaGreat
open Sx Go
set_option linter.unusedVariables false
set_option linter.unusedSimpArgs false
theorem uptoT_get (T : List (Int × Int)) (j : Nat) (h : j < T.length) : (ints .u64 (uptoT T T.length))[j]? = some (.int .u64 (sw (T.take (j + 1)))) := by
  rw [ints_get (by rw [show (uptoT T T.length).length = T.length from tab_len _ _]; exact h)]
  congr 2
  exact tab_get h
theorem keysT_get (T : List (Int × Int)) (j : Nat) (h : j < T.length) : (ints .i64 (keysT T T.length))[j]? = some (.int .i64 (T.getD j (0, 0)).1) := by
  rw [ints_get (by rw [show (keysT T T.length).length = T.length from tab_len _ _]; exact h)]
  congr 2
  exact tab_get h
theorem IsTab.sw {w0 H b T} (h : IsTab w0 H b T) (i : Nat) (hi : i ≤ T.length) : 0 ≤ sw (T.take i) ∧ sw (T.take i) ≤ 4611686018427387904 :=
  ⟨swT_nn h.hT i hi, swT_le h.hT (fun j hj => h.hR j (by omega)) hi⟩
theorem Sum_c {w0 : World} {H : List Asn} (b : Nat) (T : List (Int × Int)) (hs : IsTab w0 H b T) (i : Nat) (hi : i ≤ T.length) (hl : T.length ≤ 1000000) (w : World) (hw : St w0 H w) :
    Calls Tryz.prog 83 #[.pointer (some ⟨b, 0, none⟩), .int .i64 i] w fun e w' => e = .returned (.int .u64 (sw (T.take i))) ∧ St w0 H w' := by
  obtain ⟨⟨pk, ck, pu, cu, hb, hk, hu⟩, hT, hR⟩ := hs
  refine enter (vs := [.pointer (some ⟨b, 0, none⟩), .int .i64 i]) Tryz.func83 rfl rfl rfl hw ?_
  cases i with
  | zero =>
    repeat (first | (refine sx ?_; try intro _))
    refine JS_ret Tryz.func83 rfl rfl ?_
    intro w hw
    exact ⟨rfl, hw⟩
  | succ i =>
    have g := uptoT_get T i (by omega)
    have hj : IntKind.i64.wrap (((i + 1 : Nat) : Int) - 1) = (i : Int) := (wi64 (by omega)).trans (by omega)
    repeat (first | (apply gJO; first | refine JO_v (V_load (tb := tb) rfl hb rfl rfl rfl rfl) ?_ | refine JO_v (V_sub rfl rfl hj rfl) ?_ | refine JO_v (V_loadC (tb := tb) rfl hu rfl rfl g rfl) ?_) | (first | (refine sx ?_; try intro _)))
    refine JS_ret Tryz.func83 rfl rfl ?_
    intro w hw
    exact ⟨rfl, hw⟩
theorem TLen_c {w0 : World} {H : List Asn} (b : Nat) (T : List (Int × Int)) (hs : IsTab w0 H b T) (w : World) (hw : St w0 H w) :
    Calls Tryz.prog 85 #[.pointer (some ⟨b, 0, none⟩)] w fun e w' => e = .returned (.int .i64 T.length) ∧ St w0 H w' := by
  obtain ⟨⟨pk, ck, pu, cu, hb, hk, hu⟩, hT, hR⟩ := hs
  refine enter (vs := [.pointer (some ⟨b, 0, none⟩)]) Tryz.func85 rfl rfl rfl hw ?_
  repeat (first | (apply gJO; refine JO_v (V_load (tb := tb) rfl hb rfl rfl rfl rfl) ?_) | (first | (refine sx ?_; try intro _)))
  refine JS_ret Tryz.func85 rfl rfl ?_
  intro w hw
  exact ⟨rfl, hw⟩
theorem TTotal_c {w0 : World} {H : List Asn} (b : Nat) (T : List (Int × Int)) (hs : IsTab w0 H b T) (hl : T.length ≤ 1000000) (w : World) (hw : St w0 H w) :
    Calls Tryz.prog 73 #[.pointer (some ⟨b, 0, none⟩)] w fun e w' => e = .returned (.int .u64 (sw T)) ∧ St w0 H w' := by
  have hs' := hs
  obtain ⟨⟨pk, ck, pu, cu, hb, hk, hu⟩, hT, hR⟩ := hs
  refine enter (vs := [.pointer (some ⟨b, 0, none⟩)]) Tryz.func73 rfl rfl rfl hw ?_
  repeat (first | (apply gJO; refine JO_v (V_load (tb := tb) rfl hb rfl rfl rfl rfl) ?_) | (first | (refine sx ?_; try intro _)))
  refine JO_call Tryz.call83 rfl rfl fun w hw => (Sum_c b T hs' T.length (Nat.le_refl _) hl w hw).mono ?_
  rintro e w' ⟨rfl, hw'⟩
  rw [List.take_length]
  refine ⟨_, rfl, _, hw', ?_⟩
  clear hw' hw w w'
  repeat (first | (refine sx ?_; try intro _))
  refine JS_ret Tryz.func73 rfl rfl ?_
  intro w hw
  exact ⟨rfl, hw⟩
set_option maxHeartbeats 1000000 in
/-- a search by halves -/
theorem Search_c {w0 : World} {H : List Asn} (n q : Nat) (cs : List Value) (p : Nat → Bool) (hn : n ≤ 4611686018427387903) (hc : ∀ args w, (callFunc q args).run Tryz.prog w = .ok (.enter q args) w)
    (hp : ∀ i, i < n → ∀ w, St w0 H w → Calls Tryz.prog q ([Value.int .i64 i] ++ cs).toArray w fun e w' => e = .returned (.bool (p i)) ∧ St w0 H w') (w : World) (hw : St w0 H w) :
    Calls Tryz.prog 84 #[.int .i64 n, .func (.func q) #[] cs.toArray] w fun e w' => ∃ k : Nat, e = .returned (.int .i64 k) ∧ St w0 H w' ∧ k ≤ n ∧ (k = 0 ∨ p (k - 1) = false) ∧ (k = n ∨ p k = true) := by
  refine enter (vs := [.int .i64 n, .func (.func q) #[] cs.toArray]) Tryz.func84 rfl rfl rfl hw ?_
  repeat (first | (apply gJR; first | (refine sx ?_; try intro _)) | (apply gJO; first | (refine sx ?_; try intro _)) | apply JS_seq | apply JS_region)
  refine JS_block ?_
  refine JS_loop2 (fun (i j : Nat) => [(1, .func (.func q) #[] cs.toArray), (5, .int .i64 i), (6, .int .i64 j)]) (fun _ _ => H) (fun i j => i ≤ j ∧ j ≤ n ∧ (i = 0 ∨ p (i - 1) = false) ∧ (j = n ∨ p j = true)) (fun i j => j - i) 0 n ⟨by omega, by omega, .inl rfl, .inl rfl⟩ (by repeat (first | exact trivial | refine ⟨rfl, ?_⟩ | refine ⟨lookI rfl (by omega), ?_⟩)) (fun _ h => h) ?_
  intro i j ⟨hij, hj, hpi, hpj⟩ again
  by_cases hlt : i < j
  · obtain ⟨h, hh⟩ : ∃ h : Nat, h = (i + j) / 2 := ⟨_, rfl⟩
    have e1 : IntKind.i64.wrap ((i : Int) + (j : Int)) = ((i + j : Nat) : Int) := (wi64 (by omega)).trans (by omega)
    have e2 : IntKind.u64.wrap ((i + j : Nat) : Int) = ((i + j : Nat) : Int) := wu64 (by omega)
    have e3 : ((i + j : Nat) : Int) / 2 ^ 1 = (h : Int) := by omega
    have e4 : IntKind.i64.wrap (h : Int) = (h : Int) := wi64 (by omega)
    repeat (first | (apply gJO; first | refine JO_v (V_add rfl rfl e1 rfl) ?_ | refine JO_v (V_conv (tb := tb) rfl rfl rfl e2 rfl) ?_ | refine JO_v (V_shr (m := 1) rfl rfl (by omega) rfl e3 rfl) ?_ | refine JO_v (V_conv (tb := tb) rfl rfl rfl e4 rfl) ?_) | (first | (refine sx ?_; try intro _)))
    refine JO_callv (us := []) (cs := cs) rfl hc rfl rfl fun w hw => (hp h (by omega) w hw).mono ?_
    rintro e w' ⟨rfl, hw'⟩
    refine ⟨_, rfl, _, hw', ?_⟩
    clear hw' hw w w'
    cases hph : p h with
    | true =>
      repeat (first | (refine sx ?_; try intro _))
      exact JS_again2 again i h ⟨by omega, by omega, hpi, .inr hph⟩ (by omega) (by repeat (first | exact trivial | refine ⟨rfl, ?_⟩ | refine ⟨lookI rfl (by omega), ?_⟩)) (fun w hw => hw)
    | false =>
      repeat (first | (refine sx ?_; try intro _))
      exact JS_again2 again (h + 1) j ⟨by omega, by omega, .inr (by rw [Nat.add_sub_cancel]; exact hph), hpj⟩ (by omega) (by repeat (first | exact trivial | refine ⟨rfl, ?_⟩ | refine ⟨lookI rfl (by omega), ?_⟩)) (fun w hw => hw)
  · obtain rfl : i = j := by omega
    clear again
    repeat (first | (refine sx ?_; try intro _))
    refine JS_ret Tryz.func84 rfl rfl ?_
    intro w hw
    exact ⟨i, rfl, hw, hj, hpi, hpj⟩
theorem KeyC_c {w0 : World} {H : List Asn} (b bt br : Nat) (T : List (Int × Int)) (r : Int) (hs : IsTab w0 H b T) (ht : blk bt [.pointer (some ⟨b, 0, none⟩)] ∈ H) (hr : blk br [.int .u64 r] ∈ H) (i : Nat) (hi : i < T.length) (w : World) (hw : St w0 H w) :
    Calls Tryz.prog 99 #[.int .i64 i, .pointer (some ⟨bt, 0, none⟩), .pointer (some ⟨br, 0, none⟩)] w fun e w' => e = .returned (.bool (decide (r ≤ sw (T.take (i + 1))))) ∧ St w0 H w' := by
  obtain ⟨⟨pk, ck, pu, cu, hb, hk, hu⟩, hT, hR⟩ := hs
  refine enter (vs := [.int .i64 i, .pointer (some ⟨bt, 0, none⟩), .pointer (some ⟨br, 0, none⟩)]) Tryz.func99 rfl rfl rfl hw ?_
  have g := uptoT_get T i hi
  repeat (first | (apply gQO; first | refine QO_v rfl (V_load (tb := tb) rfl ht rfl rfl rfl rfl) ?_ | refine QO_v rfl (V_load (tb := tb) rfl hr rfl rfl rfl rfl) ?_ | refine QO_v rfl (V_load (tb := tb) rfl hb rfl rfl rfl rfl) ?_ | refine QO_v rfl (V_loadC (tb := tb) rfl hu rfl rfl g rfl) ?_ | refine QO_v rfl (V_geq rfl rfl rfl) ?_) | (first | (refine sx ?_; try intro _)))
  refine JS_ret Tryz.func99 rfl rfl ?_
  intro w hw
  exact ⟨rfl, hw⟩
theorem UptoC_c {w0 : World} {H : List Asn} (b bt br : Nat) (T : List (Int × Int)) (r : Int) (hs : IsTab w0 H b T) (ht : blk bt [.pointer (some ⟨b, 0, none⟩)] ∈ H) (hr : blk br [.int .i64 r] ∈ H) (i : Nat) (hi : i < T.length) (w : World) (hw : St w0 H w) :
    Calls Tryz.prog 86 #[.int .i64 i, .pointer (some ⟨bt, 0, none⟩), .pointer (some ⟨br, 0, none⟩)] w fun e w' => e = .returned (.bool (decide (r < (T.getD i (0, 0)).1))) ∧ St w0 H w' := by
  obtain ⟨⟨pk, ck, pu, cu, hb, hk, hu⟩, hT, hR⟩ := hs
  refine enter (vs := [.int .i64 i, .pointer (some ⟨bt, 0, none⟩), .pointer (some ⟨br, 0, none⟩)]) Tryz.func86 rfl rfl rfl hw ?_
  have g := keysT_get T i hi
  repeat (first | (apply gQO; first | refine QO_v rfl (V_load (tb := tb) rfl ht rfl rfl rfl rfl) ?_ | refine QO_v rfl (V_load (tb := tb) rfl hr rfl rfl rfl rfl) ?_ | refine QO_v rfl (V_load (tb := tb) rfl hb rfl rfl rfl rfl) ?_ | refine QO_v rfl (V_loadC (tb := tb) rfl hk rfl rfl g rfl) ?_ | refine QO_v rfl (V_gtr rfl rfl rfl) ?_) | (first | (refine sx ?_; try intro _)))
  refine JS_ret Tryz.func86 rfl rfl ?_
  intro w hw
  exact ⟨rfl, hw⟩
theorem SIntsC_c {w0 : World} {H : List Asn} (u : Value) (m ba br : Nat) (L : List Int) (r : Int) (hu : Rd w0 H u m (ints .i64 L)) (hm : L.length = m) (ht : blk ba [u] ∈ H) (hr : blk br [.int .i64 r] ∈ H) (i : Nat) (hi : i < m) (w : World) (hw : St w0 H w) :
    Calls Tryz.prog 101 #[.int .i64 i, .pointer (some ⟨ba, 0, none⟩), .pointer (some ⟨br, 0, none⟩)] w fun e w' => e = .returned (.bool (decide (r ≤ L.getD i 0))) ∧ St w0 H w' := by
  refine enter (vs := [.int .i64 i, .pointer (some ⟨ba, 0, none⟩), .pointer (some ⟨br, 0, none⟩)]) Tryz.func101 rfl rfl rfl hw ?_
  have g : (ints .i64 L)[i]? = some (.int .i64 (L.getD i 0)) := ints_get (by omega)
  repeat (first | (apply gQO; first | refine QO_v rfl (V_load (tb := tb) rfl ht rfl rfl rfl rfl) ?_ | refine QO_v rfl (V_load (tb := tb) rfl hr rfl rfl rfl rfl) ?_ | refine QO_v rfl (V_loadC (tb := tb) rfl hu rfl rfl g rfl) ?_ | refine QO_v rfl (V_geq rfl rfl rfl) ?_) | (first | (refine sx ?_; try intro _)))
  refine JS_ret Tryz.func101 rfl rfl ?_
  intro w hw
  exact ⟨rfl, hw⟩
theorem SInts_c {w0 : World} {H : List Asn} (p : Option Addr) (c m : Nat) (L : List Int) (r : Int) (hr : Rd w0 H (.slice p m c) m (ints .i64 L)) (hm : L.length = m) (hm1 : m ≤ 1000000) (w : World) (hw : St w0 H w) :
    Calls Tryz.prog 87 #[.slice p m c, .int .i64 r] w fun e w' => ∃ k : Nat, e = .returned (.int .i64 k) ∧ St w0 H w' ∧ k ≤ m ∧ (k = 0 ∨ L.getD (k - 1) 0 < r) ∧ (k = m ∨ r ≤ L.getD k 0) := by
  refine enter (vs := [.slice p m c, .int .i64 r]) Tryz.func87 rfl rfl rfl hw ?_
  repeat (first | (refine sx ?_; try intro _))
  rename_i ba br
  refine JO_call Tryz.call84 rfl rfl fun w hw => (Search_c (H := blk br [.int .i64 r] :: blk ba [.slice p m c] :: H) m _ [.pointer (some ⟨ba, 0, none⟩), .pointer (some ⟨br, 0, none⟩)] (fun i => decide (r ≤ L.getD i 0)) (by omega) Tryz.call101 (fun i hi w hw => SIntsC_c (.slice p m c) m ba br L r (Rd_weak hr fun w hw => St.sub (by repeat (first | exact List.Sublist.refl _ | apply List.Sublist.cons_cons | apply List.Sublist.cons)) hw) hm (by repeat (first | apply List.Mem.head | apply List.Mem.tail)) (by repeat (first | apply List.Mem.head | apply List.Mem.tail)) i hi w hw) w hw).mono ?_
  rintro e w' ⟨k, rfl, hw', h1, h2, h3⟩
  refine ⟨_, rfl, _, hw', ?_⟩
  clear hw' hw w w'
  repeat (first | (refine sx ?_; try intro _))
  refine JS_ret Tryz.func87 rfl rfl ?_
  intro w hw
  simp only [decide_eq_false_iff_not, decide_eq_true_eq] at h2 h3
  exact ⟨k, rfl, St.sub (by repeat (first | exact List.Sublist.refl _ | apply List.Sublist.cons_cons | apply List.Sublist.cons)) hw, h1, by omega, h3⟩
end Go.Proofs.YtmnilpjgkjkecaaGreat

namespace Go.Proofs.YtmnilpjgkjkecaaGreat
open Sx Go
set_option linter.unusedVariables false
set_option linter.unusedSimpArgs false
set_option maxRecDepth 10000 in
set_option maxHeartbeats 1000000 in
theorem TKey_c {w0 : World} {H : List Asn} (b : Nat) (T : List (Int × Int)) (hs : IsTab w0 H b T) (hl : T.length ≤ 1000000) (r : Int) (hr : 0 ≤ r ∧ r < 18446744073709551616) (w : World) (hw : St w0 H w) :
    Calls Tryz.prog 74 #[.pointer (some ⟨b, 0, none⟩), .int .u64 r] w fun e w' => ∃ k f, e = .returned (.tuple #[.int .i64 k, .int .i64 f]) ∧ St w0 H w' ∧
      ((T.length = 0 ∧ k = 0 ∧ f = 8) ∨ (T.length ≠ 0 ∧ (r < 1 ∨ sw T < r) ∧ k = 0 ∧ f = 1) ∨ (f = 0 ∧ 1 ≤ r ∧ r ≤ sw T ∧ ∃ i : Nat, i < T.length ∧ (i = 0 ∨ sw (T.take i) < r) ∧ r ≤ sw (T.take (i + 1)) ∧ k = (T.getD i (0, 0)).1)) := by
  refine enter (vs := [.pointer (some ⟨b, 0, none⟩), .int .u64 r]) Tryz.func74 rfl rfl rfl hw ?_
  repeat (first | (refine sx ?_; try intro _))
  rename_i bt br
  refine JO_call Tryz.call85 rfl rfl fun w hw => (TLen_c b T (hs.sub (by repeat (first | exact List.Sublist.refl _ | apply List.Sublist.cons))) w hw).mono ?_
  rintro e w' ⟨rfl, hw'⟩
  refine ⟨_, rfl, _, hw', ?_⟩
  clear hw' hw w w'
  by_cases h0 : T.length = 0
  · repeat (first | (refine sx ?_; try intro _))
    refine JS_ret Tryz.func74 rfl rfl ?_
    intro w hw
    exact ⟨0, 8, rfl, St.sub (by repeat (first | exact List.Sublist.refl _ | apply List.Sublist.cons_cons | apply List.Sublist.cons)) hw, .inl ⟨h0, rfl, rfl⟩⟩
  have hb := hs.sw T.length (Nat.le_refl _)
  rw [List.take_length] at hb
  by_cases h1 : r < 1
  · repeat (first | (refine sx ?_; try intro _))
    refine JS_ret Tryz.func74 rfl rfl ?_
    intro w hw
    exact ⟨0, 1, rfl, St.sub (by repeat (first | exact List.Sublist.refl _ | apply List.Sublist.cons_cons | apply List.Sublist.cons)) hw, .inr (.inl ⟨h0, .inl h1, rfl, rfl⟩)⟩
  repeat (first | (refine sx ?_; try intro _))
  refine QO_call Tryz.call73 rfl rfl fun w hw => (TTotal_c b T (hs.sub (by repeat (first | exact List.Sublist.refl _ | apply List.Sublist.cons))) hl w hw).mono ?_
  rintro e w' ⟨rfl, hw'⟩
  refine ⟨_, rfl, _, hw', .inl fun w hw => hw, ?_⟩
  clear hw' hw w w'
  by_cases h2 : sw T < r
  · repeat (first | (refine sx ?_; try intro _))
    refine JS_ret Tryz.func74 rfl rfl ?_
    intro w hw
    exact ⟨0, 1, rfl, St.sub (by repeat (first | exact List.Sublist.refl _ | apply List.Sublist.cons_cons | apply List.Sublist.cons)) hw, .inr (.inl ⟨h0, .inr h2, rfl, rfl⟩)⟩
  obtain ⟨⟨pk, ck, pu, cu, hbk, hk, hu⟩, hT, hR⟩ := hs.sub (H' := blk br [.int .u64 r] :: blk bt [.pointer (some ⟨b, 0, none⟩)] :: H) (by repeat (first | exact List.Sublist.refl _ | apply List.Sublist.cons))
  repeat (first | (apply gJS; first | apply JS_seq | apply JS_region | apply JS_skip | refine JS_condF rfl ?_ | refine JS_cond_F rfl (by omega) ?_ | apply JS_inBlock) | (apply gQR; first | (refine sx ?_; try intro _)) | (apply gQO; first | (refine sx ?_; try intro _)) | (apply gJR; first | (refine sx ?_; try intro _)) | (apply gJO; first | (refine sx ?_; try intro _)))
  refine JS_order [0, 1, 2, 3, 4, 6, 5, 7, 8, 9, 10, 11] [] (Picks.cons rfl (Picks.cons rfl (Picks.cons rfl (Picks.cons rfl (Picks.cons rfl (Picks.cons rfl (Picks.cons rfl (Picks.cons rfl (Picks.cons rfl (Picks.cons rfl (Picks.cons rfl (Picks.cons rfl (Picks.nil))))))))))))) (by kernel_rfl) (by kernel_rfl) rfl (by decide +kernel) ?_
  repeat (first | (apply gQO; refine QO_v rfl (V_load (tb := tb) rfl hbk rfl rfl rfl rfl) ?_) | (first | (refine sx ?_; try intro _)))
  refine QO_call Tryz.call85 rfl rfl fun w hw => (TLen_c b T (hs.sub (by repeat (first | exact List.Sublist.refl _ | apply List.Sublist.cons))) w hw).mono ?_
  rintro e w' ⟨rfl, hw'⟩
  refine ⟨_, rfl, _, hw', .inl fun w hw => hw, ?_⟩
  clear hw' hw w w'
  repeat (first | (refine sx ?_; try intro _))
  refine QO_call Tryz.call84 rfl rfl fun w hw => (Search_c (H := blk br [.int .u64 r] :: blk bt [.pointer (some ⟨b, 0, none⟩)] :: H) T.length _ [.pointer (some ⟨bt, 0, none⟩), .pointer (some ⟨br, 0, none⟩)] (fun i => decide (r ≤ sw (T.take (i + 1)))) (by omega) Tryz.call99 (fun i hi w hw => KeyC_c b bt br T r (hs.sub (by repeat (first | exact List.Sublist.refl _ | apply List.Sublist.cons))) (by repeat (first | apply List.Mem.head | apply List.Mem.tail)) (by repeat (first | apply List.Mem.head | apply List.Mem.tail)) i hi w hw) w hw).mono ?_
  rintro e w' ⟨k, rfl, hw', g1, g2, g3⟩
  refine ⟨_, rfl, _, hw', .inl fun w hw => hw, ?_⟩
  clear hw' hw w w'
  simp only [decide_eq_false_iff_not, decide_eq_true_eq] at g2 g3
  have hkn : k < T.length := by
    rcases Nat.eq_or_lt_of_le g1 with h | h
    · exfalso
      rcases g2 with g2 | g2
      · omega
      · rw [h, show T.length - 1 + 1 = T.length by omega, List.take_length] at g2; omega
    · exact h
  have g := keysT_get T k hkn
  repeat (first | (apply gQO; first | refine QO_v rfl (V_index (tb := tb) rfl rfl rfl rfl (Rd.sl hk) (by omega) (by (try simp only [tn, tna, tn1, tn2, tn3, tn4, tnd16, tnd8, Int.reduceToNat]); first | exact Nat.mul_one _ | exact rfl) rfl) ?_ | refine QO_v rfl (V_loadC (tb := tb) rfl hk rfl rfl g rfl) ?_) | (first | (refine sx ?_; try intro _)))
  refine JS_ret Tryz.func74 rfl rfl ?_
  intro w hw
  refine ⟨_, 0, rfl, St.sub (by repeat (first | exact List.Sublist.refl _ | apply List.Sublist.cons_cons | apply List.Sublist.cons)) hw, .inr (.inr ⟨rfl, by omega, by omega, k, hkn, ?_, ?_, rfl⟩)⟩
  · rcases g2 with g2 | g2
    · exact .inl g2
    · by_cases hk0 : k = 0
      · exact .inl hk0
      · rw [show k - 1 + 1 = k by omega] at g2; exact .inr (by omega)
  · rcases g3 with g3 | g3
    · omega
    · exact g3
theorem TBelow_c {w0 : World} {H : List Asn} (b : Nat) (T : List (Int × Int)) (hs : IsTab w0 H b T) (hl : T.length ≤ 1000000) (k : Int) (w : World) (hw : St w0 H w) :
    Calls Tryz.prog 48 #[.pointer (some ⟨b, 0, none⟩), .int .i64 k] w fun e w' => ∃ j : Nat, e = .returned (.int .u64 (sw (T.take j))) ∧ St w0 H w' ∧ j ≤ T.length ∧ (j = 0 ∨ (T.getD (j - 1) (0, 0)).1 < k) ∧ (j = T.length ∨ k ≤ (T.getD j (0, 0)).1) := by
  have hs' := hs
  obtain ⟨⟨pk, ck, pu, cu, hbk, hk, hu⟩, hT, hR⟩ := hs
  refine enter (vs := [.pointer (some ⟨b, 0, none⟩), .int .i64 k]) Tryz.func48 rfl rfl rfl hw ?_
  repeat (first | (apply gJO; refine JO_v (V_load (tb := tb) rfl hbk rfl rfl rfl rfl) ?_) | (first | (refine sx ?_; try intro _)))
  refine JO_call Tryz.call87 rfl rfl fun w hw => (SInts_c pk ck T.length (keysT T T.length) k hk (tab_len _ _) hl w hw).mono ?_
  rintro e w' ⟨j, rfl, hw', h1, h2, h3⟩
  refine ⟨_, rfl, _, hw', ?_⟩
  clear hw' hw w w'
  repeat (first | (refine sx ?_; try intro _))
  refine JO_call Tryz.call83 rfl rfl fun w hw => (Sum_c b T hs' j h1 hl w hw).mono ?_
  rintro e w' ⟨rfl, hw'⟩
  refine ⟨_, rfl, _, hw', ?_⟩
  clear hw' hw w w'
  repeat (first | (refine sx ?_; try intro _))
  refine JS_ret Tryz.func48 rfl rfl ?_
  intro w hw
  refine ⟨j, rfl, hw, h1, ?_, ?_⟩
  · rcases h2 with h2 | h2
    · exact .inl h2
    · by_cases hj : j = 0
      · exact .inl hj
      · rw [keysT, tab_get (by omega)] at h2; exact .inr h2
  · rcases h3 with h3 | h3
    · exact .inl h3
    · by_cases hj : j = T.length
      · exact .inl hj
      · rw [keysT, tab_get (by omega)] at h3; exact .inr h3
theorem TUpto_c {w0 : World} {H : List Asn} (b : Nat) (T : List (Int × Int)) (hs : IsTab w0 H b T) (hl : T.length ≤ 1000000) (k : Int) (w : World) (hw : St w0 H w) :
    Calls Tryz.prog 47 #[.pointer (some ⟨b, 0, none⟩), .int .i64 k] w fun e w' => ∃ j : Nat, e = .returned (.int .u64 (sw (T.take j))) ∧ St w0 H w' ∧ j ≤ T.length ∧ (j = 0 ∨ (T.getD (j - 1) (0, 0)).1 ≤ k) ∧ (j = T.length ∨ k < (T.getD j (0, 0)).1) := by
  refine enter (vs := [.pointer (some ⟨b, 0, none⟩), .int .i64 k]) Tryz.func47 rfl rfl rfl hw ?_
  repeat (first | (apply gJR; first | (refine sx ?_; try intro _)) | (apply gJO; first | (refine sx ?_; try intro _)) | apply JS_seq | apply JS_region)
  rename_i bt br
  refine JS_order [0, 1, 3, 2, 4, 5, 6] [] (Picks.cons rfl (Picks.cons rfl (Picks.cons rfl (Picks.cons rfl (Picks.cons rfl (Picks.cons rfl (Picks.cons rfl (Picks.nil)))))))) (by kernel_rfl) (by kernel_rfl) rfl (by decide +kernel) ?_
  repeat (first | (refine sx ?_; try intro _))
  refine QO_call Tryz.call85 rfl rfl fun w hw => (TLen_c b T (hs.sub (by repeat (first | exact List.Sublist.refl _ | apply List.Sublist.cons))) w hw).mono ?_
  rintro e w' ⟨rfl, hw'⟩
  refine ⟨_, rfl, _, hw', .inl fun w hw => hw, ?_⟩
  clear hw' hw w w'
  repeat (first | (refine sx ?_; try intro _))
  refine QO_call Tryz.call84 rfl rfl fun w hw => (Search_c (H := blk br [.int .i64 k] :: blk bt [.pointer (some ⟨b, 0, none⟩)] :: H) T.length _ [.pointer (some ⟨bt, 0, none⟩), .pointer (some ⟨br, 0, none⟩)] (fun i => decide (k < (T.getD i (0, 0)).1)) (by omega) Tryz.call86 (fun i hi w hw => UptoC_c b bt br T k (hs.sub (by repeat (first | exact List.Sublist.refl _ | apply List.Sublist.cons))) (by repeat (first | apply List.Mem.head | apply List.Mem.tail)) (by repeat (first | apply List.Mem.head | apply List.Mem.tail)) i hi w hw) w hw).mono ?_
  rintro e w' ⟨j, rfl, hw', g1, g2, g3⟩
  refine ⟨_, rfl, _, hw', .inl fun w hw => hw, ?_⟩
  clear hw' hw w w'
  repeat (first | (refine sx ?_; try intro _))
  refine QO_call Tryz.call83 rfl rfl fun w hw => (Sum_c b T (hs.sub (by repeat (first | exact List.Sublist.refl _ | apply List.Sublist.cons))) j g1 hl w hw).mono ?_
  rintro e w' ⟨rfl, hw'⟩
  refine ⟨_, rfl, _, hw', .inl fun w hw => hw, ?_⟩
  clear hw' hw w w'
  repeat (first | (refine sx ?_; try intro _))
  refine JS_ret Tryz.func47 rfl rfl ?_
  intro w hw
  simp only [decide_eq_false_iff_not, decide_eq_true_eq] at g2 g3
  exact ⟨j, rfl, St.sub (by repeat (first | exact List.Sublist.refl _ | apply List.Sublist.cons_cons | apply List.Sublist.cons)) hw, g1, by omega, g3⟩
end Go.Proofs.YtmnilpjgkjkecaaGreat

namespace Go.Proofs.YtmnilpjgkjkecaaGreat
open Sx Go
set_option linter.unusedVariables false
set_option linter.unusedSimpArgs false
theorem Mul64_c {w0 : World} {H : List Asn} (a b : Int) (ha : 0 ≤ a ∧ a < 18446744073709551616) (hb : 0 ≤ b ∧ b < 18446744073709551616) (w : World) (hw : St w0 H w) :
    Calls Tryz.prog 122 #[.int .u64 a, .int .u64 b] w fun e w' => e = .returned (.tuple #[.int .u64 (a * b / 18446744073709551616), .int .u64 (a * b % 18446744073709551616)]) ∧ St w0 H w' := by
  refine enter (vs := [.int .u64 a, .int .u64 b]) Tryz.func122 rfl rfl rfl hw ?_
  repeat (first | (refine su ?_; try intro _))
  refine JS_ret Tryz.func122 rfl rfl ?_
  intro w hw
  have := mul64_arith a b ha.1 ha.2 hb.1 hb.2
  refine ⟨?_, hw⟩
  rw [← this]
  rfl
theorem Mul_c {w0 : World} {H : List Asn} (a b : Int) (ha : 0 ≤ a ∧ a < 18446744073709551616) (hb : 0 ≤ b ∧ b < 18446744073709551616) (w : World) (hw : St w0 H w) :
    Calls Tryz.prog 115 #[.int .u64 a, .int .u64 b] w fun e w' => e = .returned (.agg #[.int .u64 (a * b / 18446744073709551616), .int .u64 (a * b % 18446744073709551616)]) ∧ St w0 H w' := by
  refine enter (vs := [.int .u64 a, .int .u64 b]) Tryz.func115 rfl rfl rfl hw ?_
  repeat (first | (refine sy ?_; try intro _))
  refine JO_call Tryz.call122 rfl rfl fun w hw => (Mul64_c a b ha hb w hw).mono ?_
  rintro e w' ⟨rfl, hw'⟩
  refine ⟨_, rfl, _, hw', ?_⟩
  repeat (first | (refine sy ?_; try intro _))
  refine JS_retC (tb := tb) Tryz.func115 rfl (by first | exact ResV.agg (tb := tb) rfl (by repeat (first | apply List.Mem.head | apply List.Mem.tail)) rfl rfl rfl ResV.nil | exact ResV.agg (tb := tb) rfl (by repeat (first | apply List.Mem.head | apply List.Mem.tail)) rfl rfl rfl (ResV.tmp rfl ResV.nil) | exact ResV.agg (tb := tb) rfl (by repeat (first | apply List.Mem.head | apply List.Mem.tail)) rfl rfl rfl (ResV.tmp rfl (ResV.tmp rfl ResV.nil)) | exact ResV.one (tb := tb) rfl (by repeat (first | apply List.Mem.head | apply List.Mem.tail)) rfl rfl rfl ResV.nil | exact ResV.one (tb := tb) rfl (by repeat (first | apply List.Mem.head | apply List.Mem.tail)) rfl rfl rfl (ResV.tmp rfl ResV.nil) | exact ResV.one (tb := tb) rfl (by repeat (first | apply List.Mem.head | apply List.Mem.tail)) rfl rfl rfl (ResV.one (tb := tb) rfl (by repeat (first | apply List.Mem.head | apply List.Mem.tail)) rfl rfl rfl ResV.nil) | exact ResV.tmp rfl (ResV.agg (tb := tb) rfl (by repeat (first | apply List.Mem.head | apply List.Mem.tail)) rfl rfl rfl ResV.nil) | exact ResV.tmp rfl (ResV.one (tb := tb) rfl (by repeat (first | apply List.Mem.head | apply List.Mem.tail)) rfl rfl rfl ResV.nil)) ?_
  intro w hw
  exact ⟨rfl, hw.drop⟩
end Go.Proofs.YtmnilpjgkjkecaaGreat

namespace Go.Proofs.YtmnilpjgkjkecaaGreat
open Sx Go
set_option linter.unusedVariables false
set_option linter.unusedSimpArgs false
theorem or_u64 {a b : Int} {s : Nat} (ha : 0 ≤ a) (hb : 0 ≤ b ∧ b < 2 ^ s) (hs : s ≤ 63) (h : a * 2 ^ s + b < 18446744073709551616) :
    IntKind.u64.wrap ((BitVec.ofInt IntKind.u64.bits (a * 2 ^ s) ||| BitVec.ofInt IntKind.u64.bits b).toNat) = a * 2 ^ s + b := by
  have hc : ((2 ^ s : Nat) : Int) = (2 : Int) ^ s := by simp
  have h0 : 0 ≤ a * 2 ^ s := Int.mul_nonneg ha (by rw [← hc]; omega)
  have e64 : (2 : Int) ^ IntKind.u64.bits = 18446744073709551616 := rfl
  rw [or_nat .u64 (by rw [e64]; omega) (by rw [e64]; omega)]
  have e1 : (a * 2 ^ s).toNat = a.toNat * 2 ^ s := by
    obtain ⟨n, rfl⟩ := Int.eq_ofNat_of_zero_le ha
    rw [← hc, ← Int.natCast_mul]; rfl
  have hb2 : b.toNat < 2 ^ s := by
    have := hb.2
    rw [← hc] at this
    omega
  rw [e1, or_add hb2]
  have e2 : ((a.toNat * 2 ^ s + b.toNat : Nat) : Int) = a * 2 ^ s + b := by
    rw [Int.natCast_add, Int.natCast_mul, hc, Int.toNat_of_nonneg ha, Int.toNat_of_nonneg hb.1]
  rw [e2]
  exact wu64 ⟨by omega, h⟩
set_option maxHeartbeats 2000000 in
/-- the rest of the long division, behind the shift -/
theorem Div64_b {w0 : World} {H : List Asn} {Y u u1 u0 y1 y0 : Int} {s : Nat} {R : Ending → World → Prop} (hY1 : 9223372036854775808 ≤ Y) (hY2 : Y < 18446744073709551616) (hun : u < Y) (hu0 : 0 ≤ u) (hu1 : 0 ≤ u1 ∧ u1 < 4294967296) (hu2 : 0 ≤ u0 ∧ u0 < 4294967296)
    (hY : Y = y1 * 4294967296 + y0) (hy1 : 2147483648 ≤ y1) (hy2 : y1 < 4294967296) (hy0 : 0 ≤ y0) (hy0' : y0 < 4294967296) (hs : s ≤ 63)
    (hR : ∀ q1 q0 w, q1 = (u * 4294967296 + u1) / Y → q0 = ((u * 4294967296 + u1) % Y * 4294967296 + u0) / Y → 0 ≤ q1 → q1 < 4294967296 → 0 ≤ q0 → q0 < 4294967296 → St w0 H w → R (.returned (.tuple #[.int .u64 (q1 * 4294967296 + q0), .int .u64 (((u * 4294967296 + u1) % Y * 4294967296 + u0) % Y / 2 ^ s)])) w) :
    JS Tryz.prog 123 Tryz.f123.ntmps R [] w0 (todo Tryz.f123 [.b, .b, .b, .b, .b, .b, .b, .b, .b, .b, .b, .b]) [(2, .int .u64 Y), (8, .int .u64 s), (9, .int .u64 y1), (10, .int .u64 y0), (11, .int .u64 u), (13, .int .u64 u1), (14, .int .u64 u0)] H := by
  refine JS_at rfl ?_
  have ds := div_start (u := u) (y1 := y1) (by omega)
  have dq : 0 ≤ u / y1 := Int.ediv_nonneg hu0 (by omega)
  have dp : 0 ≤ u / y1 * y1 := Int.mul_nonneg dq (by omega)
  repeat (refine gJS ?_; first | refine JS_seq ?_ | (refine JS_region ?_; repeat (first | (refine gJR ?_; first | (refine sy ?_; try intro _)) | (refine gJO ?_; first | (refine sy ?_; try intro _)))))
  refine JS_join1 (fun (q : Int) => [(2, .int .u64 Y), (8, .int .u64 s), (9, .int .u64 y1), (10, .int .u64 y0), (11, .int .u64 u), (13, .int .u64 u1), (14, .int .u64 u0), (15, .int .u64 q)]) (fun _ => H) (fun q => 0 ≤ q ∧ q < 4294967296 ∧ q * Y ≤ u * 4294967296 + u1 ∧ u * 4294967296 + u1 < (q + 1) * Y) ?_ ?_
  rotate_left
  · intro K
    refine JS_block ?_
    refine JS_loop2 (fun (q r : Int) => [(2, .int .u64 Y), (8, .int .u64 s), (9, .int .u64 y1), (10, .int .u64 y0), (11, .int .u64 u), (13, .int .u64 u1), (14, .int .u64 u0), (15, .int .u64 q), (16, .int .u64 r)]) (fun _ _ => H) (fun q r => u = q * y1 + r ∧ 0 ≤ r ∧ r < 4294967296 ∧ 0 ≤ q ∧ q ≤ 4294967297 ∧ u * 4294967296 + u1 < (q + 1) * Y) (fun q _ => q.toNat) (u / y1) (u - u / y1 * y1) ⟨ds.1, ds.2.1, by omega, dq, div_top hy0 hy0' hy1 (by rw [← hY]; omega) ds.1 ds.2.1, by rw [hY]; exact div_over hy0 (by omega) ds.1 ds.2.2 dq⟩ (by repeat (first | exact trivial | refine ⟨rfl, ?_⟩ | refine ⟨lookI rfl (by omega), ?_⟩)) (fun _ h => h) ?_
    intro q r ⟨i1, i2, i3, i4, i5, i6⟩ again
    have bq := mul_bd i4 hy0 i5 (show y0 ≤ 4294967295 by omega) (by omega)
    by_cases h1 : 4294967296 ≤ q
    · have hlt : u * 4294967296 + u1 < q * Y := div_big (by omega) (by omega) h1
      have i1' := div_less i1
      have bq1 := mul_bd (show 0 ≤ q - 1 by omega) hy0 (show q - 1 ≤ 4294967296 by omega) (show y0 ≤ 4294967295 by omega) (by omega)
      repeat (first | (refine sx ?_; try intro _))
      refine JS_condD rfl (fun hc => ?_) (fun hc => ?_)
      · repeat (first | exact JS_to1 K (q - 1) ⟨by omega, (by have h1 := div_top2 (q := q - 1) (u := u) (u1 := u1) (Y := Y) (by omega) (by omega) (by rw [hY]; exact (div_test i1').2 (by omega)); omega), by rw [hY]; exact (div_test i1').2 (by omega), by rw [show q - 1 + 1 = q from by omega]; exact hlt⟩ (by repeat (first | exact trivial | refine ⟨rfl, ?_⟩ | refine ⟨lookI rfl (by omega), ?_⟩)) (fun _ h => h) | (first | (refine sy ?_; try intro _)))
      · repeat (first | (refine sy ?_; try intro _))
        exact JS_again2 again (q - 1) (r + y1) ⟨i1', by omega, by omega, by omega, by omega, by rw [show q - 1 + 1 = q from by omega]; exact hlt⟩ (by omega) (by repeat (first | exact trivial | refine ⟨rfl, ?_⟩ | refine ⟨lookI rfl (by omega), ?_⟩)) (fun _ h => h)
    by_cases h2 : 4294967296 * r + u1 < q * y0
    · have hlt : u * 4294967296 + u1 < q * Y := by rw [hY]; exact div_over' i1 h2
      have hq1 : 1 ≤ q := by
        rcases Int.lt_or_le q 1 with h | h
        · have : q = 0 := by omega
          rw [this, Int.zero_mul] at h2
          omega
        · exact h
      have i1' := div_less i1
      have bq1 := mul_bd (show 0 ≤ q - 1 by omega) hy0 (show q - 1 ≤ 4294967296 by omega) (show y0 ≤ 4294967295 by omega) (by omega)
      repeat (first | (refine sx ?_; try intro _))
      refine JS_condD rfl (fun hc => ?_) (fun hc => ?_)
      · repeat (first | exact JS_to1 K (q - 1) ⟨by omega, (by have h1 := div_top2 (q := q - 1) (u := u) (u1 := u1) (Y := Y) (by omega) (by omega) (by rw [hY]; exact (div_test i1').2 (by omega)); omega), by rw [hY]; exact (div_test i1').2 (by omega), by rw [show q - 1 + 1 = q from by omega]; exact hlt⟩ (by repeat (first | exact trivial | refine ⟨rfl, ?_⟩ | refine ⟨lookI rfl (by omega), ?_⟩)) (fun _ h => h) | (first | (refine sy ?_; try intro _)))
      · repeat (first | (refine sy ?_; try intro _))
        exact JS_again2 again (q - 1) (r + y1) ⟨i1', by omega, by omega, by omega, by omega, by rw [show q - 1 + 1 = q from by omega]; exact hlt⟩ (by omega) (by repeat (first | exact trivial | refine ⟨rfl, ?_⟩ | refine ⟨lookI rfl (by omega), ?_⟩)) (fun _ h => h)
    · repeat (first | exact JS_to1 K q ⟨by omega, by omega, by rw [hY]; exact (div_test i1).2 (by omega), i6⟩ (by repeat (first | exact trivial | refine ⟨rfl, ?_⟩ | refine ⟨lookI rfl (by omega), ?_⟩)) (fun _ h => h) | (first | (refine sx ?_; try intro _)))
  intro q1 ⟨k1, k2, k3, k4⟩
  obtain ⟨hq, hv⟩ := div_done k3 k4 (by omega)
  have hv0 := Int.emod_nonneg (u * 4294967296 + u1) (show Y ≠ 0 by omega)
  have hv1 := Int.emod_lt_of_pos (u * 4294967296 + u1) (show 0 < Y by omega)
  repeat (first | (refine gJR ?_; first | (refine sy ?_; try intro _)) | (refine gJO ?_; first | (refine sy ?_; try intro _)) | refine JS_inBlock ?_)
  refine JS_seq ?_
  refine JS_region ?_
  repeat (first | (refine gJR ?_; first | (refine sy ?_; try intro _)) | (refine gJO ?_; first | (refine sy ?_; try intro _)))
  generalize (u * 4294967296 + u1) % Y = v at *
  refine JS_ov (ov' := [(2, .int .u64 Y), (8, .int .u64 s), (9, .int .u64 y1), (10, .int .u64 y0), (14, .int .u64 u0), (15, .int .u64 q1), (17, .int .u64 v)]) (by repeat (first | exact trivial | refine ⟨rfl, ?_⟩ | refine ⟨lookI rfl (by omega), ?_⟩)) ?_
  have hR' := fun q0 w => hR q1 q0 w hq
  clear hq hv k3 k4 hR ds dq dp
  have ds := div_start (u := v) (y1 := y1) (by omega)
  have dq : 0 ≤ v / y1 := Int.ediv_nonneg hv0 (by omega)
  have dp : 0 ≤ v / y1 * y1 := Int.mul_nonneg dq (by omega)
  repeat (refine gJS ?_; first | refine JS_seq ?_ | (refine JS_region ?_; repeat (first | (refine gJR ?_; first | (refine sy ?_; try intro _)) | (refine gJO ?_; first | (refine sy ?_; try intro _)))))
  refine JS_join1 (fun (q : Int) => [(2, .int .u64 Y), (8, .int .u64 s), (9, .int .u64 y1), (10, .int .u64 y0), (14, .int .u64 u0), (15, .int .u64 q1), (17, .int .u64 v), (18, .int .u64 q)]) (fun _ => H) (fun q => 0 ≤ q ∧ q < 4294967296 ∧ q * Y ≤ v * 4294967296 + u0 ∧ v * 4294967296 + u0 < (q + 1) * Y) ?_ ?_
  rotate_left
  · intro K
    refine JS_block ?_
    refine JS_loop2 (fun (q r : Int) => [(2, .int .u64 Y), (8, .int .u64 s), (9, .int .u64 y1), (10, .int .u64 y0), (14, .int .u64 u0), (15, .int .u64 q1), (17, .int .u64 v), (18, .int .u64 q), (16, .int .u64 r)]) (fun _ _ => H) (fun q r => v = q * y1 + r ∧ 0 ≤ r ∧ r < 4294967296 ∧ 0 ≤ q ∧ q ≤ 4294967297 ∧ v * 4294967296 + u0 < (q + 1) * Y) (fun q _ => q.toNat) (v / y1) (v - v / y1 * y1) ⟨ds.1, ds.2.1, by omega, dq, div_top hy0 hy0' hy1 (by rw [← hY]; omega) ds.1 ds.2.1, by rw [hY]; exact div_over hy0 (by omega) ds.1 ds.2.2 dq⟩ (by repeat (first | exact trivial | refine ⟨rfl, ?_⟩ | refine ⟨lookI rfl (by omega), ?_⟩)) (fun _ h => h) ?_
    intro q r ⟨i1, i2, i3, i4, i5, i6⟩ again
    have bq := mul_bd i4 hy0 i5 (show y0 ≤ 4294967295 by omega) (by omega)
    by_cases h1 : 4294967296 ≤ q
    · have hlt : v * 4294967296 + u0 < q * Y := div_big (by omega) (by omega) h1
      have i1' := div_less i1
      have bq1 := mul_bd (show 0 ≤ q - 1 by omega) hy0 (show q - 1 ≤ 4294967296 by omega) (show y0 ≤ 4294967295 by omega) (by omega)
      repeat (first | (refine sx ?_; try intro _))
      refine JS_condD rfl (fun hc => ?_) (fun hc => ?_)
      · repeat (first | exact JS_to1 K (q - 1) ⟨by omega, (by have h1 := div_top2 (q := q - 1) (u := v) (u1 := u0) (Y := Y) (by omega) (by omega) (by rw [hY]; exact (div_test i1').2 (by omega)); omega), by rw [hY]; exact (div_test i1').2 (by omega), by rw [show q - 1 + 1 = q from by omega]; exact hlt⟩ (by repeat (first | exact trivial | refine ⟨rfl, ?_⟩ | refine ⟨lookI rfl (by omega), ?_⟩)) (fun _ h => h) | (first | (refine sy ?_; try intro _)))
      · repeat (first | (refine sy ?_; try intro _))
        exact JS_again2 again (q - 1) (r + y1) ⟨i1', by omega, by omega, by omega, by omega, by rw [show q - 1 + 1 = q from by omega]; exact hlt⟩ (by omega) (by repeat (first | exact trivial | refine ⟨rfl, ?_⟩ | refine ⟨lookI rfl (by omega), ?_⟩)) (fun _ h => h)
    by_cases h2 : 4294967296 * r + u0 < q * y0
    · have hlt : v * 4294967296 + u0 < q * Y := by rw [hY]; exact div_over' i1 h2
      have hq1 : 1 ≤ q := by
        rcases Int.lt_or_le q 1 with h | h
        · have : q = 0 := by omega
          rw [this, Int.zero_mul] at h2
          omega
        · exact h
      have i1' := div_less i1
      have bq1 := mul_bd (show 0 ≤ q - 1 by omega) hy0 (show q - 1 ≤ 4294967296 by omega) (show y0 ≤ 4294967295 by omega) (by omega)
      repeat (first | (refine sx ?_; try intro _))
      refine JS_condD rfl (fun hc => ?_) (fun hc => ?_)
      · repeat (first | exact JS_to1 K (q - 1) ⟨by omega, (by have h1 := div_top2 (q := q - 1) (u := v) (u1 := u0) (Y := Y) (by omega) (by omega) (by rw [hY]; exact (div_test i1').2 (by omega)); omega), by rw [hY]; exact (div_test i1').2 (by omega), by rw [show q - 1 + 1 = q from by omega]; exact hlt⟩ (by repeat (first | exact trivial | refine ⟨rfl, ?_⟩ | refine ⟨lookI rfl (by omega), ?_⟩)) (fun _ h => h) | (first | (refine sy ?_; try intro _)))
      · repeat (first | (refine sy ?_; try intro _))
        exact JS_again2 again (q - 1) (r + y1) ⟨i1', by omega, by omega, by omega, by omega, by rw [show q - 1 + 1 = q from by omega]; exact hlt⟩ (by omega) (by repeat (first | exact trivial | refine ⟨rfl, ?_⟩ | refine ⟨lookI rfl (by omega), ?_⟩)) (fun _ h => h)
    · repeat (first | exact JS_to1 K q ⟨by omega, by omega, by rw [hY]; exact (div_test i1).2 (by omega), i6⟩ (by repeat (first | exact trivial | refine ⟨rfl, ?_⟩ | refine ⟨lookI rfl (by omega), ?_⟩)) (fun _ h => h) | (first | (refine sx ?_; try intro _)))
  intro q0 ⟨m1, m2, m3, m4⟩
  obtain ⟨hq0, hw0⟩ := div_done m3 m4 (by omega)
  have hr0 := Int.emod_nonneg (v * 4294967296 + u0) (show Y ≠ 0 by omega)
  have hr1 := Int.emod_lt_of_pos (v * 4294967296 + u0) (show 0 < Y by omega)
  have hm1 : min (Int.toNat (s : Int)) IntKind.u64.bits = s := by simp only [IntKind.bits, Int.toNat_natCast]; omega
  repeat (first | (refine sy ?_; try intro _))
  refine JO_v (V_shr (a := (v * 4294967296 + u0) % Y) (m := s) (lookI rfl (by omega)) rfl (by omega) hm1 rfl rfl) ?_
  repeat (first | (refine sy ?_; try intro _))
  refine JS_ret Tryz.func123 rfl rfl ?_
  intro w hw
  exact hR' q0 w hq0 k1 k2 m1 m2 hw
set_option maxHeartbeats 1000000 in
theorem Div64_c {w0 : World} {H : List Asn} (hi lo y : Int) (hh : 0 ≤ hi ∧ hi < y) (hl : 0 ≤ lo ∧ lo < 18446744073709551616) (hy : y < 18446744073709551616) (w : World) (hw : St w0 H w) :
    Calls Tryz.prog 123 #[.int .u64 hi, .int .u64 lo, .int .u64 y] w fun e w' => ∃ q r, e = .returned (.tuple #[.int .u64 q, .int .u64 r]) ∧ St w0 H w' ∧ q = (hi * 18446744073709551616 + lo) / y ∧ r = (hi * 18446744073709551616 + lo) % y := by
  refine enter (vs := [.int .u64 hi, .int .u64 lo, .int .u64 y]) Tryz.func123 rfl rfl rfl hw ?_
  by_cases h0 : hi = 0
  · repeat (first | (refine sx ?_; try intro _))
    refine JS_ret Tryz.func123 rfl rfl ?_
    intro w hw
    subst h0
    exact ⟨_, _, rfl, hw, by rw [Int.zero_mul, Int.zero_add], by rw [Int.zero_mul, Int.zero_add]⟩
  · repeat (first | (refine sx ?_; try intro _))
    refine JO_call Tryz.call125 rfl rfl fun w hw => (LeadingZeros64_c y (by omega) w hw).mono ?_
    rintro e w' ⟨L, rfl, hw', hL0, hL1, _, hL2⟩
    obtain ⟨hL2, hL3, hL4⟩ := hL2 (by omega)
    refine ⟨_, rfl, _, hw', ?_⟩
    clear hw' w' w hw
    -- the shift
    obtain ⟨s, hs⟩ : ∃ s : Nat, 64 - L = s := ⟨(64 - L).toNat, by omega⟩
    rw [hs]
    have hs63 : s ≤ 63 := by omega
    obtain ⟨c, hcd⟩ : ∃ c : Int, c = 2 ^ s := ⟨_, rfl⟩
    have hcn : c = ((2 ^ s : Nat) : Int) := by rw [hcd]; simp
    have hc0 : 0 < c := by rw [hcn]; have := Nat.two_pow_pos s; omega
    have hY1 : 9223372036854775808 ≤ y * c := by
      have h1 : (2 : Nat) ^ (L - 1).toNat * 2 ^ s = 2 ^ 63 := by rw [← Nat.pow_add]; congr 1; omega
      have h2 : (2 : Nat) ^ (L - 1).toNat * 2 ^ s ≤ y.toNat * 2 ^ s := Nat.mul_le_mul_right _ hL3
      have h3 : ((y.toNat * 2 ^ s : Nat) : Int) = y * c := by rw [Int.natCast_mul, hcn, Int.toNat_of_nonneg (by omega)]
      rw [← h3]; omega
    have hY2 : y * c < 18446744073709551616 := by
      have h1 : (2 : Nat) ^ L.toNat * 2 ^ s = 2 ^ 64 := by rw [← Nat.pow_add]; congr 1; omega
      have h2 : y.toNat * 2 ^ s < 2 ^ L.toNat * 2 ^ s := Nat.mul_lt_mul_of_pos_right hL4 (Nat.two_pow_pos s)
      have h3 : ((y.toNat * 2 ^ s : Nat) : Int) = y * c := by rw [Int.natCast_mul, hcn, Int.toNat_of_nonneg (by omega)]
      rw [← h3]; omega
    have hm1 : min (Int.toNat (s : Int)) IntKind.u64.bits = s := by simp only [IntKind.bits, Int.toNat_natCast]; omega
    have hm2 : min (Int.toNat (64 - (s : Int))) IntKind.u64.bits = 64 - s := by simp only [IntKind.bits]; omega
    have hhc : 0 ≤ hi * c ∧ hi * c < y * c := ⟨Int.mul_nonneg hh.1 (by omega), Int.mul_lt_mul_of_pos_right hh.2 hc0⟩
    have hlo : 0 ≤ lo / 2 ^ (64 - s) ∧ lo / 2 ^ (64 - s) < c ∧ lo / 2 ^ (64 - s) = lo * c / 18446744073709551616 := by
      have e1 : (18446744073709551616 : Int) = 2 ^ (64 - s) * c := by
        rw [hcd, ← Int.pow_add, show 64 - s + s = 64 from by omega]; rfl
      have hp : (0 : Int) < 2 ^ (64 - s) := Int.pow_pos (by decide)
      refine ⟨Int.ediv_nonneg hl.1 (Int.le_of_lt hp), Int.ediv_lt_of_lt_mul hp (by rw [Int.mul_comm, ← e1]; exact hl.2), ?_⟩
      rw [e1, scale_div hc0]
    have hjoin : hi * c + lo / 2 ^ (64 - s) < y * c := by
      have h1 : (hi + 1) * c ≤ y * c := Int.mul_le_mul_of_nonneg_right (by omega) (by omega)
      rw [Int.add_mul, Int.one_mul] at h1
      omega
    repeat (first | (refine sy ?_; try intro _))
    refine JO_v (V_shl (m := s) (c := y * c) rfl rfl (by omega) hm1 (by rw [← hcd]; exact wu64 ⟨by omega, by omega⟩) rfl) ?_
    generalize hYd : y * c = Y at *
    repeat (first | (refine sy ?_; try intro _))
    refine JO_v (V_shl (m := s) (c := hi * 2 ^ s) rfl rfl (by omega) hm1 (by rw [← hcd]; exact wu64 ⟨by omega, by omega⟩) rfl) ?_
    repeat (first | (refine sy ?_; try intro _))
    refine JO_v (V_shr (m := 64 - s) rfl rfl (by omega) hm2 rfl rfl) ?_
    refine JR_un ?_
    refine JO_v (V_or rfl rfl (or_u64 hh.1 ⟨hlo.1, by rw [← hcd]; exact hlo.2.1⟩ hs63 (by rw [← hcd]; omega)) rfl) ?_
    rw [← hcd]
    repeat (first | (refine sy ?_; try intro _))
    refine JO_v (V_shl (m := s) (c := lo * c % 18446744073709551616) rfl rfl (by omega) hm1 (by rw [← hcd]; exact mu64 _) rfl) ?_
    have hU1 : hi * c + lo / 2 ^ (64 - s) = (hi * 18446744073709551616 + lo) * c / 18446744073709551616 := by
      rw [hlo.2.2, Int.add_mul, show hi * 18446744073709551616 * c = 18446744073709551616 * (hi * c) from by grind, Int.add_comm, Int.add_comm (18446744073709551616 * (hi * c)), Int.add_mul_ediv_left _ _ (by decide)]
    have hU2 : lo * c % 18446744073709551616 = (hi * 18446744073709551616 + lo) * c % 18446744073709551616 := by
      rw [Int.add_mul, show hi * 18446744073709551616 * c = 18446744073709551616 * (hi * c) from by grind, Int.add_comm, Int.add_mul_emod_self_left]
    have hU0 : 0 ≤ (hi * 18446744073709551616 + lo) * c := Int.mul_nonneg (by omega) (by omega)
    rw [hU1, hU2]
    rw [hU1] at hjoin
    rw [← scale_div (a := hi * 18446744073709551616 + lo) (b := y) hc0, ← scale_mod (a := hi * 18446744073709551616 + lo) (b := y) hc0, hYd]
    clear hU1 hU2 hlo hhc
    generalize (hi * 18446744073709551616 + lo) * c = U at *
    have hun : U / 18446744073709551616 < Y := hjoin
    have hUd : U = U / 18446744073709551616 * 18446744073709551616 + U % 18446744073709551616 / 4294967296 * 4294967296 + U % 18446744073709551616 % 4294967296 ∧ 0 ≤ U / 18446744073709551616 ∧ (0 ≤ U % 18446744073709551616 / 4294967296 ∧ U % 18446744073709551616 / 4294967296 < 4294967296) ∧ 0 ≤ U % 18446744073709551616 % 4294967296 ∧ U % 18446744073709551616 % 4294967296 < 4294967296 := by omega
    have hYp : Y = Y / 4294967296 * 4294967296 + Y % 4294967296 ∧ 2147483648 ≤ Y / 4294967296 ∧ Y / 4294967296 < 4294967296 ∧ 0 ≤ Y % 4294967296 ∧ Y % 4294967296 < 4294967296 := by omega
    repeat (first | (refine gJR ?_; first | (refine sy ?_; try intro _)) | (refine gJO ?_; first | (refine sy ?_; try intro _)))
    refine JS_seq ?_
    refine JS_region ?_
    repeat (first | (refine gJR ?_; first | (refine sy ?_; try intro _)) | (refine gJO ?_; first | (refine sy ?_; try intro _)))
    refine JS_seq ?_
    refine JS_region ?_
    repeat (first | (refine gJR ?_; first | (refine sy ?_; try intro _)) | (refine gJO ?_; first | (refine sy ?_; try intro _)))
    refine JS_ov (ov' := [(2, .int .u64 Y), (8, .int .u64 s), (9, .int .u64 (Y / 4294967296)), (10, .int .u64 (Y % 4294967296)), (11, .int .u64 (U / 18446744073709551616)), (13, .int .u64 (U % 18446744073709551616 / 4294967296)), (14, .int .u64 (U % 18446744073709551616 % 4294967296))]) (by repeat (first | exact trivial | refine ⟨rfl, ?_⟩ | refine ⟨lookI rfl (by omega), ?_⟩)) ?_
    generalize Y / 4294967296 = y1 at *
    generalize Y % 4294967296 = y0 at *
    generalize U % 18446744073709551616 / 4294967296 = u1 at *
    generalize U % 18446744073709551616 % 4294967296 = u0 at *
    generalize U / 18446744073709551616 = u at *
    obtain ⟨hU, hu0, hu1, hu2⟩ := hUd
    obtain ⟨hY, hy1, hy2, hy0, hy0'⟩ := hYp
    refine JS_of_at (fn := Tryz.f123) (p := [.b, .b, .b, .b, .b, .b, .b, .b, .b, .b, .b, .b]) (Div64_b hY1 hY2 hun hu0 hu1 hu2 hY hy1 hy2 hy0 hy0' hs63 ?_) rfl
    intro q1 q0 w h1 h0 b1 b2 b3 b4 hw
    obtain ⟨j1, j2⟩ := div_join (U := U) (un32 := u) (un1 := u1) (un0 := u0) hU h1 h0 (by omega)
    exact ⟨_, _, rfl, hw, j1, by rw [j2, hcd]⟩
end Go.Proofs.YtmnilpjgkjkecaaGreat

namespace Go.Proofs.YtmnilpjgkjkecaaGreat
open Sx Go
set_option linter.unusedVariables false
set_option linter.unusedSimpArgs false
theorem wide_split {X d : Int} (hX : 0 ≤ X) (hd : 0 < d) : X / 18446744073709551616 / d * 18446744073709551616 + (X / 18446744073709551616 % d * 18446744073709551616 + X % 18446744073709551616) / d = X / d ∧ (X / 18446744073709551616 % d * 18446744073709551616 + X % 18446744073709551616) % d = X % d := by
  have e1 := Int.mul_ediv_add_emod (X / 18446744073709551616) d
  have e : X = (X / 18446744073709551616 % d * 18446744073709551616 + X % 18446744073709551616) + d * (X / 18446744073709551616 / d * 18446744073709551616) := by
    have h1 : X = X / 18446744073709551616 * 18446744073709551616 + X % 18446744073709551616 := by omega
    generalize X / 18446744073709551616 % d = m at *
    generalize X / 18446744073709551616 / d = q at *
    generalize X / 18446744073709551616 = H at *
    generalize X % 18446744073709551616 = L at *
    rw [h1, ← e1]; grind
  constructor
  · conv => rhs; rw [e]
    rw [Int.add_mul_ediv_left _ _ (Int.ne_of_gt hd)]; omega
  · conv => rhs; rw [e]
    rw [Int.add_mul_emod_self_left]
set_option maxHeartbeats 400000 in
theorem Div_c {w0 : World} {H : List Asn} (h l d : Int) (hh : 0 ≤ h ∧ h < 18446744073709551616) (hl : 0 ≤ l ∧ l < 18446744073709551616) (hd : 0 ≤ d ∧ d < 18446744073709551616) (w : World) (hw : St w0 H w) :
    Calls Tryz.prog 116 #[.agg #[.int .u64 h, .int .u64 l], .int .u64 d] w fun e w' => ∃ a b m r, e = .returned (.tuple #[.agg #[.int .u64 a, .int .u64 b], .int .u64 m, .int .i64 r]) ∧ St w0 H w' ∧
      ((d = 0 ∧ a = 0 ∧ b = 0 ∧ m = 0 ∧ r = 100) ∨ (d ≠ 0 ∧ r = 0 ∧ a * 18446744073709551616 + b = (h * 18446744073709551616 + l) / d ∧ m = (h * 18446744073709551616 + l) % d ∧ a = h / d ∧ 0 ≤ a ∧ a < 18446744073709551616 ∧ 0 ≤ b ∧ b < 18446744073709551616 ∧ 0 ≤ m ∧ m < d)) := by
  refine enter (vs := [.agg #[.int .u64 h, .int .u64 l], .int .u64 d]) Tryz.func116 rfl rfl rfl hw ?_
  by_cases h0 : d = 0
  · repeat (first | (refine sx ?_; try intro _))
    refine JS_retC (tb := tb) Tryz.func116 rfl (by first | exact ResV.agg (tb := tb) rfl (by repeat (first | apply List.Mem.head | apply List.Mem.tail)) rfl rfl rfl ResV.nil | exact ResV.agg (tb := tb) rfl (by repeat (first | apply List.Mem.head | apply List.Mem.tail)) rfl rfl rfl (ResV.tmp rfl ResV.nil) | exact ResV.agg (tb := tb) rfl (by repeat (first | apply List.Mem.head | apply List.Mem.tail)) rfl rfl rfl (ResV.tmp rfl (ResV.tmp rfl ResV.nil)) | exact ResV.one (tb := tb) rfl (by repeat (first | apply List.Mem.head | apply List.Mem.tail)) rfl rfl rfl ResV.nil | exact ResV.one (tb := tb) rfl (by repeat (first | apply List.Mem.head | apply List.Mem.tail)) rfl rfl rfl (ResV.tmp rfl ResV.nil) | exact ResV.one (tb := tb) rfl (by repeat (first | apply List.Mem.head | apply List.Mem.tail)) rfl rfl rfl (ResV.one (tb := tb) rfl (by repeat (first | apply List.Mem.head | apply List.Mem.tail)) rfl rfl rfl ResV.nil) | exact ResV.tmp rfl (ResV.agg (tb := tb) rfl (by repeat (first | apply List.Mem.head | apply List.Mem.tail)) rfl rfl rfl ResV.nil) | exact ResV.tmp rfl (ResV.one (tb := tb) rfl (by repeat (first | apply List.Mem.head | apply List.Mem.tail)) rfl rfl rfl ResV.nil)) ?_
    intro w hw
    exact ⟨_, _, _, _, rfl, hw.drop.drop, .inl ⟨h0, rfl, rfl, rfl, rfl⟩⟩
  · have hm0 := Int.emod_nonneg h h0
    have hm1 := Int.emod_lt_of_pos h (show 0 < d by omega)
    have hq0 : 0 ≤ h / d := Int.ediv_nonneg hh.1 hd.1
    have hq1 : h / d ≤ h := Int.ediv_le_self _ hh.1
    obtain ⟨s1, s2⟩ := wide_split (X := h * 18446744073709551616 + l) (d := d) (by omega) (by omega)
    rw [show (h * 18446744073709551616 + l) / 18446744073709551616 = h from by omega, show (h * 18446744073709551616 + l) % 18446744073709551616 = l from by omega] at s1 s2
    repeat (first | (refine sx ?_; try intro _))
    refine JO_call Tryz.call123 rfl rfl fun w hw => (Div64_c (h % d) l d ⟨hm0, hm1⟩ hl hd.2 w hw).mono ?_
    rintro e w' ⟨q, r, rfl, hw', hq, hr⟩
    have hb0 : 0 ≤ q := by rw [hq]; exact Int.ediv_nonneg (by omega) hd.1
    have hb1 : q < 18446744073709551616 := by
      rw [hq]; refine Int.ediv_lt_of_lt_mul (by omega) ?_
      have : (h % d + 1) * 18446744073709551616 ≤ d * 18446744073709551616 := Int.mul_le_mul_of_nonneg_right (by omega) (by decide)
      rw [Int.mul_comm] at this
      omega
    have hr0 := Int.emod_nonneg (h % d * 18446744073709551616 + l) h0
    have hr1 := Int.emod_lt_of_pos (h % d * 18446744073709551616 + l) (show 0 < d by omega)
    refine ⟨_, rfl, _, hw', ?_⟩
    repeat (first | (refine sx ?_; try intro _))
    refine JS_retC (tb := tb) Tryz.func116 rfl (by first | exact ResV.agg (tb := tb) rfl (by repeat (first | apply List.Mem.head | apply List.Mem.tail)) rfl rfl rfl ResV.nil | exact ResV.agg (tb := tb) rfl (by repeat (first | apply List.Mem.head | apply List.Mem.tail)) rfl rfl rfl (ResV.tmp rfl ResV.nil) | exact ResV.agg (tb := tb) rfl (by repeat (first | apply List.Mem.head | apply List.Mem.tail)) rfl rfl rfl (ResV.tmp rfl (ResV.tmp rfl ResV.nil)) | exact ResV.one (tb := tb) rfl (by repeat (first | apply List.Mem.head | apply List.Mem.tail)) rfl rfl rfl ResV.nil | exact ResV.one (tb := tb) rfl (by repeat (first | apply List.Mem.head | apply List.Mem.tail)) rfl rfl rfl (ResV.tmp rfl ResV.nil) | exact ResV.one (tb := tb) rfl (by repeat (first | apply List.Mem.head | apply List.Mem.tail)) rfl rfl rfl (ResV.one (tb := tb) rfl (by repeat (first | apply List.Mem.head | apply List.Mem.tail)) rfl rfl rfl ResV.nil) | exact ResV.tmp rfl (ResV.agg (tb := tb) rfl (by repeat (first | apply List.Mem.head | apply List.Mem.tail)) rfl rfl rfl ResV.nil) | exact ResV.tmp rfl (ResV.one (tb := tb) rfl (by repeat (first | apply List.Mem.head | apply List.Mem.tail)) rfl rfl rfl ResV.nil)) ?_
    intro w hw
    exact ⟨_, _, _, _, rfl, hw.drop.drop, .inr ⟨h0, rfl, by rw [hq]; exact s1, by rw [hr]; exact s2, rfl, hq0, by omega, hb0, hb1, by rw [hr]; exact hr0, by rw [hr]; exact hr1⟩⟩
/-- what MulDiv answers -/
def MD (a b d q l r : Int) : Prop :=
  (d ≠ 0 ∧ a * b / d < 18446744073709551616 ∧ q = a * b / d ∧ l = a * b % d ∧ r = 0 ∧ 0 ≤ q ∧ 0 ≤ l ∧ l < d) ∨ ((d = 0 ∨ 18446744073709551616 ≤ a * b / d) ∧ q = 0 ∧ l = 0 ∧ r = 100)
theorem MulDiv_c {w0 : World} {H : List Asn} (a b d : Int) (ha : 0 ≤ a ∧ a < 18446744073709551616) (hb : 0 ≤ b ∧ b < 18446744073709551616) (hd : 0 ≤ d ∧ d < 18446744073709551616) (w : World) (hw : St w0 H w) :
    Calls Tryz.prog 105 #[.int .u64 a, .int .u64 b, .int .u64 d] w fun e w' => ∃ q l r, e = .returned (.tuple #[.int .u64 q, .int .u64 l, .int .i64 r]) ∧ St w0 H w' ∧ MD a b d q l r := by
  have hp := mul_bd ha.1 hb.1 (show a ≤ 18446744073709551615 by omega) (show b ≤ 18446744073709551615 by omega) (by omega)
  refine enter (vs := [.int .u64 a, .int .u64 b, .int .u64 d]) Tryz.func105 rfl rfl rfl hw ?_
  repeat (first | (refine sy ?_; try intro _))
  refine JO_call Tryz.call115 rfl rfl fun w hw => (Mul_c a b ha hb w hw).mono ?_
  rintro e w' ⟨rfl, hw'⟩
  refine ⟨_, rfl, _, hw', ?_⟩
  repeat (first | (refine sy ?_; try intro _))
  refine JO_callv rfl Tryz.call116 rfl rfl fun w hw => (Div_c (a * b / 18446744073709551616) (a * b % 18446744073709551616) d (by omega) (by omega) hd w hw).mono ?_
  rintro e w' ⟨x, y, m, r, rfl, hw', hc⟩
  refine ⟨_, rfl, _, hw', ?_⟩
  rw [show a * b / 18446744073709551616 * 18446744073709551616 + a * b % 18446744073709551616 = a * b from by omega] at hc
  rcases hc with ⟨h0, h1, h2, h3, h4⟩ | ⟨h0, h1, h2, h3, h4, h5, h6, h7, h8, h9, h10⟩
  · repeat (first | (refine sx ?_; try intro _))
    refine JS_ret Tryz.func105 rfl rfl ?_
    intro w hw
    exact ⟨_, _, _, rfl, hw.drop, .inr ⟨.inl h0, rfl, rfl, rfl⟩⟩
  · by_cases hx : x = 0
    · repeat (first | (refine sx ?_; try intro _))
      refine JS_ret Tryz.func105 rfl rfl ?_
      intro w hw
      exact ⟨_, _, _, rfl, hw.drop, .inl ⟨h0, by omega, by omega, h3, rfl, by omega, by omega, by omega⟩⟩
    · repeat (first | (refine sx ?_; try intro _))
      refine JS_ret Tryz.func105 rfl rfl ?_
      intro w hw
      exact ⟨_, _, _, rfl, hw.drop, .inr ⟨.inr (by omega), rfl, rfl, rfl⟩⟩
end Go.Proofs.YtmnilpjgkjkecaaGreat

namespace Go.Proofs.YtmnilpjgkjkecaaGreat
open Sx Go
set_option linter.unusedVariables false
set_option linter.unusedSimpArgs false
theorem Ceil_c {w0 : World} {H : List Asn} (a b d : Int) (ha : 0 ≤ a ∧ a < 18446744073709551616) (hb : 0 ≤ b ∧ b < 18446744073709551616) (hd : 0 ≤ d ∧ d < 18446744073709551616) (w : World) (hw : St w0 H w) :
    Calls Tryz.prog 98 #[.int .u64 a, .int .u64 b, .int .u64 d] w fun e w' => ∃ q r, e = .returned (.tuple #[.int .u64 q, .int .i64 r]) ∧ St w0 H w' ∧
      ((d ≠ 0 ∧ a * b / d < 18446744073709551616 ∧ a * b % d = 0 ∧ q = a * b / d ∧ r = 0) ∨ (d ≠ 0 ∧ a * b / d < 18446744073709551615 ∧ a * b % d ≠ 0 ∧ q = a * b / d + 1 ∧ r = 0) ∨
       ((d = 0 ∨ 18446744073709551616 ≤ a * b / d ∨ (a * b / d = 18446744073709551615 ∧ a * b % d ≠ 0)) ∧ q = 0 ∧ r = 100)) := by
  refine enter (vs := [.int .u64 a, .int .u64 b, .int .u64 d]) Tryz.func98 rfl rfl rfl hw ?_
  repeat (first | (refine sy ?_; try intro _))
  refine JO_call Tryz.call105 rfl rfl fun w hw => (MulDiv_c a b d ha hb hd w hw).mono ?_
  rintro e w' ⟨q, l, r, rfl, hw', hc⟩
  refine ⟨_, rfl, _, hw', ?_⟩
  rcases hc with ⟨h0, h1, h2, h3, h4, h5, h6, h7⟩ | ⟨h0, h1, h2, h3⟩
  · by_cases hl : l = 0
    · repeat (first | (refine sx ?_; try intro _))
      refine JS_ret Tryz.func98 rfl rfl ?_
      intro w hw
      exact ⟨_, _, rfl, hw, .inl ⟨h0, h1, by omega, h2, by omega⟩⟩
    · by_cases hq : q = 18446744073709551615
      · repeat (first | (refine sx ?_; try intro _))
        refine JS_ret Tryz.func98 rfl rfl ?_
        intro w hw
        exact ⟨_, _, rfl, hw, .inr (.inr ⟨.inr (.inr ⟨by omega, by omega⟩), rfl, rfl⟩)⟩
      · repeat (first | (refine sx ?_; try intro _))
        refine JS_ret Tryz.func98 rfl rfl ?_
        intro w hw
        exact ⟨_, _, rfl, hw, .inr (.inl ⟨h0, by omega, by omega, by omega, rfl⟩)⟩
  · repeat (first | (refine sx ?_; try intro _))
    refine JS_ret Tryz.func98 rfl rfl ?_
    intro w hw
    exact ⟨_, _, rfl, hw, .inr (.inr ⟨by omega, h1, h3⟩)⟩
end Go.Proofs.YtmnilpjgkjkecaaGreat

/- Numbers as lists of digits to the base 65536, the lowest first: plain facts. -/
namespace Go.Proofs.YtmnilpjgkjkecaaGreat
/-- the number that digits make -/
def val : List Int → Int
  | [] => 0
  | x :: r => x + 65536 * val r
/-- digits -/
def D16 (L : List Int) : Prop := ∀ j, 0 ≤ L.getD j 0 ∧ L.getD j 0 < 65536
theorem D16_nil : D16 [] := fun j => by simp
theorem D16_cons {x : Int} {r : List Int} (hx : 0 ≤ x ∧ x < 65536) (h : D16 r) : D16 (x :: r) := fun j => by
  cases j with
  | zero => simpa using hx
  | succ j => simpa using h j
theorem D16_tail {x : Int} {r : List Int} (h : D16 (x :: r)) : D16 r := fun j => by simpa using h (j + 1)
theorem D16_set {L : List Int} (h : D16 L) (j : Nat) {x : Int} (hx : 0 ≤ x ∧ x < 65536) : D16 (L.set j x) := fun i => by
  rw [List.getD_eq_getElem?_getD, List.getElem?_set]
  split
  · split
    · simpa using hx
    · simp
  · rw [← List.getD_eq_getElem?_getD]; exact h i
theorem D16_rep (n : Nat) : D16 (List.replicate n 0) := fun j => by
  rw [List.getD_eq_getElem?_getD, List.getElem?_replicate]
  split <;> simp
theorem D16_app {L : List Int} (h : D16 L) {x : Int} (hx : 0 ≤ x ∧ x < 65536) : D16 (L ++ [x]) := fun j => by
  rw [List.getD_eq_getElem?_getD]
  rcases Nat.lt_trichotomy j L.length with h1 | h1 | h1
  · rw [List.getElem?_append_left h1, ← List.getD_eq_getElem?_getD]; exact h j
  · subst h1; simpa using hx
  · rw [List.getElem?_eq_none (by simp; omega)]; simp
theorem val_app (L : List Int) (x : Int) : val (L ++ [x]) = val L + x * 65536 ^ L.length := by
  induction L with
  | nil => simp [val]
  | cons y r ih => simp only [List.cons_append, val, ih, List.length_cons, Int.pow_succ]; grind
theorem val_app' (L M : List Int) : val (L ++ M) = val L + 65536 ^ L.length * val M := by
  induction L with
  | nil => simp [val]
  | cons y r ih => simp only [List.cons_append, val, ih, List.length_cons, Int.pow_succ]; grind
theorem val_rep (n : Nat) : val (List.replicate n 0) = 0 := by
  induction n with
  | zero => rfl
  | succ n ih => simp [List.replicate_succ, val, ih]
theorem val_set : ∀ (L : List Int) (j : Nat) (x : Int), j < L.length → val (L.set j x) = val L + (x - L.getD j 0) * 65536 ^ j
  | [], j, x, h => by simp at h
  | y :: r, 0, x, h => by simp [val]; omega
  | y :: r, j + 1, x, h => by
    have ih := val_set r j x (by simpa using h)
    simp only [List.set_cons_succ, val, ih, List.getD_cons_succ, Int.pow_succ]; grind
theorem val_take (L : List Int) : ∀ k, k < L.length → val (L.take (k + 1)) = val (L.take k) + L.getD k 0 * 65536 ^ k := by
  intro k hk
  rw [List.take_succ_eq_append_getElem hk, val_app]
  rw [List.length_take, Nat.min_eq_left (Nat.le_of_lt hk)]
  congr 2
  simp [hk]
theorem val_nonneg : ∀ {L : List Int}, D16 L → 0 ≤ val L
  | [], _ => Int.le_refl _
  | x :: r, h => by
    have h0 := h 0
    have ih := val_nonneg (D16_tail h)
    simp only [List.getD_cons_zero] at h0
    simp only [val]; omega
theorem val_lt : ∀ {L : List Int}, D16 L → val L < 65536 ^ L.length
  | [], _ => by simp [val]
  | x :: r, h => by
    have h0 := h 0
    have ih := val_lt (D16_tail h)
    simp only [List.getD_cons_zero] at h0
    simp only [val, List.length_cons, Int.pow_succ]
    omega
theorem mul_step {vL vL' base x y Yk o c n : Int} {i k : Nat} (h1 : vL' = vL + (n % 65536 - o) * 65536 ^ (i + k)) (hn : n = o + x * y + c) (inv : vL + c * 65536 ^ (i + k) = base + x * Yk * 65536 ^ i) :
    vL' + n / 65536 * 65536 ^ (i + (k + 1)) = base + x * (Yk + y * 65536 ^ k) * 65536 ^ i := by
  have e : n = 65536 * (n / 65536) + n % 65536 := by omega
  generalize n / 65536 = q at *
  generalize n % 65536 = r at *
  rw [show i + (k + 1) = i + k + 1 from by omega, Int.pow_succ]
  rw [Int.pow_add] at *
  generalize (65536 : Int) ^ i = A at *
  generalize (65536 : Int) ^ k = B at *
  subst h1
  grind
theorem mul_row {vL vL' X Y x c : Int} {i : Nat} (h1 : vL' = vL + (0 + c - 0) * 65536 ^ (i + 4)) (inv : vL + c * 65536 ^ (i + 4) = X * Y + x * Y * 65536 ^ i) : vL' = (X + x * 65536 ^ i) * Y := by
  rw [h1]
  generalize (65536 : Int) ^ i = A at *
  generalize (65536 : Int) ^ (i + 4) = B at *
  grind
theorem eight {L : List Int} (h : L.length = 8) : ∃ a b c d e f g i, L = [a, b, c, d, e, f, g, i] := by
  match L, h with
  | [a, b, c, d, e, f, g, i], _ => exact ⟨a, b, c, d, e, f, g, i, rfl⟩
theorem four {L : List Int} (h : L.length = 4) : ∃ a b c d, L = [a, b, c, d] := by
  match L, h with
  | [a, b, c, d], _ => exact ⟨a, b, c, d, rfl⟩
/-- the four digits of a number of 64 bits -/
def dig4 (a : Int) : List Int := [a % 65536, a / 65536 % 65536, a / 4294967296 % 65536, a / 281474976710656]
theorem dig4_val (a : Int) : val (dig4 a) = a := by simp only [dig4, val]; omega
theorem dig4_D {a : Int} (h : 0 ≤ a ∧ a < 18446744073709551616) : D16 (dig4 a) :=
  D16_cons (by omega) (D16_cons (by omega) (D16_cons (by omega) (D16_cons (by omega) D16_nil)))
/-- four digits from a place on -/
def num4 (L : List Int) (f : Nat) : Int := L.getD f 0 + 65536 * (L.getD (f + 1) 0 + 65536 * (L.getD (f + 2) 0 + 65536 * L.getD (f + 3) 0))
theorem num4_bd {L : List Int} (h : D16 L) (f : Nat) : 0 ≤ num4 L f ∧ num4 L f < 18446744073709551616 := by
  have h0 := h f; have h1 := h (f + 1); have h2 := h (f + 2); have h3 := h (f + 3)
  unfold num4; omega
theorem num4_val {L : List Int} (hl : L.length = 8) : num4 L 0 + 18446744073709551616 * num4 L 4 = val L := by
  obtain ⟨a, b, c, d, e, f, g, i, rfl⟩ := eight hl
  simp only [num4, val, List.getD_cons_zero, List.getD_cons_succ]; omega
theorem num4_of {L : List Int} (hl : L.length = 8) (hd : D16 L) {v : Int} (hv : val L = v) : num4 L 0 = v % 18446744073709551616 ∧ num4 L 4 = v / 18446744073709551616 := by
  have h1 := num4_val hl
  have h2 := num4_bd hd 0
  omega
end Go.Proofs.YtmnilpjgkjkecaaGreat

namespace Go.Proofs.YtmnilpjgkjkecaaGreat
open Sx Go
set_option linter.unusedVariables false
set_option linter.unusedSimpArgs false
attribute [local irreducible] IntKind.wrap
theorem Digits_c {w0 : World} {H : List Asn} (a : Int) (ha : 0 ≤ a ∧ a < 18446744073709551616) (w : World) (hw : St w0 H w) :
    Calls Tryz.prog 81 #[.int .u64 a] w fun e w' => ∃ p c, e = .returned (.slice p 4 c) ∧ St w0 (vec 22 1 (.slice p 4 c) 4 (ints .u64 (dig4 a)) :: H) w' := by
  refine enter (vs := [.int .u64 a]) Tryz.func81 rfl rfl rfl hw ?_
  repeat (first | (refine sy ?_; try intro _))
  refine JS_ret Tryz.func81 rfl rfl ?_
  intro w hw
  exact ⟨_, _, rfl, hw⟩
set_option maxHeartbeats 4000000 in
/-- four digits, read off a slice -/
theorem Number_c {w0 : World} {H : List Asn} (p : Option Addr) (c : Nat) (L : List Int) (hr : Rd w0 H (.slice p 8 c) 8 (ints .u64 L)) (hl : L.length = 8) (hd : D16 L) (f : Nat) (hf : f ≤ 4) (w : World) (hw : St w0 H w) :
    Calls Tryz.prog 63 #[.slice p 8 c, .int .i64 f] w fun e w' => ∃ n, e = .returned (.int .u64 n) ∧ St w0 H w' ∧ n = num4 L f := by
  refine enter (vs := [.slice p 8 c, .int .i64 f]) Tryz.func63 rfl rfl rfl hw ?_
  repeat (first | refine JS_loop' ?_ | refine JS_inLoop ?_ | (first | (refine sx ?_; try intro _)))
  refine JS_ret Tryz.func63 rfl rfl ?_
  intro w hw
  refine ⟨_, rfl, hw, ?_⟩
  have h0 := hd f; have h1 := hd (f + 1); have h2 := hd (f + 2); have h3 := hd (f + 3)
  rw [show ((f : Int) + 3 - 1 - 1 - 1).toNat = f by omega, show ((f : Int) + 3 - 1 - 1).toNat = f + 1 by omega, show ((f : Int) + 3 - 1).toNat = f + 2 by omega]
  unfold num4; omega
end Go.Proofs.YtmnilpjgkjkecaaGreat

namespace Go.Proofs.YtmnilpjgkjkecaaGreat
open Sx Go
set_option linter.unusedVariables false
set_option linter.unusedSimpArgs false
set_option maxHeartbeats 4000000 in
/-- the reference's product: eight digits -/
theorem RMul_c {w0 : World} {H : List Asn} (a b : Int) (ha : 0 ≤ a ∧ a < 18446744073709551616) (hb : 0 ≤ b ∧ b < 18446744073709551616) (w : World) (hw : St w0 H w) :
    Calls Tryz.prog 44 #[.int .u64 a, .int .u64 b] w fun e w' => ∃ p c L, e = .returned (.slice p 8 c) ∧ St w0 (vec 22 1 (.slice p 8 c) 8 (ints .u64 L) :: H) w' ∧ L.length = 8 ∧ D16 L ∧ val L = a * b := by
  refine enter (vs := [.int .u64 a, .int .u64 b]) Tryz.func44 rfl rfl rfl hw ?_
  repeat (first | (refine sy ?_; try intro _))
  refine JO_call Tryz.call81 rfl rfl fun w hw => (Digits_c a ha w hw).mono ?_
  rintro e w' ⟨px, cx, rfl, hw'⟩
  refine ⟨_, rfl, _, hw', ?_⟩
  repeat (first | (refine sy ?_; try intro _))
  refine JO_call Tryz.call81 rfl rfl fun w hw => (Digits_c b hb w hw).mono ?_
  rintro e w' ⟨py, cy, rfl, hw'⟩
  refine ⟨_, rfl, _, hw', ?_⟩
  clear hw' hw w' w
  obtain ⟨X, hX⟩ : ∃ X, X = dig4 a := ⟨_, rfl⟩
  obtain ⟨Y, hY⟩ : ∃ Y, Y = dig4 b := ⟨_, rfl⟩
  have vX : val X = a := by rw [hX]; exact dig4_val a
  have vY : val Y = b := by rw [hY]; exact dig4_val b
  have dX : D16 X := by rw [hX]; exact dig4_D ha
  have dY : D16 Y := by rw [hY]; exact dig4_D hb
  have lX : X.length = 4 := by rw [hX]; rfl
  have lY : Y.length = 4 := by rw [hY]; rfl
  rw [← hX, ← hY]
  repeat (first | (refine gJR ?_; first | (refine sy ?_; try intro _)) | (refine gJO ?_; first | (refine sy ?_; try intro _)) | refine JS_seq ?_ | refine JS_region ?_)
  rename_i po
  rw [show (rep (Int.toNat 8) [Value.int IntKind.u64 0]) = ints .u64 (List.replicate 8 0) from ints_rep]
  refine JS_block ?_
  refine JS_loop2 (fun (i : Nat) (_ : List Int) => [(5, .slice px 4 cx), (6, .slice py 4 cy), (7, .slice (some po) 8 8), (8, .int .i64 i)]) (fun _ L => vec 22 1 (.slice (some po) 8 8) 8 (ints .u64 L) :: vec 22 1 (.slice py 4 cy) 4 (ints .u64 Y) :: vec 22 1 (.slice px 4 cx) 4 (ints .u64 X) :: H)
    (fun i L => i ≤ 4 ∧ L.length = 8 ∧ D16 L ∧ val L = val (X.take i) * b ∧ ∀ j, i + 4 ≤ j → L.getD j 0 = 0) (fun i _ => 4 - i) 0 (List.replicate 8 0) ⟨by omega, rfl, D16_rep 8, by simp [val], fun j _ => by rw [List.getD_eq_getElem?_getD, List.getElem?_replicate]; split <;> rfl⟩ (by repeat (first | exact trivial | refine ⟨rfl, ?_⟩ | refine ⟨lookI rfl (by omega), ?_⟩)) (fun _ h => h) ?_
  intro i L ⟨hi, hl, hd, hv, hz⟩ again
  by_cases h4 : i = 4
  · clear hz
    repeat (first | (refine sx ?_; try intro _))
    refine JS_ret Tryz.func44 rfl rfl ?_
    intro w hw
    refine ⟨_, _, L, rfl, St.sub (by repeat (first | exact List.Sublist.refl _ | apply List.Sublist.cons_cons | apply List.Sublist.cons)) hw, hl, hd, ?_⟩
    rw [hv, h4, List.take_of_length_le (by omega), vX]
  · repeat (first | (refine sx ?_; try intro _))
    refine JS_loop3 (fun (k : Nat) (c : Int) (_ : List Int) => [(5, .slice px 4 cx), (6, .slice py 4 cy), (7, .slice (some po) 8 8), (8, .int .i64 i), (9, .int .u64 c), (10, .int .i64 k)]) (fun _ _ L => vec 22 1 (.slice (some po) 8 8) 8 (ints .u64 L) :: vec 22 1 (.slice py 4 cy) 4 (ints .u64 Y) :: vec 22 1 (.slice px 4 cx) 4 (ints .u64 X) :: H)
      (fun k c L => k ≤ 4 ∧ (0 ≤ c ∧ c < 65536) ∧ L.length = 8 ∧ D16 L ∧ val L + c * 65536 ^ (i + k) = val (X.take i) * b + X.getD i 0 * val (Y.take k) * 65536 ^ i ∧ ∀ j, i + 4 ≤ j → L.getD j 0 = 0) (fun k _ _ => 4 - k) 0 0 L
      ⟨by omega, by omega, hl, hd, by rw [hv]; simp [val], hz⟩ (by repeat (first | exact trivial | refine ⟨rfl, ?_⟩ | refine ⟨lookI rfl (by omega), ?_⟩)) (fun _ h => h) ?_
    clear hv hd hz hl L
    intro k c L ⟨hk, hc, hl, hd, hv, hz⟩ again2
    by_cases hk4 : k = 4
    · have hz4 := hz (i + 4) (by omega)
      have hz2 : ∀ j, i + 1 + 4 ≤ j → (L.set (i + 4) (L.getD (i + 4) 0 + c)).getD j 0 = 0 := fun j hj => by
        rw [List.getD_eq_getElem?_getD, List.getElem?_set_ne (by omega), ← List.getD_eq_getElem?_getD]; exact hz j (by omega)
      clear hz again2
      repeat (first | (refine sx ?_; try intro _))
      have hs : L.getD (i + 4) 0 + c = 0 + c := by rw [hz4]
      exact JS_again2 again (i + 1) (L.set (i + 4) (L.getD (i + 4) 0 + c)) ⟨by omega, by simpa using hl, D16_set hd _ (by rw [hz4]; omega), by
        rw [val_take X i (by omega)]
        refine mul_row (c := c) (by rw [val_set L _ _ (by omega), hz4]) ?_
        rw [hk4] at hv
        rw [hv, ← vY, List.take_of_length_le (l := Y) (i := 4) (by omega)], hz2⟩ (by omega) (by repeat (first | exact trivial | refine ⟨rfl, ?_⟩ | refine ⟨lookI rfl (by omega), ?_⟩)) (fun _ h => h)
    · have hx := dX i
      have hy := dY k
      have ho := hd (i + k)
      have hp := mul_bd hx.1 hy.1 (show X.getD i 0 ≤ 65535 by omega) (show Y.getD k 0 ≤ 65535 by omega) (by omega)
      have hz2 : ∀ j, i + 4 ≤ j → (L.set (i + k) ((L.getD (i + k) 0 + X.getD i 0 * Y.getD k 0 + c) % 65536)).getD j 0 = 0 := fun j hj => by
        rw [List.getD_eq_getElem?_getD, List.getElem?_set_ne (by omega), ← List.getD_eq_getElem?_getD]; exact hz j (by omega)
      clear again hz
      repeat (first | (refine sx ?_; try intro _))
      exact JS_again3 again2 (k + 1) ((L.getD (i + k) 0 + X.getD i 0 * Y.getD k 0 + c) / 65536) (L.set (i + k) ((L.getD (i + k) 0 + X.getD i 0 * Y.getD k 0 + c) % 65536)) ⟨by omega, by omega, by simpa using hl, D16_set hd _ (by omega), by
        rw [val_take Y k (by omega)]
        exact mul_step (val_set L _ _ (by omega)) rfl hv, hz2⟩ (by omega) (by repeat (first | exact trivial | refine ⟨rfl, ?_⟩ | refine ⟨lookI rfl (by omega), ?_⟩)) (fun _ h => h)
end Go.Proofs.YtmnilpjgkjkecaaGreat

/- Bit by bit division: plain facts. -/
namespace Go.Proofs.YtmnilpjgkjkecaaGreat
theorem getD_val : ∀ {L : List Int}, D16 L → ∀ j, L.getD j 0 = val L / 65536 ^ j % 65536
  | [], _, j => by simp [val]
  | x :: r, h, 0 => by
    have h0 := h 0
    simp only [List.getD_cons_zero] at h0
    simp only [List.getD_cons_zero, val, Int.pow_zero, Int.ediv_one]; omega
  | x :: r, h, j + 1 => by
    have h0 := h 0
    simp only [List.getD_cons_zero] at h0
    rw [List.getD_cons_succ, getD_val (D16_tail h) j, Int.pow_succ, Int.mul_comm, ← Int.ediv_ediv_of_nonneg (by decide)]
    congr 2
    simp only [val]; omega
theorem pow16 (i : Nat) : (2 : Int) ^ i = 65536 ^ (i / 16) * 2 ^ (i % 16) := by
  conv => lhs; rw [← Nat.div_add_mod i 16, Int.pow_add, Int.pow_mul]
  rfl
theorem sixteen {s : Nat} (h : s < 16) (P : Nat → Prop) (h0 : P 0) (h1 : P 1) (h2 : P 2) (h3 : P 3) (h4 : P 4) (h5 : P 5) (h6 : P 6) (h7 : P 7) (h8 : P 8) (h9 : P 9) (ha : P 10) (hb : P 11) (hc : P 12) (hd : P 13) (he : P 14) (hf : P 15) : P s := by
  match s, h with
  | 0, _ => exact h0 | 1, _ => exact h1 | 2, _ => exact h2 | 3, _ => exact h3 | 4, _ => exact h4 | 5, _ => exact h5 | 6, _ => exact h6 | 7, _ => exact h7
  | 8, _ => exact h8 | 9, _ => exact h9 | 10, _ => exact ha | 11, _ => exact hb | 12, _ => exact hc | 13, _ => exact hd | 14, _ => exact he | 15, _ => exact hf
  | s + 16, h => exact absurd h (by omega)
theorem val_bit {L : List Int} (h : D16 L) (i : Nat) : L.getD (i / 16) 0 / 2 ^ (i % 16) % 2 = val L / 2 ^ i % 2 := by
  rw [getD_val h, pow16 i, ← Int.ediv_ediv_of_nonneg (Int.pow_nonneg (by decide))]
  generalize val L / 65536 ^ (i / 16) = W
  exact sixteen (Nat.mod_lt i (by decide)) (fun s => W % 65536 / 2 ^ s % 2 = W / 2 ^ s % 2) (by omega) (by omega) (by omega) (by omega) (by omega) (by omega) (by omega) (by omega) (by omega) (by omega) (by omega) (by omega) (by omega) (by omega) (by omega) (by omega)
theorem pow_pos2 (i : Nat) : (0 : Int) < 2 ^ i := Int.pow_pos (by decide)
theorem val_low {L : List Int} (h : D16 L) (i : Nat) {m : Int} (hm : val L = m * 2 ^ (i + 1)) : L.getD (i / 16) 0 + 2 ^ (i % 16) < 65536 := by
  rw [getD_val h, hm, Int.pow_succ, pow16 i]
  rw [show m * (65536 ^ (i / 16) * 2 ^ (i % 16) * 2) = (m * 2 ^ (i % 16) * 2) * 65536 ^ (i / 16) by grind, Int.mul_ediv_cancel _ (Int.ne_of_gt (Int.pow_pos (by decide)))]
  exact sixteen (Nat.mod_lt i (by decide)) (fun s => m * 2 ^ s * 2 % 65536 + 2 ^ s < 65536) (by omega) (by omega) (by omega) (by omega) (by omega) (by omega) (by omega) (by omega) (by omega) (by omega) (by omega) (by omega) (by omega) (by omega) (by omega) (by omega)
theorem pow_lt16 (i : Nat) : (2 : Int) ^ (i % 16) ≤ 32768 := 
  sixteen (Nat.mod_lt i (by decide)) (fun s => (2 : Int) ^ s ≤ 32768) (by omega) (by omega) (by omega) (by omega) (by omega) (by omega) (by omega) (by omega) (by omega) (by omega) (by omega) (by omega) (by omega) (by omega) (by omega) (by omega)
theorem half_pow (V : Int) (i : Nat) : V / 2 ^ (i + 1) = V / 2 ^ i / 2 := by
  rw [Int.pow_succ, Int.ediv_ediv_of_nonneg (Int.le_of_lt (pow_pos2 i))]
theorem div_bit {W d : Int} (hd : 0 < d) : (d ≤ 2 * (W / 2 % d) + W % 2 → W / d = 2 * (W / 2 / d) + 1 ∧ W % d = 2 * (W / 2 % d) + W % 2 - d) ∧ (2 * (W / 2 % d) + W % 2 < d → W / d = 2 * (W / 2 / d) ∧ W % d = 2 * (W / 2 % d) + W % 2) := by
  have e := Int.mul_ediv_add_emod (W / 2) d
  have l1 := Int.emod_nonneg (W / 2) (Int.ne_of_gt hd)
  have l2 := Int.emod_lt_of_pos (W / 2) hd
  generalize W / 2 / d = q at *
  generalize W / 2 % d = l at *
  have e2 : d * q * 2 = (2 * q) * d := by grind
  have e3 : (2 * q + 1) * d = (2 * q) * d + d := by grind
  have e4 : (2 * q + 1 + 1) * d = (2 * q) * d + d + d := by grind
  generalize d * q = dq at *
  generalize hz : (2 * q) * d = z at *
  constructor
  · intro h
    have := div_done (N := W) (Y := d) (q := 2 * q + 1) (by omega) (by omega) hd
    omega
  · intro h
    have := div_done (N := W) (Y := d) (q := 2 * q) (by omega) (by omega) hd
    omega
theorem bit_no {V d m l x : Int} {i : Nat} (hd : 0 < d) (hl : l = V / 2 ^ (i + 1) % d) (hx : x = V / 2 ^ i % 2) (hv : m = V / 2 ^ (i + 1) / d * 2 ^ (i + 1)) (h : 2 * l + x < d) : m = V / 2 ^ i / d * 2 ^ i ∧ 2 * l + x = V / 2 ^ i % d := by
  rw [half_pow] at hl hv
  subst hl hx hv
  obtain ⟨h1, h2⟩ := (div_bit hd).2 h
  rw [h1, h2]
  exact ⟨by rw [Int.pow_succ]; grind, rfl⟩
theorem bit_yes {V d m l x p : Int} {i : Nat} (hd : 0 < d) (hl : l = V / 2 ^ (i + 1) % d) (hx : x = V / 2 ^ i % 2) (hv : m = V / 2 ^ (i + 1) / d * 2 ^ (i + 1)) (h : d ≤ 2 * l + x) (hp : p = 2 ^ i) : m + p = V / 2 ^ i / d * 2 ^ i ∧ 2 * l + x - d = V / 2 ^ i % d := by
  rw [half_pow] at hl hv
  subst hl hx hv hp
  obtain ⟨h1, h2⟩ := (div_bit hd).1 h
  rw [h1, h2]
  exact ⟨by rw [Int.pow_succ]; grind, rfl⟩
end Go.Proofs.YtmnilpjgkjkecaaGreat

namespace Go.Proofs.YtmnilpjgkjkecaaGreat
open Sx Go
set_option linter.unusedVariables false
set_option linter.unusedSimpArgs false
set_option maxHeartbeats 4000000 in
/-- the reference's quotient, bit by bit -/
theorem RDiv_c {w0 : World} {H : List Asn} (p : Option Addr) (c : Nat) (X : List Int) (hr : Rd w0 H (.slice p 8 c) 8 (ints .u64 X)) (lX : X.length = 8) (dX : D16 X) (d : Int) (hd : 0 < d ∧ d < 18446744073709551616) (w : World) (hw : St w0 H w) :
    Calls Tryz.prog 79 #[.slice p 8 c, .int .u64 d] w fun e w' => ∃ q cq L l, e = .returned (.tuple #[.slice q 8 cq, .int .u64 l]) ∧ St w0 (vec 22 1 (.slice q 8 cq) 8 (ints .u64 L) :: H) w' ∧ L.length = 8 ∧ D16 L ∧ val L = val X / d ∧ l = val X % d := by
  refine enter (vs := [.slice p 8 c, .int .u64 d]) Tryz.func79 rfl rfl rfl hw ?_
  repeat (first | (refine gJR ?_; first | (refine sy ?_; try intro _)) | (refine gJO ?_; first | (refine sy ?_; try intro _)) | refine JS_seq ?_ | refine JS_region ?_)
  rename_i po
  rw [show (rep (Int.toNat 8) [Value.int IntKind.u64 0]) = ints .u64 (List.replicate 8 0) from ints_rep]
  have hV0 := val_nonneg dX
  have hV1 := val_lt dX
  rw [lX] at hV1
  refine JS_block ?_
  refine JS_loop3 (fun (k : Nat) (l : Int) (_ : List Int) => [(0, .slice p 8 c), (1, .int .u64 d), (6, .slice (some po) 8 8), (7, .int .u64 l), (8, .int .i64 (k - 1))]) (fun _ _ L => vec 22 1 (.slice (some po) 8 8) 8 (ints .u64 L) :: H)
    (fun k l L => k ≤ 128 ∧ L.length = 8 ∧ D16 L ∧ (0 ≤ l ∧ l < d) ∧ l = val X / 2 ^ k % d ∧ val L = val X / 2 ^ k / d * 2 ^ k) (fun k _ _ => k) 128 0 (List.replicate 8 0)
    ⟨by omega, rfl, D16_rep 8, by omega, by rw [Int.ediv_eq_zero_of_lt hV0 (by omega)]; rfl, by rw [Int.ediv_eq_zero_of_lt hV0 (by omega), Int.zero_ediv, Int.zero_mul]; rfl⟩ (by repeat (first | exact trivial | refine ⟨rfl, ?_⟩ | refine ⟨lookI rfl (by omega), ?_⟩)) (fun _ h => h) ?_
  intro k l L ⟨hk, hl, hD, hlr, he, hv⟩ again
  cases k with
  | zero =>
    repeat (first | (refine sx ?_; try intro _))
    refine JS_ret Tryz.func79 rfl rfl ?_
    intro w hw
    refine ⟨_, _, L, _, rfl, St.sub (by repeat (first | exact List.Sublist.refl _ | apply List.Sublist.cons_cons | apply List.Sublist.cons)) hw, hl, hD, ?_, ?_⟩
    · rw [hv]; simp
    · rw [he]; simp
  | succ i =>
    rw [show ((i + 1 : Nat) : Int) - 1 = (i : Int) by omega]
    have hb := val_bit dX i
    have hlow := val_low hD i hv
    have hP := pow_lt16 i
    have hP0 := pow_pos2 (i % 16)
    have hy0 : 0 ≤ X.getD (i / 16) 0 / 2 ^ (i % 16) := Int.ediv_nonneg (dX _).1 (Int.le_of_lt hP0)
    have hset := val_set L (i / 16) (L.getD (i / 16) 0 + 2 ^ (i % 16)) (by omega)
    have hpw := pow16 i
    have hL0 := (hD (i / 16)).1
    have hr' : Rd w0 (vec 22 1 (.slice (some po) 8 8) 8 (ints .u64 L) :: H) (.slice p 8 c) 8 (ints .u64 X) := Rd_weak hr fun w hw => St.sub (by repeat (first | exact List.Sublist.refl _ | apply List.Sublist.cons_cons | apply List.Sublist.cons)) hw
    have hj : ((i : Int) / 16).toNat = i / 16 := by omega
    have hm : min ((i : Int) % 16).toNat IntKind.u64.bits = i % 16 := by show min _ 64 = _; omega
    obtain ⟨y, hy⟩ : ∃ y, X.getD (i / 16) 0 / 2 ^ (i % 16) = y := ⟨_, rfl⟩
    rw [hy] at hy0 hb
    have hq : (1 : Int) * 2 ^ (i % 16) = 2 ^ (i % 16) := Int.one_mul _
    generalize hp : (1 : Int) * 2 ^ (i % 16) = P at *
    rw [← hq] at hlow hP hP0 hset
    have hsv : val (L.set (i / 16) (L.getD (i / 16) 0 + P)) = val L + 2 ^ i := by rw [hset, hpw, hq]; grind
    have hy1 : y % 2 = 0 ∨ y % 2 = 1 := by omega
    clear hset hpw hq hV0 hV1
    by_cases hh : 9223372036854775808 ≤ l
    · obtain ⟨e1, e2⟩ := bit_yes hd.1 he hb hv (show d ≤ 2 * l + y % 2 by omega) rfl
      clear he hv hb
      repeat (first | (refine gJO ?_; first | refine JO_v (V_shr (m := i % 16) rfl rfl (by omega) hm hy rfl) ?_ | refine JO_v (V_shl (m := i % 16) (c := P) rfl rfl (by omega) hm (by rw [hp]; exact wu64 (by omega)) rfl) ?_) | (first | (refine sx ?_; try intro _)))
      exact JS_again3 again i (2 * l + y % 2 - d) (L.set (i / 16) (L.getD (i / 16) 0 + P)) ⟨by omega, by simpa using hl, D16_set hD _ (by omega), by omega, e2, by rw [hsv]; exact e1⟩ (by omega) (by repeat (first | exact trivial | refine ⟨rfl, ?_⟩ | refine ⟨lookI rfl (by omega), ?_⟩)) (fun _ h => h)
    · by_cases hge : d ≤ 2 * l + y % 2
      · obtain ⟨e1, e2⟩ := bit_yes hd.1 he hb hv hge rfl
        clear he hv hb
        repeat (first | (refine gJO ?_; first | refine JO_v (V_shr (m := i % 16) rfl rfl (by omega) hm hy rfl) ?_ | refine JO_v (V_shl (m := i % 16) (c := P) rfl rfl (by omega) hm (by rw [hp]; exact wu64 (by omega)) rfl) ?_) | (first | (refine sx ?_; try intro _)))
        exact JS_again3 again i (2 * l + y % 2 - d) (L.set (i / 16) (L.getD (i / 16) 0 + P)) ⟨by omega, by simpa using hl, D16_set hD _ (by omega), by omega, e2, by rw [hsv]; exact e1⟩ (by omega) (by repeat (first | exact trivial | refine ⟨rfl, ?_⟩ | refine ⟨lookI rfl (by omega), ?_⟩)) (fun _ h => h)
      · obtain ⟨e1, e2⟩ := bit_no hd.1 he hb hv (show 2 * l + y % 2 < d by omega)
        clear he hv hb
        repeat (first | (refine gJO ?_; first | refine JO_v (V_shr (m := i % 16) rfl rfl (by omega) hm hy rfl) ?_ | refine JO_v (V_shl (m := i % 16) (c := P) rfl rfl (by omega) hm (by rw [hp]; exact wu64 (by omega)) rfl) ?_) | (first | (refine sx ?_; try intro _)))
        exact JS_again3 again i (2 * l + y % 2) L ⟨by omega, hl, hD, by omega, e2, e1⟩ (by omega) (by repeat (first | exact trivial | refine ⟨rfl, ?_⟩ | refine ⟨lookI rfl (by omega), ?_⟩)) (fun _ h => h)
end Go.Proofs.YtmnilpjgkjkecaaGreat

namespace Go.Proofs.YtmnilpjgkjkecaaGreat
open Sx Go
set_option linter.unusedVariables false
set_option linter.unusedSimpArgs false
theorem RMulDiv_c {w0 : World} {H : List Asn} (a b d : Int) (ha : 0 ≤ a ∧ a < 18446744073709551616) (hb : 0 ≤ b ∧ b < 18446744073709551616) (hd : 0 ≤ d ∧ d < 18446744073709551616) (w : World) (hw : St w0 H w) :
    Calls Tryz.prog 38 #[.int .u64 a, .int .u64 b, .int .u64 d] w fun e w' => ∃ q l ok, e = .returned (.tuple #[.int .u64 q, .int .u64 l, .bool ok]) ∧ St w0 H w' ∧
      ((ok = true ∧ d ≠ 0 ∧ a * b / d < 18446744073709551616 ∧ q = a * b / d ∧ l = a * b % d) ∨ (ok = false ∧ (d = 0 ∨ 18446744073709551616 ≤ a * b / d) ∧ q = 0 ∧ l = 0)) := by
  refine enter (vs := [.int .u64 a, .int .u64 b, .int .u64 d]) Tryz.func38 rfl rfl rfl hw ?_
  by_cases h0 : d = 0
  · repeat (first | (refine sx ?_; try intro _))
    refine JS_ret Tryz.func38 rfl rfl ?_
    intro w hw
    exact ⟨_, _, _, rfl, hw, .inr ⟨rfl, .inl h0, rfl, rfl⟩⟩
  · repeat (first | (refine sx ?_; try intro _))
    refine JO_call Tryz.call44 rfl rfl fun w hw => (RMul_c a b ha hb w hw).mono ?_
    rintro e w' ⟨p, c, X, rfl, hw', lX, dX, vX⟩
    refine ⟨_, rfl, _, hw', ?_⟩
    clear hw' hw w w'
    repeat (first | (refine sx ?_; try intro _))
    refine JO_call Tryz.call79 rfl rfl fun w hw => (RDiv_c p c X (vec_rd (by repeat (first | apply List.Mem.head | apply List.Mem.tail))) lX dX d (by omega) w hw).mono ?_
    rintro e w' ⟨q, cq, L, l, rfl, hw', lL, dL, vL, hl⟩
    refine ⟨_, rfl, _, hw', ?_⟩
    clear hw' hw w w'
    repeat (first | (refine sx ?_; try intro _))
    refine JO_call Tryz.call63 rfl rfl fun w hw => (Number_c q cq L (vec_rd (by repeat (first | apply List.Mem.head | apply List.Mem.tail))) lL dL 4 (by omega) w hw).mono ?_
    rintro e w' ⟨n4, rfl, hw', e4⟩
    refine ⟨_, rfl, _, hw', ?_⟩
    clear hw' hw w w'
    obtain ⟨n0e, n4e⟩ := num4_of lL dL vL
    have hp := mul_bd ha.1 hb.1 (show a ≤ 18446744073709551615 by omega) (show b ≤ 18446744073709551615 by omega) (by omega)
    have hq0 : 0 ≤ a * b / d := Int.ediv_nonneg hp.1 hd.1
    rw [vX] at n0e n4e hl
    rw [n4e] at e4
    generalize a * b / d = Q at *
    by_cases hg : 18446744073709551616 ≤ Q
    · clear n0e n4e
      repeat (first | (refine sx ?_; try intro _))
      refine JS_ret Tryz.func38 rfl rfl ?_
      intro w hw
      exact ⟨_, _, _, rfl, St.sub (by repeat (first | exact List.Sublist.refl _ | apply List.Sublist.cons_cons | apply List.Sublist.cons)) hw, .inr ⟨rfl, .inr hg, rfl, rfl⟩⟩
    · repeat (first | (refine sx ?_; try intro _))
      refine JO_call Tryz.call63 rfl rfl fun w hw => (Number_c q cq L (vec_rd (by repeat (first | apply List.Mem.head | apply List.Mem.tail))) lL dL 0 (by omega) w hw).mono ?_
      rintro e w' ⟨n0, rfl, hw', e0⟩
      refine ⟨_, rfl, _, hw', ?_⟩
      clear hw' hw w w'
      repeat (first | (refine sx ?_; try intro _))
      refine JS_ret Tryz.func38 rfl rfl ?_
      intro w hw
      refine ⟨_, _, _, rfl, St.sub (by repeat (first | exact List.Sublist.refl _ | apply List.Sublist.cons_cons | apply List.Sublist.cons)) hw, .inl ⟨rfl, h0, by omega, ?_, hl⟩⟩
      rw [e0, n0e]; omega
end Go.Proofs.YtmnilpjgkjkecaaGreat

namespace Go.Proofs.YtmnilpjgkjkecaaGreat
open Sx Go
set_option linter.unusedVariables false
set_option linter.unusedSimpArgs false
theorem Check_c {w0 : World} {H : List Asn} (a b : Int) (ha : 0 ≤ a ∧ a < 18446744073709551616) (hb : 0 ≤ b ∧ b < 18446744073709551616) (w : World) (hw : St w0 H w) :
    Calls Tryz.prog 80 #[.int .u64 a, .int .u64 b] w fun e w' => ∃ r, e = .returned (.int .i64 r) ∧ St w0 H w' ∧ (((b = 0 ∨ b < a) ∧ r = 7) ∨ (0 < b ∧ a ≤ b ∧ r = 0)) := by
  refine enter (vs := [.int .u64 a, .int .u64 b]) Tryz.func80 rfl rfl rfl hw ?_
  by_cases h0 : b = 0
  · repeat (first | (refine sx ?_; try intro _))
    refine JS_ret Tryz.func80 rfl rfl ?_
    intro w hw
    exact ⟨_, rfl, hw, by omega⟩
  by_cases h1 : b < a
  · repeat (first | (refine sx ?_; try intro _))
    refine JS_ret Tryz.func80 rfl rfl ?_
    intro w hw
    exact ⟨_, rfl, hw, by omega⟩
  · repeat (first | (refine sx ?_; try intro _))
    refine JS_ret Tryz.func80 rfl rfl ?_
    intro w hw
    exact ⟨_, rfl, hw, by omega⟩
theorem RCheck_c {w0 : World} {H : List Asn} (a b : Int) (ha : 0 ≤ a ∧ a < 18446744073709551616) (hb : 0 ≤ b ∧ b < 18446744073709551616) (w : World) (hw : St w0 H w) :
    Calls Tryz.prog 37 #[.int .u64 a, .int .u64 b] w fun e w' => ∃ r, e = .returned (.int .i64 r) ∧ St w0 H w' ∧ (((b = 0 ∨ b < a) ∧ r = 7) ∨ (0 < b ∧ a ≤ b ∧ r = 0)) := by
  refine enter (vs := [.int .u64 a, .int .u64 b]) Tryz.func37 rfl rfl rfl hw ?_
  by_cases h0 : b = 0
  · repeat (first | (refine sx ?_; try intro _))
    refine JS_ret Tryz.func37 rfl rfl ?_
    intro w hw
    exact ⟨_, rfl, hw, by omega⟩
  by_cases h1 : b < a
  · repeat (first | (refine sx ?_; try intro _))
    refine JS_ret Tryz.func37 rfl rfl ?_
    intro w hw
    exact ⟨_, rfl, hw, by omega⟩
  · repeat (first | (refine sx ?_; try intro _))
    refine JS_ret Tryz.func37 rfl rfl ?_
    intro w hw
    exact ⟨_, rfl, hw, by omega⟩
/-- the rank, of a quotient and what is left -/
def RV (q l v : Int) : Prop := (l = 0 ∧ q = 0 ∧ v = 1) ∨ (l = 0 ∧ q ≠ 0 ∧ v = q) ∨ (l ≠ 0 ∧ v = q + 1)
theorem RV_fun {q l v v' : Int} (h : RV q l v) (h' : RV q l v') : v = v' := by unfold RV at *; omega
def RK (a b n v r : Int) : Prop := ((b = 0 ∨ b < a) ∧ v = 0 ∧ r = 7) ∨ (0 < b ∧ a ≤ b ∧ n = 0 ∧ v = 0 ∧ r = 8) ∨ (0 < b ∧ a ≤ b ∧ n ≠ 0 ∧ r = 0 ∧ RV (a * n / b) (a * n % b) v)
/-- a part of n is no more than n -/
theorem part_bd {a b n : Int} (ha : 0 ≤ a) (hb : 0 < b) (hab : a ≤ b) (hn : 0 ≤ n) : 0 ≤ a * n / b ∧ a * n / b ≤ n ∧ (a * n % b ≠ 0 → a * n / b < n) := by
  have h0 : 0 ≤ a * n := Int.mul_nonneg ha hn
  have h1 : a * n ≤ b * n := Int.mul_le_mul_of_nonneg_right hab hn
  have h2 : b * n / b = n := Int.mul_ediv_cancel_left n (Int.ne_of_gt hb)
  have h3 := Int.ediv_le_ediv hb h1
  refine ⟨Int.ediv_nonneg h0 (Int.le_of_lt hb), by omega, fun h => ?_⟩
  have h4 := Int.mul_ediv_add_emod (a * n) b
  have h5 := Int.emod_nonneg (a * n) (Int.ne_of_gt hb)
  rcases Int.lt_or_le (a * n / b) n with h6 | h6
  · exact h6
  · have := Int.mul_le_mul_of_nonneg_left h6 (Int.le_of_lt hb)
    omega
set_option maxHeartbeats 1000000 in
theorem Rank_c {w0 : World} {H : List Asn} (a b n : Int) (ha : 0 ≤ a ∧ a < 18446744073709551616) (hb : 0 ≤ b ∧ b < 18446744073709551616) (hn : 0 ≤ n ∧ n < 18446744073709551616) (w : World) (hw : St w0 H w) :
    Calls Tryz.prog 72 #[.int .u64 a, .int .u64 b, .int .u64 n] w fun e w' => ∃ v r, e = .returned (.tuple #[.int .u64 v, .int .i64 r]) ∧ St w0 H w' ∧ RK a b n v r := by
  refine enter (vs := [.int .u64 a, .int .u64 b, .int .u64 n]) Tryz.func72 rfl rfl rfl hw ?_
  repeat (first | (refine sx ?_; try intro _))
  refine JO_call Tryz.call80 rfl rfl fun w hw => (Check_c a b ha hb w hw).mono ?_
  rintro e w' ⟨r, rfl, hw', h1⟩
  refine ⟨_, rfl, _, hw', ?_⟩
  clear hw' hw w w'
  rcases h1 with ⟨h1, rfl⟩ | ⟨h0, h1, rfl⟩
  · repeat (first | (refine sx ?_; try intro _))
    refine JS_ret Tryz.func72 rfl rfl ?_
    intro w hw
    exact ⟨_, _, rfl, hw, .inl ⟨h1, rfl, rfl⟩⟩
  by_cases hn0 : n = 0
  · repeat (first | (refine sx ?_; try intro _))
    refine JS_ret Tryz.func72 rfl rfl ?_
    intro w hw
    exact ⟨_, _, rfl, hw, .inr (.inl ⟨h0, h1, hn0, rfl, rfl⟩)⟩
  repeat (first | (refine sx ?_; try intro _))
  refine JO_call Tryz.call98 rfl rfl fun w hw => (Ceil_c a n b ha hn hb w hw).mono ?_
  rintro e w' ⟨q, r, rfl, hw', h2⟩
  refine ⟨_, rfl, _, hw', ?_⟩
  clear hw' hw w w'
  obtain ⟨p1, p2, p3⟩ := part_bd ha.1 h0 h1 hn.1
  have hr : r = 0 ∧ ((a * n % b = 0 ∧ q = a * n / b) ∨ (a * n % b ≠ 0 ∧ q = a * n / b + 1)) := by omega
  obtain ⟨rfl, hq⟩ := hr
  clear h2
  have hq0 : 0 ≤ q := by omega
  by_cases hq1 : 1 ≤ q
  · repeat (first | (refine sx ?_; try intro _))
    rw [show max 1 q = q by omega]
    refine JS_ret Tryz.func72 rfl rfl ?_
    intro w hw
    exact ⟨_, _, rfl, hw, .inr (.inr ⟨h0, h1, hn0, rfl, by unfold RV; omega⟩)⟩
  · repeat (first | (refine sx ?_; try intro _))
    rw [show max 1 q = 1 by omega]
    refine JS_ret Tryz.func72 rfl rfl ?_
    intro w hw
    exact ⟨_, _, rfl, hw, .inr (.inr ⟨h0, h1, hn0, rfl, by unfold RV; omega⟩)⟩
set_option maxHeartbeats 1000000 in
theorem RRank_c {w0 : World} {H : List Asn} (a b n : Int) (ha : 0 ≤ a ∧ a < 18446744073709551616) (hb : 0 ≤ b ∧ b < 18446744073709551616) (hn : 0 ≤ n ∧ n < 18446744073709551616) (w : World) (hw : St w0 H w) :
    Calls Tryz.prog 11 #[.int .u64 a, .int .u64 b, .int .u64 n] w fun e w' => ∃ v r, e = .returned (.tuple #[.int .u64 v, .int .i64 r]) ∧ St w0 H w' ∧ RK a b n v r := by
  refine enter (vs := [.int .u64 a, .int .u64 b, .int .u64 n]) Tryz.func11 rfl rfl rfl hw ?_
  repeat (first | (refine sx ?_; try intro _))
  refine JO_call Tryz.call37 rfl rfl fun w hw => (RCheck_c a b ha hb w hw).mono ?_
  rintro e w' ⟨r, rfl, hw', h1⟩
  refine ⟨_, rfl, _, hw', ?_⟩
  clear hw' hw w w'
  rcases h1 with ⟨h1, rfl⟩ | ⟨h0, h1, rfl⟩
  · repeat (first | (refine sx ?_; try intro _))
    refine JS_ret Tryz.func11 rfl rfl ?_
    intro w hw
    exact ⟨_, _, rfl, hw, .inl ⟨h1, rfl, rfl⟩⟩
  by_cases hn0 : n = 0
  · repeat (first | (refine sx ?_; try intro _))
    refine JS_ret Tryz.func11 rfl rfl ?_
    intro w hw
    exact ⟨_, _, rfl, hw, .inr (.inl ⟨h0, h1, hn0, rfl, rfl⟩)⟩
  repeat (first | (refine sx ?_; try intro _))
  refine JO_call Tryz.call38 rfl rfl fun w hw => (RMulDiv_c a n b ha hn hb w hw).mono ?_
  rintro e w' ⟨q, l, o, rfl, hw', h2⟩
  refine ⟨_, rfl, _, hw', ?_⟩
  clear hw' hw w w'
  obtain ⟨p1, p2, p3⟩ := part_bd ha.1 h0 h1 hn.1
  have p4 := Int.emod_nonneg (a * n) (Int.ne_of_gt h0)
  have hr : q = a * n / b ∧ l = a * n % b := by
    rcases h2 with ⟨_, _, _, h3, h4⟩ | ⟨_, h3, _, _⟩
    · exact ⟨h3, h4⟩
    · omega
  obtain ⟨hq, hl⟩ := hr
  clear h2
  rw [← hq] at p1 p2 p3
  rw [← hl] at p3 p4
  by_cases hl0 : 0 < l
  · repeat (first | (refine sx ?_; try intro _))
    refine JS_ret Tryz.func11 rfl rfl ?_
    intro w hw
    exact ⟨_, _, rfl, hw, .inr (.inr ⟨h0, h1, hn0, rfl, by unfold RV; omega⟩)⟩
  by_cases hq0 : q = 0
  · repeat (first | (refine sx ?_; try intro _))
    refine JS_ret Tryz.func11 rfl rfl ?_
    intro w hw
    exact ⟨_, _, rfl, hw, .inr (.inr ⟨h0, h1, hn0, rfl, by unfold RV; omega⟩)⟩
  · repeat (first | (refine sx ?_; try intro _))
    refine JS_ret Tryz.func11 rfl rfl ?_
    intro w hw
    exact ⟨_, _, rfl, hw, .inr (.inr ⟨h0, h1, hn0, rfl, by unfold RV; omega⟩)⟩
end Go.Proofs.YtmnilpjgkjkecaaGreat

namespace Go.Proofs.YtmnilpjgkjkecaaGreat
open Sx Go
set_option linter.unusedVariables false
set_option linter.unusedSimpArgs false
/-- the least numbers of a part -/
def LE (a b x y : Int) : Prop := ((b = 0 ∨ b < a) ∧ x = 0 ∧ y = 0) ∨ (0 < b ∧ a ≤ b ∧ 0 < (Int.gcd a b : Int) ∧ x = a / Int.gcd a b ∧ y = b / Int.gcd a b)
theorem gcd_step {x y : Int} (hx : 0 ≤ x) (hy : 0 < y) : Int.gcd y (x % y) = Int.gcd x y := by
  have h1 : (x % y).natAbs = x.natAbs % y.natAbs := by
    obtain ⟨m, rfl⟩ := Int.eq_ofNat_of_zero_le hx
    obtain ⟨k, rfl⟩ := Int.eq_ofNat_of_zero_le (Int.le_of_lt hy)
    rfl
  unfold Int.gcd
  rw [h1, Nat.gcd_comm x.natAbs, Nat.gcd_rec y.natAbs x.natAbs, Nat.gcd_comm]
set_option maxHeartbeats 1000000 in
theorem Least_c {w0 : World} {H : List Asn} (a b : Int) (ha : 0 ≤ a ∧ a < 18446744073709551616) (hb : 0 ≤ b ∧ b < 18446744073709551616) (w : World) (hw : St w0 H w) :
    Calls Tryz.prog 42 #[.int .u64 a, .int .u64 b] w fun e w' => ∃ x y, e = .returned (.tuple #[.int .u64 x, .int .u64 y]) ∧ St w0 H w' ∧ LE a b x y := by
  refine enter (vs := [.int .u64 a, .int .u64 b]) Tryz.func42 rfl rfl rfl hw ?_
  repeat (first | (refine sx ?_; try intro _))
  refine JO_call Tryz.call80 rfl rfl fun w hw => (Check_c a b ha hb w hw).mono ?_
  rintro e w' ⟨r, rfl, hw', h1⟩
  refine ⟨_, rfl, _, hw', ?_⟩
  clear hw' hw w w'
  rcases h1 with ⟨h1, rfl⟩ | ⟨h0, h1, rfl⟩
  · repeat (first | (refine sx ?_; try intro _))
    refine JS_ret Tryz.func42 rfl rfl ?_
    intro w hw
    exact ⟨_, _, rfl, hw, .inl ⟨h1, rfl, rfl⟩⟩
  repeat (first | (apply gJR; first | (refine sy ?_; try intro _)) | (apply gJO; first | (refine sy ?_; try intro _)) | apply JS_seq | apply JS_region | refine JS_condF rfl ?_ | apply JS_skip)
  refine JS_block ?_
  refine JS_loop2 (fun (x y : Int) => [(0, .int .u64 a), (1, .int .u64 b), (6, .int .u64 x), (7, .int .u64 y)]) (fun _ _ => H) (fun x y => (0 ≤ x ∧ x < 18446744073709551616) ∧ (0 ≤ y ∧ y < 18446744073709551616) ∧ (0 < x ∨ 0 < y) ∧ Int.gcd x y = Int.gcd a b) (fun _ y => y.toNat) a b ⟨ha, hb, .inr h0, rfl⟩ (by repeat (first | exact trivial | refine ⟨rfl, ?_⟩ | refine ⟨lookI rfl (by omega), ?_⟩)) (fun _ h => h) ?_
  intro x y ⟨hx, hy, hxy, hg⟩ again
  by_cases hy0 : 0 < y
  · have hm0 := Int.emod_nonneg x (Int.ne_of_gt hy0)
    have hm1 := Int.emod_lt_of_pos x hy0
    have hst := gcd_step hx.1 hy0
    generalize hr : x % y = r at *
    repeat (first | (apply gQO; refine QO_v rfl (V_rem rfl rfl (by omega) (by rw [Int.tmod_eq_emod_of_nonneg (by omega)]; exact hr) rfl) ?_) | (first | (refine sx ?_; try intro _)))
    exact JS_again2 again y r ⟨hy, by omega, .inl hy0, by rw [hst, hg]⟩ (by omega) (by repeat (first | exact trivial | refine ⟨rfl, ?_⟩ | refine ⟨lookI rfl (by omega), ?_⟩)) (fun _ h => h)
  · obtain rfl : y = 0 := by omega
    have hx0 : 0 < x := by omega
    have hgx : (Int.gcd a b : Int) = x := by rw [← hg]; simp [Int.gcd]; omega
    clear again hg hxy
    repeat (first | (refine sx ?_; try intro _))
    refine JS_ret Tryz.func42 rfl rfl ?_
    intro w hw
    exact ⟨_, _, rfl, hw, .inr ⟨h0, h1, by omega, by rw [hgx], by rw [hgx]⟩⟩
end Go.Proofs.YtmnilpjgkjkecaaGreat

namespace Go.Proofs.YtmnilpjgkjkecaaGreat
open Sx Go
set_option linter.unusedVariables false
set_option linter.unusedSimpArgs false
def CT (n k : Int) (L : List Int) (r : Int) : Prop := ((k < 1 ∨ 1000 < k) ∧ L = [] ∧ r = 1) ∨ (1 ≤ k ∧ k ≤ 1000 ∧ n = 0 ∧ L = [] ∧ r = 8) ∨
  (1 ≤ k ∧ k ≤ 1000 ∧ n ≠ 0 ∧ r = 0 ∧ (L.length : Int) = k - 1 ∧ ∀ i : Nat, i < L.length → ∃ r', RK (i + 1) k n (L.getD i 0) r')
end Go.Proofs.YtmnilpjgkjkecaaGreat

namespace Go.Proofs.YtmnilpjgkjkecaaGreat
open Sx Go
set_option linter.unusedVariables false
set_option linter.unusedSimpArgs false
theorem RK_bd {a b n v : Int} (ha : 0 ≤ a) (hn : 0 ≤ n) (h : RK a b n v 0) : 0 < b ∧ a ≤ b ∧ n ≠ 0 ∧ 1 ≤ v ∧ v ≤ n := by
  rcases h with ⟨_, _, h⟩ | ⟨_, _, _, _, h⟩ | ⟨h1, h2, h3, _, h4⟩
  · omega
  · omega
  · obtain ⟨p1, p2, p3⟩ := part_bd ha h1 h2 hn
    unfold RV at h4
    refine ⟨h1, h2, h3, ?_, ?_⟩
    · omega
    · by_cases hl : a * n % b = 0
      · omega
      · have := p3 hl; omega
theorem RK_fun {a b n v v' r r' : Int} (h : RK a b n v r) (h' : RK a b n v' r') : v = v' ∧ r = r' := by
  rcases h with ⟨h1, h2, h3⟩ | ⟨h1, h2, h3, h4, h5⟩ | ⟨h1, h2, h3, h4, h5⟩ <;> rcases h' with ⟨g1, g2, g3⟩ | ⟨g1, g2, g3, g4, g5⟩ | ⟨g1, g2, g3, g4, g5⟩ <;> first | (exact ⟨RV_fun h5 g5, by omega⟩) | (exact ⟨by omega, by omega⟩) | (exfalso; omega)
theorem TPart_c {w0 : World} {H : List Asn} (b : Nat) (T : List (Int × Int)) (hs : IsTab w0 H b T) (hl : T.length ≤ 1000000) (x y : Int) (hx : 0 ≤ x ∧ x < 18446744073709551616) (hy : 0 ≤ y ∧ y < 18446744073709551616) (w : World) (hw : St w0 H w) :
    Calls Tryz.prog 34 #[.pointer (some ⟨b, 0, none⟩), .int .u64 x, .int .u64 y] w fun e w' => ∃ v f rr, e = .returned (.tuple #[.int .i64 v, .int .i64 f]) ∧ St w0 H w' ∧ RK x y (sw T) rr f ∧ (f ≠ 0 → v = 0) ∧ (f = 0 → KY T rr v) := by
  refine enter (vs := [.pointer (some ⟨b, 0, none⟩), .int .u64 x, .int .u64 y]) Tryz.func34 rfl rfl rfl hw ?_
  have hb := hs.sw T.length (Nat.le_refl _)
  rw [List.take_length] at hb
  repeat (first | (refine sx ?_; try intro _))
  refine JO_call Tryz.call73 rfl rfl fun w hw => (TTotal_c b T hs hl w hw).mono ?_
  rintro e w' ⟨rfl, hw'⟩
  refine ⟨_, rfl, _, hw', ?_⟩
  clear hw' hw w w'
  repeat (first | (refine sx ?_; try intro _))
  refine JO_call Tryz.call72 rfl rfl fun w hw => (Rank_c x y (sw T) hx hy (by omega) w hw).mono ?_
  rintro e w' ⟨rr, f, rfl, hw', hrk⟩
  refine ⟨_, rfl, _, hw', ?_⟩
  clear hw' hw w w'
  by_cases hf : f = 0
  · subst hf
    obtain ⟨_, _, h3, h4, h5⟩ := RK_bd hx.1 hb.1 hrk
    repeat (first | (refine sx ?_; try intro _))
    refine JO_call Tryz.call74 rfl rfl fun w hw => (TKey_c b T hs hl rr (by omega) w hw).mono ?_
    rintro e w' ⟨k, f, rfl, hw', h⟩
    obtain ⟨rfl, hky⟩ : f = 0 ∧ KY T rr k := by
      rcases h with ⟨h, _⟩ | ⟨_, h, _⟩ | ⟨h, _, _, i, g1, g2, g3, g4⟩
      · have : T = [] := List.eq_nil_of_length_eq_zero h
        subst this; simp [Go.Proofs.YtmnilpjgkjkecaaGreat.sw] at h3
      · omega
      · exact ⟨h, .inl ⟨i, g1, g2, g3, g4⟩⟩
    refine ⟨_, rfl, _, hw', ?_⟩
    clear h hw' hw w w'
    repeat (first | (refine sx ?_; try intro _))
    refine JS_ret Tryz.func34 rfl rfl ?_
    intro w hw
    exact ⟨_, _, rr, rfl, hw, hrk, fun h => absurd rfl h, fun _ => hky⟩
  · repeat (first | (refine sx ?_; try intro _))
    refine JS_ret Tryz.func34 rfl rfl ?_
    intro w hw
    exact ⟨_, _, rr, rfl, hw, hrk, fun _ => rfl, fun h => absurd h hf⟩
/-- the first place of the most -/
def MX (T : List (Int × Int)) (i at' : Nat) : Prop := at' < i ∧ (∀ j, j < i → (T.getD j (0, 0)).2 ≤ (T.getD at' (0, 0)).2) ∧ ∀ j, j < at' → (T.getD j (0, 0)).2 < (T.getD at' (0, 0)).2
theorem MX.one {T i a b} (h : MX T i a) (h' : MX T i b) : a = b := by
  obtain ⟨h1, h2, h3⟩ := h
  obtain ⟨g1, g2, g3⟩ := h'
  rcases Nat.lt_trichotomy a b with h | h | h
  · have := g3 a h; have := h2 b g1; omega
  · exact h
  · have := h3 b h; have := g2 a h1; omega
theorem MX_one (T : List (Int × Int)) : MX T 1 0 := ⟨by omega, fun j hj => by
    obtain rfl : j = 0 := by omega
    exact Int.le_refl _, fun j hj => absurd hj (by omega)⟩
theorem MX.no {T i a} (h : MX T i a) (hn : ¬ (T.getD a (0, 0)).2 < (T.getD i (0, 0)).2) : MX T (i + 1) a :=
  ⟨by have := h.1; omega, fun j hj => by
    rcases Nat.lt_or_ge j i with h1 | h1
    · exact h.2.1 j h1
    · obtain rfl : j = i := by omega
      omega, h.2.2⟩
theorem MX.yes {T i a} (h : MX T i a) (hn : (T.getD a (0, 0)).2 < (T.getD i (0, 0)).2) : MX T (i + 1) i :=
  ⟨by omega, fun j hj => by
    rcases Nat.lt_or_ge j i with h1 | h1
    · have := h.2.1 j h1; omega
    · obtain rfl : j = i := by omega
      exact Int.le_refl _, fun j hj => by have := h.2.1 j hj; omega⟩
end Go.Proofs.YtmnilpjgkjkecaaGreat

namespace Go.Proofs.YtmnilpjgkjkecaaGreat
open Sx Go Hd
set_option linter.unusedVariables false
set_option linter.unusedSimpArgs false
/-- keys that are cells' -/
def KSI (u g : Nat) (T : List (Int × Int)) : Prop := ∀ x ∈ T, ∃ k : Nat, x.1 = (k : Int) ∧ isI u g k
theorem KSI.nil {u g : Nat} : KSI u g [] := fun x hx => absurd hx (by simp)
theorem KSI.put {u g : Nat} {T : List (Int × Int)} (h : KSI u g T) {k : Nat} (hk : isI u g k) (n : Int) : KSI u g (putT k n T) := fun x hx => by
  rcases putT_mem hx with hx | hx
  · exact h x hx
  · exact ⟨k, hx, hk⟩
theorem isI_bd {u g k : Nat} (hug : u + g ≤ 62) (hg : 1 ≤ g ∧ g ≤ 18) (h : isI u g k) : k ≤ 8650752 := by
  have h1 := ival_idx hg.1 h
  have h2 := (idx_bd hug hg (ival_lt h)).1
  omega
/-- the end of the cell with an index -/
def hiI (u g k : Nat) : Nat := ival u g k + (siz u g (ival u g k) - 1)
theorem hiI_lt {u g k : Nat} (hug : u + g ≤ 62) (hg : 1 ≤ g) (h : isI u g k) : hiI u g k < 9223372036854775808 := by
  have h1 := hi_lt hg hug (ival_lt h)
  have h2 := (ival_idx hg h).2
  have h3 : 0 < siz u g (ival u g k) := p2pos _
  unfold hiI
  omega
theorem KY_mem {T : List (Int × Int)} {r v : Int} (h : KY T r v) (hr : r ≤ sw T) (hT : T ≠ []) : ∃ x ∈ T, x.1 = v := by
  rcases h with ⟨i, hi, _, _, rfl⟩ | ⟨h, _⟩
  · exact ⟨_, getD_mem hi, rfl⟩
  · have hp := List.length_pos_iff.2 hT
    have := h (T.length - 1) (by omega)
    rw [show T.length - 1 + 1 = T.length by omega, List.take_length] at this
    omega
section
variable {w0 : World} {H : List Asn} {lo hi dg : Int} {u g : Nat}
set_option maxRecDepth 10000 in
set_option maxHeartbeats 2000000 in
theorem HTable_c (bh mb bm : Nat) (gr : Bool) (bu : Nat) (tot : Int) (es : List MapEntry) (clock : Nat) (T : List (Int × Int)) (hh : blk bh (hc mb bm gr bu tot) ∈ H) (hm : mapL bm es clock ∈ H) (hE : HM es clock T) (hG : GT T) (hl : T.length ≤ 1000000) (w : World) (hw : St w0 H w) :
    Calls Tryz.prog 33 #[.pointer (some ⟨bh, 0, none⟩)] w fun e w' => ∃ b a1 a2 a3 a4, e = .returned (.pointer (some ⟨b, 0, none⟩)) ∧ IsTab w0 (a1 :: a2 :: a3 :: a4 :: H) b T ∧ St w0 (a1 :: a2 :: a3 :: a4 :: H) w' := by
  refine enter (vs := [.pointer (some ⟨bh, 0, none⟩)]) Tryz.func33 rfl rfl rfl hw ?_
  clear hw w
  repeat (first | (refine sx ?_; try intro _))
  refine JO_call Tryz.call71 rfl rfl fun w hw => (HPairs_c bh mb bm gr bu tot es clock T hh hm hE hG.srt hG.key hl w hw).mono ?_
  rintro e w' ⟨q, d, rfl, hw'⟩
  refine ⟨_, rfl, _, hw', ?_⟩
  clear hw' hw w w'
  repeat (first | (refine sx ?_; try intro _))
  refine JO_call Tryz.call70 rfl rfl fun w hw => (WNew_c q d T.length T (vec_rd (List.Mem.head _)) rfl hG.okt hl w hw).mono ?_
  rintro e w' ⟨x, r, rfl, ⟨hno, _⟩ | ⟨_, rfl, b, a1, a2, a3, rfl, hI, hw'⟩⟩
  · exact absurd hG.right hno
  refine ⟨_, rfl, _, hw', ?_⟩
  clear hw' hw w w'
  repeat (first | (refine sx ?_; try intro _))
  exact JS_ret Tryz.func33 rfl rfl fun w hw => ⟨b, a1, a2, a3, _, rfl, hI, hw⟩
set_option maxRecDepth 10000 in
set_option maxHeartbeats 2000000 in
theorem HAt_c (bh mb bm : Nat) (gr : Bool) (bu : Nat) (tot : Int) (es : List MapEntry) (clock : Nat) (T : List (Int × Int)) (hh : blk bh (hc mb bm gr bu tot) ∈ H) (hm : mapL bm es clock ∈ H) (hM : blk mb (mc lo hi dg u g) ∈ H) (hE : HM es clock T) (hG : GT T) (hK : KSI u g T) (hug : u + g ≤ 62) (hg : 1 ≤ g ∧ g ≤ 18) (hl : T.length ≤ 1000000) (x y : Int) (hx : 0 ≤ x ∧ x < 18446744073709551616) (hy : 0 ≤ y ∧ y < 18446744073709551616) (w : World) (hw : St w0 H w) :
    Calls Tryz.prog 10 #[.pointer (some ⟨bh, 0, none⟩), .int .u64 x, .int .u64 y] w fun e w' => ∃ v f rr, e = .returned (.tuple #[.int .i64 v, .int .i64 f]) ∧ St w0 H w' ∧ RK x y (sw T) rr f ∧ (f ≠ 0 → v = 0) ∧ (f = 0 → ∃ k : Nat, isI u g k ∧ KY T rr k ∧ v = (hiI u g k : Nat)) := by
  refine enter (vs := [.pointer (some ⟨bh, 0, none⟩), .int .u64 x, .int .u64 y]) Tryz.func10 rfl rfl rfl hw ?_
  clear hw w
  repeat (first | (refine sx ?_; try intro _))
  refine JO_call Tryz.call33 rfl rfl fun w hw => (HTable_c bh mb bm gr bu tot es clock T hh hm hE hG hl w hw).mono ?_
  rintro e w' ⟨b, a1, a2, a3, a4, rfl, hI, hw'⟩
  refine ⟨_, rfl, _, hw', ?_⟩
  clear hw' hw w w'
  repeat (first | (refine sx ?_; try intro _))
  refine JO_call Tryz.call34 rfl rfl fun w hw => (TPart_c b T hI hl x y hx hy w hw).mono ?_
  rintro e w' ⟨v, f, rr, rfl, hw', hRK, hf1, hf0⟩
  refine ⟨_, rfl, _, hw', ?_⟩
  clear hw' hw w w'
  by_cases hf : f = 0
  · subst hf
    have hb := RK_bd hx.1 (sw_nn hG.pos) hRK
    have hky := hf0 rfl
    have hne : T ≠ [] := fun h => by rw [h] at hb; simp [sw] at hb
    obtain ⟨p, hp, rfl⟩ := KY_mem hky hb.2.2.2.2 hne
    obtain ⟨k, hk1, hk⟩ := hK p hp
    rw [hk1] at hky ⊢
    have hkb := isI_bd hug hg hk
    repeat (first | (apply gJO; refine JO_v (oL (V_load (tb := tb) rfl (List.Mem.tail _ (List.Mem.tail _ (List.Mem.tail _ (List.Mem.tail _ hh)))) rfl rfl rfl rfl)) ?_) | first | (refine sx ?_; try intro _))
    refine JO_call Tryz.call35 rfl rfl fun w hw => (MValue_c mb (List.Mem.tail _ (List.Mem.tail _ (List.Mem.tail _ (List.Mem.tail _ hM)))) hug hg k (by omega) w hw).mono ?_
    rw [if_pos hk]
    rintro e w' ⟨rfl, hw'⟩
    refine ⟨_, rfl, _, hw', ?_⟩
    clear hw' hw w w'
    have hlt := ival_lt hk
    repeat (first | (apply gJO; refine JO_v (oL (V_load (tb := tb) rfl (List.Mem.tail _ (List.Mem.tail _ (List.Mem.tail _ (List.Mem.tail _ hh)))) rfl rfl rfl rfl)) ?_) | first | (refine sx ?_; try intro _))
    refine JO_call Tryz.call36 rfl rfl fun w hw => (MHigh_c mb (List.Mem.tail _ (List.Mem.tail _ (List.Mem.tail _ (List.Mem.tail _ hM)))) hug hg.1 (ival u g k) hlt w hw).mono ?_
    rintro e w' ⟨rfl, hw'⟩
    refine ⟨_, rfl, _, hw', ?_⟩
    clear hw' hw w w'
    rw [(ival_idx hg.1 hk).2]
    repeat (first | (refine sx ?_; try intro _))
    exact JS_ret Tryz.func10 rfl rfl fun w hw => ⟨_, _, rr, rfl, St.sub (by repeat (first | exact List.Sublist.refl _ | apply List.Sublist.cons_cons | apply List.Sublist.cons)) hw, hRK, fun h => absurd rfl h, fun _ => ⟨k, hk, hky, rfl⟩⟩
  · obtain rfl := hf1 hf
    clear hf1 hf0
    repeat (first | (refine sx ?_; try intro _))
    exact JS_ret Tryz.func10 rfl rfl fun w hw => ⟨_, _, rr, rfl, St.sub (by repeat (first | exact List.Sublist.refl _ | apply List.Sublist.cons_cons | apply List.Sublist.cons)) hw, hRK, fun _ => rfl, fun h => absurd h hf⟩
end
end Go.Proofs.YtmnilpjgkjkecaaGreat

namespace Go.Proofs.YtmnilpjgkjkecaaGreat
open Sx Go
set_option linter.unusedVariables false
set_option linter.unusedSimpArgs false
theorem cmp_step {V W x y A : Int} (hA : 0 < A) (hx : x = V / A % 65536) (hy : y = W / A % 65536) (h : V / (A * 65536) = W / (A * 65536)) : (x < y → V < W) ∧ (x = y → V / A = W / A) := by
  rw [← Int.ediv_ediv_of_nonneg (Int.le_of_lt hA), ← Int.ediv_ediv_of_nonneg (Int.le_of_lt hA)] at h
  refine ⟨fun hlt => ?_, fun he => by omega⟩
  rcases Int.lt_or_le V W with h1 | h1
  · exact h1
  · have := Int.ediv_le_ediv hA h1
    omega
set_option maxHeartbeats 4000000 in
/-- which one is more -/
theorem RCmp_c {w0 : World} {H : List Asn} (p : Option Addr) (c : Nat) (X : List Int) (hX : Rd w0 H (.slice p 8 c) 8 (ints .u64 X)) (lX : X.length = 8) (dX : D16 X)
    (q : Option Addr) (cq : Nat) (Y : List Int) (hY : Rd w0 H (.slice q 8 cq) 8 (ints .u64 Y)) (lY : Y.length = 8) (dY : D16 Y) (w : World) (hw : St w0 H w) :
    Calls Tryz.prog 43 #[.slice p 8 c, .slice q 8 cq] w fun e w' => ∃ o, e = .returned (.int .i64 o) ∧ St w0 H w' ∧ ((o = -1 ∧ val X < val Y) ∨ (o = 0 ∧ val X = val Y) ∨ (o = 1 ∧ val Y < val X)) := by
  refine enter (vs := [.slice p 8 c, .slice q 8 cq]) Tryz.func43 rfl rfl rfl hw ?_
  repeat (first | (refine gJR ?_; first | (refine sy ?_; try intro _)) | (refine gJO ?_; first | (refine sy ?_; try intro _)) | refine JS_seq ?_ | refine JS_region ?_)
  have hV1 := val_lt dX
  have hW1 := val_lt dY
  have hV0 := val_nonneg dX
  have hW0 := val_nonneg dY
  rw [lX] at hV1
  rw [lY] at hW1
  refine JS_block ?_
  refine JS_loop1 (fun (k : Nat) => [(0, .slice p 8 c), (1, .slice q 8 cq), (5, .int .i64 (k - 1))]) (fun _ => H) (fun k => k ≤ 8 ∧ val X / 65536 ^ k = val Y / 65536 ^ k) (fun k => k) 8
    ⟨by omega, by rw [Int.ediv_eq_zero_of_lt hV0 hV1, Int.ediv_eq_zero_of_lt hW0 hW1]⟩ (by repeat (first | exact trivial | refine ⟨rfl, ?_⟩ | refine ⟨lookI rfl (by omega), ?_⟩)) (fun _ h => h) ?_
  intro k ⟨hk, he⟩ again
  clear hV1 hW1 hV0 hW0
  cases k with
  | zero =>
    have he' : val X = val Y := by simpa using he
    clear he
    repeat (first | (refine sx ?_; try intro _))
    refine JS_ret Tryz.func43 rfl rfl ?_
    intro w hw
    exact ⟨_, rfl, hw, .inr (.inl ⟨rfl, he'⟩)⟩
  | succ i =>
    rw [show ((i + 1 : Nat) : Int) - 1 = (i : Int) by omega]
    have hA : (0 : Int) < 65536 ^ i := Int.pow_pos (by decide)
    rw [Int.pow_succ] at he
    have h1 := cmp_step hA (getD_val dX i) (getD_val dY i) he
    have h2 := cmp_step hA (getD_val dY i) (getD_val dX i) he.symm
    have hx := dX i
    have hy := dY i
    clear he hA
    rcases Int.lt_trichotomy (X.getD i 0) (Y.getD i 0) with h | h | h
    · have h3 := h1.1 h
      clear h1 h2 again
      repeat (first | (refine sx ?_; try intro _))
      refine JS_ret Tryz.func43 rfl rfl ?_
      intro w hw
      exact ⟨_, rfl, hw, .inl ⟨rfl, h3⟩⟩
    · have h3 := h1.2 h
      clear h1 h2
      repeat (first | (refine sx ?_; try intro _))
      exact JS_again1 again i ⟨by omega, h3⟩ (by omega) (by repeat (first | exact trivial | refine ⟨rfl, ?_⟩ | refine ⟨lookI rfl (by omega), ?_⟩)) (fun _ h => h)
    · have h3 := h2.1 h
      clear h1 h2 again
      repeat (first | (refine sx ?_; try intro _))
      refine JS_ret Tryz.func43 rfl rfl ?_
      intro w hw
      exact ⟨_, rfl, hw, .inr (.inr ⟨rfl, h3⟩)⟩
end Go.Proofs.YtmnilpjgkjkecaaGreat

namespace Go.Proofs.YtmnilpjgkjkecaaGreat
open Sx Go
set_option linter.unusedVariables false
set_option linter.unusedSimpArgs false
def CM (a b c d o : Int) : Prop := ((b = 0 ∨ d = 0) ∧ o = 0) ∨ (b ≠ 0 ∧ d ≠ 0 ∧ ((o = -1 ∧ a * d < c * b) ∨ (o = 0 ∧ a * d = c * b) ∨ (o = 1 ∧ c * b < a * d)))
set_option maxHeartbeats 1000000 in
theorem RCmp11_c {w0 : World} {H : List Asn} (a b c d : Int) (ha : 0 ≤ a ∧ a < 18446744073709551616) (hb : 0 ≤ b ∧ b < 18446744073709551616) (hc : 0 ≤ c ∧ c < 18446744073709551616) (hd : 0 ≤ d ∧ d < 18446744073709551616) (w : World) (hw : St w0 H w) :
    Calls Tryz.prog 15 #[.int .u64 a, .int .u64 b, .int .u64 c, .int .u64 d] w fun e w' => ∃ o, e = .returned (.int .i64 o) ∧ St w0 H w' ∧ CM a b c d o := by
  refine enter (vs := [.int .u64 a, .int .u64 b, .int .u64 c, .int .u64 d]) Tryz.func15 rfl rfl rfl hw ?_
  by_cases h0 : b = 0
  · repeat (first | (refine sx ?_; try intro _))
    refine JS_ret Tryz.func15 rfl rfl ?_
    intro w hw
    exact ⟨_, rfl, hw, .inl ⟨.inl h0, rfl⟩⟩
  by_cases h1 : d = 0
  · repeat (first | (refine sx ?_; try intro _))
    refine JS_ret Tryz.func15 rfl rfl ?_
    intro w hw
    exact ⟨_, rfl, hw, .inl ⟨.inr h1, rfl⟩⟩
  repeat (first | (refine sx ?_; try intro _))
  refine JO_call Tryz.call44 rfl rfl fun w hw => (RMul_c a d ha hd w hw).mono ?_
  rintro e w' ⟨p, cp, X, rfl, hw', lX, dX, vX⟩
  refine ⟨_, rfl, _, hw', ?_⟩
  clear hw' hw w w'
  repeat (first | (refine sx ?_; try intro _))
  refine JO_call Tryz.call44 rfl rfl fun w hw => (RMul_c c b hc hb w hw).mono ?_
  rintro e w' ⟨q, cq, Y, rfl, hw', lY, dY, vY⟩
  refine ⟨_, rfl, _, hw', ?_⟩
  clear hw' hw w w'
  repeat (first | (refine sx ?_; try intro _))
  refine JO_call Tryz.call43 rfl rfl fun w hw => (RCmp_c p cp X (vec_rd (by repeat (first | apply List.Mem.head | apply List.Mem.tail))) lX dX q cq Y (vec_rd (by repeat (first | apply List.Mem.head | apply List.Mem.tail))) lY dY w hw).mono ?_
  rintro e w' ⟨o, rfl, hw', h2⟩
  refine ⟨_, rfl, _, hw', ?_⟩
  clear hw' hw w w'
  rw [vX, vY] at h2
  repeat (first | (refine sx ?_; try intro _))
  refine JS_ret Tryz.func15 rfl rfl ?_
  intro w hw
  exact ⟨_, rfl, St.sub (by repeat (first | exact List.Sublist.refl _ | apply List.Sublist.cons_cons | apply List.Sublist.cons)) hw, .inr ⟨h0, h1, h2⟩⟩
end Go.Proofs.YtmnilpjgkjkecaaGreat

namespace Go.Proofs.YtmnilpjgkjkecaaGreat
open Sx Go Hd
set_option linter.unusedVariables false
set_option linter.unusedSimpArgs false
/-- how many lie in the cells from one key to another -/
def btw (a b : Int) : List (Int × Int) → Int
  | [] => 0
  | x :: r => (if a ≤ x.1 ∧ x.1 ≤ b then x.2 else 0) + btw a b r
theorem btw_bl {a b : Int} (h : a ≤ b) : ∀ T : List (Int × Int), btw a b T = bl b true T - bl a false T
  | [] => by simp [btw, bl]
  | x :: r => by
    rw [btw, bl, bl, btw_bl h r]
    by_cases h1 : a ≤ x.1
    · by_cases h2 : x.1 ≤ b
      · rw [if_pos ⟨h1, h2⟩, if_pos (le_or h2), if_neg (by simp; omega)]; omega
      · rw [if_neg (by omega), if_neg (by simp; omega), if_neg (by simp; omega)]; omega
    · rw [if_neg (by omega), if_pos (le_or (by omega)), if_pos (.inl (by omega))]; omega
theorem btw_app (a b : Int) : ∀ A B, btw a b (A ++ B) = btw a b A + btw a b B
  | [], B => by simp [btw]
  | x :: A, B => by rw [List.cons_append, btw, btw, btw_app a b A B]; omega
theorem btw_take (a b : Int) (T : List (Int × Int)) (i : Nat) (h : i < T.length) : btw a b (T.take (i + 1)) = btw a b (T.take i) + if a ≤ (T.getD i (0, 0)).1 ∧ (T.getD i (0, 0)).1 ≤ b then (T.getD i (0, 0)).2 else 0 := by
  rw [take_step T i h, btw_app]; simp [btw]
theorem btw_bd (a b : Int) : ∀ {T : List (Int × Int)}, (∀ x ∈ T, 0 < x.2) → 0 ≤ btw a b T ∧ btw a b T ≤ sw T
  | [], _ => by simp [btw, sw]
  | x :: r, h => by
    have h1 := btw_bd a b fun y hy => h y (List.mem_cons_of_mem _ hy)
    have h2 := h x List.mem_cons_self
    rw [btw, sw]
    split <;> omega
/-- what is counted between two values -/
def BT (u g : Nat) (T : List (Int × Int)) (v w : Int) : Int := if w < v then 0 else btw (idx u g v.toNat : Nat) (idx u g w.toNat : Nat) T
theorem BT_bd (u g : Nat) {T : List (Int × Int)} (h : ∀ x ∈ T, 0 < x.2) (v w : Int) : 0 ≤ BT u g T v w ∧ BT u g T v w ≤ sw T := by
  unfold BT
  split
  · exact ⟨Int.le_refl _, sw_nn h⟩
  · exact btw_bd _ _ h
/-- the document's share is the program's -/
theorem LE_cm {A B x y o : Int} (hB : 0 < B) (h : LE A B x y) (hA : 0 ≤ A ∧ A ≤ B) (hc : CM x y A B o) : 0 ≤ x ∧ x ≤ A ∧ 0 < y ∧ y ≤ B ∧ o = 0 := by
  rcases h with ⟨h, _⟩ | ⟨_, _, hg, rfl, rfl⟩
  · omega
  have d1 : ((Int.gcd A B : Nat) : Int) ∣ A := Int.gcd_dvd_left ..
  have d2 : ((Int.gcd A B : Nat) : Int) ∣ B := Int.gcd_dvd_right ..
  generalize ((Int.gcd A B : Nat) : Int) = z at *
  obtain ⟨a, rfl⟩ := d1
  obtain ⟨b, rfl⟩ := d2
  rw [Int.mul_ediv_cancel_left _ (by omega), Int.mul_ediv_cancel_left _ (by omega)] at *
  have hb : 0 < b := by
    rcases Int.lt_or_le 0 b with h | h
    · exact h
    · have := Int.mul_nonpos_of_nonneg_of_nonpos (Int.le_of_lt hg) h; omega
  have ha : 0 ≤ a := by
    rcases Int.lt_or_le a 0 with h | h
    · have := Int.mul_neg_of_pos_of_neg hg h; omega
    · exact h
  have e1 : a ≤ z * a := by
    have := Int.mul_le_mul_of_nonneg_right (show 1 ≤ z by omega) ha
    omega
  have e2 : b ≤ z * b := by
    have := Int.mul_le_mul_of_nonneg_right (show 1 ≤ z by omega) (Int.le_of_lt hb)
    omega
  refine ⟨ha, e1, hb, e2, ?_⟩
  have e3 : a * (z * b) = z * a * b := by rw [Int.mul_comm z a, Int.mul_assoc]
  unfold CM at hc
  rw [e3] at hc
  omega
section
variable {w0 : World} {H : List Asn} {lo hi dg : Int} {u g : Nat}
set_option maxRecDepth 10000 in
set_option maxHeartbeats 8000000 in
theorem RBetween_c (b : Nat) (gr : Bool) (bu : Nat) (q : Option Addr) (d m : Nat) (T : List (Int × Int)) (hh : blk b (rc lo hi dg u g gr bu (.slice q m d)) ∈ H) (hr : Rd w0 H (.slice q m d) m (flat T)) (hmT : T.length = m) (hG : GT T) (hug : u + g ≤ 62) (hg : 1 ≤ g ∧ g ≤ 18) (hl : m ≤ 1000000) (x y : Int) (hx : -9223372036854775808 ≤ x ∧ x < 9223372036854775808) (hy : -9223372036854775808 ≤ y ∧ y < 9223372036854775808) (w : World) (hw : St w0 H w) :
    Calls Tryz.prog 16 #[.pointer (some ⟨b, 0, none⟩), .int .i64 x, .int .i64 y] w fun e w' => e = .returned (.int .u64 (BT u g T x y)) ∧ St w0 H w' := by
  refine enter (vs := [.pointer (some ⟨b, 0, none⟩), .int .i64 x, .int .i64 y]) Tryz.func16 rfl rfl rfl hw ?_
  clear hw w
  by_cases h0 : y < x
  · have hB : BT u g T x y = 0 := if_pos h0
    rw [hB]
    repeat (first | (apply gJO; first | refine JO_v (oL (V_load (tb := tb) rfl hh rfl rfl rfl rfl)) ?_) | first | (refine sx ?_; try intro _))
    exact JS_ret Tryz.func16 rfl rfl fun w hw => ⟨rfl, hw⟩
  · have hB : BT u g T x y = btw (idx u g x.toNat : Nat) (idx u g y.toNat : Nat) T := if_neg h0
    rw [hB]
    clear hB
    have k1 : max x 0 = ((x.toNat : Nat) : Int) := by omega
    have k2 : max y 0 = ((y.toNat : Nat) : Int) := by omega
    have htot := hG.tot
    have hI1 := fun w hw => RIndex_c (w0 := w0) (H := H) hug hg x.toNat (by omega) w hw
    have hI2 := fun w hw => RIndex_c (w0 := w0) (H := H) hug hg y.toNat (by omega) w hw
    generalize x.toNat = X at *
    generalize y.toNat = Y at *
    generalize idx u g X = a at *
    generalize idx u g Y = c at *
    have hT := hG.okt
    have hsm : ∀ i, i ≤ m → 0 ≤ btw a c (T.take i) ∧ btw a c (T.take i) ≤ 4611686018427387904 := fun i hi => by
      have h1 := btw_bd (a : Int) (c : Int) (T := T.take i) fun x hx => hG.pos x (List.mem_of_mem_take hx)
      have h2 := swT_le hT (i := i) (fun j hj => hG.right j (by omega)) (by omega)
      omega
    repeat (first | (apply gJR; first | (refine sx ?_; try intro _)) | (apply gJO; first | (refine sx ?_; try intro _)) | (apply gJS; refine JS_condF rfl ?_) | (apply gJS; refine JS_cond_F rfl (by omega) ?_) | apply JS_skip | apply JS_seq | apply JS_region)
    refine JS_block ?_
    refine JS_loop1 (fun (i : Nat) => [(0, .pointer (some ⟨b, 0, none⟩)), (1, .int .i64 x), (2, .int .i64 y), (7, .int .u64 (btw a c (T.take i))), (8, .int .i64 i)]) (fun _ => H) (fun i => i ≤ m) (fun i => m - i) 0 (Nat.zero_le _) (by repeat (first | exact trivial | refine ⟨rfl, ?_⟩ | refine ⟨lookI rfl (by omega), ?_⟩)) (fun w hw => hw) ?_
    intro i hi again
    by_cases him : i < m
    · have hs0 := hsm i (by omega)
      have hs1 := hsm (i + 1) (by omega)
      have ht := hT.get i (by omega)
      have hb := btw_take a c T i (by omega)
      have gA := flat_get0 T i (by omega)
      have gB := flat_get1 T i (by omega)
      clear hsm
      generalize T.getD i (0, 0) = t at *
      obtain ⟨tk, tn⟩ := t
      simp only [] at *
      repeat (first | (apply gJO; first | refine JO_v (oL (V_load (tb := tb) rfl hh rfl rfl rfl rfl)) ?_) | (apply gQO; first | refine QO_v rfl (oL (V_load (tb := tb) rfl hh rfl rfl rfl rfl)) ?_) | (apply gQO; first | refine QO_v rfl (V_max rfl rfl k1 rfl) ?_ | refine QO_v rfl (V_loadC (tb := tb) rfl hr rfl rfl gA rfl) ?_) | first | (refine sx ?_; try intro _))
      refine QO_call Tryz.call18 rfl rfl fun w hw => (hI1 w hw).mono ?_
      rintro e w' ⟨rfl, hw'⟩
      (refine ⟨_, rfl, _, hw', .inl fun w hw => hw, ?_⟩; clear hw' hw w w')
      by_cases h1 : (a : Int) ≤ tk
      · repeat (first | (apply gJO; first | refine JO_v (oL (V_load (tb := tb) rfl hh rfl rfl rfl rfl)) ?_) | (apply gQO; first | refine QO_v rfl (oL (V_load (tb := tb) rfl hh rfl rfl rfl rfl)) ?_) | (apply gQO; first | refine QO_v rfl (V_max rfl rfl k2 rfl) ?_ | refine QO_v rfl (V_loadC (tb := tb) rfl hr rfl rfl gA rfl) ?_) | first | (refine sx ?_; try intro _))
        refine QO_call Tryz.call18 rfl rfl fun w hw => (hI2 w hw).mono ?_
        rintro e w' ⟨rfl, hw'⟩
        (refine ⟨_, rfl, _, hw', .inl fun w hw => hw, ?_⟩; clear hw' hw w w')
        by_cases h2 : tk ≤ (c : Int)
        · rw [if_pos ⟨h1, h2⟩] at hb
          rw [hb] at hs1
          repeat (first | (apply gJO; first | refine JO_v (oL (V_load (tb := tb) rfl hh rfl rfl rfl rfl)) ?_) | (apply gQO; first | refine QO_v rfl (oL (V_load (tb := tb) rfl hh rfl rfl rfl rfl)) ?_) | (apply gJO; first | refine JO_v (V_loadC (tb := tb) rfl hr rfl rfl gB rfl) ?_) | first | (refine sx ?_; try intro _))
          exact JS_again1 again (i + 1) (by omega) (by omega) (by exact ⟨rfl, rfl, rfl, lookI rfl (by omega), rfl, trivial⟩) (fun w hw => hw)
        · rw [if_neg (by omega), Int.add_zero] at hb
          repeat (first | (apply gJO; first | refine JO_v (oL (V_load (tb := tb) rfl hh rfl rfl rfl rfl)) ?_) | (apply gQO; first | refine QO_v rfl (oL (V_load (tb := tb) rfl hh rfl rfl rfl rfl)) ?_) | first | (refine sx ?_; try intro _))
          exact JS_again1 again (i + 1) (by omega) (by omega) (by exact ⟨rfl, rfl, rfl, lookI rfl (by omega), rfl, trivial⟩) (fun w hw => hw)
      · rw [if_neg (by omega), Int.add_zero] at hb
        repeat (first | (apply gJO; first | refine JO_v (oL (V_load (tb := tb) rfl hh rfl rfl rfl rfl)) ?_) | (apply gQO; first | refine QO_v rfl (oL (V_load (tb := tb) rfl hh rfl rfl rfl rfl)) ?_) | first | (refine sx ?_; try intro _))
        exact JS_again1 again (i + 1) (by omega) (by omega) (by exact ⟨rfl, rfl, rfl, lookI rfl (by omega), rfl, trivial⟩) (fun w hw => hw)
    · obtain rfl : i = m := by omega
      have e2 : T.take i = T := by rw [← hmT, List.take_length]
      rw [e2]
      clear again hsm e2
      repeat (first | (apply gJO; first | refine JO_v (oL (V_load (tb := tb) rfl hh rfl rfl rfl rfl)) ?_) | (apply gQO; first | refine QO_v rfl (oL (V_load (tb := tb) rfl hh rfl rfl rfl rfl)) ?_) | first | (refine sx ?_; try intro _))
      exact JS_ret Tryz.func16 rfl rfl fun w hw => ⟨rfl, hw⟩
end
end Go.Proofs.YtmnilpjgkjkecaaGreat

namespace Go.Proofs.YtmnilpjgkjkecaaGreat
open Sx Go Hd
set_option linter.unusedVariables false
set_option linter.unusedSimpArgs false
section
variable {w0 : World} {H : List Asn} {lo hi dg : Int} {u g : Nat}
set_option maxRecDepth 10000 in
set_option maxHeartbeats 4000000 in
theorem HBetween_c (bh mb bm : Nat) (gr : Bool) (bu : Nat) (tot : Int) (es : List MapEntry) (clock : Nat) (T : List (Int × Int)) (hh : blk bh (hc mb bm gr bu tot) ∈ H) (hm : mapL bm es clock ∈ H) (hM : blk mb (mc lo hi dg u g) ∈ H) (hE : HM es clock T) (hG : GT T) (hug : u + g ≤ 62) (hg : 1 ≤ g ∧ g ≤ 18) (hl : T.length ≤ 1000000) (x y : Int) (hx : -9223372036854775808 ≤ x ∧ x < 9223372036854775808) (hy : -9223372036854775808 ≤ y ∧ y < 9223372036854775808) (w : World) (hw : St w0 H w) :
    Calls Tryz.prog 19 #[.pointer (some ⟨bh, 0, none⟩), .int .i64 x, .int .i64 y] w fun e w' => e = .returned (.int .u64 (BT u g T x y)) ∧ St w0 H w' := by
  refine enter (vs := [.pointer (some ⟨bh, 0, none⟩), .int .i64 x, .int .i64 y]) Tryz.func19 rfl rfl rfl hw ?_
  clear hw w
  by_cases h0 : y < x
  · have hB : BT u g T x y = 0 := if_pos h0
    rw [hB]
    repeat (first | (apply gJO; first | refine JO_v (oL (V_load (tb := tb) rfl hh rfl rfl rfl rfl)) ?_) | first | (refine sx ?_; try intro _))
    exact JS_ret Tryz.func19 rfl rfl fun w hw => ⟨rfl, hw⟩
  · have hB : BT u g T x y = btw (idx u g x.toNat : Nat) (idx u g y.toNat : Nat) T := if_neg h0
    rw [hB]
    clear hB
    have k1 : max x 0 = ((x.toNat : Nat) : Int) := by omega
    have k2 : max y 0 = ((y.toNat : Nat) : Int) := by omega
    have hmono : idx u g x.toNat ≤ idx u g y.toNat := idx_mono hg.1 (by omega)
    have hbb := btw_bd (idx u g x.toNat : Nat) (idx u g y.toNat : Nat) hG.pos
    have htot := hG.tot
    generalize hX : x.toNat = X at *
    generalize hY : y.toNat = Y at *
    obtain ⟨i1, i2, _⟩ := idx_bd hug hg (v := X) (by omega)
    obtain ⟨j1, j2, _⟩ := idx_bd hug hg (v := Y) (by omega)
    rw [btw_bl (by omega)] at hbb ⊢
    repeat (first | (apply gJO; first | refine JO_v (oL (V_load (tb := tb) rfl hh rfl rfl rfl rfl)) ?_) | (apply gJO; first | refine JO_v (V_max rfl rfl k1 rfl) ?_) | first | (refine sx ?_; try intro _))
    refine JO_call Tryz.call46 rfl rfl fun w hw => (MIndex_c mb hM hug hg X (by omega) w hw).mono ?_
    rintro e w' ⟨rfl, hw'⟩
    (refine ⟨_, rfl, _, hw', ?_⟩; clear hw' hw w w')
    repeat (first | (apply gJO; first | refine JO_v (oL (V_load (tb := tb) rfl hh rfl rfl rfl rfl)) ?_) | (apply gJO; first | refine JO_v (V_max rfl rfl k2 rfl) ?_) | first | (refine sx ?_; try intro _))
    refine JO_call Tryz.call46 rfl rfl fun w hw => (MIndex_c mb hM hug hg Y (by omega) w hw).mono ?_
    rintro e w' ⟨rfl, hw'⟩
    (refine ⟨_, rfl, _, hw', ?_⟩; clear hw' hw w w')
    generalize ((idx u g X : Nat) : Int) = a at *
    generalize ((idx u g Y : Nat) : Int) = b at *
    repeat (first | (apply gJO; first | refine JO_v (oL (V_load (tb := tb) rfl hh rfl rfl rfl rfl)) ?_) | first | (refine sx ?_; try intro _))
    refine JO_call Tryz.call33 rfl rfl fun w hw => (HTable_c bh mb bm gr bu tot es clock T hh hm hE hG hl w hw).mono ?_
    rintro e w' ⟨tt, a1, a2, a3, a4, rfl, hI, hw'⟩
    (refine ⟨_, rfl, _, hw', ?_⟩; clear hw' hw w w')
    repeat (first | (apply gJO; first | refine JO_v (oL (V_load (tb := tb) rfl hh rfl rfl rfl rfl)) ?_) | first | (refine sx ?_; try intro _))
    refine JO_call Tryz.call47 rfl rfl fun w hw => (TUpto_c tt T hI hl b w hw).mono ?_
    rintro e w' ⟨j, rfl, hw', hj, hj1, hj2⟩
    rw [← bl_upto hG.right b j hj hj1 hj2] at *
    (refine ⟨_, rfl, _, hw', ?_⟩; clear hw' hw w w')
    repeat (first | (apply gJO; first | refine JO_v (oL (V_load (tb := tb) rfl hh rfl rfl rfl rfl)) ?_) | first | (refine sx ?_; try intro _))
    refine JO_call Tryz.call48 rfl rfl fun w hw => (TBelow_c tt T hI hl a w hw).mono ?_
    rintro e w' ⟨i, rfl, hw', hi3, hi1, hi2⟩
    rw [← bl_below hG.right a i hi3 hi1 hi2] at *
    (refine ⟨_, rfl, _, hw', ?_⟩; clear hw' hw w w')
    have c1 : IntKind.u64.wrap (bl b true T - bl a false T) = bl b true T - bl a false T := wu64 (by omega)
    repeat (first | (apply gJO; first | refine JO_v (oL (V_load (tb := tb) rfl hh rfl rfl rfl rfl)) ?_) | (apply gJO; first | refine JO_v (V_sub rfl rfl c1 rfl) ?_) | first | (refine sx ?_; try intro _))
    exact JS_ret Tryz.func19 rfl rfl fun w hw => ⟨rfl, St.sub (by repeat (first | exact List.Sublist.refl _ | apply List.Sublist.cons_cons | apply List.Sublist.cons)) hw⟩
set_option maxRecDepth 10000 in
set_option maxHeartbeats 4000000 in
theorem HShare_c (bh mb bm : Nat) (gr : Bool) (bu : Nat) (es : List MapEntry) (clock : Nat) (T : List (Int × Int)) (hh : blk bh (hc mb bm gr bu (sw T)) ∈ H) (hm : mapL bm es clock ∈ H) (hM : blk mb (mc lo hi dg u g) ∈ H) (hE : HM es clock T) (hG : GT T) (hug : u + g ≤ 62) (hg : 1 ≤ g ∧ g ≤ 18) (hl : T.length ≤ 1000000) (y : Int) (hy : -9223372036854775808 ≤ y ∧ y < 9223372036854775808) (w : World) (hw : St w0 H w) :
    Calls Tryz.prog 14 #[.pointer (some ⟨bh, 0, none⟩), .int .i64 y] w fun e w' => ∃ p q f, e = .returned (.tuple #[.int .u64 p, .int .u64 q, .int .i64 f]) ∧ St w0 H w' ∧ ((sw T = 0 ∧ p = 0 ∧ q = 0 ∧ f = 8) ∨ (sw T ≠ 0 ∧ f = 0 ∧ LE (BT u g T 0 y) (sw T) p q)) := by
  have hb := BT_bd u g hG.pos 0 y
  have htot := hG.tot
  have hnn := sw_nn hG.pos
  have hB := fun w hw => HBetween_c (w0 := w0) (H := H) bh mb bm gr bu (sw T) es clock T hh hm hM hE hG hug hg hl 0 y (by omega) hy w hw
  refine enter (vs := [.pointer (some ⟨bh, 0, none⟩), .int .i64 y]) Tryz.func14 rfl rfl rfl hw ?_
  clear hw w hm hM hE hG
  generalize sw T = S at *
  generalize BT u g T 0 y = B at *
  by_cases h0 : S = 0
  · subst h0
    repeat (first | (apply gJO; first | refine JO_v (oL (V_load (tb := tb) rfl hh rfl rfl rfl rfl)) ?_) | first | (refine sx ?_; try intro _))
    exact JS_ret Tryz.func14 rfl rfl fun w hw => ⟨_, _, _, rfl, hw, .inl ⟨rfl, rfl, rfl, rfl⟩⟩
  · repeat (first | apply hIx 3 | (apply gJO; first | refine JO_v (oL (V_load (tb := tb) rfl hh rfl rfl rfl rfl)) ?_) | first | (refine sx ?_; try intro _))
    refine Hold.go ?_
    refine JS_seq ?_
    refine JS_order [0, 1, 3, 4, 5, 6, 2, 7, 8, 9, 10, 11, 12] [] (Picks.cons rfl (Picks.cons rfl (Picks.cons rfl (Picks.cons rfl (Picks.cons rfl (Picks.cons rfl (Picks.cons rfl (Picks.cons rfl (Picks.cons rfl (Picks.cons rfl (Picks.cons rfl (Picks.cons rfl (Picks.cons rfl (Picks.nil)))))))))))))) (by kernel_rfl) (by kernel_rfl) rfl (by decide +kernel) ?_
    repeat (first | (apply gJO; first | refine JO_v (oL (V_load (tb := tb) rfl hh rfl rfl rfl rfl)) ?_) | (apply gQO; first | refine QO_v rfl (oL (V_load (tb := tb) rfl hh rfl rfl rfl rfl)) ?_) | first | (refine sx ?_; try intro _))
    refine QO_call Tryz.call19 rfl rfl fun w hw => (hB w hw).mono ?_
    rintro e w' ⟨rfl, hw'⟩
    (refine ⟨_, rfl, _, hw', .inl fun w hw => hw, ?_⟩; clear hw' hw w w')
    repeat (first | (apply gJO; first | refine JO_v (oL (V_load (tb := tb) rfl hh rfl rfl rfl rfl)) ?_) | (apply gQO; first | refine QO_v rfl (oL (V_load (tb := tb) rfl hh rfl rfl rfl rfl)) ?_) | first | (refine sx ?_; try intro _))
    refine QO_call Tryz.call42 rfl rfl fun w hw => (Least_c B S (by omega) (by omega) w hw).mono ?_
    rintro e w' ⟨p, q, rfl, hw', hLE⟩
    (refine ⟨_, rfl, _, hw', .inl fun w hw => hw, ?_⟩; clear hw' hw w w')
    repeat (first | (apply gJO; first | refine JO_v (oL (V_load (tb := tb) rfl hh rfl rfl rfl rfl)) ?_) | (apply gQO; first | refine QO_v rfl (oL (V_load (tb := tb) rfl hh rfl rfl rfl rfl)) ?_) | first | (refine sx ?_; try intro _))
    exact JS_ret Tryz.func14 rfl rfl fun w hw => ⟨_, _, _, rfl, hw, .inr ⟨h0, rfl, hLE⟩⟩
end
end Go.Proofs.YtmnilpjgkjkecaaGreat

namespace Go.Proofs.YtmnilpjgkjkecaaGreat
open Sx Go Hd
set_option linter.unusedVariables false
set_option linter.unusedSimpArgs false
section
variable {w0 : World} {H : List Asn} {lo hi dg : Int} {u g : Nat}
set_option maxRecDepth 10000 in
set_option maxHeartbeats 4000000 in
theorem RCount18_c (b : Nat) (gr : Bool) (bu : Nat) (q : Option Addr) (d : Nat) (T : List (Int × Int)) (hr : Rd w0 H (.slice q T.length d) T.length (flat T)) (hT : OKT T) (hR : RIGHT T) (hl : T.length ≤ 100000) (hug : u + g ≤ 62) (hg : 1 ≤ g ∧ g ≤ 18) (hbu : bu ≤ 64) (v : Nat) (hv : v < 9223372036854775808) (n : Int) (hn : 0 ≤ n ∧ sw T + n ≤ 4611686018427387904)
    (hTs : ∀ i, i < T.length → 0 ≤ (T.getD i (0, 0)).2 ∧ (T.getD i (0, 0)).2 ≤ sw T) (w : World) (hw : St w0 (blk b (rc lo hi dg u g gr bu (.slice q T.length d)) :: H) w) :
    Calls Tryz.prog 69 #[.pointer (some ⟨b, 0, none⟩), .int .i64 v, .int .u64 n] w fun e w' => e = .returned (.tuple #[]) ∧ ∃ q' d', St w0 (blk b (rc lo hi dg u g gr (max bu (1 + bkt u g v)) (.slice q' (putT (idx u g v) n T).length d')) :: vec 63 2 (.slice q' (putT (idx u g v) n T).length d') (putT (idx u g v) n T).length (flat (putT (idx u g v) n T)) :: H) w' := by
  obtain ⟨i1, i2, _⟩ := idx_bd hug hg hv
  have htot := sw_all hT hR
  have k1 : IntKind.i64.wrap (1 + ((bkt u g v : Nat) : Int)) = ((1 + bkt u g v : Nat) : Int) := (wi64 (by omega)).trans (by omega)
  have k3 : max (bu : Int) ((1 + bkt u g v : Nat) : Int) = ((max bu (1 + bkt u g v) : Nat) : Int) := by omega
  refine enter (vs := [.pointer (some ⟨b, 0, none⟩), .int .i64 v, .int .u64 n]) Tryz.func69 rfl rfl rfl hw ?_
  clear hw w
  repeat (first | apply hIx 0 | (apply gJS; apply JS_seq))
  refine Hold.go ?_
  refine JS_seq ?_
  refine JS_order [0, 1, 2, 3, 4, 5, 6, 7, 8, 9, 10, 11, 12, 13, 15, 14, 16, 17, 18, 19] [0] (Picks.cons rfl (Picks.cons rfl (Picks.cons rfl (Picks.cons rfl (Picks.cons rfl (Picks.cons rfl (Picks.cons rfl (Picks.cons rfl (Picks.cons rfl (Picks.cons rfl (Picks.cons rfl (Picks.cons rfl (Picks.cons rfl (Picks.cons rfl (Picks.cons rfl (Picks.cons rfl (Picks.cons rfl (Picks.cons rfl (Picks.cons rfl (Picks.cons rfl (Picks.nil))))))))))))))))))))) (by kernel_rfl) (by kernel_rfl) rfl (by decide +kernel) ?_
  repeat (first | (refine sx ?_; try intro _))
  refine QO_call Tryz.call18 rfl rfl fun w hw => (RIndex_c hug hg v hv w hw).mono ?_
  rintro e w' ⟨rfl, hw'⟩
  refine ⟨_, rfl, _, hw', .inl fun w hw => hw, ?_⟩
  clear hw' hw w w'
  have hin : -9223372036854775808 ≤ ((idx u g v : Nat) : Int) ∧ ((idx u g v : Nat) : Int) < 9223372036854775808 := by omega
  generalize ((idx u g v : Nat) : Int) = i at *
  repeat (first | (refine sx ?_; try intro _))
  refine QO_call Tryz.call95 rfl rfl fun w hw => (RPut_c q d T.length T i n (Rd_weak hr fun w hw => St.sub (by repeat (first | exact List.Sublist.refl _ | apply List.Sublist.cons_cons | apply List.Sublist.cons)) hw) rfl hT hin (by omega) (fun j hj => by have := hTs j hj; omega) (by omega) w hw).mono ?_
  rintro e w' ⟨q2, d2, rfl, hw'⟩
  refine ⟨_, rfl, _, hw', .inl fun w hw => St.sub (by repeat (first | exact List.Sublist.refl _ | apply List.Sublist.cons_cons | apply List.Sublist.cons)) hw, ?_⟩
  clear hw' hw w w'
  repeat (first | (refine sx ?_; try intro _))
  refine QO_call Tryz.call45 rfl rfl fun w hw => (RBucket_c hug v hv w hw).mono ?_
  rintro e w' ⟨rfl, hw'⟩
  refine ⟨_, rfl, _, hw', .inl fun w hw => hw, ?_⟩
  clear hw' hw w w'
  repeat (first | (apply gQO; first | refine QO_v rfl (V_add rfl rfl k1 rfl) ?_ | refine QO_v rfl (V_max rfl rfl k3 rfl) ?_) | (first | (refine sx ?_; try intro _)))
  exact JS_fin Tryz.func69 rfl rfl (vs := []) fun w hw => ⟨rfl, q2, d2, hw.perm (List.Perm.swap _ _ _)⟩
end
end Go.Proofs.YtmnilpjgkjkecaaGreat

namespace Go.Proofs.YtmnilpjgkjkecaaGreat
open Sx Go Hd
set_option linter.unusedVariables false
set_option linter.unusedSimpArgs false
theorem chk_0 {u g : Nat} {gr : Bool} {bu : Nat} {tot v n : Int} (hn : 0 ≤ n) (h : chk u g gr bu tot v n = 0) : 0 < n ∧ 0 ≤ v ∧ tot + n ≤ 4611686018427387904 := by
  unfold chk at h
  split at h
  · omega
  · split at h
    · omega
    · rename_i h1 h2
      split at h
      · omega
      · have : ¬ v < 0 := fun h' => h2 (.inl h')
        omega
section
variable {w0 : World} {H : List Asn} {lo hi dg : Int} {u g : Nat}
set_option maxRecDepth 10000 in
set_option maxHeartbeats 4000000 in
theorem HRecord_c (bh mb bm : Nat) (gr : Bool) (bu : Nat) (es : List MapEntry) (clock : Nat) (T : List (Int × Int)) (hM : blk mb (mc lo hi dg u g) ∈ H) (hug : u + g ≤ 62) (hg : 1 ≤ g ∧ g ≤ 18) (hbu : bu ≤ 64) (hE : HM es clock T) (hG : GT T) (v n : Int) (hv : -9223372036854775808 ≤ v ∧ v < 9223372036854775808) (hn : 0 ≤ n ∧ n < 18446744073709551616) (w : World) (hw : St w0 (blk bh (hc mb bm gr bu (sw T)) :: mapL bm es clock :: H) w) :
    Calls Tryz.prog 25 #[.pointer (some ⟨bh, 0, none⟩), .int .i64 v, .int .u64 n] w fun e w' => e = .returned (.int .i64 (chk u g gr bu (sw T) v n)) ∧
      ((chk u g gr bu (sw T) v n ≠ 0 ∧ St w0 (blk bh (hc mb bm gr bu (sw T)) :: mapL bm es clock :: H) w') ∨
      (chk u g gr bu (sw T) v n = 0 ∧ ∃ es' clock', HM es' clock' (putT (idx u g v.toNat) n T) ∧ St w0 (blk bh (hc mb bm gr (max bu (1 + bkt u g v.toNat)) (sw T + n)) :: mapL bm es' clock' :: H) w')) := by
  have ht0 := sw_nn hG.pos
  have htt := hG.tot
  refine enter (vs := [.pointer (some ⟨bh, 0, none⟩), .int .i64 v, .int .u64 n]) Tryz.func25 rfl rfl rfl hw ?_
  clear hw w
  repeat (first | (refine sx ?_; try intro _))
  refine JO_call Tryz.call55 rfl rfl fun w hw => (HCheck_c bh mb bm gr bu (sw T) (List.Mem.head _) (List.Mem.tail _ (List.Mem.tail _ hM)) hug hg.1 hbu ⟨ht0, htt⟩ v n hv hn w hw).mono ?_
  rintro e w' ⟨rfl, hw'⟩
  refine ⟨_, rfl, _, hw', ?_⟩
  clear hw' hw w w'
  by_cases hc : chk u g gr bu (sw T) v n = 0
  · obtain ⟨p1, p2, p3⟩ := chk_0 hn.1 hc
    obtain ⟨x, rfl⟩ := Int.eq_ofNat_of_zero_le p2
    rw [hc, Int.toNat_natCast]
    repeat (first | (refine sx ?_; try intro _))
    refine JO_call Tryz.call56 rfl rfl fun w hw => (HCount_c bh mb bm gr bu (sw T) es clock T hM hug hg hbu ht0 hE hG.srt x (by omega) n ⟨hn.1, p3⟩ (fun y hy => ⟨by have := hG.pos y hy; omega, sw_mem hG.pos y hy⟩) w hw).mono ?_
    rintro e w' ⟨rfl, es', clock', hE', hw'⟩
    refine ⟨_, rfl, _, hw', ?_⟩
    clear hw' hw w w'
    repeat (first | (refine sx ?_; try intro _))
    exact JS_ret Tryz.func25 rfl rfl fun w hw => ⟨rfl, .inr ⟨rfl, es', clock', hE', hw⟩⟩
  · generalize chk u g gr bu (sw T) v n = c at *
    repeat (first | (refine sx ?_; try intro _))
    exact JS_ret Tryz.func25 rfl rfl fun w hw => ⟨rfl, .inl ⟨hc, hw⟩⟩
set_option maxRecDepth 10000 in
set_option maxHeartbeats 4000000 in
theorem RRecord_c (b : Nat) (gr : Bool) (bu : Nat) (q : Option Addr) (d : Nat) (T : List (Int × Int)) (hr : Rd w0 H (.slice q T.length d) T.length (flat T)) (hl : T.length ≤ 100000) (hug : u + g ≤ 62) (hg : 1 ≤ g ∧ g ≤ 18) (hbu : bu ≤ 64) (hG : GT T) (v n : Int) (hv : -9223372036854775808 ≤ v ∧ v < 9223372036854775808) (hn : 0 ≤ n ∧ n < 18446744073709551616) (w : World) (hw : St w0 (blk b (rc lo hi dg u g gr bu (.slice q T.length d)) :: H) w) :
    Calls Tryz.prog 32 #[.pointer (some ⟨b, 0, none⟩), .int .i64 v, .int .u64 n] w fun e w' => e = .returned (.int .i64 (chk u g gr bu (sw T) v n)) ∧
      ((chk u g gr bu (sw T) v n ≠ 0 ∧ St w0 (blk b (rc lo hi dg u g gr bu (.slice q T.length d)) :: H) w') ∨
      (chk u g gr bu (sw T) v n = 0 ∧ ∃ q' d', St w0 (blk b (rc lo hi dg u g gr (max bu (1 + bkt u g v.toNat)) (.slice q' (putT (idx u g v.toNat) n T).length d')) :: vec 63 2 (.slice q' (putT (idx u g v.toNat) n T).length d') (putT (idx u g v.toNat) n T).length (flat (putT (idx u g v.toNat) n T)) :: H) w')) := by
  refine enter (vs := [.pointer (some ⟨b, 0, none⟩), .int .i64 v, .int .u64 n]) Tryz.func32 rfl rfl rfl hw ?_
  clear hw w
  repeat (first | (refine sx ?_; try intro _))
  refine JO_call Tryz.call68 rfl rfl fun w hw => (RCheck18_c b gr bu q d T (List.Mem.head _) (Rd_weak hr fun w hw => St.sub (by repeat (first | exact List.Sublist.refl _ | apply List.Sublist.cons_cons | apply List.Sublist.cons)) hw) hG.okt hG.right (by omega) hug hg.1 hbu v n hv hn w hw).mono ?_
  rintro e w' ⟨rfl, hw'⟩
  refine ⟨_, rfl, _, hw', ?_⟩
  clear hw' hw w w'
  by_cases hc : chk u g gr bu (sw T) v n = 0
  · obtain ⟨p1, p2, p3⟩ := chk_0 hn.1 hc
    obtain ⟨x, rfl⟩ := Int.eq_ofNat_of_zero_le p2
    rw [hc, Int.toNat_natCast]
    repeat (first | (refine sx ?_; try intro _))
    refine JO_call Tryz.call69 rfl rfl fun w hw => (RCount18_c b gr bu q d T hr hG.okt hG.right hl hug hg hbu x (by omega) n ⟨hn.1, p3⟩ hG.le w hw).mono ?_
    rintro e w' ⟨rfl, q', d', hw'⟩
    refine ⟨_, rfl, _, hw', ?_⟩
    clear hw' hw w w'
    repeat (first | (refine sx ?_; try intro _))
    exact JS_ret Tryz.func32 rfl rfl fun w hw => ⟨rfl, .inr ⟨rfl, q', d', hw⟩⟩
  · generalize chk u g gr bu (sw T) v n = c at *
    repeat (first | (refine sx ?_; try intro _))
    exact JS_ret Tryz.func32 rfl rfl fun w hw => ⟨rfl, .inl ⟨hc, hw⟩⟩
end
end Go.Proofs.YtmnilpjgkjkecaaGreat

namespace Go.Proofs.YtmnilpjgkjkecaaGreat
open Sx Go Hd
set_option linter.unusedVariables false
set_option linter.unusedSimpArgs false
section
variable {w0 : World} {H : List Asn}
/-- what a pair is laid as -/
abbrev pA (pa pb : Addr) (h1 m1 b1 h2 m2 b2 ra rb : Nat) (lo hi dg : Int) (u g : Nat) (gr : Bool) (bu : Nat) : List Asn :=
  [vec 29 1 (.slice (some pa) 2 2) 2 [.pointer (some ⟨h1, 0, none⟩), .pointer (some ⟨h2, 0, none⟩)], vec 30 1 (.slice (some pb) 2 2) 2 [.pointer (some ⟨ra, 0, none⟩), .pointer (some ⟨rb, 0, none⟩)],
    blk ra (rc lo hi dg u g gr bu (.slice none 0 0)), blk rb (rc lo hi dg u g gr bu (.slice none 0 0)), blk h1 (hc m1 b1 gr bu 0), mapL b1 [] 0, blk m1 (mc lo hi dg u g), blk h2 (hc m2 b2 gr bu 0), mapL b2 [] 0, blk m2 (mc lo hi dg u g)]
set_option maxRecDepth 10000 in
set_option maxHeartbeats 8000000 in
/-- two histograms of a shape that may be -/
theorem Pair_c (lo hi dg : Int) (gr : Bool) (hs : shOK lo hi dg) (hhi : hi < 9223372036854775808) (w : World) (hw : St w0 H w) :
    Calls Tryz.prog 31 #[hagg lo hi dg, .bool gr] w fun e w' => ∃ (pa pb : Addr) (h1 m1 b1 h2 m2 b2 ra rb : Nat), e = .returned (.tuple #[.slice (some pa) 2 2, .slice (some pb) 2 2]) ∧
      St w0 (pA pa pb h1 m1 b1 h2 m2 b2 ra rb lo hi dg (uOf lo) (gOf dg) gr (1 + bkt (uOf lo) (gOf dg) hi.toNat) ++ H) w' := by
  obtain ⟨s1, s2, s3, s4⟩ := hs.1
  refine enter (vs := [hagg lo hi dg, .bool gr]) Tryz.func31 rfl rfl rfl hw ?_
  clear hw w
  repeat (first | (refine sx ?_; try intro _))
  rename_i bx
  refine JO_call Tryz.call24 rfl rfl fun w hw => (HNew_c lo hi dg gr (by omega) (by omega) (by omega) w hw).mono ?_
  rintro e w' (⟨hno, rfl, hw'⟩ | ⟨_, h1, m1, b1, rfl, hw'⟩)
  · exact absurd hs hno
  refine ⟨_, rfl, _, hw', ?_⟩
  clear hw' hw w w'
  repeat (first | (refine sx ?_; try intro _))
  refine JO_call Tryz.call24 rfl rfl fun w hw => (HNew_c lo hi dg gr (by omega) (by omega) (by omega) w hw).mono ?_
  rintro e w' (⟨hno, rfl, hw'⟩ | ⟨_, h2, m2, b2, rfl, hw'⟩)
  · exact absurd hs hno
  refine ⟨_, rfl, _, hw', ?_⟩
  clear hw' hw w w'
  repeat (first | apply hIx 5 | first | (refine sx ?_; try intro _))
  refine Hold.go ?_
  refine JS_seq ?_
  generalize hbu : 1 + bkt (uOf lo) (gOf dg) hi.toNat = bu at *
  have hR := fun {H} w hw => RNew_c (w0 := w0) (H := H) lo hi dg gr (by omega) (by omega) (by omega) w hw
  rw [hbu] at hR
  refine JS_tree (.node [0, 1, 3, 4, 6, 7] 2 (.leaf [5, 8, 10, 9, 11]) 5 (.node [] 2 (.leaf [8, 10, 9, 11]) 8 (.node [] 2 (.leaf [10, 9, 11]) 9 (.leaf [2, 10, 11])))) [] (.node (Picks.cons rfl (Picks.cons rfl (Picks.cons rfl (Picks.cons rfl (Picks.cons rfl (Picks.cons rfl (Picks.nil))))))) rfl (.leaf (Picks.cons rfl (Picks.cons rfl (Picks.cons rfl (Picks.cons rfl (Picks.cons rfl (Picks.nil))))))) rfl (.node Picks.nil rfl (.leaf (Picks.cons rfl (Picks.cons rfl (Picks.cons rfl (Picks.cons rfl (Picks.nil)))))) rfl (.node Picks.nil rfl (.leaf (Picks.cons rfl (Picks.cons rfl (Picks.cons rfl (Picks.nil))))) rfl (.leaf (Picks.cons rfl (Picks.cons rfl (Picks.cons rfl (Picks.nil)))))))) (by kernel_rfl) (by kernel_rfl) rfl (by decide +kernel) ?_
  refine QR_node ?_
  repeat (first | (refine sx ?_; try intro _))
  refine QR_both ?_ ?_
  · apply QR_un
    (refine QO_e (E_buildSlice (tb := tb) rfl rfl rfl rfl rfl rfl rfl rfl rfl) rfl (.inr fun _ _ hw => St.sub (by repeat (first | exact List.Sublist.refl _ | apply List.Sublist.cons_cons | apply List.Sublist.cons)) hw) ?_; intro pa)
    refine QR_leaf ?_
    repeat (first | (refine sx ?_; try intro _))
    (refine QO_call Tryz.call67 rfl rfl fun w hw => (hR w hw).mono ?_; rintro e w' (⟨hno, rfl, hw'⟩ | ⟨_, ra, rfl, hw'⟩); exact absurd hs hno; refine ⟨_, rfl, _, hw', .inl fun w hw => St.sub (by repeat (first | exact List.Sublist.refl _ | apply List.Sublist.cons_cons | apply List.Sublist.cons)) hw, ?_⟩; clear hw' hw w w')
    repeat (first | (refine sx ?_; try intro _))
    (refine QO_call Tryz.call67 rfl rfl fun w hw => (hR w hw).mono ?_; rintro e w' (⟨hno, rfl, hw'⟩ | ⟨_, rb, rfl, hw'⟩); exact absurd hs hno; refine ⟨_, rfl, _, hw', .inl fun w hw => St.sub (by repeat (first | exact List.Sublist.refl _ | apply List.Sublist.cons_cons | apply List.Sublist.cons)) hw, ?_⟩; clear hw' hw w w')
    repeat (first | (refine sx ?_; try intro _))
    (refine QO_e (E_buildSlice (tb := tb) rfl rfl rfl rfl rfl rfl rfl rfl rfl) rfl (.inr fun _ _ hw => St.sub (by repeat (first | exact List.Sublist.refl _ | apply List.Sublist.cons_cons | apply List.Sublist.cons)) hw) ?_; intro pb)
    repeat (first | (refine sx ?_; try intro _))
    (exact JS_ret Tryz.func31 rfl rfl fun w hw => ⟨pa, pb, h1, m1, b1, h2, m2, b2, ra, rb, rfl, (hw.perm (H' := blk bx [.int .i64 lo, .int .i64 hi, .int .i64 dg] :: (pA pa pb h1 m1 b1 h2 m2 b2 ra rb lo hi dg (uOf lo) (gOf dg) gr bu ++ H)) (by (repeat (first | exact List.Perm.refl _ | refine List.Perm.cons _ ?_ | refine (List.perm_middle (l₁ := [_])).trans (List.Perm.cons _ ?_) | refine (List.perm_middle (l₁ := [_, _])).trans (List.Perm.cons _ ?_) | refine (List.perm_middle (l₁ := [_, _, _])).trans (List.Perm.cons _ ?_) | refine (List.perm_middle (l₁ := [_, _, _, _])).trans (List.Perm.cons _ ?_) | refine (List.perm_middle (l₁ := [_, _, _, _, _])).trans (List.Perm.cons _ ?_) | refine (List.perm_middle (l₁ := [_, _, _, _, _, _])).trans (List.Perm.cons _ ?_) | refine (List.perm_middle (l₁ := [_, _, _, _, _, _, _])).trans (List.Perm.cons _ ?_) | refine (List.perm_middle (l₁ := [_, _, _, _, _, _, _, _])).trans (List.Perm.cons _ ?_) | refine (List.perm_middle (l₁ := [_, _, _, _, _, _, _, _, _])).trans (List.Perm.cons _ ?_) | refine (List.perm_middle (l₁ := [_, _, _, _, _, _, _, _, _, _])).trans (List.Perm.cons _ ?_) | refine (List.perm_middle (l₁ := [_, _, _, _, _, _, _, _, _, _, _])).trans (List.Perm.cons _ ?_) | refine (List.perm_middle (l₁ := [_, _, _, _, _, _, _, _, _, _, _, _])).trans (List.Perm.cons _ ?_) | refine (List.perm_middle (l₁ := [_, _, _, _, _, _, _, _, _, _, _, _, _])).trans (List.Perm.cons _ ?_))))).drop⟩)
  · apply QR_un
    (refine QO_call Tryz.call67 rfl rfl fun w hw => (hR w hw).mono ?_; rintro e w' (⟨hno, rfl, hw'⟩ | ⟨_, ra, rfl, hw'⟩); exact absurd hs hno; refine ⟨_, rfl, _, hw', .inl fun w hw => St.sub (by repeat (first | exact List.Sublist.refl _ | apply List.Sublist.cons_cons | apply List.Sublist.cons)) hw, ?_⟩; clear hw' hw w w')
    refine QR_node ?_
    repeat (first | (refine sx ?_; try intro _))
    refine QR_both ?_ ?_
    · apply QR_un
      (refine QO_e (E_buildSlice (tb := tb) rfl rfl rfl rfl rfl rfl rfl rfl rfl) rfl (.inr fun _ _ hw => St.sub (by repeat (first | exact List.Sublist.refl _ | apply List.Sublist.cons_cons | apply List.Sublist.cons)) hw) ?_; intro pa)
      refine QR_leaf ?_
      repeat (first | (refine sx ?_; try intro _))
      (refine QO_call Tryz.call67 rfl rfl fun w hw => (hR w hw).mono ?_; rintro e w' (⟨hno, rfl, hw'⟩ | ⟨_, rb, rfl, hw'⟩); exact absurd hs hno; refine ⟨_, rfl, _, hw', .inl fun w hw => St.sub (by repeat (first | exact List.Sublist.refl _ | apply List.Sublist.cons_cons | apply List.Sublist.cons)) hw, ?_⟩; clear hw' hw w w')
      repeat (first | (refine sx ?_; try intro _))
      (refine QO_e (E_buildSlice (tb := tb) rfl rfl rfl rfl rfl rfl rfl rfl rfl) rfl (.inr fun _ _ hw => St.sub (by repeat (first | exact List.Sublist.refl _ | apply List.Sublist.cons_cons | apply List.Sublist.cons)) hw) ?_; intro pb)
      repeat (first | (refine sx ?_; try intro _))
      (exact JS_ret Tryz.func31 rfl rfl fun w hw => ⟨pa, pb, h1, m1, b1, h2, m2, b2, ra, rb, rfl, (hw.perm (H' := blk bx [.int .i64 lo, .int .i64 hi, .int .i64 dg] :: (pA pa pb h1 m1 b1 h2 m2 b2 ra rb lo hi dg (uOf lo) (gOf dg) gr bu ++ H)) (by (repeat (first | exact List.Perm.refl _ | refine List.Perm.cons _ ?_ | refine (List.perm_middle (l₁ := [_])).trans (List.Perm.cons _ ?_) | refine (List.perm_middle (l₁ := [_, _])).trans (List.Perm.cons _ ?_) | refine (List.perm_middle (l₁ := [_, _, _])).trans (List.Perm.cons _ ?_) | refine (List.perm_middle (l₁ := [_, _, _, _])).trans (List.Perm.cons _ ?_) | refine (List.perm_middle (l₁ := [_, _, _, _, _])).trans (List.Perm.cons _ ?_) | refine (List.perm_middle (l₁ := [_, _, _, _, _, _])).trans (List.Perm.cons _ ?_) | refine (List.perm_middle (l₁ := [_, _, _, _, _, _, _])).trans (List.Perm.cons _ ?_) | refine (List.perm_middle (l₁ := [_, _, _, _, _, _, _, _])).trans (List.Perm.cons _ ?_) | refine (List.perm_middle (l₁ := [_, _, _, _, _, _, _, _, _])).trans (List.Perm.cons _ ?_) | refine (List.perm_middle (l₁ := [_, _, _, _, _, _, _, _, _, _])).trans (List.Perm.cons _ ?_) | refine (List.perm_middle (l₁ := [_, _, _, _, _, _, _, _, _, _, _])).trans (List.Perm.cons _ ?_) | refine (List.perm_middle (l₁ := [_, _, _, _, _, _, _, _, _, _, _, _])).trans (List.Perm.cons _ ?_) | refine (List.perm_middle (l₁ := [_, _, _, _, _, _, _, _, _, _, _, _, _])).trans (List.Perm.cons _ ?_))))).drop⟩)
    · apply QR_un
      (refine QO_call Tryz.call67 rfl rfl fun w hw => (hR w hw).mono ?_; rintro e w' (⟨hno, rfl, hw'⟩ | ⟨_, rb, rfl, hw'⟩); exact absurd hs hno; refine ⟨_, rfl, _, hw', .inl fun w hw => St.sub (by repeat (first | exact List.Sublist.refl _ | apply List.Sublist.cons_cons | apply List.Sublist.cons)) hw, ?_⟩; clear hw' hw w w')
      refine QR_node ?_
      repeat (first | (refine sx ?_; try intro _))
      refine QR_both ?_ ?_
      · apply QR_un
        (refine QO_e (E_buildSlice (tb := tb) rfl rfl rfl rfl rfl rfl rfl rfl rfl) rfl (.inr fun _ _ hw => St.sub (by repeat (first | exact List.Sublist.refl _ | apply List.Sublist.cons_cons | apply List.Sublist.cons)) hw) ?_; intro pa)
        refine QR_leaf ?_
        repeat (first | (refine sx ?_; try intro _))
        (refine QO_e (E_buildSlice (tb := tb) rfl rfl rfl rfl rfl rfl rfl rfl rfl) rfl (.inr fun _ _ hw => St.sub (by repeat (first | exact List.Sublist.refl _ | apply List.Sublist.cons_cons | apply List.Sublist.cons)) hw) ?_; intro pb)
        repeat (first | (refine sx ?_; try intro _))
        (exact JS_ret Tryz.func31 rfl rfl fun w hw => ⟨pa, pb, h1, m1, b1, h2, m2, b2, ra, rb, rfl, (hw.perm (H' := blk bx [.int .i64 lo, .int .i64 hi, .int .i64 dg] :: (pA pa pb h1 m1 b1 h2 m2 b2 ra rb lo hi dg (uOf lo) (gOf dg) gr bu ++ H)) (by (repeat (first | exact List.Perm.refl _ | refine List.Perm.cons _ ?_ | refine (List.perm_middle (l₁ := [_])).trans (List.Perm.cons _ ?_) | refine (List.perm_middle (l₁ := [_, _])).trans (List.Perm.cons _ ?_) | refine (List.perm_middle (l₁ := [_, _, _])).trans (List.Perm.cons _ ?_) | refine (List.perm_middle (l₁ := [_, _, _, _])).trans (List.Perm.cons _ ?_) | refine (List.perm_middle (l₁ := [_, _, _, _, _])).trans (List.Perm.cons _ ?_) | refine (List.perm_middle (l₁ := [_, _, _, _, _, _])).trans (List.Perm.cons _ ?_) | refine (List.perm_middle (l₁ := [_, _, _, _, _, _, _])).trans (List.Perm.cons _ ?_) | refine (List.perm_middle (l₁ := [_, _, _, _, _, _, _, _])).trans (List.Perm.cons _ ?_) | refine (List.perm_middle (l₁ := [_, _, _, _, _, _, _, _, _])).trans (List.Perm.cons _ ?_) | refine (List.perm_middle (l₁ := [_, _, _, _, _, _, _, _, _, _])).trans (List.Perm.cons _ ?_) | refine (List.perm_middle (l₁ := [_, _, _, _, _, _, _, _, _, _, _])).trans (List.Perm.cons _ ?_) | refine (List.perm_middle (l₁ := [_, _, _, _, _, _, _, _, _, _, _, _])).trans (List.Perm.cons _ ?_) | refine (List.perm_middle (l₁ := [_, _, _, _, _, _, _, _, _, _, _, _, _])).trans (List.Perm.cons _ ?_))))).drop⟩)
      · apply QR_un
        (refine QO_e (E_buildSlice (tb := tb) rfl rfl rfl rfl rfl rfl rfl rfl rfl) rfl (.inr fun _ _ hw => St.sub (by repeat (first | exact List.Sublist.refl _ | apply List.Sublist.cons_cons | apply List.Sublist.cons)) hw) ?_; intro pb)
        refine QR_leaf ?_
        repeat (first | (refine sx ?_; try intro _))
        (refine QO_e (E_buildSlice (tb := tb) rfl rfl rfl rfl rfl rfl rfl rfl rfl) rfl (.inr fun _ _ hw => St.sub (by repeat (first | exact List.Sublist.refl _ | apply List.Sublist.cons_cons | apply List.Sublist.cons)) hw) ?_; intro pa)
        repeat (first | (refine sx ?_; try intro _))
        (exact JS_ret Tryz.func31 rfl rfl fun w hw => ⟨pa, pb, h1, m1, b1, h2, m2, b2, ra, rb, rfl, (hw.perm (H' := blk bx [.int .i64 lo, .int .i64 hi, .int .i64 dg] :: (pA pa pb h1 m1 b1 h2 m2 b2 ra rb lo hi dg (uOf lo) (gOf dg) gr bu ++ H)) (by (repeat (first | exact List.Perm.refl _ | refine List.Perm.cons _ ?_ | refine (List.perm_middle (l₁ := [_])).trans (List.Perm.cons _ ?_) | refine (List.perm_middle (l₁ := [_, _])).trans (List.Perm.cons _ ?_) | refine (List.perm_middle (l₁ := [_, _, _])).trans (List.Perm.cons _ ?_) | refine (List.perm_middle (l₁ := [_, _, _, _])).trans (List.Perm.cons _ ?_) | refine (List.perm_middle (l₁ := [_, _, _, _, _])).trans (List.Perm.cons _ ?_) | refine (List.perm_middle (l₁ := [_, _, _, _, _, _])).trans (List.Perm.cons _ ?_) | refine (List.perm_middle (l₁ := [_, _, _, _, _, _, _])).trans (List.Perm.cons _ ?_) | refine (List.perm_middle (l₁ := [_, _, _, _, _, _, _, _])).trans (List.Perm.cons _ ?_) | refine (List.perm_middle (l₁ := [_, _, _, _, _, _, _, _, _])).trans (List.Perm.cons _ ?_) | refine (List.perm_middle (l₁ := [_, _, _, _, _, _, _, _, _, _])).trans (List.Perm.cons _ ?_) | refine (List.perm_middle (l₁ := [_, _, _, _, _, _, _, _, _, _, _])).trans (List.Perm.cons _ ?_) | refine (List.perm_middle (l₁ := [_, _, _, _, _, _, _, _, _, _, _, _])).trans (List.Perm.cons _ ?_) | refine (List.perm_middle (l₁ := [_, _, _, _, _, _, _, _, _, _, _, _, _])).trans (List.Perm.cons _ ?_))))).drop⟩)
end
end Go.Proofs.YtmnilpjgkjkecaaGreat

set_option linter.unusedVariables false
namespace Sx
open Go
/-! a region that draws its order: the quiet operations are shown in a wider class of worlds (Hi) than the loud ones (H) -/
section
variable (P : Program) (E : List PanicEntry → List Deferred → World → Prop) (ops : Array Oper) (sy : List Nat) (K : (World → Prop) → Act → Prop)
def goN2 (next : (World → Prop) → (World → Prop) → Act → Prop) (m : Nat) (o : Oper) (I C : World → Prop) (a : Act) : Prop :=
  (loud o.op = false ∧ ∃ v, (∀ w, I w → (execOp a.eval o).run P w = .ok (.value v) w) ∧ next I C (a.put o.dst v)) ∨
  (loud o.op = true ∧ ∀ w, C w → Oper.wpN P E o a w fun a' w' => ∃ I' C' : World → Prop, C' w' ∧ (∀ w, C' w → I' w) ∧ ((∀ w, I' w → I w) ∨ sy.contains m = true) ∧ next I' C' a')
def walkN2 : List Oper → (World → Prop) → (World → Prop) → Act → Prop
  | [], I, C, a => K C a
  | o :: rest, I, C, a => if Region.wanted o (yielded ops a.tmps) then goN2 P E sy (walkN2 rest) rest.length o I C a else walkN2 rest I C (a.put o.dst undef)
end
section
variable {P : Program} {E : List PanicEntry → List Deferred → World → Prop} {ops : Array Oper}
theorem wpS_walk2 {sy : List Nat} {K : (World → Prop) → Act → Prop} (hsel : Region.noSelect ops = true) : ∀ (st done : List Nat) (l : List Oper) (listed : Array Bool) (I C : World → Prop) (a : Act), (∀ w, C w → I w) →
    l.map some = st.map (fun i => ops[i]?) → ordB ops sy done st listed = true → (∀ s ∈ done, s < ops.size) → (∀ j, listed.getD j false = true ↔ j ∈ done) → (∀ S, (∀ s ∈ done, calmAt ops s = false → s ∈ S) → Sofar ops S listed) → walkN2 P E ops sy K l I C a →
    ∀ w, C w → wpS P E ops I (till ops sy done st) (fun a w => ∃ C' : World → Prop, C' w ∧ K C' a) st.length listed a w
  | [], done, l, listed, I, C, a, hIC, hl, hB, hs, hd, hG, h, w, hw => by
    have : l = [] := by simpa using hl
    subst this
    simp only [ordB, Bool.and_eq_true, List.isEmpty_iff] at hB
    exact ⟨hB.1, C, hw, h⟩
  | i :: st, done, [], listed, I, C, a, hIC, hl, hB, hs, hd, hG, h, w, hw => by simp at hl
  | i :: st, done, o :: l, listed, I, C, a, hIC, hl, hB, hs, hd, hG, h, w, hw => by
    obtain ⟨hgate, hsz⟩ := ordB_gate (i :: st) done listed hB hs
    simp only [List.map_cons, List.cons.injEq] at hl
    have ho : ops[i]? = some o := hl.1.symm
    have hlen : l.length = st.length := by simpa using congrArg List.length hl.2
    have hi : i < ops.size := (Array.getElem?_eq_some_iff.1 ho).1
    have hB0 := hB
    simp only [ordB, ho, Bool.and_eq_true] at hB
    obtain ⟨⟨hB1, hB2⟩, hB3⟩ := hB
    have hrdy : i ∈ Region.ready .any ops listed := by
      split at hB2
      · rw [beq_iff_eq] at hB2; rw [hB2]; simp
      · rw [Bool.and_eq_true] at hB2; simpa using hB2.1
    have hs' : ∀ s ∈ i :: done, s < ops.size := fun s hs' => (List.mem_cons.1 hs').elim (fun e => e ▸ hi) (hs s)
    have hiun : listed.getD i true = false := (mem_ready.1 hrdy).1
    have hlt : i < listed.size := by
      rcases Nat.lt_or_ge i listed.size with h' | h'
      · exact h'
      · simp [Array.getElem?_eq_none h'] at hiun
    have hd' : ∀ j, (listed.setIfInBounds i true).getD j false = true ↔ j ∈ i :: done := fun j => by
      by_cases hij : i = j
      · subst hij
        simp [hlt]
      · rw [getD_set_ne false hij, hd j]
        simp [Ne.symm hij]
    have hG' : ∀ S, (∀ s ∈ i :: done, calmAt ops s = false → s ∈ S) → Sofar ops S (listed.setIfInBounds i true) := fun S hS => by
      refine ⟨fun j oj hj hl e he hb => ?_, fun k hk hkc hl => absurd (hS k ((hd' k).1 hl) hkc) hk⟩
      by_cases hij : i = j
      · subst hij
        rw [ho] at hj; cases hj
        obtain ⟨_, o', ho', hall⟩ := mem_ready.1 hrdy
        rw [ho] at ho'; cases ho'
        exact getD_set_true (hall e he hb)
      · rw [getD_set_ne false hij] at hl
        exact getD_set_true ((hG S fun s hs => hS s (List.mem_cons_of_mem _ hs)).down j oj hj hl e he hb)
    have IH := fun (I C : World → Prop) (a : Act) (hIC : ∀ w, C w → I w) (h : walkN2 P E ops sy K l I C a) => wpS_walk2 hsel st (i :: done) l (listed.setIfInBounds i true) I C a hIC hl.2 hB3 hs' hd' hG' h
    have hunl : ∀ j, (listed.setIfInBounds i true).getD j true = false → j ∉ i :: done := fun j h hj => getD_conf h ((hd' j).2 hj)
    simp only [walkN2] at h
    have hpure : ∀ v, loud o.op = false → Stays P ops I o v a → walkN2 P E ops sy K l I C (a.put o.dst v) → wpS P E ops I (till ops sy done (i :: st)) (fun a w => ∃ C' : World → Prop, C' w ∧ K C' a) (st.length + 1) listed a w := by
      intro v hlo hst hn
      have hnsy : sy.contains st.length = false := by
        cases hc : sy.contains st.length with
        | false => rfl
        | true => rw [hc] at hB1; simp [hlo] at hB1
      have htl : till ops sy done (i :: st) = till ops sy (i :: done) st := by simp only [till]; rw [hnsy]; simp
      simp only [hlo, Bool.false_eq_true, if_false, Bool.and_eq_true] at hB2
      cases hcal : calm o.op with
      | false =>
        refine wpS_first ho (Region.noSelect_spec hsel) hgate hsz (by rw [htl]; exact till_sub _ _ _ (List.mem_cons_self ..) (by unfold calmAt; simp only [ho]; exact hcal)) st.length listed a w (hG _ fun s hs hc => till_sub _ _ _ hs hc) (Region.free_spec ho hB2.2) hrdy hst (hIC w hw) ?_
        rw [htl]
        exact IH I C _ hIC hn w hw
      | true =>
        refine wpS_calm ho (Region.noSelect_spec hsel) (fun h => by have h' := till_calm _ _ _ h; unfold calmAt at h'; simp only [ho, hcal] at h'; cases h') st.length listed a w (Region.free_spec ho hB2.2) hrdy (hst.calm hcal (hIC w hw)) ?_
        rw [htl]
        exact IH I C _ hIC hn w hw
    have hloud : loud o.op = true → ∀ (a' : Act) (w' : World) (I' C' : World → Prop), C' w' → (∀ w, C' w → I' w) → ((∀ w, I' w → I w) ∨ sy.contains st.length = true) → walkN2 P E ops sy K l I' C' a' →
        ((i ∈ till ops sy done (i :: st) → I w') ∧ wpS P E ops I (till ops sy done (i :: st)) (fun a w => ∃ C' : World → Prop, C' w ∧ K C' a) st.length (listed.setIfInBounds i true) a' w') := by
      intro hlo a' w' I' C' hw' hIC' hor hn
      have h1 := IH I' C' a' hIC' hn w' hw'
      cases hc : sy.contains st.length with
      | true =>
        have htl : till ops sy done (i :: st) = done.filter fun k => !calmAt ops k := by simp only [till]; rw [hc]; simp
        rw [htl]
        refine ⟨fun hid => ?_, wpS_weak _ _ _ _ (fun j hj hu => absurd (List.mem_cons_of_mem _ (mem_noncalm.1 hj).1) (hunl j hu)) h1⟩
        exact (getD_conf hiun ((hd i).2 (mem_noncalm.1 hid).1)).elim
      | false =>
        have hsub := hor.resolve_right (by rw [hc]; simp)
        have htl : till ops sy done (i :: st) = till ops sy (i :: done) st := by simp only [till]; rw [hc]; simp
        rw [htl]
        exact ⟨fun _ => hsub _ (hIC' _ hw'), wpS_weak _ _ _ _ (fun j hj _ => ⟨hj, hsub⟩) h1⟩
    by_cases hwt : Region.wanted o (yielded ops a.tmps) = true
    · rw [if_pos hwt] at h
      rcases h with ⟨hlo, v, hv, hn⟩ | ⟨hlo, hn⟩
      · exact hpure v hlo (.inl ⟨hwt, hv⟩) hn
      · rw [if_pos hlo, beq_iff_eq] at hB2
        refine ⟨fun h0 => (by rw [h0] at hrdy; cases hrdy), fun j hj => ?_⟩
        have : j = i := by rw [hB2] at hj; simpa using hj
        subst this
        unfold stepN
        simp only [ho, hwt, if_true]
        exact Oper.wpN_mono (fun a' w' ⟨I', C', hw', hIC', hor, hn'⟩ => hloud hlo a' w' I' C' hw' hIC' (by rwa [hlen] at hor) hn') (hn w hw)
    · have hwt' : Region.wanted o (yielded ops a.tmps) = false := by simpa using hwt
      rw [if_neg hwt] at h
      cases hlo : loud o.op with
      | false => exact hpure undef hlo (.inr ⟨hwt', rfl⟩) h
      | true =>
        rw [if_pos hlo, beq_iff_eq] at hB2
        refine ⟨fun h0 => (by rw [h0] at hrdy; cases hrdy), fun j hj => ?_⟩
        have : j = i := by rw [hB2] at hj; simpa using hj
        subst this
        unfold stepN
        simp only [ho, hwt', Bool.false_eq_true, if_false]
        exact hloud hlo _ _ I C hw hIC (.inl fun _ h => h) h
end
section
variable (P : Program) (n : Nat) (D : List Deferred) (w0 : World)
def QR2 (Z : Array Oper × List Nat) (l : List Oper) (ov : Ov) (Hi H : List Asn) (K : KC) : Prop :=
  ∀ a, Rep n D ov a → walkN2 P K.e Z.1 Z.2 K.k l (St w0 Hi) (St w0 H) a
def QO2 (Z : Array Oper × List Nat) (o : Oper) (l : List Oper) (ov : Ov) (Hi H : List Asn) (K : KC) : Prop :=
  ∀ a, Rep n D ov a → goN2 P K.e Z.2 (walkN2 P K.e Z.1 Z.2 K.k l) l.length o (St w0 Hi) (St w0 H) a
end
section
variable {P : Program} {f n : Nat} {R : Ending → World → Prop} {D : List Deferred} {w0 : World} {k : List Item} {ov : Ov} {Hi H H' : List Asn} {K : KC}
  {Z : Array Oper × List Nat} {l : List Oper} {d : Option Nat} {T : Nat} {pos : String} {af : Array Edge} {g : Option (Nat × Bool)} {v : Value} {op : Op} {o : Oper}
theorem gQR2 (h : QR2 P n D w0 Z l ov Hi H K) : QR2 P n D w0 Z l ov Hi H K := h
theorem gQO2 (h : QO2 P n D w0 Z o l ov Hi H K) : QO2 P n D w0 Z o l ov Hi H K := h
theorem QR2_nil (h : JS P f n R D w0 k ov H) : QR2 P n D w0 Z [] ov Hi H (QK P f R k) := by
  unfold QK JS at *
  exact fun a ha w hw => h a w ha hw
theorem QR2_un (h : QO2 P n D w0 Z ⟨d, op, T, pos, af, none⟩ l ov Hi H K) : QR2 P n D w0 Z (⟨d, op, T, pos, af, none⟩ :: l) ov Hi H K := by
  intro a ha
  simp only [walkN2]
  rw [if_pos (by simp [Region.wanted])]
  exact h a ha
theorem QO2_v (hlo : loud op = false) (h : OpV P n D w0 ov Hi ⟨d, op, T, pos, af, g⟩ v) (hn : QR2 P n D w0 Z l (put d v ov) Hi H K) : QO2 P n D w0 Z ⟨d, op, T, pos, af, g⟩ l ov Hi H K := by
  unfold OpV at h
  exact fun a ha => .inl ⟨hlo, v, fun w hw => h.2 a w ha hw, hn _ (ha.put h.1 v)⟩
theorem QO2_callE {q : Nat} {xs : List Operand} {vs : List Value} {ts : Array Nat} (hc : ∀ args w, (callFunc q args).run P w = .ok (.enter q args) w) (hx : evs ov xs = some vs) (hd : dOk d n = true)
    (h : ∀ w, St w0 H w → Calls P q vs.toArray w fun e w' => (∃ v, e = .returned v ∧ ∃ Hi' H', St w0 H' w' ∧ (∀ w, St w0 H' w → St w0 Hi' w) ∧ ((∀ w, St w0 Hi' w → St w0 Hi w) ∨ Z.2.contains l.length = true) ∧ QR2 P n D w0 Z l (put d v ov) Hi' H' K) ∨ (∃ ch, e = .panicked ch ∧ K.e ch D w')) :
    QO2 P n D w0 Z ⟨d, .call ⟨.value (.func q), xs.toArray, ts⟩, T, pos, af, g⟩ l ov Hi H K := by
  intro a ha
  refine .inr ⟨rfl, fun w hw => ?_⟩
  have hrun : (execOp a.eval ⟨d, .call ⟨.value (.func q), xs.toArray, ts⟩, T, pos, af, g⟩).run P w = .ok (.enter q vs.toArray) w := by
    simp only [execOp, resolve, Deferred.ofValue, Act.eval, Sem.run_bind, Sem.run_pure, Result.andThen_ok, invoke]
    rw [List.map_toArray, ha.evs hx]
    simpa using hc vs.toArray w
  simp only [Oper.wpN, hrun, Oper.upN]
  exact (h w hw).mono fun e w' h' => h'.imp (fun ⟨v, he, Hi', H', hw', hI, hor, hn⟩ => ⟨v, he, St w0 Hi', St w0 H', hw', hI, hor, hn _ (ha.put hd v)⟩) (fun ⟨ch, he, hk⟩ => ⟨ch, he, by rw [ha.defers]; exact hk⟩)
theorem QO2_k (hlo : loud op = true) (h : OpK P n D w0 ov H ⟨d, op, T, pos, af, g⟩ H') (hI : ∀ w, St w0 H' w → St w0 Hi w) (hn : QR2 P n D w0 Z l (put d undef ov) Hi H' K) : QO2 P n D w0 Z ⟨d, op, T, pos, af, g⟩ l ov Hi H K := by
  intro a ha
  unfold OpK at h
  refine .inr ⟨hlo, fun w hw => ?_⟩
  obtain ⟨w', hrun, hw'⟩ := h.2 a w ha hw
  simp only [Oper.wpN, hrun, Oper.upN]
  exact ⟨St w0 Hi, St w0 H', hw', hI, .inl fun _ h => h, hn _ (ha.put h.1 undef)⟩
theorem JS_order2 {id : Nat} {l : List Oper} (Hi : List Asn) (st sy : List Nat) {l' : List Oper} (hI : ∀ w, St w0 H w → St w0 Hi w) (hp : Picks l st l') (hm : P.follows .mixedOrders = true) (hs : Region.noSelect l.toArray = true) (hlen : st.length = l.length)
    (hB : ordB l.toArray sy [] st (Array.replicate l.length false) = true) (h : QR2 P n D w0 (l.toArray, sy) l' ov Hi H (QK P f R k)) :
    JS P f n R D w0 (.code (.region id l.toArray true) :: k) ov H := by
  unfold JS
  intro a w ha hw
  refine J_of_wpE (Q := QQ P f R k) (wp_region_any hm ?_) fun e a' w' h => h
  have h0 : ∀ j, (Array.replicate l.length false).getD j false = false := fun j => by
    rcases Nat.lt_or_ge j l.length with h | h
    · simp [h]
    · simp [h]
  have hws := wpS_walk2 (P := P) (E := (QK P f R k).e) (K := (QK P f R k).k) (sy := sy) hs st [] l' (Array.replicate l.length false) (St w0 Hi) (St w0 H) a hI hp.map hB (by simp) (fun j => by rw [h0 j]; simp)
    (fun S _ => ⟨fun j oj _ hj => (by rw [h0 j] at hj; cases hj), fun k _ _ hk => (by rw [h0 k] at hk; cases hk)⟩) (h a ha) w.drew hw.drew
  have := wpAny_of_S (Q' := QQ P f R k) (fun ch a w h => by unfold QK at h; exact h) (fun a w ⟨C, hC, hk⟩ => by unfold QK at hk; exact hk w hC) _ _ _ _ hws
  rw [hlen] at this
  simpa using this
attribute [irreducible] QR2 QO2
end
end Sx
namespace Go.Proofs.YtmnilpjgkjkecaaGreat
open Sx Go
section
variable {n : Nat} {D : List Deferred} {w0 : World} {ov : Ov} {Hi H : List Asn} {K : KC} {Z : Array Oper × List Nat} {l : List Oper} {d : Option Nat} {T : Nat} {pos : String} {af : Array Edge} {g : Option (Nat × Bool)} {v : Value} {op : Op}
theorem aQ2 (hn : QR2 Tryz.prog n D w0 Z l (put d v ov) Hi H K) (h : OpV Tryz.prog n D w0 ov Hi ⟨d, op, T, pos, af, g⟩ v := by first | (apply oMv; exact V_move rfl rfl) | (apply oAs; exact V_assign rfl rfl) | (apply oL; first | exact V_load (tb := tb) rfl (by repeat (first | apply List.Mem.head | apply List.Mem.tail)) rfl rfl rfl rfl | exact V_loadC (tb := tb) rfl (by first | exact vec_rd (by repeat (first | apply List.Mem.head | apply List.Mem.tail)) | assumption | exact ArgRd.rd (by assumption) _ | (apply Rd_weak; assumption; intro _ hx; exact St.sub (by repeat (first | exact List.Sublist.refl _ | apply List.Sublist.cons_cons | apply List.Sublist.cons)) hx)) rfl rfl (by first | exact ints_get (by omega) | exact rfl) rfl | exact V_loadA (tb := tb) rfl (by repeat (first | apply List.Mem.head | apply List.Mem.tail)) rfl rfl rfl rfl) | (apply oB; first | (apply ob_add; first | exact V_add rfl rfl (by first | exact wi64 (by omega) | exact wu64 (by omega) | exact wu32 (by omega) | exact wu8 (by omega) | exact mu64 _ | exact mu32 _ | exact mu8 _ | exact mi64 _ | exact rfl) rfl) | (apply ob_sub; first | exact V_sub rfl rfl (by first | exact wi64 (by omega) | exact wu64 (by omega) | exact wu32 (by omega) | exact wu8 (by omega) | exact mu64 _ | exact mu32 _ | exact mu8 _ | exact mi64 _ | exact rfl) rfl) | (apply ob_mul; first | exact V_mul rfl rfl (by first | exact wi64 (by omega) | exact wu64 (by omega) | exact wu32 (by omega) | exact wu8 (by omega) | exact mu64 _ | exact mu32 _ | exact mu8 _ | exact mi64 _ | exact rfl) rfl) | (apply ob_eql; first | exact V_eqlT rfl rfl (by omega) rfl | exact V_eqlF rfl rfl (by omega) rfl | exact V_eql rfl rfl rfl) | (apply ob_neq; first | exact V_neqT rfl rfl (by omega) rfl | exact V_neqF rfl rfl (by omega) rfl | exact V_neq rfl rfl rfl) | (apply ob_lss; first | exact V_lssT rfl rfl (by omega) rfl | exact V_lssF rfl rfl (by omega) rfl | exact V_lss rfl rfl rfl) | (apply ob_leq; first | exact V_leqT rfl rfl (by omega) rfl | exact V_leqF rfl rfl (by omega) rfl | exact V_leq rfl rfl rfl) | (apply ob_gtr; first | exact V_gtrT rfl rfl (by omega) rfl | exact V_gtrF rfl rfl (by omega) rfl | exact V_gtr rfl rfl rfl) | (apply ob_geq; first | exact V_geqT rfl rfl (by omega) rfl | exact V_geqF rfl rfl (by omega) rfl | exact V_geq rfl rfl rfl) | (apply ob_quo; first | exact V_quo rfl rfl (by omega) (by first | exact IntWalk.i64_quo _ _ (by omega) | exact IntWalk.u64_quo _ _ (by omega) | exact IntWalk.u32_quo _ _ (by omega) | exact IntWalk.u8_quo _ _ (by omega)) rfl) | (apply ob_rem; first | exact V_rem rfl rfl (by omega) (Int.tmod_eq_emod_of_nonneg (by omega)) rfl) | (apply ob_and; first | exact V_and rfl rfl (by first | exact mask32_u64 (by omega) | exact mask_u64 8 (by decide) (by omega) rfl | exact mask_u64 16 (by decide) (by omega) rfl) rfl) | (apply ob_eql; first | exact V_eqP (tb := tb) rfl rfl rfl rfl | exact V_eqBB (tb := tb) rfl rfl rfl rfl | exact V_eqB (tb := tb) rfl rfl rfl rfl | exact V_eqNil (tb := tb) rfl rfl rfl rfl | exact V_eqStr rfl rfl (by assumption) (by assumption) rfl) | (apply ob_neq; first | exact V_neP (tb := tb) rfl rfl rfl rfl | exact V_neBB (tb := tb) rfl rfl rfl rfl | exact V_neB (tb := tb) rfl rfl rfl rfl | exact V_neStr rfl rfl (by assumption) (by assumption) rfl) | (apply oK; first | (apply ob_shr; exact V_shr (m := _) rfl rfl (by omega) (by simp only [IntKind.bits, Int.reduceToNat, Nat.reduceLeDiff, Nat.min_eq_left]; exact rfl) (by first | (simp only [Int.reducePow]; exact rfl) | exact rfl) rfl) | (apply ob_shl; exact V_shl (m := _) rfl rfl (by omega) (by simp only [IntKind.bits, Int.reduceToNat, Nat.reduceLeDiff, Nat.min_eq_left]; exact rfl) (by (try simp only [Int.reducePow]); first | exact wi64 (by omega) | exact wu64 (by omega) | exact wu32 (by omega) | exact wu8 (by omega) | exact mu64 _ | exact mu32 _ | exact mu8 _ | exact mi64 _ | exact rfl) rfl))) | (apply oE; first | exact V_extract rfl rfl rfl) | (apply oc_len; exact V_len (tb := tb) rfl rfl rfl) | (apply oc_len; exact V_lenS (tb := tb) rfl rfl rfl) | (apply oc_min; exact V_min rfl rfl rfl rfl) | (apply oc_max; exact V_max rfl rfl rfl rfl) | (apply oCv; first | exact V_conv (tb := tb) rfl rfl rfl (by first | exact wi64 (by omega) | exact wu64 (by omega) | exact wu32 (by omega) | exact wu8 (by omega) | exact mu64 _ | exact mu32 _ | exact mu8 _ | exact mi64 _ | exact rfl) rfl | exact V_str (tb := tb) rfl (by first | exact vec_rd (by repeat (first | apply List.Mem.head | apply List.Mem.tail)) | assumption | exact ArgRd.rd (by assumption) _ | (apply Rd_weak; assumption; intro _ hx; exact St.sub (by repeat (first | exact List.Sublist.refl _ | apply List.Sublist.cons_cons | apply List.Sublist.cons)) hx)) (by first | assumption | rfl | omega) rfl rfl rfl rfl) | (apply oP; first | exact V_pickT rfl rfl rfl | exact V_pickF rfl rfl rfl | exact V_pickB rfl rfl rfl rfl) | (apply oU; first | exact V_notD rfl rfl | exact V_not rfl rfl | exact V_neg rfl (by first | exact wi64 (by omega) | exact wu64 (by omega) | exact wu32 (by omega) | exact wu8 (by omega) | exact mu64 _ | exact mu32 _ | exact mu8 _ | exact mi64 _ | exact rfl) rfl) | (apply oN; first | exact V_nilCheck rfl rfl) | (apply oFA; first | exact V_field (tb := tb) rfl rfl rfl rfl rfl rfl | exact V_fieldC (tb := tb) rfl (by first | exact Rd.sl (vec_rd (by repeat (first | apply List.Mem.head | apply List.Mem.tail))) | exact Rd.sl (by assumption) | exact Rd.sl (ArgRd.rd (by assumption) _) | (apply Rd.sl; (apply Rd_weak; assumption; intro _ hx; exact St.sub (by repeat (first | exact List.Sublist.refl _ | apply List.Sublist.cons_cons | apply List.Sublist.cons)) hx))) (by omega) rfl rfl rfl rfl rfl) | (apply oIA; first | exact V_index (tb := tb) rfl rfl rfl rfl (by first | exact Rd.sl (vec_rd (by repeat (first | apply List.Mem.head | apply List.Mem.tail))) | exact Rd.sl (by assumption) | exact Rd.sl (ArgRd.rd (by assumption) _) | (apply Rd.sl; (apply Rd_weak; assumption; intro _ hx; exact St.sub (by repeat (first | exact List.Sublist.refl _ | apply List.Sublist.cons_cons | apply List.Sublist.cons)) hx))) (by omega) (by (try simp only [tn, tna, tn1, tn2, tn3, tn4, tnd16, tnd8, Int.reduceToNat]); first | exact Nat.mul_one _ | exact rfl) rfl | exact V_indexA (tb := tb) rfl rfl rfl rfl (by omega) rfl) | (apply oBd; first | exact V_build (tb := tb) rfl rfl rfl rfl rfl) | (apply oF; first | exact V_makeFunc rfl rfl rfl)) (hlo : loud op = false := by rfl) : QO2 Tryz.prog n D w0 Z ⟨d, op, T, pos, af, g⟩ l ov Hi H K := QO2_v hlo h hn
theorem aK2 {H' : List Asn} (hI : ∀ w, St w0 H' w → St w0 Hi w) (hn : QR2 Tryz.prog n D w0 Z l (put d undef ov) Hi H' K) (h : OpK Tryz.prog n D w0 ov H ⟨d, op, T, pos, af, g⟩ H' := by first | exact K_store (tb := tb) rfl rfl (by repeat (first | apply Upd.here | apply Upd.there)) rfl rfl rfl (by repeat (first | exact trivial | refine ⟨rfl, ?_⟩)) rfl rfl | exact K_storeC1 (tb := tb) rfl rfl ints_set (by repeat (first | apply Upd.here | apply Upd.there)) rfl rfl (by rw [ints_len]; omega) rfl) (hlo : loud op = true := by rfl) : QO2 Tryz.prog n D w0 Z ⟨d, op, T, pos, af, g⟩ l ov Hi H K := QO2_k hlo h hI hn
end
end Go.Proofs.YtmnilpjgkjkecaaGreat

namespace Go.Proofs.YtmnilpjgkjkecaaGreat
open Sx Go Hd
set_option linter.unusedVariables false
set_option linter.unusedSimpArgs false
/-! ## what is recorded (plain) -/
def wtN (N : List Int) (i : Nat) : Int := if i < N.length then 1 + N.getD i 0 % 1000 else 1
theorem wtN_bd (N : List Int) (i : Nat) : 1 ≤ wtN N i ∧ wtN N i ≤ 1000 := by unfold wtN; split <;> omega
/-- one value -/
def rec1 (u g : Nat) (gr : Bool) (s : Nat × List (Int × Int)) (v n : Int) : Nat × List (Int × Int) :=
  if chk u g gr s.1 (sw s.2) v n = 0 then (max s.1 (1 + bkt u g v.toNat), putT (idx u g v.toNat) n s.2) else s
/-- the first of some values, with their weights -/
def recS (u g : Nat) (gr : Bool) (bu : Nat) (L : List Int) (W : Nat → Int) : Nat → Nat × List (Int × Int)
  | 0 => (bu, [])
  | i + 1 => rec1 u g gr (recS u g gr bu L W i) (L.getD i 0) (W i)
theorem bkt_63 {u g v : Nat} (hv : v < 9223372036854775808) (hug : 1 ≤ u + g) : bkt u g v ≤ 62 := by
  have := bl_v hv
  unfold bkt; omega
structure OKS (s : Nat × List (Int × Int)) : Prop where
  bu : s.1 ≤ 64
  gt : GT s.2
theorem rec1_ok {u g : Nat} {gr : Bool} {s : Nat × List (Int × Int)} {v n : Int} (hug : u + g ≤ 62) (hg : 1 ≤ g ∧ g ≤ 18) (h : OKS s) (hn : 0 ≤ n) (hv : v < 9223372036854775808) : OKS (rec1 u g gr s v n) := by
  unfold rec1
  split
  · rename_i hc
    obtain ⟨p1, p2, p3⟩ := chk_0 hn hc
    have hv' : v.toNat < 9223372036854775808 := by omega
    have h1 := bkt_63 (u := u) (g := g) hv' (by omega)
    obtain ⟨i1, _⟩ := idx_bd hug hg hv'
    have hb := h.bu
    refine ⟨?_, h.gt.put ⟨by omega, by omega⟩ p1 p3⟩
    show max s.1 (1 + bkt u g v.toNat) ≤ 64
    omega
  · exact h
theorem rec1_len {u g : Nat} {gr : Bool} {s : Nat × List (Int × Int)} {v n : Int} : (rec1 u g gr s v n).2.length ≤ s.2.length + 1 := by
  unfold rec1
  split
  · exact putT_len _
  · exact Nat.le_succ _
theorem recS_ok {u g : Nat} {gr : Bool} {bu : Nat} {L : List Int} {W : Nat → Int} (hug : u + g ≤ 62) (hg : 1 ≤ g ∧ g ≤ 18) (hbu : bu ≤ 64) (hL : ∀ j, L.getD j 0 < 9223372036854775808) (hW : ∀ j, 0 ≤ W j) : ∀ i, OKS (recS u g gr bu L W i) ∧ (recS u g gr bu L W i).2.length ≤ i
  | 0 => ⟨⟨hbu, GT.nil⟩, Nat.le_refl _⟩
  | i + 1 => by
    obtain ⟨h1, h2⟩ := recS_ok hug hg hbu hL hW i
    exact ⟨rec1_ok hug hg h1 (hW i) (hL i), Nat.le_trans rec1_len (by omega)⟩
section
variable {w0 : World} {H : List Asn}
/-- a histogram and the document's one -/
abbrev hA (h m b r : Nat) (lo hi dg : Int) (u g : Nat) (gr : Bool) (bu : Nat) (es : List MapEntry) (clock : Nat) (T : List (Int × Int)) (q : Option Addr) (d : Nat) : List Asn :=
  [blk h (hc m b gr bu (sw T)), mapL b es clock, blk r (rc lo hi dg u g gr bu (.slice q T.length d)), vec 63 2 (.slice q T.length d) T.length (flat T), blk m (mc lo hi dg u g)]
set_option maxRecDepth 10000 in
set_option maxHeartbeats 8000000 in
theorem Recorded_c (lo hi dg : Int) (gr : Bool) (hs : shOK lo hi dg) (hhi : hi < 9223372036854775808) (lp np : Option Addr) (lc nc : Nat) (L N : List Int) (hL : Rd w0 H (.slice lp L.length lc) L.length (ints .i64 L)) (hN : Rd w0 H (.slice np N.length nc) N.length (ints .u16 N))
    (okL : ∀ j, -9223372036854775808 ≤ L.getD j 0 ∧ L.getD j 0 < 9223372036854775808) (okN : ∀ j, 0 ≤ N.getD j 0 ∧ N.getD j 0 < 65536) (hLl : L.length < 4611686018427387904) (hNl : N.length < 4611686018427387904) (w : World) (hw : St w0 H w) :
    Calls Tryz.prog 8 #[hagg lo hi dg, .bool gr, .slice lp L.length lc, .slice np N.length nc] w fun e w' => ∃ (h m b r : Nat) (es : List MapEntry) (clock : Nat) (q : Option Addr) (d : Nat), e = .returned (.tuple #[.pointer (some ⟨h, 0, none⟩), .pointer (some ⟨r, 0, none⟩)]) ∧
      HM es clock (recS (uOf lo) (gOf dg) gr (1 + bkt (uOf lo) (gOf dg) hi.toNat) L (wtN N) (min L.length 40)).2 ∧
      St w0 (hA h m b r lo hi dg (uOf lo) (gOf dg) gr (recS (uOf lo) (gOf dg) gr (1 + bkt (uOf lo) (gOf dg) hi.toNat) L (wtN N) (min L.length 40)).1 es clock (recS (uOf lo) (gOf dg) gr (1 + bkt (uOf lo) (gOf dg) hi.toNat) L (wtN N) (min L.length 40)).2 q d ++ H) w' := by
  obtain ⟨s1, s2, s3, s4⟩ := hs.1
  have hug := hs.2
  have hg := gOf_bd (dg := dg) (by omega)
  have hg' : 1 ≤ gOf dg ∧ gOf dg ≤ 18 := by omega
  have hb0 : 1 + bkt (uOf lo) (gOf dg) hi.toNat ≤ 64 := by
    have := bkt_63 (u := uOf lo) (g := gOf dg) (v := hi.toNat) (by omega) (by omega)
    omega
  have hok := recS_ok (u := uOf lo) (g := gOf dg) (gr := gr) (bu := 1 + bkt (uOf lo) (gOf dg) hi.toNat) (L := L) (W := wtN N) hug hg' hb0 (fun j => (okL j).2) (fun j => by have := wtN_bd N j; omega)
  refine enter (vs := [hagg lo hi dg, .bool gr, .slice lp L.length lc, .slice np N.length nc]) Tryz.func8 rfl rfl rfl hw ?_
  clear hw w
  repeat (first | (refine sx ?_; try intro _))
  refine JO_call Tryz.call31 rfl rfl fun w hw => (Pair_c lo hi dg gr hs hhi w hw).mono ?_
  rintro e w' ⟨pa, pb, h1, m1, b1, h2, m2, b2, ra, rb, rfl, hw'⟩
  refine ⟨_, rfl, pA pa pb h1 m1 b1 h2 m2 b2 ra rb lo hi dg (uOf lo) (gOf dg) gr (1 + bkt (uOf lo) (gOf dg) hi.toNat) ++ H, St.sub (by repeat (first | exact List.Sublist.refl _ | apply List.Sublist.cons_cons | apply List.Sublist.cons)) hw', ?_⟩
  clear hw' hw w w'
  generalize uOf lo = u at *
  generalize gOf dg = g at *
  generalize hbu : 1 + bkt u g hi.toNat = bu at *
  repeat (first | (apply gJR; first | (refine sx ?_; try intro _)) | (apply gJO; first | (refine sx ?_; try intro _)) | (apply gJS; refine JS_condF rfl ?_) | apply JS_skip | apply JS_seq | apply JS_region)
  refine JS_block ?_
  generalize hR : ([vec 29 1 (.slice (some pa) 2 2) 2 [.pointer (some ⟨h1, 0, none⟩), .pointer (some ⟨h2, 0, none⟩)], vec 30 1 (.slice (some pb) 2 2) 2 [.pointer (some ⟨ra, 0, none⟩), .pointer (some ⟨rb, 0, none⟩)],
    blk rb (rc lo hi dg u g gr bu (.slice none 0 0)), blk m1 (mc lo hi dg u g), blk h2 (hc m2 b2 gr bu 0), mapL b2 [] 0, blk m2 (mc lo hi dg u g)] ++ H : List Asn) = R
  have hRa : Rd w0 R (.slice (some pa) 2 2) 2 [.pointer (some ⟨h1, 0, none⟩), .pointer (some ⟨h2, 0, none⟩)] := hR ▸ vec_rd (List.Mem.head _)
  have hRb : Rd w0 R (.slice (some pb) 2 2) 2 [.pointer (some ⟨ra, 0, none⟩), .pointer (some ⟨rb, 0, none⟩)] := hR ▸ vec_rd (List.Mem.tail _ (List.Mem.head _))
  have hRm : blk m1 (mc lo hi dg u g) ∈ R := hR ▸ List.Mem.tail _ (List.Mem.tail _ (List.Mem.tail _ (List.Mem.head _)))
  have hRs : (blk m1 (mc lo hi dg u g) :: H).Sublist R := by rw [← hR]; exact (by repeat (first | exact List.Sublist.refl _ | apply List.Sublist.cons_cons | apply List.Sublist.cons))
  have hL' : Rd w0 R (.slice lp L.length lc) L.length (ints .i64 L) := Rd_weak hL fun w hw => St.sub ((List.sublist_cons_self _ _).trans hRs) hw
  have hN' : Rd w0 R (.slice np N.length nc) N.length (ints .u16 N) := Rd_weak hN fun w hw => St.sub ((List.sublist_cons_self _ _).trans hRs) hw
  clear hL hN
  refine JS_loop5 (fun (i : Nat) (es : List MapEntry) (clock : Nat) (q : Option Addr) (d : Nat) => [(2, .slice lp L.length lc), (3, .slice np N.length nc), (10, .slice (some pa) 2 2), (11, .slice (some pb) 2 2), (12, .int .i64 i)])
    (fun i es clock q d => blk h1 (hc m1 b1 gr (recS u g gr bu L (wtN N) i).1 (sw (recS u g gr bu L (wtN N) i).2)) :: mapL b1 es clock :: blk ra (rc lo hi dg u g gr (recS u g gr bu L (wtN N) i).1 (.slice q (recS u g gr bu L (wtN N) i).2.length d)) :: vec 63 2 (.slice q (recS u g gr bu L (wtN N) i).2.length d) (recS u g gr bu L (wtN N) i).2.length (flat (recS u g gr bu L (wtN N) i).2) :: R)
    (fun i es clock q d => i ≤ min L.length 40 ∧ HM es clock (recS u g gr bu L (wtN N) i).2) (fun i _ _ _ _ => 40 - i) 0 [] 0 none 0 ⟨Nat.zero_le _, HM.nil⟩ (by repeat (first | exact trivial | refine ⟨rfl, ?_⟩ | refine ⟨lookI rfl (by omega), ?_⟩)) (fun w hw => ?_) ?_
  · rw [← hR]
    refine St.perm (St.nilvec (e := 63) (sz := 2) (base := none) hw) ?_
    simp only [recS, sw, List.length_nil, flat]
    (repeat (first | exact List.Perm.refl _ | refine List.Perm.cons _ ?_ | refine (List.perm_middle (l₁ := [_])).trans (List.Perm.cons _ ?_) | refine (List.perm_middle (l₁ := [_, _])).trans (List.Perm.cons _ ?_) | refine (List.perm_middle (l₁ := [_, _, _])).trans (List.Perm.cons _ ?_) | refine (List.perm_middle (l₁ := [_, _, _, _])).trans (List.Perm.cons _ ?_) | refine (List.perm_middle (l₁ := [_, _, _, _, _])).trans (List.Perm.cons _ ?_) | refine (List.perm_middle (l₁ := [_, _, _, _, _, _])).trans (List.Perm.cons _ ?_) | refine (List.perm_middle (l₁ := [_, _, _, _, _, _, _])).trans (List.Perm.cons _ ?_) | refine (List.perm_middle (l₁ := [_, _, _, _, _, _, _, _])).trans (List.Perm.cons _ ?_) | refine (List.perm_middle (l₁ := [_, _, _, _, _, _, _, _, _])).trans (List.Perm.cons _ ?_) | refine (List.perm_middle (l₁ := [_, _, _, _, _, _, _, _, _, _])).trans (List.Perm.cons _ ?_) | refine (List.perm_middle (l₁ := [_, _, _, _, _, _, _, _, _, _, _])).trans (List.Perm.cons _ ?_) | refine (List.perm_middle (l₁ := [_, _, _, _, _, _, _, _, _, _, _, _])).trans (List.Perm.cons _ ?_) | refine (List.perm_middle (l₁ := [_, _, _, _, _, _, _, _, _, _, _, _, _])).trans (List.Perm.cons _ ?_)))
  intro i es clock q d ⟨hi1, hE⟩ again
  obtain ⟨⟨ob, ogt⟩, ol⟩ := hok i
  have hstep : recS u g gr bu L (wtN N) (i + 1) = rec1 u g gr (recS u g gr bu L (wtN N) i) (L.getD i 0) (wtN N i) := rfl
  by_cases hlt : i < L.length ∧ i < 40
  · obtain ⟨hlt1, hlt2⟩ := hlt
    have hok1 := (hok (i + 1))
    rw [hstep] at hok1
    generalize hsi : recS u g gr bu L (wtN N) i = s at *
    obtain ⟨bs, T⟩ := s
    dsimp only at *
    have gL := ints_get (K := .i64) hlt1
    have oLi := okL i
    have hwn := wtN_bd N i
    repeat (first | apply hIx 8 | first | (refine sx ?_; try intro _))
    refine Hold.go ?_
    refine JS_join1 (fun (_ : Unit) => [(2, .slice lp L.length lc), (3, .slice np N.length nc), (10, .slice (some pa) 2 2), (11, .slice (some pb) 2 2), (12, .int .i64 i), (13, .int .u64 (wtN N i))]) (fun _ => blk h1 (hc m1 b1 gr bs (sw T)) :: mapL b1 es clock :: blk ra (rc lo hi dg u g gr bs (.slice q T.length d)) :: vec 63 2 (.slice q T.length d) T.length (flat T) :: R) (fun _ => True) ?_ ?_
    · intro _ _
      generalize wtN N i = wi at *
      repeat (first | apply hIx 10 | first | (refine sx ?_; try intro _))
      refine Hold.go ?_
      refine JS_seq ?_
      refine JS_order2 R [0, 1, 2, 3, 4, 5, 6, 7, 9, 10, 11, 12, 13, 14, 15, 16, 8, 17, 18] [] (fun w hw => St.sub (by repeat (first | exact List.Sublist.refl _ | apply List.Sublist.cons_cons | apply List.Sublist.cons)) hw) (Picks.cons rfl (Picks.cons rfl (Picks.cons rfl (Picks.cons rfl (Picks.cons rfl (Picks.cons rfl (Picks.cons rfl (Picks.cons rfl (Picks.cons rfl (Picks.cons rfl (Picks.cons rfl (Picks.cons rfl (Picks.cons rfl (Picks.cons rfl (Picks.cons rfl (Picks.cons rfl (Picks.cons rfl (Picks.cons rfl (Picks.cons rfl (Picks.nil)))))))))))))))))))) (by kernel_rfl) (by kernel_rfl) rfl (by decide +kernel) ?_
      repeat (first | (apply gQR2; apply QR2_un) | (apply gQO2; refine aQ2 ?_))
      refine QO2_callE Tryz.call25 rfl rfl fun w hw => (HRecord_c h1 m1 b1 gr bs es clock T (List.Mem.tail _ (List.Mem.tail _ hRm)) hug hg' ob hE ogt (L.getD i 0) wi oLi (by omega) w hw).mono ?_
      rintro e w' ⟨rfl, hor⟩
      have hrec : rec1 u g gr (bs, T) (L.getD i 0) wi = if chk u g gr bs (sw T) (L.getD i 0) wi = 0 then (max bs (1 + bkt u g (L.getD i 0).toNat), putT (idx u g (L.getD i 0).toNat) wi T) else (bs, T) := rfl
      rw [hrec] at hok1 hstep
      have hcon2 := fun (a : Asn) (es' : List MapEntry) (clock' : Nat) w hw => RRecord_c (w0 := w0) (lo := lo) (hi := hi) (dg := dg) (u := u) (g := g) (H := a :: mapL b1 es' clock' :: vec 63 2 (.slice q T.length d) T.length (flat T) :: R) ra gr bs q d T (vec_rd (List.Mem.tail _ (List.Mem.tail _ (List.Mem.head _)))) (by omega) hug hg' ob ogt (L.getD i 0) wi oLi (by omega) w hw
      rcases hor with ⟨hne, hw'⟩ | ⟨he0, es', clock', hE', hw'⟩
      · rw [if_neg hne] at hok1 hstep
        generalize chk u g gr bs (sw T) (L.getD i 0) wi = c at *
        refine .inl ⟨_, rfl, R, _, hw', fun w hw => St.sub (by repeat (first | exact List.Sublist.refl _ | apply List.Sublist.cons_cons | apply List.Sublist.cons)) hw, .inl fun w hw => hw, ?_⟩
        clear hw' hw w w'
        repeat (first | (apply gQR2; apply QR2_un) | (apply gQO2; refine aQ2 ?_))
        refine QO2_callE Tryz.call32 rfl rfl fun w hw => (hcon2 _ es clock w (hw.perm (by (repeat (first | exact List.Perm.refl _ | refine List.Perm.cons _ ?_ | refine (List.perm_middle (l₁ := [_])).trans (List.Perm.cons _ ?_) | refine (List.perm_middle (l₁ := [_, _])).trans (List.Perm.cons _ ?_) | refine (List.perm_middle (l₁ := [_, _, _])).trans (List.Perm.cons _ ?_) | refine (List.perm_middle (l₁ := [_, _, _, _])).trans (List.Perm.cons _ ?_) | refine (List.perm_middle (l₁ := [_, _, _, _, _])).trans (List.Perm.cons _ ?_) | refine (List.perm_middle (l₁ := [_, _, _, _, _, _])).trans (List.Perm.cons _ ?_) | refine (List.perm_middle (l₁ := [_, _, _, _, _, _, _])).trans (List.Perm.cons _ ?_) | refine (List.perm_middle (l₁ := [_, _, _, _, _, _, _, _])).trans (List.Perm.cons _ ?_) | refine (List.perm_middle (l₁ := [_, _, _, _, _, _, _, _, _])).trans (List.Perm.cons _ ?_) | refine (List.perm_middle (l₁ := [_, _, _, _, _, _, _, _, _, _])).trans (List.Perm.cons _ ?_) | refine (List.perm_middle (l₁ := [_, _, _, _, _, _, _, _, _, _, _])).trans (List.Perm.cons _ ?_) | refine (List.perm_middle (l₁ := [_, _, _, _, _, _, _, _, _, _, _, _])).trans (List.Perm.cons _ ?_) | refine (List.perm_middle (l₁ := [_, _, _, _, _, _, _, _, _, _, _, _, _])).trans (List.Perm.cons _ ?_)))))).mono ?_
        rintro e w' ⟨rfl, ⟨_, hw'⟩ | ⟨he0, _⟩⟩
        · refine .inl ⟨_, rfl, R, _, hw', fun w hw => St.sub (by repeat (first | exact List.Sublist.refl _ | apply List.Sublist.cons_cons | apply List.Sublist.cons)) hw, .inl fun w hw => hw, ?_⟩
          clear hw' hw w w' hcon2
          repeat (first | (apply gQR2; first | apply QR2_un | apply QR2_nil) | (apply gQO2; refine aQ2 ?_))
          repeat (first | (refine sx ?_; try intro _))
          refine JS_again5 again (i + 1) es clock q d ⟨by omega, by rw [hstep]; exact hE⟩ (by omega) (by repeat (first | exact trivial | refine ⟨rfl, ?_⟩ | refine ⟨lookI rfl (by omega), ?_⟩)) (fun w hw => ?_)
          rw [hstep]
          exact hw.perm (by (repeat (first | exact List.Perm.refl _ | refine List.Perm.cons _ ?_ | refine (List.perm_middle (l₁ := [_])).trans (List.Perm.cons _ ?_) | refine (List.perm_middle (l₁ := [_, _])).trans (List.Perm.cons _ ?_) | refine (List.perm_middle (l₁ := [_, _, _])).trans (List.Perm.cons _ ?_) | refine (List.perm_middle (l₁ := [_, _, _, _])).trans (List.Perm.cons _ ?_) | refine (List.perm_middle (l₁ := [_, _, _, _, _])).trans (List.Perm.cons _ ?_) | refine (List.perm_middle (l₁ := [_, _, _, _, _, _])).trans (List.Perm.cons _ ?_) | refine (List.perm_middle (l₁ := [_, _, _, _, _, _, _])).trans (List.Perm.cons _ ?_) | refine (List.perm_middle (l₁ := [_, _, _, _, _, _, _, _])).trans (List.Perm.cons _ ?_) | refine (List.perm_middle (l₁ := [_, _, _, _, _, _, _, _, _])).trans (List.Perm.cons _ ?_) | refine (List.perm_middle (l₁ := [_, _, _, _, _, _, _, _, _, _])).trans (List.Perm.cons _ ?_) | refine (List.perm_middle (l₁ := [_, _, _, _, _, _, _, _, _, _, _])).trans (List.Perm.cons _ ?_) | refine (List.perm_middle (l₁ := [_, _, _, _, _, _, _, _, _, _, _, _])).trans (List.Perm.cons _ ?_) | refine (List.perm_middle (l₁ := [_, _, _, _, _, _, _, _, _, _, _, _, _])).trans (List.Perm.cons _ ?_))))
        · exact absurd he0 hne
      · rw [if_pos he0] at hok1 hstep
        rw [he0] at hcon2 ⊢
        refine .inl ⟨_, rfl, R, _, hw', fun w hw => St.sub (by repeat (first | exact List.Sublist.refl _ | apply List.Sublist.cons_cons | apply List.Sublist.cons)) hw, .inl fun w hw => hw, ?_⟩
        clear hw' hw w w'
        repeat (first | (apply gQR2; apply QR2_un) | (apply gQO2; refine aQ2 ?_))
        refine QO2_callE Tryz.call32 rfl rfl fun w hw => (hcon2 _ es' clock' w (hw.perm (by (repeat (first | exact List.Perm.refl _ | refine List.Perm.cons _ ?_ | refine (List.perm_middle (l₁ := [_])).trans (List.Perm.cons _ ?_) | refine (List.perm_middle (l₁ := [_, _])).trans (List.Perm.cons _ ?_) | refine (List.perm_middle (l₁ := [_, _, _])).trans (List.Perm.cons _ ?_) | refine (List.perm_middle (l₁ := [_, _, _, _])).trans (List.Perm.cons _ ?_) | refine (List.perm_middle (l₁ := [_, _, _, _, _])).trans (List.Perm.cons _ ?_) | refine (List.perm_middle (l₁ := [_, _, _, _, _, _])).trans (List.Perm.cons _ ?_) | refine (List.perm_middle (l₁ := [_, _, _, _, _, _, _])).trans (List.Perm.cons _ ?_) | refine (List.perm_middle (l₁ := [_, _, _, _, _, _, _, _])).trans (List.Perm.cons _ ?_) | refine (List.perm_middle (l₁ := [_, _, _, _, _, _, _, _, _])).trans (List.Perm.cons _ ?_) | refine (List.perm_middle (l₁ := [_, _, _, _, _, _, _, _, _, _])).trans (List.Perm.cons _ ?_) | refine (List.perm_middle (l₁ := [_, _, _, _, _, _, _, _, _, _, _])).trans (List.Perm.cons _ ?_) | refine (List.perm_middle (l₁ := [_, _, _, _, _, _, _, _, _, _, _, _])).trans (List.Perm.cons _ ?_) | refine (List.perm_middle (l₁ := [_, _, _, _, _, _, _, _, _, _, _, _, _])).trans (List.Perm.cons _ ?_)))))).mono ?_
        rintro e w' ⟨rfl, ⟨hne, _⟩ | ⟨_, q', d', hw'⟩⟩
        · exact absurd rfl hne
        · refine .inl ⟨_, rfl, R, _, hw', fun w hw => St.sub (by repeat (first | exact List.Sublist.refl _ | apply List.Sublist.cons_cons | apply List.Sublist.cons)) hw, .inl fun w hw => hw, ?_⟩
          clear hw' hw w w' hcon2
          repeat (first | (apply gQR2; first | apply QR2_un | apply QR2_nil) | (apply gQO2; refine aQ2 ?_))
          repeat (first | (refine sx ?_; try intro _))
          refine JS_again5 again (i + 1) es' clock' q' d' ⟨by omega, by rw [hstep]; exact hE'⟩ (by omega) (by repeat (first | exact trivial | refine ⟨rfl, ?_⟩ | refine ⟨lookI rfl (by omega), ?_⟩)) (fun w hw => ?_)
          rw [hstep]
          have hz := hw.perm (H' := vec 63 2 (.slice q T.length d) T.length (flat T) :: blk h1 (hc m1 b1 gr (max bs (1 + bkt u g (L.getD i 0).toNat)) (sw T + wi)) :: mapL b1 es' clock' :: blk ra (rc lo hi dg u g gr (max bs (1 + bkt u g (L.getD i 0).toNat)) (.slice q' (putT (idx u g (L.getD i 0).toNat) wi T).length d')) :: vec 63 2 (.slice q' (putT (idx u g (L.getD i 0).toNat) wi T).length d') (putT (idx u g (L.getD i 0).toNat) wi T).length (flat (putT (idx u g (L.getD i 0).toNat) wi T)) :: R) (by (repeat (first | exact List.Perm.refl _ | refine List.Perm.cons _ ?_ | refine (List.perm_middle (l₁ := [_])).trans (List.Perm.cons _ ?_) | refine (List.perm_middle (l₁ := [_, _])).trans (List.Perm.cons _ ?_) | refine (List.perm_middle (l₁ := [_, _, _])).trans (List.Perm.cons _ ?_) | refine (List.perm_middle (l₁ := [_, _, _, _])).trans (List.Perm.cons _ ?_) | refine (List.perm_middle (l₁ := [_, _, _, _, _])).trans (List.Perm.cons _ ?_) | refine (List.perm_middle (l₁ := [_, _, _, _, _, _])).trans (List.Perm.cons _ ?_) | refine (List.perm_middle (l₁ := [_, _, _, _, _, _, _])).trans (List.Perm.cons _ ?_) | refine (List.perm_middle (l₁ := [_, _, _, _, _, _, _, _])).trans (List.Perm.cons _ ?_) | refine (List.perm_middle (l₁ := [_, _, _, _, _, _, _, _, _])).trans (List.Perm.cons _ ?_) | refine (List.perm_middle (l₁ := [_, _, _, _, _, _, _, _, _, _])).trans (List.Perm.cons _ ?_) | refine (List.perm_middle (l₁ := [_, _, _, _, _, _, _, _, _, _, _])).trans (List.Perm.cons _ ?_) | refine (List.perm_middle (l₁ := [_, _, _, _, _, _, _, _, _, _, _, _])).trans (List.Perm.cons _ ?_) | refine (List.perm_middle (l₁ := [_, _, _, _, _, _, _, _, _, _, _, _, _])).trans (List.Perm.cons _ ?_))))
          rw [putT_sw]
          exact hz.drop
    · intro K
      by_cases hw1 : i < N.length
      · have gN := ints_get (K := .u16) hw1
        have oNi := okN i
        have hwe : wtN N i = 1 + N.getD i 0 % 1000 := by unfold wtN; rw [if_pos hw1]
        rw [hwe] at K
        repeat (first | apply hIx 10 | first | (refine sx ?_; try intro _))
        refine Hold.go ?_
        exact JS_weak (K () trivial) (by repeat (first | exact trivial | refine ⟨rfl, ?_⟩ | refine ⟨lookI rfl (by omega), ?_⟩)) (fun w hw => hw)
      · have hwe : wtN N i = 1 := by unfold wtN; rw [if_neg hw1]
        rw [hwe] at K
        repeat (first | apply hIx 10 | first | (refine sx ?_; try intro _))
        refine Hold.go ?_
        exact JS_weak (K () trivial) (by repeat (first | exact trivial | refine ⟨rfl, ?_⟩ | refine ⟨lookI rfl (by omega), ?_⟩)) (fun w hw => hw)
  · clear again
    have him : i = min L.length 40 := by omega
    rw [← him]
    generalize recS u g gr bu L (wtN N) i = s at *
    obtain ⟨bs, T⟩ := s
    dsimp only at *
    by_cases hil : i < L.length
    all_goals (
      repeat (first | (refine sx ?_; try intro _))
      exact JS_ret Tryz.func8 rfl rfl fun w hw => ⟨h1, m1, b1, ra, es, clock, q, d, rfl, hE, St.sub (((((hRs).cons_cons _).cons_cons _).cons_cons _).cons_cons _) hw⟩)
end
end Go.Proofs.YtmnilpjgkjkecaaGreat

namespace Go.Proofs.YtmnilpjgkjkecaaGreat
open Sx Go Hd
set_option linter.unusedVariables false
set_option linter.unusedSimpArgs false
/-! ## ranks among what was recorded (plain) -/
/-- how much is up to x -/
def upS (L : List Int) (W : Nat → Int) (x : Int) : Nat → Int
  | 0 => 0
  | k + 1 => upS L W x k + if 0 ≤ L.getD k 0 ∧ L.getD k 0 ≤ x then W k else 0
/-- the least value whose rank is not less than r; -1: none -/
def rkB (L : List Int) (W : Nat → Int) (m : Nat) (r : Int) : Nat → Int
  | 0 => -1
  | i + 1 => if L.getD i 0 < 0 ∨ (0 ≤ rkB L W m r i ∧ rkB L W m r i ≤ L.getD i 0) then rkB L W m r i else if r ≤ upS L W (L.getD i 0) m then L.getD i 0 else rkB L W m r i
theorem rkB_spec (L : List Int) (W : Nat → Int) (m : Nat) (r : Int) : ∀ i, (rkB L W m r i = -1 ∧ ∀ j, j < i → 0 ≤ L.getD j 0 → upS L W (L.getD j 0) m < r) ∨
    (0 ≤ rkB L W m r i ∧ r ≤ upS L W (rkB L W m r i) m ∧ (∃ j, j < i ∧ L.getD j 0 = rkB L W m r i) ∧ ∀ j, j < i → 0 ≤ L.getD j 0 → r ≤ upS L W (L.getD j 0) m → rkB L W m r i ≤ L.getD j 0)
  | 0 => .inl ⟨rfl, fun j h => absurd h (by omega)⟩
  | i + 1 => by
    have ih := rkB_spec L W m r i
    have hb : rkB L W m r (i + 1) = if L.getD i 0 < 0 ∨ (0 ≤ rkB L W m r i ∧ rkB L W m r i ≤ L.getD i 0) then rkB L W m r i else if r ≤ upS L W (L.getD i 0) m then L.getD i 0 else rkB L W m r i := rfl
    generalize rkB L W m r i = b at *
    generalize hv : L.getD i 0 = v at *
    have hcase : ∀ j, j < i + 1 → j < i ∨ L.getD j 0 = v := fun j hj => by
      rcases Nat.lt_or_ge j i with h | h
      · exact .inl h
      · have : j = i := by omega
        subst this; exact .inr hv
    split at hb
    · rename_i hc
      rw [hb]
      rcases ih with ⟨h1, h2⟩ | ⟨h1, h2, ⟨j0, h3, h4⟩, h5⟩
      · refine .inl ⟨h1, fun j hj h0 => ?_⟩
        rcases hcase j hj with h | h
        · exact h2 j h h0
        · omega
      · refine .inr ⟨h1, h2, ⟨j0, by omega, h4⟩, fun j hj h0 hr => ?_⟩
        rcases hcase j hj with h | h
        · exact h5 j h h0 hr
        · omega
    · rename_i hc
      split at hb
      · rename_i hr
        rw [hb]
        refine .inr ⟨by omega, hr, ⟨i, by omega, hv⟩, fun j hj h0 hr' => ?_⟩
        rcases hcase j hj with h | h
        · rcases ih with ⟨h1, h2⟩ | ⟨h1, h2, h3, h5⟩
          · have := h2 j h h0; omega
          · have := h5 j h h0 hr'; omega
        · omega
      · rename_i hr
        rw [hb]
        rcases ih with ⟨h1, h2⟩ | ⟨h1, h2, ⟨j0, h3, h4⟩, h5⟩
        · refine .inl ⟨h1, fun j hj h0 => ?_⟩
          rcases hcase j hj with h | h
          · exact h2 j h h0
          · rw [h]; omega
        · refine .inr ⟨h1, h2, ⟨j0, by omega, h4⟩, fun j hj h0 hr' => ?_⟩
          rcases hcase j hj with h | h
          · exact h5 j h h0 hr'
          · rw [h] at hr'; omega
/-- how much has a key up to i -/
def cumK (i : Int) : List (Int × Int) → Int
  | [] => 0
  | x :: r => (if x.1 ≤ i then x.2 else 0) + cumK i r
theorem cumK_put {k n i : Int} : ∀ (T : List (Int × Int)), cumK i (putT k n T) = cumK i T + if k ≤ i then n else 0
  | [] => by simp only [putT, cumK]; omega
  | x :: r => by
    rw [putT]
    split
    · rw [cumK, cumK, cumK_put r]; omega
    · split
      · rename_i h1 h2
        simp only [cumK]
        rw [h2]
        split <;> omega
      · simp only [cumK]; omega
theorem cumK_hi {i : Int} : ∀ {T : List (Int × Int)}, (∀ x ∈ T, i < x.1) → cumK i T = 0
  | [], _ => rfl
  | x :: r, h => by
    have := h x (by simp)
    rw [cumK, if_neg (by omega), cumK_hi fun y hy => h y (by simp [hy])]; rfl
theorem cumK_take {T : List (Int × Int)} (hs : Srt T) : ∀ j, j < T.length → cumK (T.getD j (0, 0)).1 T = sw (T.take (j + 1)) := by
  induction T with
  | nil => intro j hj; simp at hj
  | cons x r ih =>
    intro j hj
    obtain ⟨h1, h2⟩ := List.pairwise_cons.1 hs
    cases j with
    | zero =>
      have e : cumK x.1 r = 0 := cumK_hi h1
      show cumK x.1 (x :: r) = _
      rw [cumK, if_pos (Int.le_refl _), e]
      simp [sw]
    | succ j =>
      have hj' : j < r.length := by simpa using hj
      show cumK (r.getD j (0, 0)).1 (x :: r) = _
      rw [cumK, ih h2 j hj', List.take_succ_cons, sw, if_pos]
      have := h1 _ (getD_mem hj')
      omega
/-- below a key: what stands before it -/
theorem cumK_below {T : List (Int × Int)} (hs : Srt T) (hp : ∀ x ∈ T, 0 < x.2) {j : Nat} (hj : j < T.length) {i : Int} (hi : i < (T.getD j (0, 0)).1) : cumK i T ≤ sw (T.take j) := by
  induction T generalizing j with
  | nil => simp at hj
  | cons x r ih =>
    obtain ⟨h1, h2⟩ := List.pairwise_cons.1 hs
    cases j with
    | zero =>
      rw [cumK_hi fun y hy => ?_]
      · simp [sw]
      · rcases List.mem_cons.1 hy with rfl | hy
        · exact hi
        · have := h1 y hy
          have hi' : i < x.1 := hi
          omega
    | succ j =>
      have hj' : j < r.length := by simpa using hj
      have := ih h2 (fun y hy => hp y (by simp [hy])) hj' hi
      have hx := hp x (by simp)
      rw [cumK, List.take_succ_cons, sw]
      split <;> omega
/-- how much of the values that p picks -/
def upP (p : Int → Bool) (L : List Int) (W : Nat → Int) : Nat → Int
  | 0 => 0
  | k + 1 => upP p L W k + if p (L.getD k 0) then W k else 0
theorem upS_eq (L : List Int) (W : Nat → Int) (x : Int) : ∀ m, upS L W x m = upP (fun l => decide (0 ≤ l ∧ l ≤ x)) L W m
  | 0 => rfl
  | m + 1 => by rw [upS, upP, upS_eq L W x m]; simp only [decide_eq_true_eq]
theorem upP_le {p q : Int → Bool} {L : List Int} {W : Nat → Int} (hW : ∀ k, 0 ≤ W k) : ∀ m, (∀ k, k < m → p (L.getD k 0) = true → q (L.getD k 0) = true) → upP p L W m ≤ upP q L W m
  | 0, _ => Int.le_refl _
  | m + 1, h => by
    have h1 := upP_le hW m fun k hk => h k (by omega)
    have h2 := h m (by omega)
    have h3 := hW m
    rw [upP, upP]
    by_cases hp : p (L.getD m 0) = true
    · rw [if_pos hp, if_pos (h2 hp)]; omega
    · rw [if_neg hp]; split <;> omega
def inC (u g : Nat) (z : Int) (l : Int) : Bool := decide (0 ≤ l ∧ ((idx u g l.toNat : Nat) : Int) ≤ z)
/-- the histogram that grows: what its cells tell -/
structure RG (u g : Nat) (L : List Int) (W : Nat → Int) (i : Nat) (T : List (Int × Int)) : Prop where
  tot : sw T ≤ 1000 * i
  key : ∀ x ∈ T, ∃ k, k < i ∧ 0 ≤ L.getD k 0 ∧ x.1 = (idx u g (L.getD k 0).toNat : Nat)
  cum : ∀ z : Int, cumK z T = upP (inC u g z) L W i
theorem chk_grow {u g bu : Nat} {tot v n : Int} (hn : 1 ≤ n) (ht : tot + n ≤ 4611686018427387904) : chk u g true bu tot v n = if v < 0 then 5 else 0 := by
  unfold chk
  rw [if_neg (by omega)]
  by_cases h : v < 0
  · rw [if_pos (.inl h), if_pos h]
  · rw [if_neg (fun h' => h'.elim h (fun h'' => by cases h''.2)), if_neg (by omega), if_neg h]
theorem recS_rg {u g bu : Nat} {L : List Int} {W : Nat → Int} (hW : ∀ j, 1 ≤ W j ∧ W j ≤ 1000) : ∀ i, i ≤ 40 → RG u g L W i (recS u g true bu L W i).2
  | 0, _ => ⟨by simp [recS, sw], fun x hx => absurd hx (by simp [recS]), fun z => rfl⟩
  | i + 1, hi => by
    obtain ⟨h1, h2, h3⟩ := recS_rg (u := u) (g := g) (bu := bu) (L := L) hW i (by omega)
    have hw := hW i
    have e : (recS u g true bu L W (i + 1)) = rec1 u g true (recS u g true bu L W i) (L.getD i 0) (W i) := rfl
    rw [e]
    generalize recS u g true bu L W i = s at *
    unfold rec1
    rw [chk_grow hw.1 (by omega)]
    by_cases h0 : L.getD i 0 < 0
    · rw [if_pos h0, if_neg (by decide)]
      refine ⟨by omega, fun x hx => ?_, fun z => ?_⟩
      · obtain ⟨k, hk, h⟩ := h2 x hx
        exact ⟨k, by omega, h⟩
      · rw [h3 z, upP]
        have : inC u g z (L.getD i 0) = false := decide_eq_false (by omega)
        rw [this]; simp
    · rw [if_neg h0, if_pos rfl]
      refine ⟨?_, fun x hx => ?_, fun z => ?_⟩
      · rw [putT_sw]; omega
      · rcases putT_mem hx with hx | hx
        · obtain ⟨k, hk, h⟩ := h2 x hx
          exact ⟨k, by omega, h⟩
        · exact ⟨i, by omega, by omega, hx⟩
      · rw [cumK_put, h3 z, upP]
        have : inC u g z (L.getD i 0) = decide (((idx u g (L.getD i 0).toNat : Nat) : Int) ≤ z) := by unfold inC; exact decide_eq_decide.2 ⟨fun h => h.2, fun h => ⟨by omega, h⟩⟩
        rw [this]; simp only [decide_eq_true_eq]
theorem RG.ksi {u g : Nat} {L : List Int} {W : Nat → Int} {i : Nat} {T : List (Int × Int)} (h : RG u g L W i T) (hug : u + g ≤ 62) (hg : 1 ≤ g) (hL : ∀ j, L.getD j 0 < 9223372036854775808) : KSI u g T := fun x hx => by
  obtain ⟨k, _, h0, hk⟩ := h.key x hx
  exact ⟨_, hk, idx_is hg hug (by have := hL k; omega)⟩
/-- the greatest of some values -/
theorem exists_max (L : List Int) (p : Int → Bool) : ∀ m, (∃ k, k < m ∧ p (L.getD k 0) = true) → ∃ k, k < m ∧ p (L.getD k 0) = true ∧ ∀ j, j < m → p (L.getD j 0) = true → L.getD j 0 ≤ L.getD k 0
  | 0, h => by obtain ⟨k, hk, _⟩ := h; omega
  | m + 1, h => by
    by_cases hm : ∃ k, k < m ∧ p (L.getD k 0) = true
    · obtain ⟨k, hk, hp, hmax⟩ := exists_max L p m hm
      by_cases hpm : p (L.getD m 0) = true ∧ L.getD k 0 ≤ L.getD m 0
      · refine ⟨m, by omega, hpm.1, fun j hj hpj => ?_⟩
        rcases Nat.lt_or_ge j m with h' | h'
        · have := hmax j h' hpj; omega
        · have : j = m := by omega
          subst this; omega
      · refine ⟨k, by omega, hp, fun j hj hpj => ?_⟩
        rcases Nat.lt_or_ge j m with h' | h'
        · exact hmax j h' hpj
        · have : j = m := by omega
          subst this
          have : ¬ L.getD k 0 ≤ L.getD j 0 := fun h => hpm ⟨hpj, h⟩
          omega
    · obtain ⟨k, hk, hp⟩ := h
      have : k = m := by
        rcases Nat.lt_or_ge k m with h' | h'
        · exact absurd ⟨k, h', hp⟩ hm
        · omega
      subst this
      refine ⟨k, hk, hp, fun j hj hpj => ?_⟩
      rcases Nat.lt_or_ge j k with h' | h'
      · exact absurd ⟨j, h', hpj⟩ hm
      · have : j = k := by omega
        subst this; omega
/-- the value of a rank lies in the cell of that rank -/
theorem rank_cell {u g : Nat} {L : List Int} {W : Nat → Int} {m : Nat} {T : List (Int × Int)} (h : RG u g L W m T) (hG : GT T) (hg : 1 ≤ g) (hW : ∀ k, 0 ≤ W k) {r : Int} {k : Nat} (hr1 : 1 ≤ r) (hr : r ≤ sw T) (hT : T ≠ []) (hk : KY T r k) :
    0 ≤ rkB L W m r m ∧ (∃ j, j < m ∧ L.getD j 0 = rkB L W m r m) ∧ idx u g (rkB L W m r m).toNat = k := by
  obtain ⟨j, hj, h1, h2, h3⟩ : ∃ j, j < T.length ∧ (j = 0 ∨ sw (T.take j) < r) ∧ r ≤ sw (T.take (j + 1)) ∧ (k : Int) = (T.getD j (0, 0)).1 := by
    rcases hk with ⟨i, a, b, c, d⟩ | ⟨a, _⟩
    · exact ⟨i, a, b, c, d⟩
    · have hp := List.length_pos_iff.2 hT
      have := a (T.length - 1) (by omega)
      rw [show T.length - 1 + 1 = T.length by omega, List.take_length] at this
      omega
  rw [← cumK_take hG.srt j hj, ← h3, h.cum] at h2
  obtain ⟨q, hq1, hq2, hq3⟩ := h.key _ (getD_mem hj)
  rw [← h3] at hq3
  obtain ⟨mx, hm1, hm2, hm3⟩ := exists_max L (inC u g k) m ⟨q, hq1, decide_eq_true ⟨hq2, by omega⟩⟩
  have hm2' := of_decide_eq_true hm2
  have hup : r ≤ upS L W (L.getD mx 0) m := by
    refine Int.le_trans h2 ?_
    rw [upS_eq]
    refine upP_le hW m fun i hi hp => ?_
    have := of_decide_eq_true hp
    exact decide_eq_true ⟨this.1, hm3 i hi hp⟩
  rcases rkB_spec L W m r m with ⟨_, hno⟩ | ⟨hv0, hv1, ⟨i, hi, hiv⟩, hv2⟩
  · have := hno mx hm1 hm2'.1; omega
  · refine ⟨hv0, ⟨i, hi, hiv⟩, ?_⟩
    have hle := hv2 mx hm1 hm2'.1 hup
    have a1 : idx u g (rkB L W m r m).toNat ≤ k := by
      have := idx_mono (u := u) hg (show (rkB L W m r m).toNat ≤ (L.getD mx 0).toNat by omega)
      omega
    have a2 : k ≤ idx u g (rkB L W m r m).toNat := by
      refine Nat.le_of_not_lt fun hlt => ?_
      -- all that is up to the value has a lesser key
      have b1 : upS L W (rkB L W m r m) m ≤ cumK (idx u g (rkB L W m r m).toNat : Nat) T := by
        rw [h.cum, upS_eq]
        refine upP_le hW m fun i hi hp => ?_
        have hp := of_decide_eq_true hp
        have := idx_mono (u := u) hg (show (L.getD i 0).toNat ≤ (rkB L W m r m).toNat by omega)
        exact decide_eq_true ⟨hp.1, by omega⟩
      have b2 := cumK_below hG.srt hG.pos hj (i := (idx u g (rkB L W m r m).toNat : Nat)) (by rw [← h3]; omega)
      rcases h1 with rfl | h1
      · have b3 : cumK (idx u g (rkB L W m r m).toNat : Nat) T = 0 := cumK_hi fun y hy => by
          obtain ⟨i, hi, rfl⟩ := List.getElem_of_mem hy
          have e0 : (k : Int) = (T.getD 0 (0, 0)).1 := h3
          rw [List.getD_eq_getElem?_getD, List.getElem?_eq_getElem hj] at e0
          rcases Nat.eq_zero_or_pos i with rfl | hi0
          · have e0 : (k : Int) = T[0].1 := e0
            omega
          · have := List.pairwise_iff_getElem.1 hG.srt 0 i hj hi hi0
            have e0 : (k : Int) = T[0].1 := e0
            omega
        omega
      · omega
    omega
/-- the end of a value's cell is as near beyond it as the digits say -/
theorem cell_near {u g v d : Nat} (hg : 1 ≤ g) (hd : 10 ^ d ≤ 2 ^ (g - 1)) : v ≤ hiI u g (idx u g v) ∧ (hiI u g (idx u g v) - v < 2 ^ u ∨ hiI u g (idx u g v) - v ≤ (v - 1) / 10 ^ d) := by
  have e : hiI u g (idx u g v) = low u g v + (siz u g v - 1) := by
    unfold hiI
    rw [idx_val hg]
    unfold siz
    rw [low_bkt hg]
  have h1 := low_hi u g v
  have h2 := low_le u g v
  have h3 : 0 < siz u g v := p2pos _
  refine ⟨by omega, ?_⟩
  rcases Nat.eq_zero_or_pos (bkt u g v) with h0 | h0
  · left
    have : siz u g v = 2 ^ u := by unfold siz; rw [h0, Nat.zero_add]
    omega
  · right
    have h4 := cel_ge (u := u) hg h0
    have h5 : 2 ^ (g - 1) * siz u g v ≤ v := Nat.le_trans (Nat.mul_le_mul_right _ h4) (Nat.div_mul_le_self _ _)
    have h6 : 10 ^ d * siz u g v ≤ v := Nat.le_trans (Nat.mul_le_mul_right _ hd) h5
    have h7 : siz u g v - 1 ≤ (v - 1) / 10 ^ d := by
      have hp : 0 < 10 ^ d := Nat.pow_pos (by decide)
      rw [Nat.le_div_iff_mul_le hp, Nat.sub_mul, Nat.mul_comm (siz u g v)]
      omega
    omega
end Go.Proofs.YtmnilpjgkjkecaaGreat

namespace Go.Proofs.YtmnilpjgkjkecaaGreat
open Sx Go Hd
set_option linter.unusedVariables false
set_option linter.unusedSimpArgs false
/-! ## equality of pairs, and of shapes -/
theorem fieldsPair : (Tryz.prog.fieldsOf 63).toList = [⟨"Key", 3, 0, false, "", "", 0⟩, ⟨"N", 22, 1, false, "", "", 8⟩] := by kernel_rfl
theorem fieldsHdr : (Tryz.prog.fieldsOf 27).toList = [⟨"Lowest", 2, 0, false, "", "", 0⟩, ⟨"Highest", 2, 1, false, "", "", 8⟩, ⟨"Digits", 3, 2, false, "", "", 16⟩] := by kernel_rfl
theorem part1 {t : Nat} {l : List Value} {i : Nat} {v : Value} (h : Tryz.prog.plainKey t = true) (hv : l[i]? = some v) (w : World) : (part t l.toArray i).run Tryz.prog w = .ok v w :=
  run_part_plain (P := Tryz.prog) (w := w) (e := t) h (xs := l.toArray) (off := i) (by simpa using hv)
theorem eqPair (a b c d : Int) (w : World) : (Op.eqFields 9999 [Value.int .i64 a, .int .u64 b].toArray [Value.int .i64 c, .int .u64 d].toArray (Tryz.prog.fieldsOf 63).toList).run Tryz.prog w = .ok (decide (a = c) && decide (b = d)) w := by
  have e1 : (Op.equalIn 9999 3 (.int .i64 a) (.int .i64 c)).run Tryz.prog w = .ok (a == c) w := run_equalIn_int (P := Tryz.prog) w 9998 3 .i64 .i64 a c (und_int (tb := tb) (t := 3) rfl)
  have e2 : (Op.equalIn 9999 22 (.int .u64 b) (.int .u64 d)).run Tryz.prog w = .ok (b == d) w := run_equalIn_int (P := Tryz.prog) w 9998 22 .u64 .u64 b d (und_int (tb := tb) (t := 22) rfl)
  have k3 : Tryz.prog.plainKey 3 = true := by kernel_rfl
  have k22 : Tryz.prog.plainKey 22 = true := by kernel_rfl
  rw [fieldsPair]
  have p1 := part1 (l := [Value.int .i64 a, .int .u64 b]) (i := 0) k3 rfl w
  have p2 := part1 (l := [Value.int .i64 a, .int .u64 b]) (i := 1) k22 rfl w
  have p3 := part1 (l := [Value.int .i64 c, .int .u64 d]) (i := 0) k3 rfl w
  have p4 := part1 (l := [Value.int .i64 c, .int .u64 d]) (i := 1) k22 rfl w
  have n1 : ("Key" : String) ≠ "_" := by decide
  have n2 : ("N" : String) ≠ "_" := by decide
  simp only [Op.eqFields, n1, n2, ne_eq, not_false_eq_true, if_true, Sem.run_bind, p1, p2, p3, p4, e1, e2, Result.andThen_ok, Sem.run_ite, Sem.run_pure]
  by_cases h1 : a = c <;> by_cases h2 : b = d <;> simp [h1, h2]
theorem eqHdr (a b c a' b' c' : Int) (w : World) : (Op.eqFields 9999 [Value.int .i64 a, .int .i64 b, .int .i64 c].toArray [Value.int .i64 a', .int .i64 b', .int .i64 c'].toArray (Tryz.prog.fieldsOf 27).toList).run Tryz.prog w = .ok (decide (a = a') && (decide (b = b') && decide (c = c'))) w := by
  have e1 : (Op.equalIn 9999 2 (.int .i64 a) (.int .i64 a')).run Tryz.prog w = .ok (a == a') w := run_equalIn_int (P := Tryz.prog) w 9998 2 .i64 .i64 a a' (und_int (tb := tb) (t := 2) rfl)
  have e2 : (Op.equalIn 9999 2 (.int .i64 b) (.int .i64 b')).run Tryz.prog w = .ok (b == b') w := run_equalIn_int (P := Tryz.prog) w 9998 2 .i64 .i64 b b' (und_int (tb := tb) (t := 2) rfl)
  have e3 : (Op.equalIn 9999 3 (.int .i64 c) (.int .i64 c')).run Tryz.prog w = .ok (c == c') w := run_equalIn_int (P := Tryz.prog) w 9998 3 .i64 .i64 c c' (und_int (tb := tb) (t := 3) rfl)
  have k3 : Tryz.prog.plainKey 3 = true := by kernel_rfl
  have k2 : Tryz.prog.plainKey 2 = true := by kernel_rfl
  rw [fieldsHdr]
  have p1 := part1 (l := [Value.int .i64 a, .int .i64 b, .int .i64 c]) (i := 0) k2 rfl w
  have p2 := part1 (l := [Value.int .i64 a, .int .i64 b, .int .i64 c]) (i := 1) k2 rfl w
  have p3 := part1 (l := [Value.int .i64 a, .int .i64 b, .int .i64 c]) (i := 2) k3 rfl w
  have p4 := part1 (l := [Value.int .i64 a', .int .i64 b', .int .i64 c']) (i := 0) k2 rfl w
  have p5 := part1 (l := [Value.int .i64 a', .int .i64 b', .int .i64 c']) (i := 1) k2 rfl w
  have p6 := part1 (l := [Value.int .i64 a', .int .i64 b', .int .i64 c']) (i := 2) k3 rfl w
  have n1 : ("Lowest" : String) ≠ "_" := by decide
  have n2 : ("Highest" : String) ≠ "_" := by decide
  have n3 : ("Digits" : String) ≠ "_" := by decide
  simp only [Op.eqFields, n1, n2, n3, ne_eq, not_false_eq_true, if_true, Sem.run_bind, p1, p2, p3, p4, p5, p6, e1, e2, e3, Result.andThen_ok, Sem.run_ite, Sem.run_pure]
  by_cases h1 : a = a' <;> by_cases h2 : b = b' <;> by_cases h3 : c = c' <;> simp [h1, h2, h3]
theorem uPair : Tryz.prog.underlying 63 = some (.struct (Tryz.prog.fieldsOf 63)) := by kernel_rfl
theorem hPair : Tryz.prog.stoodInHeld 63 = false := by kernel_rfl
theorem mPair : Tryz.prog.eqGuardType Tryz.prog.depth 63 = false := by kernel_rfl
theorem uHdr : Tryz.prog.underlying 27 = some (.struct (Tryz.prog.fieldsOf 27)) := by kernel_rfl
theorem hHdr : Tryz.prog.stoodInHeld 27 = false := by kernel_rfl
theorem mHdr : Tryz.prog.eqGuardType Tryz.prog.depth 27 = false := by kernel_rfl
section
variable {D : List Deferred} {w0 : World} {H : List Asn} {ov : Ov} {n : Nat} {d : Option Nat} {x y : Operand} {T T2 : Nat} {pos : String} {af : Array Edge} {g : Option (Nat × Bool)}
theorem V_nePair {a b a' b' : Int} {r : Bool} (hx : ev ov x = some (.agg #[.int .i64 a, .int .u64 b])) (hy : ev ov y = some (.agg #[.int .i64 a', .int .u64 b'])) (hr : (!(decide (a = a') && decide (b = b'))) = r) (hd : dOk d n = true) :
    OpV Tryz.prog n D w0 ov H ⟨d, .binOp .neq 63 x y T2, T, pos, af, g⟩ (.bool r) := by
  have := V_eqS (P := Tryz.prog) (w0 := w0) (D := D) (H := H) (T := T) (T2 := T2) (pos := pos) (af := af) (g := g) (.inr rfl) hx hy uPair hPair mPair (eqPair a b a' b') hd
  simp only [hr] at this; exact this
theorem V_neHdr {a b c a' b' c' : Int} {r : Bool} (hx : ev ov x = some (hagg a b c)) (hy : ev ov y = some (hagg a' b' c')) (hr : (!(decide (a = a') && (decide (b = b') && decide (c = c')))) = r) (hd : dOk d n = true) :
    OpV Tryz.prog n D w0 ov H ⟨d, .binOp .neq 27 x y T2, T, pos, af, g⟩ (.bool r) := by
  have := V_eqS (P := Tryz.prog) (w0 := w0) (D := D) (H := H) (T := T) (T2 := T2) (pos := pos) (af := af) (g := g) (.inr rfl) hx hy uHdr hHdr mHdr (eqHdr a b c a' b' c') hd
  simp only [hr] at this; exact this
theorem V_eqHdr {a b c a' b' c' : Int} {r : Bool} (hx : ev ov x = some (hagg a b c)) (hy : ev ov y = some (hagg a' b' c')) (hr : (decide (a = a') && (decide (b = b') && decide (c = c'))) = r) (hd : dOk d n = true) :
    OpV Tryz.prog n D w0 ov H ⟨d, .binOp .eql 27 x y T2, T, pos, af, g⟩ (.bool r) := by
  have := V_eqS (P := Tryz.prog) (w0 := w0) (D := D) (H := H) (T := T) (T2 := T2) (pos := pos) (af := af) (g := g) (.inl rfl) hx hy uHdr hHdr mHdr (eqHdr a b c a' b' c') hd
  simp only [hr] at this; exact this
end
section
variable {w0 : World} {H : List Asn} {lo hi dg : Int} {u g : Nat}
set_option maxRecDepth 10000 in
set_option maxHeartbeats 2000000 in
/-- the ends of the cell with an index -/
theorem REnds_c (b : Nat) (gr : Bool) (bu : Nat) (v : Value) (hh : blk b (rc lo hi dg u g gr bu v) ∈ H) (hug : u + g ≤ 62) (hg : 1 ≤ g ∧ g ≤ 18) (k : Nat) (hk : isI u g k) (w : World) (hw : St w0 H w) :
    Calls Tryz.prog 12 #[.pointer (some ⟨b, 0, none⟩), .int .i64 k] w fun e w' => e = .returned (.tuple #[.int .i64 (ival u g k : Nat), .int .i64 (hiI u g k : Nat)]) ∧ St w0 H w' := by
  have hkb := isI_bd hug hg hk
  have hiv := ival_lt hk
  have hhl := hiI_lt hug hg.1 hk
  have hsz : 0 < siz u g (ival u g k) := p2pos _
  have hhi : hiI u g k = ival u g k + (siz u g (ival u g k) - 1) := rfl
  have hV := fun {H} w hw => RValue_c (w0 := w0) (H := H) hug hg k (by omega) w hw
  rw [if_pos hk] at hV
  have hC := fun {H} w hw => RCell_c (w0 := w0) (H := H) hug hg.1 (ival u g k) hiv w hw
  rw [(ival_idx hg.1 hk).2] at hC
  refine enter (vs := [.pointer (some ⟨b, 0, none⟩), .int .i64 k]) Tryz.func12 rfl rfl rfl hw ?_
  clear hw w
  repeat (first | (apply gJO; first | refine JO_v (oL (V_load (tb := tb) rfl hh rfl rfl rfl rfl)) ?_) | (apply gQO; first | refine QO_v rfl (oL (V_load (tb := tb) rfl hh rfl rfl rfl rfl)) ?_) | first | (refine sx ?_; try intro _))
  refine QO_call Tryz.call39 rfl rfl fun w hw => (hV w hw).mono ?_
  rintro e w' ⟨rfl, hw'⟩
  (refine ⟨_, rfl, _, hw', .inl fun w hw => hw, ?_⟩; clear hw' hw w w')
  generalize ival u g k = x at *
  repeat (first | (apply gJO; first | refine JO_v (oL (V_load (tb := tb) rfl hh rfl rfl rfl rfl)) ?_) | (apply gQO; first | refine QO_v rfl (oL (V_load (tb := tb) rfl hh rfl rfl rfl rfl)) ?_) | first | (refine sx ?_; try intro _))
  refine QO_call Tryz.call40 rfl rfl fun w hw => (hC w hw).mono ?_
  rintro e w' ⟨rfl, hw'⟩
  (refine ⟨_, rfl, _, hw', .inl fun w hw => hw, ?_⟩; clear hw' hw w w')
  generalize siz u g x = z at *
  have c1 : IntKind.i64.wrap ((z : Int) - 1) = ((z - 1 : Nat) : Int) := (wi64 (by omega)).trans (by omega)
  have c2 : IntKind.i64.wrap ((x : Int) + ((z - 1 : Nat) : Int)) = (hiI u g k : Nat) := (wi64 (by omega)).trans (by omega)
  repeat (first | (apply gJO; first | refine JO_v (V_sub rfl rfl c1 rfl) ?_ | refine JO_v (V_add rfl rfl c2 rfl) ?_) | first | (refine sx ?_; try intro _))
  exact JS_ret Tryz.func12 rfl rfl fun w hw => ⟨rfl, hw⟩
end
end Go.Proofs.YtmnilpjgkjkecaaGreat

namespace Go.Proofs.YtmnilpjgkjkecaaGreat
open Sx Go Hd
set_option linter.unusedVariables false
set_option linter.unusedSimpArgs false
section
variable {w0 : World} {H : List Asn} {lo hi dg : Int} {u g : Nat}
set_option maxRecDepth 10000 in
theorem PickM_c (q : Option Addr) (d : Nat) (T : List (Int × Int)) (hr : Rd w0 H (.slice q T.length d) T.length (flat T)) (hT : 0 < T.length) (hl : T.length ≤ 1000000) (w : World) (hw : St w0 H w) :
    Calls Tryz.prog 91 #[.slice q T.length d] w fun e w' => e = .returned (.agg #[.int .i64 (T.getD (T.length - 1) (0, 0)).1, .int .u64 (T.getD (T.length - 1) (0, 0)).2]) ∧ St w0 H w' := by
  have hat := flat_seg T (T.length - 1) (by omega)
  have c1 : IntKind.i64.wrap ((T.length : Int) - 1) = ((T.length - 1 : Nat) : Int) := (wi64 (by omega)).trans (by omega)
  refine enter (vs := [.slice q T.length d]) Tryz.func91 rfl rfl rfl hw ?_
  clear hw w
  generalize T.getD (T.length - 1) (0, 0) = x at *
  repeat (first | (apply gJO; first | refine JO_v (V_sub rfl rfl c1 rfl) ?_ | refine JO_v (oIA (V_index (tb := tb) rfl rfl rfl rfl (Rd.sl (Rd_weak hr fun w hw => St.sub (by repeat (first | exact List.Sublist.refl _ | apply List.Sublist.cons_cons | apply List.Sublist.cons)) hw)) (by omega) rfl rfl)) ?_ | refine JO_v (oL (V_loadCA (tb := tb) rfl (Rd_weak hr fun w hw => St.sub (by repeat (first | exact List.Sublist.refl _ | apply List.Sublist.cons_cons | apply List.Sublist.cons)) hw) rfl rfl rfl (by decide) hat rfl)) ?_) | first | (refine sx ?_; try intro _))
  refine JS_retC Tryz.func91 rfl (by first | exact ResV.agg (tb := tb) rfl (by repeat (first | apply List.Mem.head | apply List.Mem.tail)) rfl rfl rfl ResV.nil | exact ResV.agg (tb := tb) rfl (by repeat (first | apply List.Mem.head | apply List.Mem.tail)) rfl rfl rfl (ResV.tmp rfl ResV.nil) | exact ResV.agg (tb := tb) rfl (by repeat (first | apply List.Mem.head | apply List.Mem.tail)) rfl rfl rfl (ResV.tmp rfl (ResV.tmp rfl ResV.nil)) | exact ResV.one (tb := tb) rfl (by repeat (first | apply List.Mem.head | apply List.Mem.tail)) rfl rfl rfl ResV.nil | exact ResV.one (tb := tb) rfl (by repeat (first | apply List.Mem.head | apply List.Mem.tail)) rfl rfl rfl (ResV.tmp rfl ResV.nil) | exact ResV.one (tb := tb) rfl (by repeat (first | apply List.Mem.head | apply List.Mem.tail)) rfl rfl rfl (ResV.one (tb := tb) rfl (by repeat (first | apply List.Mem.head | apply List.Mem.tail)) rfl rfl rfl ResV.nil) | exact ResV.tmp rfl (ResV.agg (tb := tb) rfl (by repeat (first | apply List.Mem.head | apply List.Mem.tail)) rfl rfl rfl ResV.nil) | exact ResV.tmp rfl (ResV.one (tb := tb) rfl (by repeat (first | apply List.Mem.head | apply List.Mem.tail)) rfl rfl rfl ResV.nil)) ?_
  intro w hw
  exact ⟨rfl, St.sub (by repeat (first | exact List.Sublist.refl _ | apply List.Sublist.cons_cons | apply List.Sublist.cons)) hw⟩
set_option maxRecDepth 10000 in
set_option maxHeartbeats 2000000 in
/-- an end of a picked cell -/
theorem HEnd_c (bh mb bm : Nat) (gr : Bool) (bu : Nat) (tot : Int) (es : List MapEntry) (clock : Nat) (T : List (Int × Int)) (hh : blk bh (hc mb bm gr bu tot) ∈ H) (hm : mapL bm es clock ∈ H) (hM : blk mb (mc lo hi dg u g) ∈ H) (hE : HM es clock T) (hG : GT T) (hug : u + g ≤ 62) (hg : 1 ≤ g ∧ g ≤ 18) (hl : T.length ≤ 1000000)
    (pk of : Nat) (k : Nat) (n z : Int) (epk : ∀ args w, (callFunc pk args).run Tryz.prog w = .ok (.enter pk args) w) (eof : ∀ args w, (callFunc of args).run Tryz.prog w = .ok (.enter of args) w) (hk : T ≠ [] → isI u g k)
    (hpk : ∀ q d w, T ≠ [] → St w0 (vec 63 2 (.slice q T.length d) T.length (flat T) :: H) w → Calls Tryz.prog pk #[.slice q T.length d] w fun e w' => e = .returned (.agg #[.int .i64 k, .int .u64 n]) ∧ St w0 (vec 63 2 (.slice q T.length d) T.length (flat T) :: H) w')
    (hof : ∀ q d w, T ≠ [] → St w0 (vec 63 2 (.slice q T.length d) T.length (flat T) :: H) w → Calls Tryz.prog of #[.pointer (some ⟨mb, 0, none⟩), .int .i64 (ival u g k : Nat)] w fun e w' => e = .returned (.tuple #[.int .i64 z, .int .i64 0]) ∧ St w0 (vec 63 2 (.slice q T.length d) T.length (flat T) :: H) w')
    (w : World) (hw : St w0 H w) :
    Calls Tryz.prog 90 #[.pointer (some ⟨bh, 0, none⟩), .func (.func pk) #[] #[], .func (.func of) #[.pointer (some ⟨mb, 0, none⟩)] #[]] w fun e w' => e = .returned (if T = [] then .tuple #[.int .i64 0, .int .i64 8] else .tuple #[.int .i64 z, .int .i64 0]) ∧ St w0 H w' := by
  refine enter (vs := [.pointer (some ⟨bh, 0, none⟩), .func (.func pk) #[] #[], .func (.func of) #[.pointer (some ⟨mb, 0, none⟩)] #[]]) Tryz.func90 rfl rfl rfl hw ?_
  clear hw w
  repeat (first | (refine sx ?_; try intro _))
  refine JO_call Tryz.call71 rfl rfl fun w hw => (HPairs_c bh mb bm gr bu tot es clock T hh hm hE hG.srt hG.key hl w hw).mono ?_
  rintro e w' ⟨q, d, rfl, hw'⟩
  (refine ⟨_, rfl, _, hw', ?_⟩; clear hw' hw w w')
  by_cases hT : T = []
  · rw [if_pos hT]
    have hlen : T.length = 0 := by rw [hT]; rfl
    repeat (first | (refine sx ?_; try intro _))
    exact JS_ret Tryz.func90 rfl rfl fun w hw => ⟨rfl, hw.drop⟩
  · rw [if_neg hT]
    have hlen := List.length_pos_iff.2 hT
    have hk' := hk hT
    have hkb := isI_bd hug hg hk'
    repeat (first | (apply gQO; first | refine QO_v rfl (oL (V_load (tb := tb) rfl (List.Mem.tail _ hh) rfl rfl rfl rfl)) ?_ | refine QO_v rfl (V_fieldV (tb := tb) rfl rfl rfl rfl rfl rfl rfl) ?_) | first | (refine sx ?_; try intro _))
    refine QO_callv (us := []) (cs := []) rfl rfl epk rfl rfl fun w hw => (hpk q d w hT hw).mono ?_
    rintro e w' ⟨rfl, hw'⟩
    (refine ⟨_, rfl, _, hw', .inl fun w hw => hw, ?_⟩; clear hw' hw w w')
    repeat (first | (apply gQO; first | refine QO_v rfl (oL (V_load (tb := tb) rfl (List.Mem.tail _ hh) rfl rfl rfl rfl)) ?_ | refine QO_v rfl (V_fieldV (tb := tb) rfl rfl rfl rfl rfl rfl rfl) ?_) | first | (refine sx ?_; try intro _))
    refine QO_call Tryz.call35 rfl rfl fun w hw => (MValue_c mb (List.Mem.tail _ hM) hug hg k (by omega) w hw).mono ?_
    rw [if_pos hk']
    rintro e w' ⟨rfl, hw'⟩
    (refine ⟨_, rfl, _, hw', .inl fun w hw => hw, ?_⟩; clear hw' hw w w')
    have hiv := ival_lt hk'
    repeat (first | (apply gQO; first | refine QO_v rfl (oL (V_load (tb := tb) rfl (List.Mem.tail _ hh) rfl rfl rfl rfl)) ?_ | refine QO_v rfl (V_fieldV (tb := tb) rfl rfl rfl rfl rfl rfl rfl) ?_) | first | (refine sx ?_; try intro _))
    refine JO_callv (us := [.pointer (some ⟨mb, 0, none⟩)]) (cs := []) rfl eof rfl rfl fun w hw => (hof q d w hT hw).mono ?_
    rintro e w' ⟨rfl, hw'⟩
    (refine ⟨_, rfl, _, hw', ?_⟩; clear hw' hw w w')
    repeat (first | (refine sx ?_; try intro _))
    exact JS_ret Tryz.func90 rfl rfl fun w hw => ⟨rfl, hw.drop⟩
/-- the least and the greatest key, as cells -/
def kLo (T : List (Int × Int)) : Nat := (T.getD 0 (0, 0)).1.toNat
def kHi (T : List (Int × Int)) : Nat := (T.getD (T.length - 1) (0, 0)).1.toNat
theorem KSI.at {u g : Nat} {T : List (Int × Int)} (h : KSI u g T) {i : Nat} (hi : i < T.length) : (T.getD i (0, 0)).1 = ((T.getD i (0, 0)).1.toNat : Nat) ∧ isI u g (T.getD i (0, 0)).1.toNat := by
  obtain ⟨k, h1, h2⟩ := h _ (getD_mem hi)
  rw [h1, Int.toNat_natCast]
  exact ⟨rfl, h2⟩
set_option maxRecDepth 10000 in
theorem HMost_c (bh mb bm : Nat) (gr : Bool) (bu : Nat) (tot : Int) (es : List MapEntry) (clock : Nat) (T : List (Int × Int)) (hh : blk bh (hc mb bm gr bu tot) ∈ H) (hm : mapL bm es clock ∈ H) (hM : blk mb (mc lo hi dg u g) ∈ H) (hE : HM es clock T) (hG : GT T) (hK : KSI u g T) (hug : u + g ≤ 62) (hg : 1 ≤ g ∧ g ≤ 18) (hl : T.length ≤ 1000000) (w : World) (hw : St w0 H w) :
    Calls Tryz.prog 57 #[.pointer (some ⟨bh, 0, none⟩)] w fun e w' => e = .returned (if T = [] then .tuple #[.int .i64 0, .int .i64 8] else .tuple #[.int .i64 (hiI u g (kHi T) : Nat), .int .i64 0]) ∧ St w0 H w' := by
  refine enter (vs := [.pointer (some ⟨bh, 0, none⟩)]) Tryz.func57 rfl rfl rfl hw ?_
  clear hw w
  have hle : T ≠ [] → T.length - 1 < T.length := fun hT => by have := List.length_pos_iff.2 hT; omega
  repeat (first | (apply gJO; first | refine JO_v (oL (V_load (tb := tb) rfl hh rfl rfl rfl rfl)) ?_ | refine JO_v (V_fieldV (tb := tb) rfl rfl rfl rfl rfl rfl rfl) ?_) | first | (refine sx ?_; try intro _))
  refine JO_call Tryz.call90 rfl rfl fun w hw => (HEnd_c bh mb bm gr bu tot es clock T hh hm hM hE hG hug hg hl _ _ (kHi T) (T.getD (T.length - 1) (0, 0)).2 (hiI u g (kHi T) : Nat) Tryz.call91 Tryz.call36 (fun hT => (hK.at (hle hT)).2)
    (fun q d w hT hw => (PickM_c q d T (vec_rd (List.Mem.head _)) (List.length_pos_iff.2 hT) hl w hw).mono fun e w' ⟨he, hw'⟩ => ⟨by rw [he, (hK.at (hle hT)).1]; rfl, hw'⟩)
    (fun q d w hT hw => (MHigh_c mb (List.Mem.tail _ hM) hug hg.1 (ival u g (kHi T)) (ival_lt (hK.at (hle hT)).2) w hw).mono fun e w' ⟨he, hw'⟩ => ⟨by rw [he, show low u g (ival u g (kHi T)) = ival u g (kHi T) from (ival_idx hg.1 (hK.at (hle hT)).2).2]; rfl, hw'⟩) w hw).mono ?_
  rintro e w' ⟨rfl, hw'⟩
  (refine ⟨_, rfl, _, hw', ?_⟩; clear hw' hw w w')
  split
  all_goals (
    repeat (first | (refine sx ?_; try intro _))
    exact JS_ret Tryz.func57 rfl rfl fun w hw => ⟨rfl, hw⟩)
end
end Go.Proofs.YtmnilpjgkjkecaaGreat
