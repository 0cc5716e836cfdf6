/- The walk: the element with which bytes begin. -/
import Derived.Test.YthohienbmhohjaaW23
namespace Go.Proofs.Ythohienbmhohjaa
open Go.RowKit

theorem SizeRes.of_some {r : List UInt8} {e : Ending} {m k : Nat} (h : SizeRes r e) (hs : sizeS r = some (m, k)) : e = .returned (.tuple #[.int .i64 m, .int .i64 k, .bool true]) := by
  rcases h with ⟨m', k', h1, h2⟩ | ⟨h1, -⟩
  · rw [hs] at h1; simp at h1; obtain ⟨rfl, rfl⟩ := h1; exact h2
  · rw [hs] at h1; cases h1
theorem SizeRes.of_none {r : List UInt8} {e : Ending} (h : SizeRes r e) (hs : sizeS r = none) : ∃ m k : Int, e = .returned (.tuple #[.int .i64 m, .int .i64 k, .bool false]) ∧ 0 ≤ m ∧ m ≤ 65535 ∧ 0 ≤ k ∧ k ≤ 3 := by
  rcases h with ⟨m', k', h1, h2⟩ | ⟨-, h1⟩
  · rw [hs] at h1; cases h1
  · exact h1
theorem RdC.empty {w : World} {S : Nat → Prop} {sz : Nat} {A : Option Addr} {c : Nat} (hc : c ≤ maxLen) : RdC w S (.sl sz []) (.slice A 0 c) := RdC.mk_slice (by simp) (Nat.zero_le _) hc (fun h => absurd h (by omega))
theorem RdC.sub {w : World} {S : Nat → Prop} {l : List UInt8} {ad : Addr} {m c : Nat} (h : RdC w S (.sl 1 (bytesC l)) (.slice (some ad) m c)) {o k : Nat} (ho : 0 < o) (hok : o + k ≤ m) {A' : Option Addr} {c' : Nat} (hA : 0 < k → A' = some { block := ad.block, off := ad.off + o }) (hc : k ≤ c' ∧ c' ≤ maxLen) :
    RdC w S (.sl 1 (bytesC ((l.drop o).take k))) (.slice A' k c') := by
  have := RdC.cut h (i := o) (j := o + k) (cap' := c') (A' := A') (by omega) hok (by omega) hc.2 (fun a ha hlt => by injection ha with ha; subst ha; rw [hA (by omega)]; simp [Addr.add]; omega)
  rw [show o + k - o = k by omega, Nat.mul_one, Nat.mul_one] at this
  simpa [bytesC, List.map_drop, List.map_take] using this

/-- What the reading of all elements hands back. -/
def AllRes (w : World) (l : List UInt8) (e : Ending) (w' : World) : Prop :=
  ((∃ A n c es, e = .returned (.tuple #[.slice A n c, .bool true]) ∧ decAll l = some es ∧ RdC w' (New w w') (.sl 4 (encs es)) (.slice A n c)) ∨ (decAll l = none ∧ e = .returned (.tuple #[.slice none 0 0, .bool false]))) ∧ Ext w w'
def AllOf (f : FuncId) (l : List UInt8) : Prop := ∀ (A : Option Addr) (n c : Nat) (w : World), Rd w (.sl 1 (bytesC l)) (.slice A n c) → Calls Try.prog f #[.slice A n c] w fun e w' => AllRes w l e w'
/-- What the reading of one element hands back. -/
def NextRes (w : World) (l : List UInt8) (e : Ending) (w' : World) : Prop :=
  ((∃ v d m, e = .returned (.tuple #[v, .int .i64 (m : Nat), .bool true]) ∧ decOne l = some (d, m) ∧ RdV w' (New w w') d v) ∨ (decOne l = none ∧ ∃ t b m, e = .returned (.tuple #[.agg #[.int .i64 t, .slice none 0 0, .bool b, .slice none 0 0], .int .i64 m, .bool false]))) ∧ Ext w w'
def NextOf (l : List UInt8) : Prop := ∀ (A : Option Addr) (n c : Nat) (w : World), Rd w (.sl 1 (bytesC l)) (.slice A n c) → Calls Try.prog 56 #[.slice A n c] w fun e w' => NextRes w l e w'
theorem AllRes.of_some {w w' : World} {l : List UInt8} {e : Ending} {es : List V} (h : AllRes w l e w') (hd : decAll l = some es) : ∃ A n c, e = .returned (.tuple #[.slice A n c, .bool true]) ∧ RdC w' (New w w') (.sl 4 (encs es)) (.slice A n c) ∧ Ext w w' := by
  obtain ⟨⟨A, n, c, es', h1, h2, h3⟩ | ⟨h1, -⟩, hx⟩ := h
  · rw [hd] at h2; injection h2 with h2; subst h2; exact ⟨A, n, c, h1, h3, hx⟩
  · rw [hd] at h1; cases h1
theorem AllRes.of_none {w w' : World} {l : List UInt8} {e : Ending} (h : AllRes w l e w') (hd : decAll l = none) : e = .returned (.tuple #[.slice none 0 0, .bool false]) ∧ Ext w w' := by
  obtain ⟨⟨A, n, c, es', h1, h2, h3⟩ | ⟨-, h1⟩, hx⟩ := h
  · rw [hd] at h2; cases h2
  · exact ⟨h1, hx⟩
theorem NextRes.no {w w' : World} {l : List UInt8} {v : Value} (t : Int) (b : Bool) (m : Int) (h : decOne l = none) (hv : v = .tuple #[.agg #[.int .i64 t, .slice none 0 0, .bool b, .slice none 0 0], .int .i64 m, .bool false]) (hx : Ext w w') : NextRes w l (.returned v) w' := ⟨.inr ⟨h, t, b, m, by rw [hv]⟩, hx⟩

theorem hdr_cons (x : UInt8) (r : List UInt8) : hdr (x :: r) = if tagB x.toNat = false then none else match sizeS r with
    | none => none
    | some (n, c) => if r.length - c < n then none else some (x.toNat, 1 + c, n) := rfl
theorem decOne_tag {x : UInt8} {r : List UInt8} (h : tagB x.toNat = false) : decOne (x :: r) = none := decOne_none (by rw [hdr_cons, if_pos h])
theorem decOne_size {x : UInt8} {r : List UInt8} (h : sizeS r = none) : decOne (x :: r) = none := by
  refine decOne_none ?_
  rw [hdr_cons, h]
  dsimp only
  split <;> rfl
theorem decOne_long {x : UInt8} {r : List UInt8} {m k : Nat} (h : sizeS r = some (m, k)) (hm : r.length - k < m) : decOne (x :: r) = none := by
  refine decOne_none ?_
  rw [hdr_cons, h]
  dsimp only
  rw [if_pos hm]
  split <;> rfl
theorem hdr_yes {x : UInt8} {r : List UInt8} {m k : Nat} (ht : tagB x.toNat = true) (h : sizeS r = some (m, k)) (hm : ¬ r.length - k < m) : hdr (x :: r) = some (x.toNat, 1 + k, m) := by
  rw [hdr_cons, h]
  dsimp only
  rw [if_neg (by rw [ht]; decide), if_neg hm]

/-- A struct that is stored into the result's own cells, its parts made behind some more. -/
theorem fin_gen {w W0 w1 w' : World} (hE : Ext w W0) {t : Int} {b : List UInt8} {nst : Bool} {es : List V} {vb ve : Value} (ht : -9223372036854775808 ≤ t ∧ t ≤ 9223372036854775807)
    (hb : RdC w1 (New W0 w1) (.sl 1 (bytesC b)) vb) (he : RdC w1 (New W0 w1) (.sl 4 (encs es)) ve) (hk : ∀ b, W0.heap.size ≤ b → w'.heap[b]? = w1.heap[b]?) (hsz : w'.heap.size = w1.heap.size) :
    RdV w' (New w w') (.mk t b nst es) (.agg #[.int .i64 t, vb, .bool nst, ve]) :=
  have hn : ∀ b, New W0 w1 b → New w w' b := fun b hb => ⟨Nat.le_trans hE.size hb.1, by rw [hsz]; exact hb.2⟩
  RdV.mk_ ht (RdC.keep_ (fun b hb => hk b hb.1) hn _ _ hb) (RdC.keep_ (fun b hb => hk b hb.1) hn _ _ he)

set_option maxRecDepth 100000 in
set_option maxHeartbeats 800000 in
theorem next_step (l : List UInt8) (hlen : l.length ≤ 1000000000) (ih : ∀ l', l'.length < l.length → AllOf 57 l') : NextOf l := by
  intro A n c w h
  obtain ⟨hl, hnc, hcap⟩ := RdC.blen h
  unfold maxLen at hcap
  by_cases h0 : n = 0
  · subst h0
    have h0 : l = [] := List.eq_nil_of_length_eq_zero hl
    subst h0
    go_enter Try.func56, Try.ntmps56
    go_wp2
    exact bodyPost_ret (v := .tuple #[.agg #[.int .i64 0, .slice none 0 0, .bool false, .slice none 0 0], .int .i64 0, .bool false]) (by simp [results, Try.results56, go_sem]) rfl (NextRes.no 0 false 0 (decOne_none rfl) rfl ((Ext.refl _).alloc _))
  obtain ⟨ad, x, r, rfl, hS, rfl, c0⟩ := RdC.byte0 h (by omega)
  have hx := x.toNat_lt
  have c1 := (((Ext.refl w).alloc (.cells #[.int .i64 0, .slice none 0 0, .bool false, .slice none 0 0] 29)).cell hS).trans c0
  have c2 := fun z => ((((Ext.refl w).alloc (.cells #[.int .i64 0, .slice none 0 0, .bool false, .slice none 0 0] 29)).alloc z).cell hS).trans c0
  have hn0 : 0 < n := by omega
  by_cases ht : tagB x.toNat = false
  · have HT := Lib.hid (decOne_tag (r := r) ht)
    have HT2 := Lib.hid ht
    clear ht
    go_enter Try.func56, Try.ntmps56
    go_wp2_with (go_at_call 65; refine (tag_any _ _).mono ?_; rintro e w' ⟨rfl, rfl⟩; rw [HT2.out])
    exact bodyPost_ret (v := .tuple #[.agg #[.int .i64 0, .slice none 0 0, .bool false, .slice none 0 0], .int .i64 0, .bool false]) (by simp [results, Try.results56, go_sem]) rfl (NextRes.no 0 false 0 HT.out rfl ((Ext.refl _).alloc _))
  have ht : tagB x.toNat = true := by simpa using ht
  have HT2 := Lib.hid ht
  have htl : r.length + 1 = n := by simpa using hl
  have tailF : ∀ (A' : Option Addr), (2 ≤ n → A' = some { block := ad.block, off := ad.off + 1 }) → Rd w (.sl 1 (bytesC r)) (.slice A' (n - 1) (c - 1)) := by
    intro A' hA
    by_cases hn : 2 ≤ n
    · rw [hA hn]; exact RdC.tail1 h hn
    · have : r = [] := List.eq_nil_of_length_eq_zero (by omega)
      subst this
      rw [show n - 1 = 0 by omega]
      exact RdC.empty (by unfold maxLen; omega)
  have TF := Lib.hid tailF
  clear tailF
  by_cases hs : sizeS r = none
  · have HT := Lib.hid (decOne_size (x := x) hs)
    have HS := Lib.hid hs
    clear hs ht
    go_enter Try.func56, Try.ntmps56
    go_wp2_with (first
      | (go_at_call 65; refine (tag_any _ _).mono ?_; rintro e w' ⟨rfl, rfl⟩; rw [HT2.out])
      | (go_at_call 72; refine (size_any r _ _ _ _ _ (by exact (TF.out _ (fun hn => by first | rfl | (rw [if_neg (by omega)]))).ext ((Ext.refl _).alloc _))).mono ?_; rintro e w' ⟨hR, rfl⟩; obtain ⟨m, k, rfl, h1, h2, h3, h4⟩ := hR.of_none HS.out))
    all_goals exact bodyPost_ret (v := .tuple #[.agg #[.int .i64 0, .slice none 0 0, .bool false, .slice none 0 0], .int .i64 0, .bool false]) (by simp [results, Try.results56, go_sem]) rfl (NextRes.no 0 false 0 HT.out rfl ((Ext.refl _).alloc _))
  obtain ⟨m, k, hs⟩ : ∃ m k, sizeS r = some (m, k) := by
    cases hq : sizeS r with
    | none => exact absurd hq hs
    | some p => exact ⟨p.1, p.2, rfl⟩
  obtain ⟨hk1, hkr, hk3, hm6⟩ := sizeS_le hs
  have hn2 : 2 ≤ n := by omega
  have hc1 : ¬ c = 1 := by omega
  have HS := Lib.hid hs
  by_cases hlong : r.length - k < m
  · have HT := Lib.hid (decOne_long (x := x) hs hlong)
    have hlong2 : (n : Int) - (1 + (k : Int)) < (m : Int) := by omega
    clear hs ht hlong
    go_enter Try.func56, Try.ntmps56
    go_wp2_with (first
      | (go_at_call 65; refine (tag_any _ _).mono ?_; rintro e w' ⟨rfl, rfl⟩; rw [HT2.out])
      | (go_at_call 72; refine (size_any r _ _ _ _ _ (by exact (TF.out _ (fun hn => by first | rfl | (rw [if_neg (by omega)]))).ext ((Ext.refl _).alloc _))).mono ?_; rintro e w' ⟨hR, rfl⟩; obtain rfl := hR.of_some HS.out))
    all_goals exact bodyPost_ret (v := .tuple #[.agg #[.int .i64 0, .slice none 0 0, .bool false, .slice none 0 0], .int .i64 0, .bool false]) (by simp [results, Try.results56, go_sem]) rfl (NextRes.no 0 false 0 HT.out rfl ((Ext.refl _).alloc _))
  have HH := Lib.hid (hdr_yes ht hs hlong)
  have hfit : 1 + k + m ≤ n := by omega
  have hlong2 : ¬ (n : Int) - (1 + (k : Int)) < (m : Int) := by omega
  have hb := tagB_le ht
  clear hs ht hlong
  have hdl : (((x :: r).drop (1 + k)).take m).length < (x :: r).length := by rw [List.length_take, List.length_drop]; simp only [List.length_cons]; omega
  have SUB : Hid (∀ (A' : Option Addr) (c' : Nat), (0 < m → A' = some { block := ad.block, off := ad.off + (1 + k) }) → m ≤ c' ∧ c' ≤ maxLen → Rd w (.sl 1 (bytesC (((x :: r).drop (1 + k)).take m))) (.slice A' m c')) := fun A' c' hA hc => RdC.sub (o := 1 + k) (k := m) h (by omega) (by omega) hA hc
  by_cases hnst : nestB x.toNat = true
  · have hand : (bits .and .i64 (x.toNat : Int) 32 != 0) = true := by rw [and32 hb.1 hb.2, hnst]
    have IH := Lib.hid (ih _ hdl)
    cases hd : decAll (((x :: r).drop (1 + k)).take m) with
    | none =>
      have HD := Lib.hid hd
      have HT : Hid (decOne (x :: r) = none) := by show _ = _; rw [decOne_hdr HH.out, if_pos hnst, hd]; rfl
      clear hd hnst hdl
      go_enter Try.func56, Try.ntmps56
      go_wp2_with (first
        | (go_at_call 65; refine (tag_any _ _).mono ?_; rintro e w' ⟨rfl, rfl⟩; rw [HT2.out])
        | (go_at_call 72; refine (size_any r _ _ _ _ _ (by exact (TF.out _ (fun hn => by first | rfl | (rw [if_neg (by omega)]))).ext ((Ext.refl _).alloc _))).mono ?_; rintro e w' ⟨hR, rfl⟩; obtain rfl := hR.of_some HS.out))
      go_region
      all_goals go_wp2_with (go_at_call 57; refine (IH.out _ _ _ _ (by exact (SUB.out _ _ (fun hm => by first | (exfalso; omega) | rfl | (rw [if_neg (by omega)]; simp [Addr.add]; omega) | (rw [if_neg (by omega)]; simp [Addr.add]) | (simp [Addr.add]; omega) | (simp [Addr.add])) (by unfold maxLen; omega)).ext (((Ext.refl _).alloc _).alloc _).drew)).mono ?_; intro e w3 hR; obtain ⟨rfl, hx3⟩ := hR.of_none HD.out; have hx4 := (Ext.refl _).drew.trans hx3; obtain ⟨⟨q0, q1, q2, q3⟩, ⟨f0, f1, f2, f3⟩⟩ := four (g := w.heap.size + 1) (by simpa using hx4.blk); have hx5 := ((Ext.refl _).alloc _).trans hx4; obtain ⟨⟨p0, p1, p2, p3⟩, ⟨g0, g1, g2, g3⟩⟩ := four hx5.blk)
      all_goals exact bodyPost_ret (v := .tuple #[.agg #[.int .i64 x.toNat, .slice none 0 0, .bool true, .slice none 0 0], .int .i64 (1 + (k : Int) + m), .bool false]) (by simp [results, Try.results56, go_sem, p0, p1, p2, p3, g0, g1, g2, g3, q0, q1, q2, q3, f0, f1, f2, f3]) rfl (NextRes.no _ true _ HT.out rfl ((((((((Ext.refl _).alloc _).trans hx5).setCell (Nat.le_succ _) _).setCell (Nat.le_refl _) _).setCell (Nat.le_refl _) _).setCell (Nat.le_refl _) _).setCell (Nat.le_refl _) _))
    | some es =>
      have HD := Lib.hid hd
      have HT : Hid (decOne (x :: r) = some (V.mk x.toNat [] true es, 1 + k + m)) := by show _ = _; rw [decOne_hdr HH.out, if_pos hnst, hd]; rfl
      clear hd hnst hdl
      go_enter Try.func56, Try.ntmps56
      go_wp2_with (first
        | (go_at_call 65; refine (tag_any _ _).mono ?_; rintro e w' ⟨rfl, rfl⟩; rw [HT2.out])
        | (go_at_call 72; refine (size_any r _ _ _ _ _ (by exact (TF.out _ (fun hn => by first | rfl | (rw [if_neg (by omega)]))).ext ((Ext.refl _).alloc _))).mono ?_; rintro e w' ⟨hR, rfl⟩; obtain rfl := hR.of_some HS.out))
      all_goals try (exfalso; omega)
      go_region
      all_goals go_wp2_with (go_at_call 57; refine (IH.out _ _ _ _ (by exact (SUB.out _ _ (fun hm => by first | (exfalso; omega) | rfl | (rw [if_neg (by omega)]; simp [Addr.add]; omega) | (rw [if_neg (by omega)]; simp [Addr.add]) | (simp [Addr.add]; omega) | (simp [Addr.add])) (by unfold maxLen; omega)).ext (((Ext.refl _).alloc _).alloc _).drew)).mono ?_; intro e w3 hR; obtain ⟨A3, n3, c3, rfl, hr3, hx3⟩ := hR.of_some HD.out; have hx4 := (Ext.refl _).drew.trans hx3; obtain ⟨⟨q0, q1, q2, q3⟩, ⟨f0, f1, f2, f3⟩⟩ := four (g := w.heap.size + 1) (by simpa using hx4.blk); have hx5 := ((Ext.refl _).alloc _).trans hx4; obtain ⟨⟨p0, p1, p2, p3⟩, ⟨g0, g1, g2, g3⟩⟩ := four hx5.blk)
      all_goals
        refine bodyPost_ret (v := .tuple #[.agg #[.int .i64 x.toNat, .slice none 0 0, .bool true, .slice A3 n3 c3], .int .i64 (1 + (k : Int) + m), .bool true]) (by simp [results, Try.results56, go_sem, p0, p1, p2, p3, g0, g1, g2, g3, q0, q1, q2, q3, f0, f1, f2, f3]) rfl ⟨.inl ⟨_, _, 1 + k + m, by congr 1, HT.out, fin_gen ((((Ext.refl _).alloc _).alloc _).drew) (by omega) (RdC.nil_ 1) hr3 (fun b hb => ?_) (by simp [World.setCell])⟩, ((((((((Ext.refl _).alloc _).trans hx5).setCell (Nat.le_succ _) _).setCell (Nat.le_refl _) _).setCell (Nat.le_refl _) _).setCell (Nat.le_refl _) _).setCell (Nat.le_refl _) _)⟩
        simp [World.drew] at hb
        have n1 : b ≠ w.heap.size := by omega
        have n2 : b ≠ w.heap.size + 1 := by omega
        rw [Below.heap_setCell _ _ _ _ (by exact n1), Below.heap_setCell _ _ _ _ (by exact n1), Below.heap_setCell _ _ _ _ (by exact n1), Below.heap_setCell _ _ _ _ (by exact n1), Below.heap_setCell _ _ _ _ (by exact n2)]
  · have hnst : nestB x.toNat = false := by simpa using hnst
    have hand : (bits .and .i64 (x.toNat : Int) 32 != 0) = false := by rw [and32 hb.1 hb.2, hnst]
    have HT : Hid (decOne (x :: r) = some (V.mk x.toNat (((x :: r).drop (1 + k)).take m) false [], 1 + k + m)) := by show _ = _; rw [decOne_hdr HH.out, if_neg (by rw [hnst]; decide)]; rfl
    clear hnst hdl
    go_enter Try.func56, Try.ntmps56
    go_wp2_with (first
      | (go_at_call 65; refine (tag_any _ _).mono ?_; rintro e w' ⟨rfl, rfl⟩; rw [HT2.out])
      | (go_at_call 72; refine (size_any r _ _ _ _ _ (by exact (TF.out _ (fun hn => by first | rfl | (rw [if_neg (by omega)]))).ext ((Ext.refl _).alloc _))).mono ?_; rintro e w' ⟨hR, rfl⟩; obtain rfl := hR.of_some HS.out))
    all_goals try (exfalso; omega)
    go_region
    all_goals go_wp2_with (go_at_call 73; refine (clone_any _ _ _ _ _ (by exact (SUB.out _ _ (fun hm => by first | (exfalso; omega) | rfl | (rw [if_neg (by omega)]; simp [Addr.add]; omega) | (rw [if_neg (by omega)]; simp [Addr.add]) | (simp [Addr.add]; omega) | (simp [Addr.add])) (by unfold maxLen; omega)).ext (((Ext.refl _).alloc _).alloc _).drew) (by rw [List.length_take, List.length_drop]; simp only [List.length_cons]; omega)).mono ?_; rintro e w3 ⟨A3, n3, c3, rfl, hr3, hx3⟩; have hx4 := (Ext.refl _).drew.trans hx3; obtain ⟨⟨q0, q1, q2, q3⟩, ⟨f0, f1, f2, f3⟩⟩ := four (g := w.heap.size + 1) (by simpa using hx4.blk); have hx5 := ((Ext.refl _).alloc _).trans hx4; obtain ⟨⟨p0, p1, p2, p3⟩, ⟨g0, g1, g2, g3⟩⟩ := four hx5.blk)
    all_goals
      refine bodyPost_ret (v := .tuple #[.agg #[.int .i64 x.toNat, .slice A3 n3 c3, .bool false, .slice none 0 0], .int .i64 (1 + (k : Int) + m), .bool true]) (by simp [results, Try.results56, go_sem, p0, p1, p2, p3, g0, g1, g2, g3, q0, q1, q2, q3, f0, f1, f2, f3]) rfl ⟨.inl ⟨_, _, 1 + k + m, by congr 1, HT.out, fin_gen ((((Ext.refl _).alloc _).alloc _).drew) (by omega) hr3 (RdC.nil_ 4) (fun b hb => ?_) (by simp [World.setCell])⟩, ((((((((Ext.refl _).alloc _).trans hx5).setCell (Nat.le_succ _) _).setCell (Nat.le_refl _) _).setCell (Nat.le_refl _) _).setCell (Nat.le_refl _) _).setCell (Nat.le_refl _) _)⟩
      simp [World.drew] at hb
      have n1 : b ≠ w.heap.size := by omega
      have n2 : b ≠ w.heap.size + 1 := by omega
      rw [Below.heap_setCell _ _ _ _ (by exact n1), Below.heap_setCell _ _ _ _ (by exact n1), Below.heap_setCell _ _ _ _ (by exact n1), Below.heap_setCell _ _ _ _ (by exact n1), Below.heap_setCell _ _ _ _ (by exact n2)]
end Go.Proofs.Ythohienbmhohjaa
