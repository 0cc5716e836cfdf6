/- The walk: Encode of the reference, its bytes the call's own; and what may be done with bytes of one's own. -/
import Derived.Test.YthohienbmhohjaaW37
import Derived.Test.YthohienbmhohjaaW19
namespace Go.Proofs.Ythohienbmhohjaa
open Go.RowKit

/-! regions whose operations only add to the world -/
structure EW (w0 : World) where
  w : World
  h : Ext w0 w
instance (w0 : World) : Nonempty (EW w0) := ⟨⟨w0, Ext.refl w0⟩⟩
theorem wp_region_quietE {P : Program} {id : Nat} {Q : Exit → Act → World → Prop} {a : Act} {w : World} {l : List Oper} (hm : P.follows .mixedOrders = true) (hB : Region.lexB .any l.toArray = true)
    (h : wpQuiet P l.toArray (fun w' => ∃ x : EW w, w' = x.w) (fun a' => ∀ w', (∃ x : EW w, w' = x.w) → Q .normal a' w') l a) : (Code.region id l.toArray true).wp P Q a w :=
  wp_region_quiet (C := fun w' => ∃ x : EW w, w' = x.w) hm hB ⟨⟨_, (Ext.refl w).drew⟩, rfl⟩ (by simpa using h)
theorem Calls.ew {P : Program} {f : FuncId} {args : Array Value} {wc : World} {x : EW wc} {v : Value} (h : ∀ w', Ext wc w' → Calls P f args w' fun e w'' => e = .returned v ∧ Ext w' w'') :
    Calls P f args x.w fun e w'' => e = .returned v ∧ ∃ y : EW wc, w'' = y.w :=
  (h x.w x.h).mono fun _ w'' hh => ⟨hh.1, ⟨w'', x.h.trans hh.2⟩, rfl⟩

def EncOwn (w : World) (d : V) (e : Ending) (w' : World) : Prop :=
  ∃ A n c, e = .returned (.tuple #[.slice A n c, .int .i64 (encE d)]) ∧ OwnT (fun _ => False) w' w.heap.size 5 1 (.slice A n c) (bytesC (encL d)) ∧ Ext w w'
theorem EncOwn.no {w w' : World} {d : V} {v : Value} {k : Int} (hk : encE d = k) (h0 : k ≠ 0) (hv : v = .tuple #[.slice none 0 0, .int .i64 k]) (hx : Ext w w') : EncOwn w d (.returned v) w' := by
  refine ⟨none, 0, 0, by rw [hv, hk], ?_, hx⟩
  unfold encL
  rw [if_neg (by omega)]
  exact OwnT.nil_ _ _ _ _ _
theorem EncOwn.yes {w w' : World} {d : V} {v : Value} {A : Option Addr} {n c : Nat} (hk : encE d = 0) (hv : v = .tuple #[.slice A n c, .int .i64 0]) (hr : OwnT (fun _ => False) w' w.heap.size 5 1 (.slice A n c) (bytesC d.put)) (hx : Ext w w') : EncOwn w d (.returned v) w' := by
  refine ⟨A, n, c, by rw [hv, hk], ?_, hx⟩
  unfold encL
  rw [if_pos hk]
  exact hr

set_option maxRecDepth 100000 in
set_option maxHeartbeats 800000 in
theorem rencode_own (d : V) (hdep : d.depth ≤ 1000000) (hlen : d.formed = true → d.put.length ≤ 1000000000) (v : Value) (w : World) (h : RdVal w d v) : Calls Try.prog 22 #[v] w fun e w' => EncOwn w d e w' := by
  have HV := Lib.hid h
  obtain ⟨t, b, nst, es⟩ := d
  obtain ⟨Ab, nb, cb, Ae, ne, ce, rfl, ht, hb, he, HB, HE, hnb, hne⟩ := h.opened
  clear h
  by_cases hf : (V.mk t b nst es).formed = false
  · have H1 : Hid (encE (.mk t b nst es) = 1) := by show _ = _; unfold encE; rw [if_pos hf]
    go_enter Try.func22, Try.ntmps22
    go_wp2_with (go_at_call 45; refine (rformed_any _ _ _ _ (Nat.le_refl _) (HV.out.ext ((Ext.refl _).alloc _))).mono ?_; rintro e w1 ⟨rfl, hx⟩; have hbk := hx.blk; rw [hf])
    go_ret2
    exact EncOwn.no H1.out (by decide) rfl (((Ext.refl _).alloc _).trans hx)
  have hf : (V.mk t b nst es).formed = true := by simpa using hf
  have hl := hlen hf
  by_cases hd : 16 < (V.mk t b nst es).depth
  · have H1 : Hid (encE (.mk t b nst es) = 3) := by show _ = _; unfold encE; rw [if_neg (by rw [hf]; decide), if_pos hd]
    go_enter Try.func22, Try.ntmps22
    go_wp2_with (first
      | (go_at_call 45; refine (rformed_any _ _ _ _ (Nat.le_refl _) (HV.out.ext ((Ext.refl _).alloc _))).mono ?_; rintro e w1 ⟨rfl, hx⟩; have hbk := hx.blk; obtain ⟨⟨q0, q1, q2, q3⟩, ⟨f0, f1, f2, f3⟩⟩ := four hx.blk; rw [hf]) | (go_at_call 46; refine (rdepth_any _ _ _ _ (Nat.le_refl _) hdep ((HV.out.ext ((Ext.refl _).alloc _)).ext hx)).mono ?_; rintro e w2 ⟨rfl, hx2⟩))
    go_ret2
    exact EncOwn.no H1.out (by decide) rfl ((((Ext.refl _).alloc _).trans hx).trans hx2)
  have HF := Lib.hid hf
  by_cases hp : 4096 < (V.mk t b nst es).put.length
  · have H1 : Hid (encE (.mk t b nst es) = 3) := by show _ = _; unfold encE; rw [if_neg (by rw [hf]; decide), if_neg hd, if_pos hp]
    go_enter Try.func22, Try.ntmps22
    go_wp2_with (first
      | (go_at_call 45; refine (rformed_any _ _ _ _ (Nat.le_refl _) (HV.out.ext ((Ext.refl _).alloc _))).mono ?_; rintro e w1 ⟨rfl, hx⟩; have hbk := hx.blk; obtain ⟨⟨q0, q1, q2, q3⟩, ⟨f0, f1, f2, f3⟩⟩ := four hx.blk; rw [hf]) | (go_at_call 46; refine (rdepth_any _ _ _ _ (Nat.le_refl _) hdep ((HV.out.ext ((Ext.refl _).alloc _)).ext hx)).mono ?_; rintro e w2 ⟨rfl, hx2⟩; obtain ⟨⟨q0, q1, q2, q3⟩, ⟨f0, f1, f2, f3⟩⟩ := four (hx.trans hx2).blk)
      | (go_at_call 47; refine (rput_any _ _ (Nat.le_refl _) _ w2 (((HV.out.ext ((Ext.refl _).alloc _)).ext hx).ext hx2) HF.out (by omega)).mono ?_; rintro e w3 ⟨A3, n3, c3, rfl, hown3, hx3⟩; have hn3 := (RdC.blen hown3.rd).1))
    go_ret2
    exact EncOwn.no H1.out (by decide) rfl (((((Ext.refl _).alloc _).trans hx).trans hx2).trans hx3)
  · have H1 : Hid (encE (.mk t b nst es) = 0) := by show _ = _; unfold encE; rw [if_neg (by rw [hf]; decide), if_neg hd, if_neg hp]
    go_enter Try.func22, Try.ntmps22
    go_wp2_with (first
      | (go_at_call 45; refine (rformed_any _ _ _ _ (Nat.le_refl _) (HV.out.ext ((Ext.refl _).alloc _))).mono ?_; rintro e w1 ⟨rfl, hx⟩; have hbk := hx.blk; obtain ⟨⟨q0, q1, q2, q3⟩, ⟨f0, f1, f2, f3⟩⟩ := four hx.blk; rw [hf]) | (go_at_call 46; refine (rdepth_any _ _ _ _ (Nat.le_refl _) hdep ((HV.out.ext ((Ext.refl _).alloc _)).ext hx)).mono ?_; rintro e w2 ⟨rfl, hx2⟩; obtain ⟨⟨q0, q1, q2, q3⟩, ⟨f0, f1, f2, f3⟩⟩ := four (hx.trans hx2).blk)
      | (go_at_call 47; refine (rput_any _ _ (Nat.le_refl _) _ w2 (((HV.out.ext ((Ext.refl _).alloc _)).ext hx).ext hx2) HF.out (by omega)).mono ?_; rintro e w3 ⟨A3, n3, c3, rfl, hown3, hx3⟩; have hn3 := (RdC.blen hown3.rd).1))
    go_ret2
    have hx12 := ((((Ext.refl _).alloc _).trans hx).trans hx2)
    exact EncOwn.yes H1.out rfl (hown3.more hx12.size) (hx12.trans hx3)

section
variable {T : Nat → Prop} {w : World} {base : Nat} {e : TypeId} {n c : Nat} {A : Option Addr} {cs : List C}
/-- Where a row of the call's own lies. -/
theorem OwnT.at_ (h : OwnT T w base e 1 (.slice A n c) cs) (hn : 0 < n) : ∃ g, A = some ⟨g, 0, none⟩ ∧ base ≤ g ∧ g < w.heap.size ∧ n ≤ c ∧ c ≤ maxLen ∧ (∀ j, w.frozen? ⟨g, j, none⟩ = false) := by
  obtain ⟨m, us, ho, -⟩ := h
  rcases ho.2 with ⟨h1, -⟩ | ⟨g, cap, cur, hv, hb, hg, hm, hc, -⟩
  · injection h1 with _ h2 _
    omega
  · injection hv with h1 h2 h3
    subst h1 h2 h3
    exact ⟨g, rfl, hb, (Array.getElem?_eq_some_iff.1 hg).1, hm, hc, fun j => by simp [World.frozen?, hg]⟩
/-- Its beginning is one, too. -/
theorem OwnT.head (h : OwnT T w base e 1 (.slice A n c) cs) (hn : 0 < n) {i : Nat} (hi : i ≤ n) : OwnT T w base e 1 (.slice A i c) (cs.take i) := by
  obtain ⟨m, us, ho, hr⟩ := h
  rcases ho.2 with ⟨h1, -⟩ | ⟨g, cap, cur, hv, hb, hg, hm, hc, hs, ht⟩
  · injection h1 with _ h2 _
    omega
  · injection hv with h1 h2 h3
    subst h1 h2 h3
    have hl := ho.1
    refine ⟨i, us.take i, ⟨by rw [List.length_take, hl]; omega, .inr ⟨g, c, cur, rfl, hb, hg, by omega, hc, hs, ?_⟩⟩, ?_⟩
    · rw [← ht, List.take_take]
      congr 1
      omega
    · refine ⟨by rw [List.length_take, List.length_take, hr.1], fun j x u h1 h2 => ?_⟩
      rw [List.getElem?_take] at h1 h2
      split at h1
      · rename_i hj
        rw [if_pos hj] at h2
        exact hr.2 j x u h1 h2
      · cases h1
/-- One byte is written. -/
theorem OwnT.put {A' : Nat} {l : List UInt8} (h : OwnT (fun _ => False) w base 5 1 (.slice (some ⟨A', 0, none⟩) n c) (bytesC l)) {i : Nat} (hi : i < n) (y : UInt8) :
    OwnT (fun _ => False) (w.setCell { block := A', off := i } (.int .u8 (y.toNat : Int))) base 5 1 (.slice (some ⟨A', 0, none⟩) n c) (bytesC (l.set i y)) := by
  obtain ⟨m, us, ho, hr⟩ := h
  rcases ho.2 with ⟨h1, -⟩ | ⟨g, cap, cur, hv, hb, hg, hm, hc, hs, ht⟩
  · injection h1 with h1 _ _
    cases h1
  · injection hv with h1 h2 h3
    injection h1 with h1
    injection h1 with h1
    subst h1 h2 h3
    have hl := ho.1
    refine ⟨n, us.set i (.int .u8 (y.toNat : Int)), ⟨by rw [List.length_set]; exact hl, .inr ⟨A', c, cur.setIfInBounds i (.int .u8 (y.toNat : Int)), rfl, hb, blk_set hg _, hm, hc, by simpa using hs, ?_⟩⟩, ?_⟩
    · rw [← ht, Array.toList_setIfInBounds, List.take_set]
    · refine ⟨?_, fun j x u h1 h2 => ?_⟩
      · have := hr.1
        rw [bytesC_length] at this ⊢
        rw [List.length_set, List.length_set, this]
      · simp only [bytesC, List.getElem?_map, Option.map_eq_some_iff] at h1
        obtain ⟨z, h1, rfl⟩ := h1
        rw [List.getElem?_set] at h1 h2
        by_cases e : i = j
        · rw [if_pos e] at h1 h2
          split at h1
          · split at h2
            · injection h1 with h1
              injection h2 with h2
              subst h1 h2
              unfold RdC
              exact ⟨rfl, u8_range ⟨by omega, by have := y.toNat_lt; omega⟩⟩
            · cases h2
          · cases h1
        · rw [if_neg e] at h1 h2
          have := (hr.2 j (.int .u8 z.toNat) u (by simp [bytesC, h1]) h2)
          unfold RdC at this ⊢
          exact this
theorem OwnT.headB {l : List UInt8} (h : OwnT T w base e 1 (.slice A n c) (bytesC l)) (hn : 0 < n) {i : Nat} (hi : i ≤ n) : OwnT T w base e 1 (.slice A i c) (bytesC (l.take i)) := by
  have := h.head hn hi
  simpa [bytesC, List.map_take] using this
theorem OwnT.byte_at {l : List UInt8} {g : Nat} (h : OwnT T w base e 1 (.slice (some ⟨g, 0, none⟩) n c) (bytesC l)) {i : Nat} (hi : i < n) : ∃ x : UInt8, w.cell? { block := g, off := i } = some (.int .u8 x.toNat) := by
  obtain ⟨ad, x, e1, -, -, e2⟩ := RdC.byte h.rd hi
  injection e1 with e1
  subst e1
  refine ⟨x, ?_⟩
  unfold Addr.add at e2
  split at e2
  · rename_i h0; subst h0; exact e2
  · simpa using e2
theorem OwnT.put' {g : Nat} {l : List UInt8} (h : OwnT (fun _ => False) w base 5 1 (.slice (some ⟨g, 0, none⟩) n c) (bytesC l)) {i : Nat} (hi : i < n) (y : Nat) (hy : y ≤ 255) :
    OwnT (fun _ => False) (w.setCell { block := g, off := i } (.int .u8 (y : Int))) base 5 1 (.slice (some ⟨g, 0, none⟩) n c) (bytesC (l.set i (UInt8.ofNat y))) := by
  have := h.put hi (UInt8.ofNat y)
  rwa [UInt8.toNat_ofNat', Nat.mod_eq_of_lt (by omega)] at this
end
theorem by_v1 {y : Nat} (w : World) (hy : y ≤ 255) : Rd (w.alloc (.cells #[.int .u8 (y : Int)] 5)) (.sl 1 (bytesC [UInt8.ofNat y])) (.slice (some ⟨w.heap.size, 0, none⟩) 1 1) :=
  (OwnT.madeAt (T := fun _ => False) (base := 0) (S := fun _ => False) w.heap.size rfl (n := 1) (us := [.int .u8 (y : Int)]) rfl (by simp [maxLen]) (rdByte (by rw [UInt8.toNat_ofNat', Nat.mod_eq_of_lt (by omega)])) (fun _ h => h.elim) (Nat.zero_le _)).rd
theorem by_v2 {w w' : World} {y : Nat} (hy : y ≤ 255) (hg : (((w.alloc (.cells #[] 5)).alloc (.cells #[.int .u8 (y : Int)] 5)).drew).grownBy w' (some w.heap.size)) :
    Rd w' (.sl 1 (bytesC [UInt8.ofNat y])) (.slice (some ⟨w.heap.size + 1, 0, none⟩) 1 1) := by
  have h := (OwnT.madeAt (T := fun _ => False) (base := w.heap.size + 1) (S := fun _ => False) (w := w.alloc (.cells #[] 5)) (e := 5) (sz := 1) (cs := bytesC [UInt8.ofNat y]) (w.heap.size + 1) (by simp) (n := 1) (us := [.int .u8 (y : Int)]) rfl (by simp [maxLen]) (rdByte (x := UInt8.ofNat y) (by rw [UInt8.toNat_ofNat', Nat.mod_eq_of_lt (by omega)])) (fun _ h => h.elim) (by simp)).rdT
  exact RdC.keep_ (w := (w.alloc (.cells #[] 5)).alloc (.cells #[.int .u8 (y : Int)] 5)) (S := fun b => (False ∨ w.heap.size + 1 ≤ b) ∧ b < ((w.alloc (.cells #[] 5)).alloc (.cells #[.int .u8 (y : Int)] 5)).heap.size) (fun b hb => hg.block b hb.2 (by rcases hb.1 with h | h; exact h.elim; intro e; injection e with e; omega)) (fun b hb => Nat.lt_of_lt_of_le hb.2 hg.size) _ _ h
theorem by_v3 {w w' : World} {y : Nat} (hy : y ≤ 255) (hg : (((w.alloc (.cells #[.int .u8 (y : Int)] 5)).alloc (.cells #[] 5)).drew).grownBy w' (some (w.heap.size + 1))) :
    Rd w' (.sl 1 (bytesC [UInt8.ofNat y])) (.slice (some ⟨w.heap.size, 0, none⟩) 1 1) := by
  have h := by_v1 w hy
  have hs := hg.size
  exact RdC.keep_ (w := w.alloc (.cells #[.int .u8 (y : Int)] 5)) (fun b hb => (hg.block b (by have : b < (w.alloc (.cells #[.int .u8 (y : Int)] 5)).heap.size := hb; simp at this ⊢; omega) (by have : b < (w.alloc (.cells #[.int .u8 (y : Int)] 5)).heap.size := hb; simp at this; intro e; injection e with e; omega)).trans (((Ext.refl _).alloc _).block b hb)) (fun b hb => by have h1 : b < (w.alloc (.cells #[.int .u8 (y : Int)] 5)).heap.size := hb; show b < _; simp at h1 hs; omega) _ _ h
theorem own_sub {w : World} {g n c : Nat} {l : List UInt8} (h : Rd w (.sl 1 (bytesC l)) (.slice (some ⟨g, 0, none⟩) n c)) {i : Nat} {A' : Option Addr} {q c' : Nat} (hi : i ≤ n) (hq : q = n - i) (hA : 0 < q → A' = some { block := g, off := i }) (hc : q ≤ c' ∧ c' ≤ maxLen) :
    Rd w (.sl 1 (bytesC ((l.drop i).take q))) (.slice A' q c') := by
  have := RdC.cut h (i := i) (j := n) (cap' := c') (A' := A') hi (Nat.le_refl _) (by omega) hc.2 (fun a ha hlt => by
    injection ha with ha
    subst ha
    rw [hA (by omega)]
    unfold Addr.add
    split
    · rename_i h0; have : i = 0 := by omega
      subst this; rfl
    · simp)
  rw [← hq, Nat.mul_one, Nat.mul_one] at this
  show RdC _ _ _ _
  simpa [bytesC, List.map_drop, List.map_take] using this

end Go.Proofs.Ythohienbmhohjaa
