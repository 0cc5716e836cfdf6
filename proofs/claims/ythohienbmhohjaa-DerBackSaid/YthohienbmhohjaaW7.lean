/- The walks: truth values read; numbers read. -/
import Derived.Test.YthohienbmhohjaaW6
namespace Go.Proofs.Ythohienbmhohjaa
open Go.RowKit

/-- The one byte. -/
theorem RdC.byte0 {w : World} {S : Nat → Prop} {l : List UInt8} {A : Option Addr} {m c : Nat} (h : RdC w S (.sl 1 (bytesC l)) (.slice A m c)) (hm : 1 ≤ m) :
    ∃ ad x r, A = some ad ∧ S ad.block ∧ l = x :: r ∧ w.cell? ad = some (.int .u8 x.toNat) := by
  obtain ⟨ad, x, rfl, hS, e1, c1⟩ := RdC.byte h (k := 0) (by omega)
  match l, e1 with
  | x' :: r, e1 =>
    simp at e1
    subst e1
    exact ⟨ad, _, r, rfl, hS, rfl, by simpa [Addr.add] using c1⟩
theorem boolOk_len {t : Int} {b : List UInt8} {n : Bool} {es : List V} {nb : Nat} (h : Hid (b.length = nb)) (h1 : ¬ nb = 1) : boolOk (.mk t b n es) = false := by
  rw [boolOk_eq]
  have h2 := h.out
  match b, h2 with
  | [], _ => simp
  | [x], h2 => exact absurd h2.symm h1
  | x :: y :: r, _ => simp
theorem boolOk_byte {t : Int} {x : UInt8} {n : Bool} {es : List V} (h0 : ¬ (x.toNat : Int) = 0) (h1 : ¬ (x.toNat : Int) = 255) : boolOk (.mk t [x] n es) = false := by
  rw [boolOk_eq]
  have e0 : ¬ x = 0 := fun e => h0 (by rw [e]; rfl)
  have e1 : ¬ x = 255 := fun e => h1 (by rw [e]; rfl)
  simp [e0, e1]
theorem boolOk_0 {x : UInt8} {n : Bool} {es : List V} (h0 : (x.toNat : Int) = 0) (hp : plainB (.mk 1 [x] n es) 1 = true) : x = 0 ∧ boolOk (.mk 1 [0] n es) = true := by
  have e : x = 0 := UInt8.toNat.inj (by simp; omega)
  subst e
  refine ⟨rfl, ?_⟩
  rw [boolOk_eq, hp]
  decide
theorem boolOk_255 {x : UInt8} {n : Bool} {es : List V} (h0 : (x.toNat : Int) = 255) (hp : plainB (.mk 1 [x] n es) 1 = true) : x = 255 ∧ boolOk (.mk 1 [255] n es) = true := by
  have e : x = 255 := UInt8.toNat.inj (by simp; omega)
  subst e
  refine ⟨rfl, ?_⟩
  rw [boolOk_eq, hp]
  decide
theorem fin255 {n : Bool} {es : List V} (h : boolOk (.mk 1 [255] n es) = true) : Value.tuple #[.bool true, .int .i64 0] = orForm (boolOk (.mk 1 [255] n es)) (.bool ([(255 : UInt8)] == [255])) (.bool false) := orForm_yes h
theorem fin0 {n : Bool} {es : List V} (h : boolOk (.mk 1 [0] n es) = true) : Value.tuple #[.bool false, .int .i64 0] = orForm (boolOk (.mk 1 [0] n es)) (.bool ([(0 : UInt8)] == [255])) (.bool false) := orForm_yes h
theorem plainB_tag {t q : Int} {b : List UInt8} {n : Bool} {es : List V} (h : plainB (.mk t b n es) q = true) : t = q := by
  unfold plainB at h; simp at h; exact h.1.1

theorem RdC.only {w : World} {S : Nat → Prop} {x : UInt8} {ad : Addr} {c : Nat} (h : RdC w S (.sl 1 (bytesC [x])) (.slice (some ad) 1 c)) : w.cell? ad = some (.int .u8 x.toNat) := by
  obtain ⟨ad', x', r, e1, -, e2, e3⟩ := RdC.byte0 h (by omega)
  injection e1 with e1
  injection e2 with e2
  subst e1 e2
  exact e3

set_option maxRecDepth 100000 in
set_option maxHeartbeats 1600000 in
theorem asBool_any (t : Int) (b : List UInt8) (nst : Bool) (es : List V) (v : Value) (w : World) (h : RdVal w (.mk t b nst es) v) :
    Calls Try.prog 13 #[v] w fun e w' => e = .returned (orForm (boolOk (.mk t b nst es)) (.bool (b == [255])) (.bool false)) ∧ Ext w w' := by
  obtain ⟨Ab, nb, cb, Ae, ne, ce, rfl, ht, hb, he, HB, HE, hnb, hne⟩ := h.opened
  have HV := Lib.hid h
  clear h
  by_cases hn1 : nb = 1
  · subst hn1
    obtain ⟨ad, x, r, rfl, hS, rfl, -⟩ := RdC.byte0 hb (by omega)
    have hr : r = [] := by have := HB.out; simpa using this
    subst hr
    go_enter Try.func13, Try.ntmps13
    go_wp2_with (first | (go_at_call 33; refine (plain_any t _ nst es _ _ (HV.out.ext ((Ext.refl _).alloc _)) 1).mono ?_; rintro e w' ⟨rfl, hx⟩; have hbk := hx.blk; have hb1 := hx.box (i := 1) (v := .slice (some ad) 1 cb) rfl; have hc0 := RdC.only (hb.ext (((Ext.refl _).alloc _).trans hx))))
    all_goals go_ret2
    all_goals refine ⟨ret_val ?_, ((Ext.refl _).alloc _).trans hx⟩
    · exact orForm_no (boolOk_no ‹_›)
    · have h1 : ((x.toNat : Int) != 255) = true := ‹_›
      exact orForm_no (boolOk_byte ‹_› (by simpa using h1))
    · have h1 : ((x.toNat : Int) != 255) = false := ‹_›
      have hp := ‹plainB _ 1 = true›
      obtain rfl := plainB_tag hp
      obtain ⟨rfl, g1⟩ := boolOk_255 (by simpa using h1) hp
      exact fin255 g1
    · have hp := ‹plainB _ 1 = true›
      obtain rfl := plainB_tag hp
      obtain ⟨rfl, g1⟩ := boolOk_0 ‹_› hp
      exact fin0 g1
  · have HN : Hid (boolOk (.mk t b nst es) = false) := boolOk_len HB hn1
    have hn2 : ¬ (nb : Int) = 1 := by omega
    go_enter Try.func13, Try.ntmps13
    go_wp2_with (first | (go_at_call 33; refine (plain_any t _ nst es _ _ (HV.out.ext ((Ext.refl _).alloc _)) 1).mono ?_; rintro e w' ⟨rfl, hx⟩; have hbk := hx.blk; have hb1 := hx.box (i := 1) (v := .slice Ab nb cb) rfl))
    all_goals go_ret2
    all_goals exact ⟨ret_val (orForm_no HN.out), ((Ext.refl _).alloc _).trans hx⟩

set_option maxRecDepth 100000 in
set_option maxHeartbeats 1600000 in
theorem rasBool_any (t : Int) (b : List UInt8) (nst : Bool) (es : List V) (v : Value) (w : World) (h : RdVal w (.mk t b nst es) v) :
    Calls Try.prog 38 #[v] w fun e w' => e = .returned (orForm (boolOk (.mk t b nst es)) (.bool (b == [255])) (.bool false)) ∧ Ext w w' := by
  obtain ⟨Ab, nb, cb, Ae, ne, ce, rfl, ht, hb, he, HB, HE, hnb, hne⟩ := h.opened
  clear h
  by_cases hn1 : nb = 1
  · subst hn1
    obtain ⟨ad, x, r, rfl, hS, rfl, hc0⟩ := RdC.byte0 hb (by omega)
    have hr : r = [] := by have := HB.out; simpa using this
    subst hr
    have hc1 := fun o => RdC.only (hb.ext ((Ext.refl _).alloc o))
    go_enter Try.func38, Try.ntmps38
    go_wp2
    all_goals go_ret2
    all_goals refine ⟨ret_val ?_, (Ext.refl _).alloc _⟩
    · exact orForm_no (boolOk_no (plainB_no HE (.inl ‹_›)))
    · exact orForm_no (boolOk_no (plainB_no HE (.inr (.inl ‹_›))))
    · exact orForm_no (boolOk_no (plainB_no HE (.inr (.inr ‹_›))))
    · have h1 : ((x.toNat : Int) != 255) = true := ‹_›
      exact orForm_no (boolOk_byte ‹_› (by simpa using h1))
    · have h1 : ((x.toNat : Int) != 255) = false := ‹_›
      obtain rfl : t = 1 := ‹_›
      obtain rfl : nst = false := ‹_›
      obtain ⟨rfl, g1⟩ := boolOk_255 (by simpa using h1) (plainB_yes HE ‹_›)
      exact fin255 g1
    · obtain rfl : t = 1 := ‹_›
      obtain rfl : nst = false := ‹_›
      obtain ⟨rfl, g1⟩ := boolOk_0 ‹_› (plainB_yes HE ‹_›)
      exact fin0 g1
  · have HN : Hid (boolOk (.mk t b nst es) = false) := boolOk_len HB hn1
    have hn2 : ¬ (nb : Int) = 1 := by omega
    go_enter Try.func38, Try.ntmps38
    go_wp2
    all_goals go_ret2
    all_goals exact ⟨ret_val (orForm_no HN.out), (Ext.refl _).alloc _⟩
end Go.Proofs.Ythohienbmhohjaa
