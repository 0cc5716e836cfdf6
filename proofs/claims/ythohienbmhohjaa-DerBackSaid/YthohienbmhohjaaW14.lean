/- The walks: lists of elements read. -/
import Derived.Test.YthohienbmhohjaaW13
namespace Go.Proofs.Ythohienbmhohjaa
open Go.RowKit

/-- What AsList hands back. -/
def ListRes (w : World) (d : V) (es : List V) (e : Ending) (w' : World) : Prop :=
  ((∃ A n c, e = .returned (.tuple #[.slice A n c, .int .i64 0]) ∧ RdC w' (New w w') (.sl 4 (encs es)) (.slice A n c) ∧ listOk d = true) ∨ (listOk d = false ∧ e = .returned (.tuple #[.slice none 0 0, .int .i64 1]))) ∧ Ext w w'
theorem ListRes.no {w w' : World} {d : V} {es : List V} {v : Value} (h : listOk d = false) (hv : v = .tuple #[.slice none 0 0, .int .i64 1]) (hx : Ext w w') : ListRes w d es (.returned v) w' := ⟨.inr ⟨h, by rw [hv]⟩, hx⟩
theorem ListRes.yes {w w' : World} {d : V} {es : List V} {v : Value} {A : Option Addr} {n c : Nat} (h : listOk d = true) (hv : v = .tuple #[.slice A n c, .int .i64 0]) (hr : RdC w' (New w w') (.sl 4 (encs es)) (.slice A n c)) (hx : Ext w w') : ListRes w d es (.returned v) w' := ⟨.inl ⟨A, n, c, by rw [hv], hr, h⟩, hx⟩

set_option maxRecDepth 100000 in
set_option maxHeartbeats 800000 in
theorem asList_any (t : Int) (b : List UInt8) (nst : Bool) (es : List V) (hw : wtAll es ≤ 100000000) (v : Value) (w : World) (h : RdVal w (.mk t b nst es) v) :
    Calls Try.prog 39 #[v] w fun e w' => ListRes w (.mk t b nst es) es e w' := by
  obtain ⟨Ab, nb, cb, Ae, ne, ce, rfl, ht, hb, he, HB, HE, hnb, hne⟩ := h.opened
  have HV := Lib.hid h
  clear h
  by_cases h48 : ¬ t = 48
  · go_enter Try.func39, Try.ntmps39
    go_wp2
    go_ret2
    exact ListRes.no (by rw [listOk_eq]; simp [*]) rfl ((Ext.refl _).alloc _)
  have h48 : t = 48 := by omega
  subst h48
  go_enter Try.func39, Try.ntmps39
  go_wp2_with (first | (go_at_call 42; refine (formed_any _ _ _ _ (Nat.le_refl _) (HV.out.ext ((Ext.refl _).alloc _))).mono ?_; rintro e w1 ⟨rfl, hx⟩; have hbk := hx.blk; have hb3 := hx.box (i := 3) (v := .slice Ae ne ce) rfl) | (go_at_call 63; refine (copied_any es hw _ _ _ _ (he.ext (((Ext.refl _).alloc _).trans hx))).mono ?_; rintro e w2 ⟨A1, n1, c1, rfl, hr, hx2⟩))
  all_goals go_ret2
  all_goals first | exact ListRes.no (by rw [listOk_eq]; have h0 := ‹(!(V.formed _)) = true›; simpa using h0) rfl (((Ext.refl _).alloc _).trans hx) | exact ListRes.yes (by rw [listOk_eq]; have h0 := ‹(!(V.formed _)) = false›; simpa using h0) rfl (hr.new_back (((Ext.refl _).alloc _).trans hx)) ((((Ext.refl _).alloc _).trans hx).trans hx2)

set_option maxRecDepth 100000 in
set_option maxHeartbeats 800000 in
theorem rasList_any (t : Int) (b : List UInt8) (nst : Bool) (es : List V) (hw : wtAll es ≤ 100000000) (v : Value) (w : World) (h : RdVal w (.mk t b nst es) v) :
    Calls Try.prog 40 #[v] w fun e w' => ListRes w (.mk t b nst es) es e w' := by
  obtain ⟨Ab, nb, cb, Ae, ne, ce, rfl, ht, hb, he, HB, HE, hnb, hne⟩ := h.opened
  have HV := Lib.hid h
  clear h
  by_cases h48 : ¬ t = 48
  · go_enter Try.func40, Try.ntmps40
    go_wp2
    go_ret2
    exact ListRes.no (by rw [listOk_eq]; simp [*]) rfl ((Ext.refl _).alloc _)
  have h48 : t = 48 := by omega
  subst h48
  go_enter Try.func40, Try.ntmps40
  go_wp2_with (first | (go_at_call 45; refine (rformed_any _ _ _ _ (Nat.le_refl _) (HV.out.ext ((Ext.refl _).alloc _))).mono ?_; rintro e w1 ⟨rfl, hx⟩; have hbk := hx.blk; have hb3 := hx.box (i := 3) (v := .slice Ae ne ce) rfl) | (go_at_call 64; refine (copies_any es hw _ _ _ _ (he.ext (((Ext.refl _).alloc _).trans hx))).mono ?_; rintro e w2 ⟨A1, n1, c1, rfl, hr, hx2⟩))
  all_goals go_ret2
  all_goals first | exact ListRes.no (by rw [listOk_eq]; have h0 := ‹(!(V.formed _)) = true›; simpa using h0) rfl (((Ext.refl _).alloc _).trans hx) | exact ListRes.yes (by rw [listOk_eq]; have h0 := ‹(!(V.formed _)) = false›; simpa using h0) rfl (hr.new_back (((Ext.refl _).alloc _).trans hx)) ((((Ext.refl _).alloc _).trans hx).trans hx2)
end Go.Proofs.Ythohienbmhohjaa
