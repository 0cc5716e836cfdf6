/- The walks: whether two messages are the same. -/
import Derived.Test.YthjgcmifggdepaaH20
set_option linter.unusedSimpArgs false
set_option linter.unusedVariables false
namespace Go.Proofs.Ythjgcmifggdepaa
open Go.RowKit

set_option maxRecDepth 100000 in
set_option maxHeartbeats 800000 in
theorem sameInts_any (l1 l2 : List Int) (A : Option Addr) (n c : Nat) (A' : Option Addr) (n' c' : Nat) (w : World) (h : Rd w (.sl 1 (intsC l1)) (.slice A n c)) (h' : Rd w (.sl 1 (intsC l2)) (.slice A' n' c')) :
    Calls Try.prog 39 #[.slice A n c, .slice A' n' c'] w fun e w' => e = .returned (.bool (decide (l1 = l2))) ∧ Ext w w' := by
  obtain ⟨hl, hnc, hc⟩ := ints_len h
  obtain ⟨hl', hnc', hc'⟩ := ints_len h'
  have HR := Lib.hid h
  have HR' := Lib.hid h'
  clear h h'
  by_cases hn : n = n'
  · subst hn
    have HL := Lib.hid hl
    have HL' := Lib.hid hl'
    clear hl hl'
    go_enter Try.func39, Try.ntmps39
    go_wp2
    go_loopw [5] (fun j wr => ∃ k : Nat, k ≤ n ∧ j = .int .i64 (k : Nat) ∧ Hid (∀ j, j < k → l1[j]? = l2[j]?) ∧ Ext w wr) (fun j _ => n - (intOf j).toNat)
    case atStart => exact ⟨0, by omega, rfl, fun _ h => absurd h (by omega), Ext.refl _⟩
    case round =>
      obtain ⟨k, hk, rfl, HN, hx⟩ := hrel
      by_cases hlt : k < n
      · obtain ⟨ad, x, rfl, hS, hd, c0, -⟩ := ints_get (HR.out.ext hx) hlt
        obtain ⟨ad', y, rfl, hS', hd', c0', -⟩ := ints_get (HR'.out.ext hx) hlt
        have HD := Lib.hid hd
        have HD' := Lib.hid hd'
        clear hd hd'
        by_cases hxy : x = y
        · subst hxy
          go_wp2
          go_quiet (fail)
          go_wp2
          go_roundw
          case rel => exact ⟨k + 1, by omega, by go_num, fun j hj => by
            by_cases e : j = k
            · subst e; rw [HD.out, HD'.out]
            · exact HN.out j (by omega), hx.drewN _⟩
          case measure => simp [intOf]; omega
        · have HF : Hid (decide (l1 = l2) = false) := decide_eq_false fun e => by
            have h1 := HD.out
            rw [e, HD'.out] at h1
            injection h1 with h1
            exact hxy h1.symm
          go_wp2
          go_quiet (fail)
          go_wp2
          go_ret
          exact ⟨ret_val (by rw [HF.out]; rfl), hx.drewN _⟩
      · have HT : Hid (decide (l1 = l2) = true) := decide_eq_true (List.ext_getElem? fun j => by
          by_cases hj : j < n
          · exact HN.out j (by omega)
          · rw [List.getElem?_eq_none (by have := HL.out; omega), List.getElem?_eq_none (by have := HL'.out; omega)])
        go_wp2
        go_ret
        exact ⟨ret_val (by rw [HT.out]; rfl), hx⟩
  · have HF : Hid (decide (l1 = l2) = false) := decide_eq_false fun e => hn (by rw [← hl, ← hl', e])
    clear hl hl'
    have hni : ¬ (n : Int) = (n' : Int) := by omega
    go_enter Try.func39, Try.ntmps39
    go_wp2
    go_ret
    exact ⟨ret_val (by rw [HF.out]; rfl), Ext.refl _⟩

theorem blk1 {w w' : World} {o o' : Obj} (hx : Ext ((w.alloc o).alloc o') w') : w'.heap[w.heap.size + 1]? = some o' := by
  have := hx.blk; simpa using this
def sameHB (a b : Hl) : Bool := decide (a.most = b.most) && decide (a.su = b.su) && decide (a.ha = b.ha)
set_option maxRecDepth 100000 in
set_option maxHeartbeats 1600000 in
theorem sameHello_any (a b : Hl) (u v : Value) (w : World) (hu : RdHv w a u) (hv : RdHv w b v) : Calls Try.prog 27 #[u, v] w fun e w' => e = .returned (.bool (sameHB a b)) ∧ Ext w w' := by
  obtain ⟨A, n, c, A1, n1, c1, rfl, hs, hh, -, -⟩ := hu.opened
  obtain ⟨A2, n2, c2, A3, n3, c3, rfl, hs2, hh2, -, -⟩ := hv.opened
  have HS := Lib.hid hs
  have HH := Lib.hid hh
  have HS2 := Lib.hid hs2
  have HH2 := Lib.hid hh2
  clear hu hv hs hh hs2 hh2
  obtain ⟨m, su, ha⟩ := a
  obtain ⟨m2, su2, ha2⟩ := b
  dsimp only at HS HH HS2 HH2 ⊢
  unfold sameHB
  dsimp only
  by_cases hm : m = m2
  · subst hm
    rw [decide_eq_true (rfl : m = m), Bool.true_and]
    obtain ⟨b1, hb1⟩ : ∃ b, decide (su = su2) = b := ⟨_, rfl⟩
    obtain ⟨b2, hb2⟩ : ∃ b, decide (ha = ha2) = b := ⟨_, rfl⟩
    have HB1 := Lib.hid hb1
    have HB2 := Lib.hid hb2
    rw [hb1, hb2]
    clear hb1 hb2
    have tok1 : True := trivial
    cases b1 <;> (
      go_enter Try.func27, Try.ntmps27
      go_wp2_with (first
        | (go_at_call 39; have _t := tok1; refine (sameInts_any su su2 _ _ _ _ _ _ _ (by exact HS.out.ext (((Ext.refl _).alloc _).alloc _)) (by exact HS2.out.ext (((Ext.refl _).alloc _).alloc _))).mono ?_; rintro e w1 ⟨rfl, hx1⟩; rw [HB1.out]; obtain ⟨⟨q0, q1, q2⟩, -⟩ := three (((Ext.refl (w.alloc (.cells #[.int .i64 m, .slice A n c, .slice A1 n1 c1] 24))).alloc (.cells #[.int .i64 m, .slice A2 n2 c2, .slice A3 n3 c3] 24)).trans hx1).blk; obtain ⟨⟨r0, r1, r2⟩, -⟩ := three (blk1 hx1); clear tok1)
        | (go_at_call 39; refine (sameInts_any ha ha2 _ _ _ _ _ _ _ (by exact HH.out.ext ((((Ext.refl _).alloc _).alloc _).trans hx1)) (by exact HH2.out.ext ((((Ext.refl _).alloc _).alloc _).trans hx1))).mono ?_; rintro e w2 ⟨rfl, hx2⟩; rw [HB2.out]))
      go_ret
      first
        | exact ⟨ret_val rfl, ((((Ext.refl _).alloc _).alloc _).trans hx1).trans hx2⟩
        | exact ⟨ret_val rfl, (((Ext.refl _).alloc _).alloc _).trans hx1⟩)
  · rw [decide_eq_false hm, Bool.false_and, Bool.false_and]
    go_enter Try.func27, Try.ntmps27
    go_wp2
    go_ret
    exact ⟨ret_val rfl, ((Ext.refl _).alloc _).alloc _⟩
theorem sameHB_refl (a : Hl) : sameHB a a = true := by unfold sameHB; simp
end Go.Proofs.Ythjgcmifggdepaa
