/- The walks: whether messages are right, by the program and by the reference. -/
import Derived.Test.YthjgcmifggdepaaH1
set_option linter.unusedSimpArgs false
set_option linter.unusedVariables false
namespace Go.Proofs.Ythjgcmifggdepaa
open Go.RowKit

set_option maxRecDepth 100000 in
set_option maxHeartbeats 800000 in
theorem distinct_any (l : List Int) (lo hi : Int) (A : Option Addr) (n c : Nat) (w : World) (h : Rd w (.sl 1 (intsC l)) (.slice A n c)) :
    Calls Try.prog 46 #[.slice A n c, .int .i64 lo, .int .i64 hi] w fun e w' => e = .returned (.bool (distB lo hi [] l)) ∧ Ext w w' := by
  obtain ⟨hl, hnc, hc⟩ := ints_len h
  have HL := Lib.hid hl
  have HR := Lib.hid h
  clear hl h
  go_enter Try.func46, Try.ntmps46
  go_wp2
  go_loopw [7] (fun j wr => ∃ k : Nat, k ≤ n ∧ j = .int .i64 k ∧ Hid (distB lo hi [] l = distB lo hi (l.take k) (l.drop k)) ∧ Ext w wr) (fun j _ => n - (intOf j).toNat)
  case atStart => exact ⟨0, by omega, rfl, by show _ = _; simp, Ext.refl _⟩
  case round =>
    obtain ⟨k, hk, rfl, HN, hx⟩ := hrel
    by_cases hlt : k < n
    · obtain ⟨ad, y, rfl, hS, hd, c0, -⟩ := ints_get (HR.out.ext hx) hlt
      have HS := Lib.hid (HN.out.trans (distB_step hd))
      have HT := Lib.hid (ints_head (HR.out.ext hx) (k := k) (by omega))
      obtain ⟨cc, hcc⟩ : ∃ cc, decide (y ∈ l.take k) = cc := ⟨_, rfl⟩
      have HS : Hid (distB lo hi [] l = (decide (lo ≤ y) && decide (y ≤ hi) && !cc && distB lo hi (l.take (k + 1)) (l.drop (k + 1)))) := by have hs := HS.out; rw [List.contains_eq_mem, hcc] at hs; exact hs
      have HCC := Lib.hid hcc
      have HK : Hid (∀ z, Calls Try.prog 41 #[.slice (some ad) k c, .int .i64 y] (wr.drewN z) fun e w' => e = .returned (.bool cc) ∧ w' = wr.drewN z) := fun z => by
        have := has_any (l.take k) y _ _ _ _ (wr.drewN z) (RdC.keep_ (w := wr) (w' := wr.drewN z) (fun b _ => rfl) (fun _ h => h) _ _ HT.out)
        rw [hcc] at this
        exact this
      have kc : k ≤ c := by omega
      clear hd hcc
      by_cases h1 : y < lo
      · have HF : Hid (distB lo hi [] l = false) := by show _ = _; rw [HS.out, decide_eq_false (by omega : ¬ lo ≤ y)]; simp
        go_wp2
        go_quiet (fail)
        go_wp2
        go_ret
        exact ⟨ret_val (by rw [HF.out]; rfl), hx.drewN _⟩
      have hd1 : decide (y < lo) = false := decide_eq_false h1
      by_cases h2 : hi < y
      · have HF : Hid (distB lo hi [] l = false) := by show _ = _; rw [HS.out, decide_eq_false (by omega : ¬ y ≤ hi)]; simp
        go_wp2
        go_quiet (fail)
        go_wp2
        go_ret
        exact ⟨ret_val (by rw [HF.out]; rfl), hx.drewN _⟩
      have hd2 : decide (hi < y) = false := decide_eq_false h2
      have HS2 : Hid (distB lo hi [] l = (!cc && distB lo hi (l.take (k + 1)) (l.drop (k + 1)))) := by show _ = _; rw [HS.out, decide_eq_true (by omega : lo ≤ y), decide_eq_true (by omega : y ≤ hi)]; simp
      cases cc with
      | true =>
        have HF : Hid (distB lo hi [] l = false) := by show _ = _; rw [HS2.out]; rfl
        go_wp2
        go_quiet ((go_at_call 41; exact Calls.quiet_of_same (HK.out _)))
        go_wp2
        go_ret
        exact ⟨ret_val (by rw [HF.out]; rfl), hx.drewN _⟩
      | false =>
        have HF : Hid (distB lo hi [] l = distB lo hi (l.take (k + 1)) (l.drop (k + 1))) := by show _ = _; rw [HS2.out]; rfl
        go_wp2
        go_quiet ((go_at_call 41; exact Calls.quiet_of_same (HK.out _)))
        go_wp2
        go_roundw
        case rel => exact ⟨k + 1, by omega, by go_num, HF, hx.drewN _⟩
        case measure => simp [intOf]; omega
    · have HF : Hid (distB lo hi [] l = true) := by show _ = _; rw [HN.out, distB_end (by have := HL.out; omega)]
      go_wp2
      go_ret
      exact ⟨ret_val (by rw [HF.out]; rfl), hx⟩

/-- A message of a client, and one of a server. -/
def RdH (w : World) (S : Nat → Prop) (h : Hl) (v : Value) : Prop := ∃ v1 v2, v = .agg #[.int .i64 h.most, v1, v2] ∧ (-9223372036854775808 ≤ h.most ∧ h.most ≤ 9223372036854775807) ∧ RdC w S (.sl 1 (intsC h.su)) v1 ∧ RdC w S (.sl 1 (intsC h.ha)) v2
def chV (c : Ch) : Value := .agg #[.int .i64 c.ver, .int .i64 c.suite, .int .i64 c.key]
theorem RdH.keep_ {w w' : World} {S S' : Nat → Prop} {h : Hl} {v : Value} (hr : RdH w S h v) (hk : ∀ b, S b → w'.heap[b]? = w.heap[b]?) (hm : ∀ b, S b → S' b) : RdH w' S' h v := by
  obtain ⟨v1, v2, h1, h2, h3, h4⟩ := hr
  exact ⟨v1, v2, h1, h2, RdC.keep_ hk hm _ _ h3, RdC.keep_ hk hm _ _ h4⟩
def RdHv (w : World) (h : Hl) (v : Value) : Prop := RdH w (lt w.heap.size) h v
theorem RdHv.ext {w w' : World} {h : Hl} {v : Value} (hr : RdHv w h v) (hx : Ext w w') : RdHv w' h v := hr.keep_ (fun b hb => hx.block b hb) fun _ hb => Nat.lt_of_lt_of_le hb hx.size
theorem RdHv.opened {w : World} {h : Hl} {v : Value} (hr : RdHv w h v) : ∃ A n c A' n' c', v = .agg #[.int .i64 h.most, .slice A n c, .slice A' n' c'] ∧ Rd w (.sl 1 (intsC h.su)) (.slice A n c) ∧ Rd w (.sl 1 (intsC h.ha)) (.slice A' n' c') ∧ (h.su.length = n ∧ n ≤ c ∧ c ≤ 9223372036854775807) ∧ (h.ha.length = n' ∧ n' ≤ c' ∧ c' ≤ 9223372036854775807) := by
  obtain ⟨v1, v2, rfl, _, h3, h4⟩ := hr
  obtain ⟨A, n, c, rfl, -⟩ := RdC.slice h3
  obtain ⟨A', n', c', rfl, -⟩ := RdC.slice h4
  exact ⟨A, n, c, A', n', c', rfl, h3, h4, ints_len h3, ints_len h4⟩
theorem three {wr : World} {g : Nat} {a b c : Value} {t : TypeId} (h : wr.heap[g]? = some (.cells #[a, b, c] t)) :
    (wr.cell? { block := g, off := 0 } = some a ∧ wr.cell? { block := g, off := 1 } = some b ∧ wr.cell? { block := g, off := 2 } = some c) ∧
    (wr.frozen? { block := g, off := 0 } = false ∧ wr.frozen? { block := g, off := 1 } = false ∧ wr.frozen? { block := g, off := 2 } = false) := by
  simp [World.cell?, World.frozen?, h]
theorem helloB_no {h : Hl} {n n' : Nat} (hn : h.su.length = n) (hn' : h.ha.length = n') (hp : ¬ (1 ≤ h.most ∧ h.most ≤ 4 ∧ 1 ≤ n ∧ n ≤ 16 ∧ n' ≤ 16)) : helloB h = false := by
  subst hn hn'
  unfold helloB
  simp only [Bool.and_eq_false_iff, decide_eq_false_iff_not]
  omega
theorem helloB_yes {h : Hl} {n n' : Nat} (hn : h.su.length = n) (hn' : h.ha.length = n') (hp : 1 ≤ h.most ∧ h.most ≤ 4 ∧ 1 ≤ n ∧ n ≤ 16 ∧ n' ≤ 16) : helloB h = (distB 0 65535 [] h.su && distB 1 255 [] h.ha) := by
  subst hn hn'
  unfold helloB
  rw [decide_eq_true hp.1, decide_eq_true hp.2.1, decide_eq_true hp.2.2.1, decide_eq_true hp.2.2.2.1, decide_eq_true hp.2.2.2.2]
  simp

set_option maxRecDepth 100000 in
set_option maxHeartbeats 800000 in
theorem rightHello_any (h : Hl) (v : Value) (w : World) (hr : RdHv w h v) : Calls Try.prog 32 #[v] w fun e w' => e = .returned (.bool (helloB h)) ∧ Ext w w' := by
  obtain ⟨A, n, c, A', n', c', rfl, hs, hh, ⟨hl, hnc, hcc⟩, ⟨hl', hnc', hcc'⟩⟩ := hr.opened
  have HS := Lib.hid hs
  have HH := Lib.hid hh
  clear hr hs hh
  obtain ⟨B, hB⟩ : ∃ B, helloB h = B := ⟨_, rfl⟩
  rw [hB]
  by_cases hp : 1 ≤ h.most ∧ h.most ≤ 4 ∧ 1 ≤ n ∧ n ≤ 16 ∧ n' ≤ 16
  · have hf := helloB_yes hl hl' hp
    obtain ⟨b1, hb1⟩ : ∃ b, distB 0 65535 [] h.su = b := ⟨_, rfl⟩
    obtain ⟨b2, hb2⟩ : ∃ b, distB 1 255 [] h.ha = b := ⟨_, rfl⟩
    rw [hb1, hb2, hB] at hf
    subst hf
    have HB1 := Lib.hid hb1
    have HB2 := Lib.hid hb2
    obtain ⟨m, su, ha⟩ := h
    dsimp only at hp HS HH HB1 HB2 ⊢
    obtain ⟨p1, p2, p3, p4, p5⟩ := hp
    have p1' : ¬ m < 1 := by omega
    have p2' : ¬ 4 < m := by omega
    clear hl hl' hb1 hb2 hB
    have tok1 : True := trivial
    cases b1 <;> (
      go_enter Try.func32, Try.ntmps32
      go_wp2_with (first
        | (go_at_call 45; have _t := tok1; refine (between_any su 0 65535 _ _ _ _ (by exact HS.out.ext ((Ext.refl _).alloc _))).mono ?_; rintro e w1 ⟨rfl, rfl⟩; rw [HB1.out]; clear tok1)
        | (go_at_call 45; refine (between_any ha 1 255 _ _ _ _ (by exact HH.out.ext ((Ext.refl _).alloc _))).mono ?_; rintro e w1 ⟨rfl, rfl⟩; rw [HB2.out]))
      all_goals try (exfalso; omega)
      all_goals
        go_ret
        exact ⟨ret_val rfl, (Ext.refl _).alloc _⟩)
  · have hf := helloB_no hl hl' hp
    rw [hB] at hf
    subst hf
    obtain ⟨m, su, ha⟩ := h
    dsimp only at hp HS HH ⊢
    clear hl hl' hB
    go_enter Try.func32, Try.ntmps32
    go_wp2
    all_goals try (exfalso; omega)
    all_goals
      go_ret
      exact ⟨ret_val rfl, (Ext.refl _).alloc _⟩
end Go.Proofs.Ythjgcmifggdepaa
