/- The walks: right messages by the reference; the choice's bytes. -/
import Derived.Test.YthjgcmifggdepaaH2
set_option linter.unusedSimpArgs false
set_option linter.unusedVariables false
namespace Go.Proofs.Ythjgcmifggdepaa
open Go.RowKit

set_option maxRecDepth 100000 in
set_option maxHeartbeats 800000 in
theorem refHello_any (h : Hl) (v : Value) (w : World) (hr : RdHv w h v) : Calls Try.prog 33 #[v] w fun e w' => e = .returned (.bool (helloB h)) ∧ Ext w w' := by
  obtain ⟨A, n, c, A', n', c', rfl, hs, hh, ⟨hl, hnc, hcc⟩, ⟨hl', hnc', hcc'⟩⟩ := hr.opened
  have HS := Lib.hid hs
  have HH := Lib.hid hh
  clear hr hs hh
  obtain ⟨B, hB⟩ : ∃ B, helloB h = B := ⟨_, rfl⟩
  rw [hB]
  by_cases hp : 1 ≤ h.most ∧ h.most ≤ 4 ∧ 1 ≤ n ∧ n ≤ 16 ∧ n' ≤ 16
  · have hf := helloB_yes hl hl' hp
    obtain ⟨b1, hb1⟩ : ∃ b, distB 0 65535 [] h.su = b := ⟨_, rfl⟩
    obtain ⟨b2, hb2⟩ : ∃ b, distB 1 255 [] h.ha = b := ⟨_, rfl⟩
    rw [hb1, hb2, hB] at hf
    subst hf
    have HB1 := Lib.hid hb1
    have HB2 := Lib.hid hb2
    obtain ⟨m, su, ha⟩ := h
    dsimp only at hp HS HH HB1 HB2 ⊢
    obtain ⟨p1, p2, p3, p4, p5⟩ := hp
    clear hl hl' hb1 hb2 hB
    have tok1 : True := trivial
    cases b1 <;> (
      go_enter Try.func33, Try.ntmps33
      go_wp2_with (first
        | (go_at_call 46; have _t := tok1; refine (distinct_any su 0 65535 _ _ _ _ (by exact HS.out.ext ((Ext.refl _).alloc _))).mono ?_; rintro e w1 ⟨rfl, hx1⟩; rw [HB1.out]; obtain ⟨⟨q0, q1, q2⟩, -⟩ := three hx1.blk; clear tok1)
        | (go_at_call 46; refine (distinct_any ha 1 255 _ _ _ _ (by exact (HH.out.ext ((Ext.refl _).alloc _)).ext hx1)).mono ?_; rintro e w2 ⟨rfl, hx2⟩; rw [HB2.out]))
      all_goals try (exfalso; omega)
      all_goals
        go_ret
        first
          | exact ⟨ret_val rfl, (((Ext.refl _).alloc _).trans hx1).trans hx2⟩
          | exact ⟨ret_val rfl, ((Ext.refl _).alloc _).trans hx1⟩)
  · have hf := helloB_no hl hl' hp
    rw [hB] at hf
    subst hf
    obtain ⟨m, su, ha⟩ := h
    dsimp only at hp HS HH ⊢
    clear hl hl' hB
    go_enter Try.func33, Try.ntmps33
    go_wp2
    all_goals try (exfalso; omega)
    all_goals
      go_ret
      exact ⟨ret_val (by first | rfl | (simp; omega)), (Ext.refl _).alloc _⟩

theorem choiceB_iff (c : Ch) : choiceB c = decide (1 ≤ c.ver ∧ c.ver ≤ 4 ∧ 0 ≤ c.suite ∧ c.suite ≤ 65535 ∧ 0 ≤ c.key ∧ c.key ≤ 2147483648) := by
  unfold choiceB
  simp [Bool.and_assoc, Bool.decide_and]
set_option maxRecDepth 100000 in
set_option maxHeartbeats 800000 in
theorem rightChoice_any (c : Ch) (w : World) : Calls Try.prog 34 #[chV c] w fun e w' => e = .returned (.bool (choiceB c)) ∧ Ext w w' := by
  rw [choiceB_iff]
  obtain ⟨v, s, k⟩ := c
  unfold chV
  dsimp only
  by_cases hp : 1 ≤ v ∧ v ≤ 4 ∧ 0 ≤ s ∧ s ≤ 65535 ∧ 0 ≤ k ∧ k ≤ 2147483648
  · rw [decide_eq_true hp]
    obtain ⟨p1, p2, p3, p4, p5, p6⟩ := hp
    go_enter Try.func34, Try.ntmps34
    go_wp2
    go_ret
    exact ⟨ret_val rfl, (Ext.refl _).alloc _⟩
  · rw [decide_eq_false hp]
    go_enter Try.func34, Try.ntmps34
    go_wp2
    all_goals try (exfalso; omega)
    all_goals
      go_ret
      exact ⟨ret_val (by first | rfl | (simp; omega)), (Ext.refl _).alloc _⟩
set_option maxRecDepth 100000 in
set_option maxHeartbeats 800000 in
theorem refChoice_any (c : Ch) (w : World) : Calls Try.prog 35 #[chV c] w fun e w' => e = .returned (.bool (choiceB c)) ∧ Ext w w' := by
  rw [choiceB_iff]
  obtain ⟨v, s, k⟩ := c
  unfold chV
  dsimp only
  by_cases hp : 1 ≤ v ∧ v ≤ 4 ∧ 0 ≤ s ∧ s ≤ 65535 ∧ 0 ≤ k ∧ k ≤ 2147483648
  · rw [decide_eq_true hp]
    obtain ⟨p1, p2, p3, p4, p5, p6⟩ := hp
    go_enter Try.func35, Try.ntmps35
    go_wp2
    go_ret
    exact ⟨ret_val rfl, (Ext.refl _).alloc _⟩
  · rw [decide_eq_false hp]
    go_enter Try.func35, Try.ntmps35
    go_wp2
    all_goals try (exfalso; omega)
    all_goals
      go_ret
      exact ⟨ret_val (by first | rfl | (simp; omega)), (Ext.refl _).alloc _⟩

/-- What an encoding hands back: bytes of its own, and an error. -/
def BRes (w : World) (l : List UInt8) (k : Int) (e : Ending) (w' : World) : Prop :=
  ∃ A n c, e = .returned (.tuple #[.slice A n c, .int .i64 k]) ∧ OwnT (fun _ => False) w' w.heap.size 5 1 (.slice A n c) (bytesC l) ∧ Ext w w'
theorem info5 : (Try.prog.info? 5).map (fun i => (i.zero, i.size, i.bytes)) = some (some (.int .u8 0), 1, 1) := by kernel_rfl
theorem sl33 : SlT Try.prog 33 5 1 1 := SlT.mk' Try.underlying33 info5 rfl (by decide) (by decide)
def encCE (c : Ch) : Int := if choiceB c then 0 else 23
def encCL (c : Ch) : List UInt8 := if choiceB c then rawC c else []
theorem own_lit {w : World} {base : Nat} (hb : base ≤ w.heap.size) {us : List Value} {l : List UInt8} {n : Nat} (hn : l.length = n) (hm : n ≤ 1000) (h : RdUs w (fun _ => False) (bytesC l) us) :
    OwnT (fun _ => False) (w.alloc (.cells us.toArray 5)) base 5 1 (.slice (some ⟨w.heap.size, 0, none⟩) n n) (bytesC l) :=
  OwnT.madeAt w.heap.size rfl (by rw [bytesC_length, hn]; omega) (by unfold maxLen; omega) h (fun _ h => h.elim) hb
theorem us_nil {w : World} {S : Nat → Prop} : RdUs w S (bytesC []) [] := ⟨rfl, fun _ _ _ h _ => by simp [bytesC] at h⟩
theorem us_cons {w : World} {S : Nat → Prop} {x : UInt8} {E : Int} {l : List UInt8} {us : List Value} (h : E = (x.toNat : Int)) (hr : RdUs w S (bytesC l) us) : RdUs w S (bytesC (x :: l)) (.int .u8 E :: us) := (rdByte h).append hr

set_option maxRecDepth 100000 in
set_option maxHeartbeats 800000 in
theorem encodeChoice_any (c : Ch) (w : World) : Calls Try.prog 15 #[chV c] w fun e w' => BRes w (encCL c) (encCE c) e w' := by
  have HC := Lib.hid (rightChoice_any c)
  cases hB : choiceB c with
  | false =>
    have e1 : encCE c = 23 := by unfold encCE; rw [hB]; rfl
    have e2 : encCL c = [] := by unfold encCL; rw [hB]; rfl
    rw [e1, e2]
    rw [hB] at HC
    unfold chV at HC ⊢
    go_enter Try.func15, Try.ntmps15
    go_wp2_with (go_at_call 34; refine (HC.out _).mono ?_; rintro e w1 ⟨rfl, hx1⟩)
    go_ret2
    exact ⟨none, 0, 0, rfl, OwnT.nil_ _ _ _ _ _, ((Ext.refl _).alloc _).trans hx1⟩
  | true =>
    have e1 : encCE c = 0 := by unfold encCE; rw [hB]; rfl
    have e2 : encCL c = rawC c := by unfold encCL; rw [hB]; rfl
    rw [e1, e2]
    rw [choiceB_iff] at hB
    have hp := of_decide_eq_true hB
    rw [choiceB_iff, hB] at HC
    obtain ⟨v, s, k⟩ := c
    dsimp only at hp
    unfold chV at HC ⊢
    dsimp only at HC ⊢
    go_enter Try.func15, Try.ntmps15
    go_wp2_with (go_at_call 34; refine (HC.out _).mono ?_; rintro e w1 ⟨rfl, hx1⟩; obtain ⟨⟨q0, q1, q2⟩, -⟩ := three hx1.blk)
    go_ret2
    have hx := ((Ext.refl w).alloc (.cells #[.int .i64 v, .int .i64 s, .int .i64 k] 26)).trans hx1
    exact ⟨_, 8, 8, rfl, own_lit hx.size rfl (by omega) (us_cons rfl (us_cons (by rw [b8_nat]; dsimp only; omega) (us_cons (by rw [b8_nat]; dsimp only; omega) (us_cons (by rw [b8_nat]) (us_cons (by rw [b8_nat]; dsimp only; omega) (us_cons (by rw [b8_nat]) (us_cons (by rw [b8_nat]) (us_cons (by rw [b8_nat]) us_nil)))))))), hx.alloc _⟩
set_option maxRecDepth 100000 in
set_option maxHeartbeats 800000 in
theorem refEncodeChoice_any (c : Ch) (w : World) : Calls Try.prog 16 #[chV c] w fun e w' => BRes w (encCL c) (encCE c) e w' := by
  have HC := Lib.hid (refChoice_any c)
  cases hB : choiceB c with
  | false =>
    have e1 : encCE c = 23 := by unfold encCE; rw [hB]; rfl
    have e2 : encCL c = [] := by unfold encCL; rw [hB]; rfl
    rw [e1, e2]
    rw [hB] at HC
    unfold chV at HC ⊢
    go_enter Try.func16, Try.ntmps16
    go_wp2_with (go_at_call 35; refine (HC.out _).mono ?_; rintro e w1 ⟨rfl, hx1⟩)
    go_ret2
    exact ⟨none, 0, 0, rfl, OwnT.nil_ _ _ _ _ _, ((Ext.refl _).alloc _).trans hx1⟩
  | true =>
    have e1 : encCE c = 0 := by unfold encCE; rw [hB]; rfl
    have e2 : encCL c = rawC c := by unfold encCL; rw [hB]; rfl
    rw [e1, e2]
    rw [choiceB_iff] at hB
    have hp := of_decide_eq_true hB
    rw [choiceB_iff, hB] at HC
    obtain ⟨v, s, k⟩ := c
    dsimp only at hp
    unfold chV at HC ⊢
    dsimp only at HC ⊢
    go_enter Try.func16, Try.ntmps16
    go_wp2_with (go_at_call 35; refine (HC.out _).mono ?_; rintro e w1 ⟨rfl, hx1⟩; obtain ⟨⟨q0, q1, q2⟩, -⟩ := three hx1.blk)
    go_ret2
    have hx := ((Ext.refl w).alloc (.cells #[.int .i64 v, .int .i64 s, .int .i64 k] 26)).trans hx1
    exact ⟨_, 8, 8, rfl, own_lit hx.size rfl (by omega) (us_cons rfl (us_cons (by rw [b8_nat]; dsimp only; omega) (us_cons (by rw [b8_nat]; dsimp only; omega) (us_cons (by rw [b8_nat]) (us_cons (by rw [b8_nat]; dsimp only; omega) (us_cons (by rw [b8_nat]) (us_cons (by rw [b8_nat]) (us_cons (by rw [b8_nat]) us_nil)))))))), hx.alloc _⟩
end Go.Proofs.Ythjgcmifggdepaa
