/- The dice: each number that is drawn is one of those that may be. -/
import Derived.Test.YthjgcmifggdepaaRows
import Derived.Test.YthjgcmifggdepaaMem
import Derived.BigQuiet
set_option linter.unusedSimpArgs false
set_option linter.unusedVariables false
namespace Go.Proofs.Ythjgcmifggdepaa
open Go.RowKit

section
variable {g : Nat} {a b c w w' : World}
/-- The dice lie in block g; the numbers lie before it. -/
def Dice (w : World) (g : Nat) : Prop :=
  ∃ (l : List Int) (A : Option Addr) (n c p : Nat), w.heap[g]? = some (.cells #[.slice A n c, .int .i64 (p : Nat)] 59) ∧ p ≤ n ∧ RdC w (fun b => b < g) (.sl 1 (intsC l)) (.slice A n c)
theorem Dice.lt (h : Dice w g) : g < w.heap.size := by
  obtain ⟨l, A, n, c, p, h1, _⟩ := h
  exact (Array.getElem?_eq_some_iff.1 h1).1
theorem Dice.keep (h : Dice w g) (hk : ∀ b, b ≤ g → w'.heap[b]? = w.heap[b]?) : Dice w' g := by
  obtain ⟨l, A, n, c, p, h1, h2, h3⟩ := h
  exact ⟨l, A, n, c, p, by rw [hk g (Nat.le_refl _)]; exact h1, h2, h3.keep fun b hb => hk b (Nat.le_of_lt hb)⟩
theorem Dice.ext (h : Dice w g) (hx : Ext w w') : Dice w' g := h.keep fun b hb => hx.block b (Nat.lt_of_le_of_lt hb h.lt)
theorem Dice.alloc (h : Dice w g) (o : Obj) : Dice (w.alloc o) g := h.ext ((Ext.refl _).alloc _)
theorem Dice.setCell (h : Dice w g) {p : Addr} (hp : g < p.block) (u : Value) : Dice (w.setCell p u) g := h.keep fun b hb => Below.heap_setCell _ _ _ _ (by omega)
theorem Dice.grown {row : Option Nat} (h : Dice w g) (hg : w.grownBy w' row) (hr : ∀ k, row = some k → g < k) : Dice w' g :=
  h.keep fun b hb => hg.block b (Nat.lt_of_le_of_lt hb h.lt) (fun e => by have := hr b (by rw [e]); omega)
/-- One number further. -/
theorem Dice.step {l : List Int} {A : Option Addr} {n c p : Nat} (h1 : w.heap[g]? = some (.cells #[.slice A n c, .int .i64 (p : Nat)] 59)) (hp : p < n) (h3 : RdC w (fun b => b < g) (.sl 1 (intsC l)) (.slice A n c)) (k : Nat) :
    Dice (((w.drewN k).setCell { block := g, off := 1 } (.int .i64 ((p : Int) + 1)))) g := by
  refine ⟨l, A, n, c, p + 1, ?_, hp, h3.keep fun b hb => ?_⟩
  · rw [blk_set (i := 1) (w := w.drewN k) h1]
    simp
  · exact Below.heap_setCell (w.drewN k) _ _ _ (by simp; omega)
end

def modV (x k : Int) : Int := x.tmod k % k
theorem modV_range (x k : Int) (hk : 1 ≤ k) : 0 ≤ modV x k ∧ modV x k < k := by
  unfold modV
  exact ⟨Int.emod_nonneg _ (by omega), Int.emod_lt_of_pos _ (by omega)⟩
set_option maxRecDepth 100000 in
set_option maxHeartbeats 800000 in
theorem mod_any (x k : Int) (hk : 1 ≤ k) (hk2 : k ≤ 1000000000) (w : World) : Calls Try.prog 20 #[.int .i64 x, .int .i64 k] w fun e w' => e = .returned (.int .i64 (modV x k)) ∧ w' = w := by
  have h1 := Int.lt_tmod_of_pos x (b := k) (by omega)
  have h2 := Int.tmod_lt_of_pos x (b := k) (by omega)
  have h0 : ¬ k = 0 := by omega
  have h3 : ¬ k < 1 := by omega
  have HM : Hid (modV x k = x.tmod k % k) := by show _ = _; rfl
  go_enter Try.func20, Try.ntmps20
  go_wp2
  go_ret
  exact ⟨ret_val (by rw [HM.out]; rfl), rfl⟩
set_option maxRecDepth 100000 in
set_option maxHeartbeats 800000 in
theorem dnext_any (g : Nat) (k : Int) (hk : 1 ≤ k) (hk2 : k ≤ 1000000000) (w : World) (h : Dice w g) :
    Calls Try.prog 21 #[.pointer (some { block := g, off := 0 }), .int .i64 k] w fun e w' => ∃ r : Nat, e = .returned (.int .i64 (r : Nat)) ∧ (r : Int) < k ∧ Dice w' g ∧ ExtD g w w' := by
  have HD := Lib.hid h
  obtain ⟨l, A, n, c, p, h1, h2, h3⟩ := h
  have hcap := (RdC.len h3).2
  unfold maxLen at hcap
  obtain ⟨⟨q0, q1⟩, ⟨f0, f1⟩⟩ := two h1
  by_cases hp : p < n
  · obtain ⟨ad, x, rfl, hS, -, hc, -⟩ := ints_at h3 hp
    have hb : ∀ z, ((w.drewN z).setCell { block := g, off := 1 } (.int .i64 ((p : Int) + 1))).heap[g]? = some (.cells #[.slice (some ad) n c, .int .i64 ((p : Int) + 1)] 59) := fun z => by rw [blk_set (i := 1) (w := w.drewN z) h1]; simp
    have e0 : ∀ z, ((w.drewN z).setCell { block := g, off := 1 } (.int .i64 ((p : Int) + 1))).cell? { block := g, off := 0 } = some (.slice (some ad) n c) := fun z => (two (hb z)).1.1
    have e1 : ∀ z, ((w.drewN z).setCell { block := g, off := 1 } (.int .i64 ((p : Int) + 1))).cell? { block := g, off := 1 } = some (.int .i64 ((p : Int) + 1)) := fun z => (two (hb z)).1.2
    have e2 : ∀ z, ((w.drewN z).setCell { block := g, off := 1 } (.int .i64 ((p : Int) + 1))).cell? (ad.add p) = some (.int .i64 x) := fun z =>
      (World.cell?_of_block (w := w) (by rw [block_add]; exact Below.heap_setCell (w.drewN z) _ _ _ (by simp; omega))).trans hc
    have ST : Hid (∀ z, Dice ((w.drewN z).setCell { block := g, off := 1 } (.int .i64 ((p : Int) + 1))) g) := fun z => Dice.step h1 hp h3 z
    clear hb
    go_enter Try.func21, Try.ntmps21
    go_wp2
    go_quiet (fail)
    go_wp2
    go_quiet ((go_at_call 20; refine Calls.quiet_of_same (mod_any x k hk hk2 _)))
    go_wp2
    have hm := modV_range x k hk
    obtain ⟨r, hr⟩ := Int.eq_ofNat_of_zero_le hm.1
    rw [hr]
    go_ret
    exact ⟨r, ret_val rfl, by rw [← hr]; exact hm.2, (ST.out _).keep fun b hb => rfl, (((ExtD.refl g w).drewN _).setCell (.inl rfl) _).drewN _⟩
  · go_enter Try.func21, Try.ntmps21
    go_wp2
    go_quiet (fail)
    go_wp2
    go_ret
    exact ⟨0, ret_val rfl, by omega, HD.out.keep fun b hb => rfl, (ExtD.refl g w).drewN _⟩

set_option maxRecDepth 100000 in
set_option maxHeartbeats 800000 in
theorem dof_any (g : Nat) (l : List Int) (A : Option Addr) (n c : Nat) (hn : 0 < n) (hn2 : n ≤ 1000) (w : World) (h : Dice w g) (hl : RdC w (fun b => b < w.heap.size ∧ b ≠ g) (.sl 1 (intsC l)) (.slice A n c)) :
    Calls Try.prog 19 #[.pointer (some { block := g, off := 0 }), .slice A n c] w fun e w' => ∃ x, x ∈ l ∧ e = .returned (.int .i64 x) ∧ Dice w' g ∧ ExtD g w w' := by
  go_enter Try.func19, Try.ntmps19
  go_wp2_with (go_at_call 21; refine (dnext_any g _ (by omega) (by omega) _ (by exact h)).mono ?_; rintro e w1 ⟨r, rfl, hr, hD1, hx1⟩; obtain ⟨ad, x, rfl, -, hm, hc, -⟩ := ints_at (RdC.keep_ (fun b hb => hx1.block b hb.1 hb.2) (fun b hb => hb) _ _ hl) (k := r) (by omega))
  go_ret
  exact ⟨x, hm, ret_val rfl, hD1, hx1⟩
set_option maxRecDepth 100000 in
set_option maxHeartbeats 800000 in
theorem done_any (g : Nat) (k : Int) (hk : 1 ≤ k) (hk2 : k ≤ 1000000000) (w : World) (h : Dice w g) :
    Calls Try.prog 17 #[.pointer (some { block := g, off := 0 }), .int .i64 k] w fun e w' => ∃ b : Bool, e = .returned (.bool b) ∧ Dice w' g ∧ ExtD g w w' := by
  go_enter Try.func17, Try.ntmps17
  go_wp2_with (go_at_call 21; refine (dnext_any g _ (by omega) (by omega) _ (by exact h)).mono ?_; rintro e w1 ⟨r, rfl, hr, hD1, hx1⟩)
  go_ret
  exact ⟨_, ret_val rfl, hD1, hx1⟩
set_option maxRecDepth 100000 in
theorem light_any (A : Option Addr) (n c : Nat) (w : World) : Calls Try.prog 8 #[.slice A n c] w fun e w' => e = .returned (.bool (decide (n ≤ 400))) ∧ w' = w := by
  go_enter Try.func8, Try.ntmps8
  go_wp2
  go_ret
  exact ⟨ret_val (by simp; omega), rfl⟩
set_option maxRecDepth 100000 in
theorem roll_any (l : List Int) (A : Option Addr) (n c : Nat) (w : World) (h : Rd w (.sl 1 (intsC l)) (.slice A n c)) :
    Calls Try.prog 10 #[.slice A n c] w fun e w' => e = .returned (.pointer (some { block := w.heap.size, off := 0 })) ∧ Dice w' w.heap.size ∧ Ext w w' := by
  have HD : Hid (Dice (w.alloc (.cells #[.slice A n c, .int .i64 0] 59)) w.heap.size) := by
    refine ⟨l, A, n, c, 0, ?_, by omega, RdC.keep_ (fun b hb => ((Ext.refl _).alloc _).block b hb) (fun b hb => hb) _ _ h⟩
    rw [heap_alloc_new]
    rfl
  go_enter Try.func10, Try.ntmps10
  go_wp2
  go_ret
  exact ⟨ret_val rfl, HD.out, (Ext.refl _).alloc _⟩
end Go.Proofs.Ythjgcmifggdepaa
