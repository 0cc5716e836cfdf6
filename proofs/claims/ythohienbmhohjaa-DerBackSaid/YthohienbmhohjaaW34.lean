/- The dice: each number that is drawn is one of those that may be. -/
import Derived.Test.YthohienbmhohjaaW33
import Derived.Deep.QuietTactic
import Derived.BigQuiet
namespace Go.Proofs.Ythohienbmhohjaa
open Go.RowKit

/-- Only block g of what was there has turned. -/
structure ExtD (g : Nat) (w w' : World) : Prop where
  os : w'.os = w.os
  tape : w'.tape = w.tape
  output : w'.output = w.output
  size : w.heap.size ≤ w'.heap.size
  block : ∀ k, k < w.heap.size → k ≠ g → w'.heap[k]? = w.heap[k]?
section
variable {g : Nat} {a b c w w' : World}
theorem ExtD.refl (g : Nat) (w : World) : ExtD g w w := ⟨rfl, rfl, rfl, Nat.le_refl _, fun _ _ _ => rfl⟩
theorem ExtD.of (h : Ext a b) : ExtD g a b := ⟨h.os, h.tape, h.output, h.size, fun k hk _ => h.block k hk⟩
theorem ExtD.trans (h : ExtD g a b) (k : ExtD g b c) : ExtD g a c :=
  ⟨k.os.trans h.os, k.tape.trans h.tape, k.output.trans h.output, Nat.le_trans h.size k.size, fun i hi hne => (k.block i (Nat.lt_of_lt_of_le hi h.size) hne).trans (h.block i hi hne)⟩
theorem ExtD.alloc (h : ExtD g a b) (o : Obj) : ExtD g a (b.alloc o) := h.trans (ExtD.of ((Ext.refl _).alloc _))
theorem ExtD.drewN (h : ExtD g a b) (n : Nat) : ExtD g a (b.drewN n) := ⟨h.os, h.tape, h.output, h.size, h.block⟩
theorem ExtD.setCell (h : ExtD g a b) {p : Addr} (hp : p.block = g ∨ a.heap.size ≤ p.block) (u : Value) : ExtD g a (b.setCell p u) :=
  ⟨h.os, h.tape, h.output, by simpa using h.size, fun k hk hne => (Below.heap_setCell _ _ _ _ (by rcases hp with e | e <;> omega)).trans (h.block k hk hne)⟩
theorem ExtD.grown {row : Option Nat} (h : ExtD g a w) (hg : w.grownBy w' row) (hr : ∀ k, row = some k → a.heap.size ≤ k) : ExtD g a w' :=
  ⟨hg.os.trans h.os, hg.tape.trans h.tape, hg.output.trans h.output, Nat.le_trans h.size hg.size, fun k hk hne => (hg.block k (Nat.lt_of_lt_of_le hk h.size) (fun e => by have := hr k (by rw [e]); omega)).trans (h.block k hk hne)⟩
/-- What came behind the dice's block is new. -/
theorem ExtD.ext {w0 : World} (hx : Ext w0 a) (hg : w0.heap.size ≤ g) (h : ExtD g a b) : Ext w0 b :=
  ⟨h.os.trans hx.os, h.tape.trans hx.tape, h.output.trans hx.output, Nat.le_trans hx.size h.size, fun k hk => (h.block k (Nat.lt_of_lt_of_le hk hx.size) (by omega)).trans (hx.block k hk)⟩
theorem RdC.new_d {s : C} {v : Value} (h : RdC a (New w a) s v) (hg : g < w.heap.size) (hx : ExtD g a b) : RdC b (New w b) s v :=
  RdC.keep_ (fun k hk => hx.block k hk.2 (by have := hk.1; omega)) (fun k hk => ⟨hk.1, Nat.lt_of_lt_of_le hk.2 hx.size⟩) _ _ h
theorem RdV.new_d {d : V} {v : Value} (h : RdV a (New w a) d v) (hg : g < w.heap.size) (hx : ExtD g a b) : RdV b (New w b) d v :=
  h.keep_ (fun k hk => hx.block k hk.2 (by have := hk.1; omega)) (fun k hk => ⟨hk.1, Nat.lt_of_lt_of_le hk.2 hx.size⟩)

def intsC (l : List Int) : List C := l.map fun x => .int .i64 x
theorem intsC_length (l : List Int) : (intsC l).length = l.length := by simp [intsC]
/-- The dice lie in block g; the numbers lie before it. -/
def Dice (w : World) (g : Nat) : Prop :=
  ∃ (l : List Int) (A : Option Addr) (n c p : Nat), w.heap[g]? = some (.cells #[.slice A n c, .int .i64 (p : Nat)] 71) ∧ p ≤ n ∧ RdC w (fun b => b < g) (.sl 1 (intsC l)) (.slice A n c)
theorem Dice.lt (h : Dice w g) : g < w.heap.size := by
  obtain ⟨l, A, n, c, p, h1, _⟩ := h
  exact (Array.getElem?_eq_some_iff.1 h1).1
theorem Dice.keep (h : Dice w g) (hk : ∀ b, b ≤ g → w'.heap[b]? = w.heap[b]?) : Dice w' g := by
  obtain ⟨l, A, n, c, p, h1, h2, h3⟩ := h
  exact ⟨l, A, n, c, p, by rw [hk g (Nat.le_refl _)]; exact h1, h2, h3.keep fun b hb => hk b (Nat.le_of_lt hb)⟩
theorem Dice.ext (h : Dice w g) (hx : Ext w w') : Dice w' g := h.keep fun b hb => hx.block b (Nat.lt_of_le_of_lt hb h.lt)
theorem Dice.alloc (h : Dice w g) (o : Obj) : Dice (w.alloc o) g := h.ext ((Ext.refl _).alloc _)
theorem Dice.setCell (h : Dice w g) {p : Addr} (hp : g < p.block) (u : Value) : Dice (w.setCell p u) g := h.keep fun b hb => Below.heap_setCell _ _ _ _ (by omega)
theorem Dice.grown {row : Option Nat} (h : Dice w g) (hg : w.grownBy w' row) (hr : ∀ k, row = some k → g < k) : Dice w' g :=
  h.keep fun b hb => hg.block b (Nat.lt_of_le_of_lt hb h.lt) (fun e => by have := hr b (by rw [e]); omega)
/-- One number further. -/
theorem Dice.step {l : List Int} {A : Option Addr} {n c p : Nat} (h1 : w.heap[g]? = some (.cells #[.slice A n c, .int .i64 (p : Nat)] 71)) (hp : p < n) (h3 : RdC w (fun b => b < g) (.sl 1 (intsC l)) (.slice A n c)) (k : Nat) :
    Dice (((w.drewN k).setCell { block := g, off := 1 } (.int .i64 ((p : Int) + 1)))) g := by
  refine ⟨l, A, n, c, p + 1, ?_, hp, h3.keep fun b hb => ?_⟩
  · rw [blk_set (i := 1) (w := w.drewN k) h1]
    simp
  · exact Below.heap_setCell (w.drewN k) _ _ _ (by simp; omega)
end

def modV (x k : Int) : Int := x.tmod k % k
theorem modV_range (x k : Int) (hk : 1 ≤ k) : 0 ≤ modV x k ∧ modV x k < k := by
  unfold modV
  exact ⟨Int.emod_nonneg _ (by omega), Int.emod_lt_of_pos _ (by omega)⟩
set_option maxRecDepth 100000 in
set_option maxHeartbeats 800000 in
theorem mod_any (x k : Int) (hk : 1 ≤ k) (hk2 : k ≤ 1000000000) (w : World) : Calls Try.prog 28 #[.int .i64 x, .int .i64 k] w fun e w' => e = .returned (.int .i64 (modV x k)) ∧ w' = w := by
  have h1 := Int.lt_tmod_of_pos x (b := k) (by omega)
  have h2 := Int.tmod_lt_of_pos x (b := k) (by omega)
  have h0 : ¬ k = 0 := by omega
  have h3 : ¬ k < 1 := by omega
  have HM : Hid (modV x k = x.tmod k % k) := by show _ = _; rfl
  go_enter Try.func28, Try.ntmps28
  go_wp2
  go_ret
  exact ⟨ret_val (by rw [HM.out]; rfl), rfl⟩
end Go.Proofs.Ythohienbmhohjaa
