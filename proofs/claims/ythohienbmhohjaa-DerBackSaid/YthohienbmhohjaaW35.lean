/- The walks: the dice. -/
import Derived.Test.YthohienbmhohjaaW34
namespace Go.Proofs.Ythohienbmhohjaa
open Go.RowKit

theorem two {wr : World} {g : Nat} {a b : Value} {t : TypeId} (h : wr.heap[g]? = some (.cells #[a, b] t)) :
    (wr.cell? { block := g, off := 0 } = some a ∧ wr.cell? { block := g, off := 1 } = some b) ∧ (wr.frozen? { block := g, off := 0 } = false ∧ wr.frozen? { block := g, off := 1 } = false) := by
  simp [World.cell?, World.frozen?, h]
theorem ints_at {w : World} {S : Nat → Prop} {l : List Int} {A : Option Addr} {n c : Nat} (h : RdC w S (.sl 1 (intsC l)) (.slice A n c)) {k : Nat} (hk : k < n) :
    ∃ ad x, A = some ad ∧ S ad.block ∧ x ∈ l ∧ w.cell? (ad.add k) = some (.int .i64 x) ∧ (-9223372036854775808 ≤ x ∧ x ≤ 9223372036854775807) := by
  have hl := (RdC.len h).1
  obtain ⟨ad, hA, hS, hc⟩ := h.cells (by omega)
  have hk' : k < l.length := by rw [intsC_length] at hl; omega
  obtain ⟨u, c0, r0⟩ := hc k (.int .i64 l[k]) (by simp [intsC, hk'])
  refine ⟨ad, l[k], hA, hS, List.getElem_mem hk', by rw [c0, r0.int_.1], ?_⟩
  have h1 : IntKind.i64.min = -9223372036854775808 := by decide
  have h2 : IntKind.i64.max = 9223372036854775807 := by decide
  have := r0.int_.2
  rw [h1, h2] at this
  exact this
theorem ints_us {w : World} {S : Nat → Prop} {l : List Int} (h : ∀ x ∈ l, -9223372036854775808 ≤ x ∧ x ≤ 9223372036854775807) : RdUs w S (intsC l) (l.map (Value.int .i64)) := by
  refine ⟨by simp [intsC], fun j c u h1 h2 => ?_⟩
  simp only [intsC, List.getElem?_map, Option.map_eq_some_iff] at h1 h2
  obtain ⟨x, h1, rfl⟩ := h1
  obtain ⟨y, h2, rfl⟩ := h2
  rw [h1] at h2
  injection h2 with h2
  subst h2
  unfold RdC
  exact ⟨rfl, i64_range (h x (List.mem_of_getElem? h1))⟩
/-- Numbers, laid by a literal. -/
theorem ints_lit {g : Nat} {w : World} (hg : g < w.heap.size) (l : List Int) (n : Nat) (hn : l.length = n) (hm : n ≤ 1000) (h : ∀ x ∈ l, -9223372036854775808 ≤ x ∧ x ≤ 9223372036854775807) :
    RdC (w.alloc (.cells (l.map (Value.int .i64)).toArray 3)) (fun b => b < (w.alloc (.cells (l.map (Value.int .i64)).toArray 3)).heap.size ∧ b ≠ g) (.sl 1 (intsC l)) (.slice (some ⟨w.heap.size, 0, none⟩) n n) :=
  RdC.fresh (S := fun _ => False) (by rw [intsC_length, hn]; omega) (by unfold maxLen; omega) (ints_us h) (fun _ h => h.elim) _ (fun _ h => h.elim) ⟨by simp, by omega⟩

def strsC (l : List ByteArray) : List C := l.map .str
theorem strs_at {w : World} {S : Nat → Prop} {l : List ByteArray} {A : Option Addr} {n c : Nat} (h : RdC w S (.sl 1 (strsC l)) (.slice A n c)) {k : Nat} (hk : k < n) :
    ∃ ad x, A = some ad ∧ S ad.block ∧ x ∈ l ∧ w.cell? (ad.add k) = some (.string x) := by
  have hl := (RdC.len h).1
  obtain ⟨ad, hA, hS, hc⟩ := h.cells (by omega)
  have hk' : k < l.length := by simp [strsC] at hl; omega
  obtain ⟨u, c0, r0⟩ := hc k (.str l[k]) (by simp [strsC, hk'])
  exact ⟨ad, l[k], hA, hS, List.getElem_mem hk', by rw [c0, r0.str_.1]⟩
theorem strs_us {w : World} {S : Nat → Prop} {l : List ByteArray} (h : ∀ x ∈ l, x.size ≤ 1000) : RdUs w S (strsC l) (l.map Value.string) := by
  refine ⟨by simp [strsC], fun j c u h1 h2 => ?_⟩
  simp only [strsC, List.getElem?_map, Option.map_eq_some_iff] at h1 h2
  obtain ⟨x, h1, rfl⟩ := h1
  obtain ⟨y, h2, rfl⟩ := h2
  rw [h1] at h2
  injection h2 with h2
  subst h2
  unfold RdC
  exact ⟨rfl, by have := h x (List.mem_of_getElem? h1); unfold maxLen; omega⟩
theorem strs_lit {g : Nat} {w : World} (hg : g < w.heap.size) (l : List ByteArray) (n : Nat) (hn : l.length = n) (hm : n ≤ 1000) (h : ∀ x ∈ l, x.size ≤ 1000) :
    RdC (w.alloc (.cells (l.map Value.string).toArray 9)) (fun b => b < (w.alloc (.cells (l.map Value.string).toArray 9)).heap.size ∧ b ≠ g) (.sl 1 (strsC l)) (.slice (some ⟨w.heap.size, 0, none⟩) n n) :=
  RdC.fresh (S := fun _ => False) (by simp [strsC, hn]) (by unfold maxLen; omega) (strs_us h) (fun _ h => h.elim) _ (fun _ h => h.elim) ⟨by simp, by omega⟩

set_option maxRecDepth 100000 in
set_option maxHeartbeats 800000 in
theorem dnext_any (g : Nat) (k : Int) (hk : 1 ≤ k) (hk2 : k ≤ 1000000000) (w : World) (h : Dice w g) :
    Calls Try.prog 50 #[.pointer (some { block := g, off := 0 }), .int .i64 k] w fun e w' => ∃ r : Nat, e = .returned (.int .i64 (r : Nat)) ∧ (r : Int) < k ∧ Dice w' g ∧ ExtD g w w' := by
  have HD := Lib.hid h
  obtain ⟨l, A, n, c, p, h1, h2, h3⟩ := h
  have hcap := (RdC.len h3).2
  unfold maxLen at hcap
  obtain ⟨⟨q0, q1⟩, ⟨f0, f1⟩⟩ := two h1
  by_cases hp : p < n
  · obtain ⟨ad, x, rfl, hS, -, hc, -⟩ := ints_at h3 hp
    have hb : ∀ z, ((w.drewN z).setCell { block := g, off := 1 } (.int .i64 ((p : Int) + 1))).heap[g]? = some (.cells #[.slice (some ad) n c, .int .i64 ((p : Int) + 1)] 71) := fun z => by rw [blk_set (i := 1) (w := w.drewN z) h1]; simp
    have e0 : ∀ z, ((w.drewN z).setCell { block := g, off := 1 } (.int .i64 ((p : Int) + 1))).cell? { block := g, off := 0 } = some (.slice (some ad) n c) := fun z => (two (hb z)).1.1
    have e1 : ∀ z, ((w.drewN z).setCell { block := g, off := 1 } (.int .i64 ((p : Int) + 1))).cell? { block := g, off := 1 } = some (.int .i64 ((p : Int) + 1)) := fun z => (two (hb z)).1.2
    have e2 : ∀ z, ((w.drewN z).setCell { block := g, off := 1 } (.int .i64 ((p : Int) + 1))).cell? (ad.add p) = some (.int .i64 x) := fun z =>
      (World.cell?_of_block (w := w) (by rw [block_add]; exact Below.heap_setCell (w.drewN z) _ _ _ (by simp; omega))).trans hc
    have ST : Hid (∀ z, Dice ((w.drewN z).setCell { block := g, off := 1 } (.int .i64 ((p : Int) + 1))) g) := fun z => Dice.step h1 hp h3 z
    clear hb
    go_enter Try.func50, Try.ntmps50
    go_wp2
    go_quiet (fail)
    go_wp2
    go_quiet ((go_at_call 28; refine Calls.quiet_of_same (mod_any x k hk hk2 _)))
    go_wp2
    have hm := modV_range x k hk
    obtain ⟨r, hr⟩ := Int.eq_ofNat_of_zero_le hm.1
    rw [hr]
    go_ret
    exact ⟨r, ret_val rfl, by rw [← hr]; exact hm.2, (ST.out _).keep fun b hb => rfl, (((ExtD.refl g w).drewN _).setCell (.inl rfl) _).drewN _⟩
  · go_enter Try.func50, Try.ntmps50
    go_wp2
    go_quiet (fail)
    go_wp2
    go_ret
    exact ⟨0, ret_val rfl, by omega, HD.out.keep fun b hb => rfl, (ExtD.refl g w).drewN _⟩

set_option maxRecDepth 100000 in
set_option maxHeartbeats 800000 in
theorem dof_any (g : Nat) (l : List Int) (A : Option Addr) (n c : Nat) (hn : 0 < n) (hn2 : n ≤ 1000) (w : World) (h : Dice w g) (hl : RdC w (fun b => b < w.heap.size ∧ b ≠ g) (.sl 1 (intsC l)) (.slice A n c)) :
    Calls Try.prog 51 #[.pointer (some { block := g, off := 0 }), .slice A n c] w fun e w' => ∃ x, x ∈ l ∧ e = .returned (.int .i64 x) ∧ Dice w' g ∧ ExtD g w w' := by
  go_enter Try.func51, Try.ntmps51
  go_wp2_with (go_at_call 50; refine (dnext_any g _ (by omega) (by omega) _ (by exact h)).mono ?_; rintro e w1 ⟨r, rfl, hr, hD1, hx1⟩; obtain ⟨ad, x, rfl, -, hm, hc, -⟩ := ints_at (RdC.keep_ (fun b hb => hx1.block b hb.1 hb.2) (fun b hb => hb) _ _ hl) (k := r) (by omega))
  go_ret
  exact ⟨x, hm, ret_val rfl, hD1, hx1⟩
set_option maxRecDepth 100000 in
set_option maxHeartbeats 800000 in
theorem dword_any (g : Nat) (l : List ByteArray) (A : Option Addr) (n c : Nat) (hn : 0 < n) (hn2 : n ≤ 1000) (w : World) (h : Dice w g) (hl : RdC w (fun b => b < w.heap.size ∧ b ≠ g) (.sl 1 (strsC l)) (.slice A n c)) :
    Calls Try.prog 52 #[.pointer (some { block := g, off := 0 }), .slice A n c] w fun e w' => ∃ x, x ∈ l ∧ e = .returned (.string x) ∧ Dice w' g ∧ ExtD g w w' := by
  go_enter Try.func52, Try.ntmps52
  go_wp2_with (go_at_call 50; refine (dnext_any g _ (by omega) (by omega) _ (by exact h)).mono ?_; rintro e w1 ⟨r, rfl, hr, hD1, hx1⟩; obtain ⟨ad, x, rfl, -, hm, hc⟩ := strs_at (RdC.keep_ (fun b hb => hx1.block b hb.1 hb.2) (fun b hb => hb) _ _ hl) (k := r) (by omega))
  go_ret
  exact ⟨x, hm, ret_val rfl, hD1, hx1⟩
set_option maxRecDepth 100000 in
set_option maxHeartbeats 800000 in
theorem done_any (g : Nat) (k : Int) (hk : 1 ≤ k) (hk2 : k ≤ 1000000000) (w : World) (h : Dice w g) :
    Calls Try.prog 53 #[.pointer (some { block := g, off := 0 }), .int .i64 k] w fun e w' => ∃ b : Bool, e = .returned (.bool b) ∧ Dice w' g ∧ ExtD g w w' := by
  go_enter Try.func53, Try.ntmps53
  go_wp2_with (go_at_call 50; refine (dnext_any g _ (by omega) (by omega) _ (by exact h)).mono ?_; rintro e w1 ⟨r, rfl, hr, hD1, hx1⟩)
  go_ret
  exact ⟨_, ret_val rfl, hD1, hx1⟩
set_option maxRecDepth 100000 in
theorem light_any (A : Option Addr) (n c : Nat) (w : World) : Calls Try.prog 24 #[.slice A n c] w fun e w' => e = .returned (.bool (decide (n ≤ 400))) ∧ w' = w := by
  go_enter Try.func24, Try.ntmps24
  go_wp2
  go_ret
  exact ⟨ret_val (by simp; omega), rfl⟩
set_option maxRecDepth 100000 in
theorem roll_any (l : List Int) (A : Option Addr) (n c : Nat) (w : World) (h : Rd w (.sl 1 (intsC l)) (.slice A n c)) :
    Calls Try.prog 25 #[.slice A n c] w fun e w' => e = .returned (.pointer (some { block := w.heap.size, off := 0 })) ∧ Dice w' w.heap.size ∧ Ext w w' := by
  have HD : Hid (Dice (w.alloc (.cells #[.slice A n c, .int .i64 0] 71)) w.heap.size) := by
    refine ⟨l, A, n, c, 0, ?_, by omega, RdC.keep_ (fun b hb => ((Ext.refl _).alloc _).block b hb) (fun b hb => hb) _ _ h⟩
    rw [heap_alloc_new]
    rfl
  go_enter Try.func25, Try.ntmps25
  go_wp2
  go_ret
  exact ⟨ret_val rfl, HD.out, (Ext.refl _).alloc _⟩
end Go.Proofs.Ythohienbmhohjaa
