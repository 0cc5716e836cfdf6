/- The walks: the table of suites, by the reference. -/
import Derived.Test.YthjgcmifggdepaaH23
import Derived.Test.YthjgcmifggdepaaQT
import Derived.Deep.RegionHeld3
import Derived.Deep.DeepCutAuto
set_option linter.unusedSimpArgs false
set_option linter.unusedVariables false
namespace Go.Proofs.Ythjgcmifggdepaa
open Go.RowKit

def sui1 : Array Value := #[.int .i64 1, .string ⟨#[114, 115, 97, 45, 114, 99, 52, 45, 109, 100, 53]⟩, .int .i64 10, .int .i64 0, .int .i64 5, .int .i64 0, .int .i64 14, .int .i64 128, .int .i64 19, .int .i64 0, .int .i64 1, .int .i64 2]
def sui2 : Array Value := #[.int .i64 2, .string ⟨#[114, 115, 97, 45, 114, 99, 52, 45, 115, 104, 97]⟩, .int .i64 10, .int .i64 0, .int .i64 5, .int .i64 0, .int .i64 14, .int .i64 128, .int .i64 20, .int .i64 0, .int .i64 1, .int .i64 3]
def sui3 : Array Value := #[.int .i64 3, .string ⟨#[114, 115, 97, 45, 100, 101, 115, 51, 45, 115, 104, 97]⟩, .int .i64 10, .int .i64 0, .int .i64 5, .int .i64 0, .int .i64 15, .int .i64 168, .int .i64 20, .int .i64 0, .int .i64 1, .int .i64 3]
def sui4 : Array Value := #[.int .i64 4, .string ⟨#[100, 104, 101, 45, 100, 115, 97, 45, 100, 101, 115, 51, 45, 115, 104, 97]⟩, .int .i64 11, .int .i64 1024, .int .i64 6, .int .i64 0, .int .i64 15, .int .i64 168, .int .i64 20, .int .i64 0, .int .i64 1, .int .i64 3]
def sui5 : Array Value := #[.int .i64 5, .string ⟨#[100, 104, 101, 45, 114, 115, 97, 45, 100, 101, 115, 51, 45, 115, 104, 97]⟩, .int .i64 11, .int .i64 1024, .int .i64 5, .int .i64 0, .int .i64 15, .int .i64 168, .int .i64 20, .int .i64 0, .int .i64 1, .int .i64 3]
def sui6 : Array Value := #[.int .i64 6, .string ⟨#[114, 115, 97, 45, 97, 101, 115, 49, 50, 56, 45, 115, 104, 97]⟩, .int .i64 10, .int .i64 0, .int .i64 5, .int .i64 0, .int .i64 16, .int .i64 128, .int .i64 20, .int .i64 0, .int .i64 1, .int .i64 3]
def sui7 : Array Value := #[.int .i64 7, .string ⟨#[100, 104, 101, 45, 114, 115, 97, 45, 97, 101, 115, 49, 50, 56, 45, 115, 104, 97]⟩, .int .i64 11, .int .i64 2048, .int .i64 5, .int .i64 0, .int .i64 16, .int .i64 128, .int .i64 20, .int .i64 0, .int .i64 1, .int .i64 3]
def sui8 : Array Value := #[.int .i64 8, .string ⟨#[101, 99, 100, 104, 101, 45, 114, 115, 97, 45, 97, 101, 115, 49, 50, 56, 45, 115, 104, 97]⟩, .int .i64 12, .int .i64 256, .int .i64 5, .int .i64 0, .int .i64 16, .int .i64 128, .int .i64 20, .int .i64 0, .int .i64 1, .int .i64 3]
def sui9 : Array Value := #[.int .i64 9, .string ⟨#[101, 99, 100, 104, 101, 45, 101, 99, 100, 115, 97, 45, 97, 101, 115, 50, 53, 54, 45, 115, 104, 97, 50, 53, 54]⟩, .int .i64 12, .int .i64 256, .int .i64 7, .int .i64 0, .int .i64 16, .int .i64 256, .int .i64 21, .int .i64 0, .int .i64 3, .int .i64 3]
def sui10 : Array Value := #[.int .i64 10, .string ⟨#[101, 99, 100, 104, 101, 45, 114, 115, 97, 45, 97, 101, 115, 49, 50, 56, 45, 103, 99, 109]⟩, .int .i64 12, .int .i64 256, .int .i64 5, .int .i64 0, .int .i64 17, .int .i64 128, .int .i64 22, .int .i64 0, .int .i64 3, .int .i64 3]
def sui11 : Array Value := #[.int .i64 11, .string ⟨#[101, 99, 100, 104, 101, 45, 101, 99, 100, 115, 97, 45, 97, 101, 115, 50, 53, 54, 45, 103, 99, 109]⟩, .int .i64 12, .int .i64 384, .int .i64 7, .int .i64 0, .int .i64 17, .int .i64 256, .int .i64 22, .int .i64 0, .int .i64 3, .int .i64 3]
def sui12 : Array Value := #[.int .i64 12, .string ⟨#[101, 99, 100, 104, 101, 45, 114, 115, 97, 45, 99, 104, 97, 99, 104, 97]⟩, .int .i64 12, .int .i64 256, .int .i64 5, .int .i64 0, .int .i64 18, .int .i64 0, .int .i64 22, .int .i64 0, .int .i64 3, .int .i64 3]
def sui13 : Array Value := #[.int .i64 13, .string ⟨#[114, 115, 97, 45, 97, 101, 115, 50, 53, 54, 45, 103, 99, 109]⟩, .int .i64 10, .int .i64 0, .int .i64 5, .int .i64 0, .int .i64 17, .int .i64 256, .int .i64 22, .int .i64 0, .int .i64 3, .int .i64 3]
def sui14 : Array Value := #[.int .i64 14, .string ⟨#[97, 101, 115, 49, 50, 56, 45, 103, 99, 109]⟩, .int .i64 12, .int .i64 256, .int .i64 0, .int .i64 0, .int .i64 17, .int .i64 128, .int .i64 22, .int .i64 0, .int .i64 4, .int .i64 4]
def sui15 : Array Value := #[.int .i64 15, .string ⟨#[99, 104, 97, 99, 104, 97]⟩, .int .i64 12, .int .i64 256, .int .i64 0, .int .i64 0, .int .i64 18, .int .i64 0, .int .i64 22, .int .i64 0, .int .i64 4, .int .i64 4]
def sui16 : Array Value := #[.int .i64 16, .string ⟨#[109, 108, 107, 101, 109, 45, 97, 101, 115, 50, 53, 54, 45, 103, 99, 109]⟩, .int .i64 13, .int .i64 768, .int .i64 0, .int .i64 0, .int .i64 17, .int .i64 256, .int .i64 22, .int .i64 0, .int .i64 4, .int .i64 4]
/-- The cells of the table. -/
def suitesC : Array Value := #[.int .i64 1, .string ⟨#[114, 115, 97, 45, 114, 99, 52, 45, 109, 100, 53]⟩, .int .i64 10, .int .i64 0, .int .i64 5, .int .i64 0, .int .i64 14, .int .i64 128, .int .i64 19, .int .i64 0, .int .i64 1, .int .i64 2, .int .i64 2, .string ⟨#[114, 115, 97, 45, 114, 99, 52, 45, 115, 104, 97]⟩, .int .i64 10, .int .i64 0, .int .i64 5, .int .i64 0, .int .i64 14, .int .i64 128, .int .i64 20, .int .i64 0, .int .i64 1, .int .i64 3, .int .i64 3, .string ⟨#[114, 115, 97, 45, 100, 101, 115, 51, 45, 115, 104, 97]⟩, .int .i64 10, .int .i64 0, .int .i64 5, .int .i64 0, .int .i64 15, .int .i64 168, .int .i64 20, .int .i64 0, .int .i64 1, .int .i64 3, .int .i64 4, .string ⟨#[100, 104, 101, 45, 100, 115, 97, 45, 100, 101, 115, 51, 45, 115, 104, 97]⟩, .int .i64 11, .int .i64 1024, .int .i64 6, .int .i64 0, .int .i64 15, .int .i64 168, .int .i64 20, .int .i64 0, .int .i64 1, .int .i64 3, .int .i64 5, .string ⟨#[100, 104, 101, 45, 114, 115, 97, 45, 100, 101, 115, 51, 45, 115, 104, 97]⟩, .int .i64 11, .int .i64 1024, .int .i64 5, .int .i64 0, .int .i64 15, .int .i64 168, .int .i64 20, .int .i64 0, .int .i64 1, .int .i64 3, .int .i64 6, .string ⟨#[114, 115, 97, 45, 97, 101, 115, 49, 50, 56, 45, 115, 104, 97]⟩, .int .i64 10, .int .i64 0, .int .i64 5, .int .i64 0, .int .i64 16, .int .i64 128, .int .i64 20, .int .i64 0, .int .i64 1, .int .i64 3, .int .i64 7, .string ⟨#[100, 104, 101, 45, 114, 115, 97, 45, 97, 101, 115, 49, 50, 56, 45, 115, 104, 97]⟩, .int .i64 11, .int .i64 2048, .int .i64 5, .int .i64 0, .int .i64 16, .int .i64 128, .int .i64 20, .int .i64 0, .int .i64 1, .int .i64 3, .int .i64 8, .string ⟨#[101, 99, 100, 104, 101, 45, 114, 115, 97, 45, 97, 101, 115, 49, 50, 56, 45, 115, 104, 97]⟩, .int .i64 12, .int .i64 256, .int .i64 5, .int .i64 0, .int .i64 16, .int .i64 128, .int .i64 20, .int .i64 0, .int .i64 1, .int .i64 3, .int .i64 9, .string ⟨#[101, 99, 100, 104, 101, 45, 101, 99, 100, 115, 97, 45, 97, 101, 115, 50, 53, 54, 45, 115, 104, 97, 50, 53, 54]⟩, .int .i64 12, .int .i64 256, .int .i64 7, .int .i64 0, .int .i64 16, .int .i64 256, .int .i64 21, .int .i64 0, .int .i64 3, .int .i64 3, .int .i64 10, .string ⟨#[101, 99, 100, 104, 101, 45, 114, 115, 97, 45, 97, 101, 115, 49, 50, 56, 45, 103, 99, 109]⟩, .int .i64 12, .int .i64 256, .int .i64 5, .int .i64 0, .int .i64 17, .int .i64 128, .int .i64 22, .int .i64 0, .int .i64 3, .int .i64 3, .int .i64 11, .string ⟨#[101, 99, 100, 104, 101, 45, 101, 99, 100, 115, 97, 45, 97, 101, 115, 50, 53, 54, 45, 103, 99, 109]⟩, .int .i64 12, .int .i64 384, .int .i64 7, .int .i64 0, .int .i64 17, .int .i64 256, .int .i64 22, .int .i64 0, .int .i64 3, .int .i64 3, .int .i64 12, .string ⟨#[101, 99, 100, 104, 101, 45, 114, 115, 97, 45, 99, 104, 97, 99, 104, 97]⟩, .int .i64 12, .int .i64 256, .int .i64 5, .int .i64 0, .int .i64 18, .int .i64 0, .int .i64 22, .int .i64 0, .int .i64 3, .int .i64 3, .int .i64 13, .string ⟨#[114, 115, 97, 45, 97, 101, 115, 50, 53, 54, 45, 103, 99, 109]⟩, .int .i64 10, .int .i64 0, .int .i64 5, .int .i64 0, .int .i64 17, .int .i64 256, .int .i64 22, .int .i64 0, .int .i64 3, .int .i64 3, .int .i64 14, .string ⟨#[97, 101, 115, 49, 50, 56, 45, 103, 99, 109]⟩, .int .i64 12, .int .i64 256, .int .i64 0, .int .i64 0, .int .i64 17, .int .i64 128, .int .i64 22, .int .i64 0, .int .i64 4, .int .i64 4, .int .i64 15, .string ⟨#[99, 104, 97, 99, 104, 97]⟩, .int .i64 12, .int .i64 256, .int .i64 0, .int .i64 0, .int .i64 18, .int .i64 0, .int .i64 22, .int .i64 0, .int .i64 4, .int .i64 4, .int .i64 16, .string ⟨#[109, 108, 107, 101, 109, 45, 97, 101, 115, 50, 53, 54, 45, 103, 99, 109]⟩, .int .i64 13, .int .i64 768, .int .i64 0, .int .i64 0, .int .i64 17, .int .i64 256, .int .i64 22, .int .i64 0, .int .i64 4, .int .i64 4]
set_option maxRecDepth 100000 in
set_option maxHeartbeats 800000 in
theorem use_any (a b : Int) (w : World) : Calls Try.prog 57 #[.int .i64 a, .int .i64 b] w fun e w' => e = .returned (.agg #[.int .i64 a, .int .i64 b]) ∧ w' = w.alloc (.cells #[.int .i64 a, .int .i64 b] 77) := by
  go_enter Try.func57, Try.ntmps57
  go_wp2
  exact bodyPost_ret (v := .agg #[.int .i64 a, .int .i64 b]) (by simp [results, Try.results57, go_sem]) rfl ⟨rfl, rfl⟩
theorem use_ext (a b : Int) (w : World) : Calls Try.prog 57 #[.int .i64 a, .int .i64 b] w fun e w' => e = .returned (.agg #[.int .i64 a, .int .i64 b]) ∧ Ext w w' :=
  (use_any a b w).mono fun _ _ h => ⟨h.1, by rw [h.2]; exact (Ext.refl _).alloc _⟩
set_option maxRecDepth 100000 in
set_option maxHeartbeats 800000 in
theorem suite_ext (c : Int) (s : ByteArray) (a1 a2 b1 b2 c1 c2 d1 d2 l m : Int) (w : World) : Calls Try.prog 58 #[.int .i64 c, .string s, .agg #[.int .i64 a1, .int .i64 a2], .agg #[.int .i64 b1, .int .i64 b2], .agg #[.int .i64 c1, .int .i64 c2], .agg #[.int .i64 d1, .int .i64 d2], .int .i64 l, .int .i64 m] w
    fun e w' => e = .returned (.agg #[.int .i64 c, .string s, .int .i64 a1, .int .i64 a2, .int .i64 b1, .int .i64 b2, .int .i64 c1, .int .i64 c2, .int .i64 d1, .int .i64 d2, .int .i64 l, .int .i64 m]) ∧ Ext w w' := by
  go_enter Try.func58, Try.ntmps58
  go_wp2
  exact bodyPost_ret (v := .agg #[.int .i64 c, .string s, .int .i64 a1, .int .i64 a2, .int .i64 b1, .int .i64 b2, .int .i64 c1, .int .i64 c2, .int .i64 d1, .int .i64 d2, .int .i64 l, .int .i64 m]) (by simp [results, Try.results58, go_sem]) rfl ⟨rfl, ((((((Ext.refl _).alloc _).alloc _).alloc _).alloc _).alloc _)⟩
theorem boxAt {a b : World} {cs : Array Value} {t : TypeId} {B i : Nat} {v : Value} (hB : B = a.heap.size) (h : Ext (a.alloc (.cells cs t)) b) (hv : cs[i]? = some v) : b.cell? ⟨B, i, none⟩ = some v := by
  subst hB
  exact h.box hv
theorem wp_run {P : Program} {o : Oper} {a : Act} {w w' : World} {K : Act → World → Prop} {Q : Exit → Act → World → Prop} {v : Value} (h : (execOp a.eval o).run P w = .ok (.value v) w') (hk : K (a.put o.dst v) w') : o.wp P a w K Q := by
  unfold Oper.wp
  rw [h]
  exact hk
set_option maxRecDepth 100000 in
set_option maxHeartbeats 6400000 in
theorem suites_any (w : World) : Calls Try.prog 53 #[] w fun e w' => ∃ w5, e = .returned (.slice (some ⟨w5.heap.size, 0, none⟩) 16 16) ∧ w' = w5.alloc (.cells suitesC 79) ∧ Ext w w5 := by
  go_enter Try.func53, Try.ntmps53
  have t1_1 : True := trivial
  have t1_2 : True := trivial
  go_upto_region 2 with (first
    | (go_at_call 57; have _t := t1_1; refine (use_ext _ _ _).mono ?_; rintro e w1_1 ⟨rfl, hx1_1⟩; clear t1_1)
    | (go_at_call 57; have _t := t1_2; refine (use_ext _ _ _).mono ?_; rintro e w1_2 ⟨rfl, hx1_2⟩; clear t1_2))
  refine wp_gen (fun W => Ext w W ∧ w1_2.heap.size + 3 ≤ W.heap.size ∧ w.heap.size ≤ w1_2.heap.size ∧ W.cell? ⟨w1_2.heap.size, 0, none⟩ = some (.int .i64 10) ∧ W.cell? ⟨w1_2.heap.size, 1, none⟩ = some (.int .i64 0) ∧ W.cell? ⟨w1_2.heap.size + 1, 0, none⟩ = some (.int .i64 5) ∧ W.cell? ⟨w1_2.heap.size + 1, 1, none⟩ = some (.int .i64 0) ∧ W.cell? ⟨w1_2.heap.size + 1 + 1, 0, none⟩ = some (.int .i64 0) ∧ W.cell? ⟨w1_2.heap.size + 1 + 1, 1, none⟩ = some (.int .i64 0)) ?hF1 ?_
  case hF1 => exact ⟨((((hx1_1.trans hx1_2).alloc _).alloc _).alloc _), by simp, by have := hx1_1.size; have := hx1_2.size; omega, boxAt (by simp) (((Ext.refl _).alloc _).alloc _) rfl, boxAt (by simp) (((Ext.refl _).alloc _).alloc _) rfl, boxAt (by simp) ((Ext.refl _).alloc _) rfl, boxAt (by simp) ((Ext.refl _).alloc _) rfl, boxAt (by simp) (Ext.refl _) rfl, boxAt (by simp) (Ext.refl _) rfl⟩
  rintro W1 ⟨hX1, hs1, hm1, c1_0_0, c1_0_1, c1_1_0, c1_1_1, c1_2_0, c1_2_1⟩
  have t2_1 : True := trivial
  have t2_2 : True := trivial
  go_upto_region 3 with (first
    | (go_at_call 57; have _t := t2_1; refine (use_ext _ _ _).mono ?_; rintro e w2_1 ⟨rfl, hx2_1⟩; clear t2_1)
    | (go_at_call 57; have _t := t2_2; refine (use_ext _ _ _).mono ?_; rintro e w2_2 ⟨rfl, hx2_2⟩; clear t2_2))
  refine wp_gen (fun W => Ext W1 W ∧ w2_2.heap.size + 2 ≤ W.heap.size ∧ W1.heap.size ≤ w2_2.heap.size ∧ W.cell? ⟨w2_2.heap.size, 0, none⟩ = some (.int .i64 14) ∧ W.cell? ⟨w2_2.heap.size, 1, none⟩ = some (.int .i64 128) ∧ W.cell? ⟨w2_2.heap.size + 1, 0, none⟩ = some (.int .i64 15) ∧ W.cell? ⟨w2_2.heap.size + 1, 1, none⟩ = some (.int .i64 168)) ?hF2 ?_
  case hF2 => exact ⟨(((hx2_1.trans hx2_2).alloc _).alloc _), by simp, by have := hx2_1.size; have := hx2_2.size; omega, boxAt (by simp) ((Ext.refl _).alloc _) rfl, boxAt (by simp) ((Ext.refl _).alloc _) rfl, boxAt (by simp) (Ext.refl _) rfl, boxAt (by simp) (Ext.refl _) rfl⟩
  rintro W2 ⟨hX2, hs2, hm2, c2_0_0, c2_0_1, c2_1_0, c2_1_1⟩
  replace c1_0_0 := (hX2.cell (p := ⟨w1_2.heap.size, 0, none⟩) (by simp only []; omega)).trans c1_0_0
  replace c1_0_1 := (hX2.cell (p := ⟨w1_2.heap.size, 1, none⟩) (by simp only []; omega)).trans c1_0_1
  replace c1_1_0 := (hX2.cell (p := ⟨w1_2.heap.size + 1, 0, none⟩) (by simp only []; omega)).trans c1_1_0
  replace c1_1_1 := (hX2.cell (p := ⟨w1_2.heap.size + 1, 1, none⟩) (by simp only []; omega)).trans c1_1_1
  replace c1_2_0 := (hX2.cell (p := ⟨w1_2.heap.size + 1 + 1, 0, none⟩) (by simp only []; omega)).trans c1_2_0
  replace c1_2_1 := (hX2.cell (p := ⟨w1_2.heap.size + 1 + 1, 1, none⟩) (by simp only []; omega)).trans c1_2_1
  have t3_1 : True := trivial
  have t3_2 : True := trivial
  have t3_3 : True := trivial
  go_upto_region 4 with (first
    | (go_at_call 57; have _t := t3_1; refine (use_ext _ _ _).mono ?_; rintro e w3_1 ⟨rfl, hx3_1⟩; clear t3_1)
    | (go_at_call 57; have _t := t3_2; refine (use_ext _ _ _).mono ?_; rintro e w3_2 ⟨rfl, hx3_2⟩; clear t3_2)
    | (go_at_call 57; have _t := t3_3; refine (use_ext _ _ _).mono ?_; rintro e w3_3 ⟨rfl, hx3_3⟩; clear t3_3))
  refine wp_gen (fun W => Ext W2 W ∧ w3_3.heap.size + 3 ≤ W.heap.size ∧ W2.heap.size ≤ w3_3.heap.size ∧ W.cell? ⟨w3_3.heap.size, 0, none⟩ = some (.int .i64 16) ∧ W.cell? ⟨w3_3.heap.size, 1, none⟩ = some (.int .i64 128) ∧ W.cell? ⟨w3_3.heap.size + 1, 0, none⟩ = some (.int .i64 17) ∧ W.cell? ⟨w3_3.heap.size + 1, 1, none⟩ = some (.int .i64 128) ∧ W.cell? ⟨w3_3.heap.size + 1 + 1, 0, none⟩ = some (.int .i64 17) ∧ W.cell? ⟨w3_3.heap.size + 1 + 1, 1, none⟩ = some (.int .i64 256)) ?hF3 ?_
  case hF3 => exact ⟨(((((hx3_1.trans hx3_2).trans hx3_3).alloc _).alloc _).alloc _), by simp, by have := hx3_1.size; have := hx3_2.size; have := hx3_3.size; omega, boxAt (by simp) (((Ext.refl _).alloc _).alloc _) rfl, boxAt (by simp) (((Ext.refl _).alloc _).alloc _) rfl, boxAt (by simp) ((Ext.refl _).alloc _) rfl, boxAt (by simp) ((Ext.refl _).alloc _) rfl, boxAt (by simp) (Ext.refl _) rfl, boxAt (by simp) (Ext.refl _) rfl⟩
  rintro W3 ⟨hX3, hs3, hm3, c3_0_0, c3_0_1, c3_1_0, c3_1_1, c3_2_0, c3_2_1⟩
  replace c1_0_0 := (hX3.cell (p := ⟨w1_2.heap.size, 0, none⟩) (by simp only []; omega)).trans c1_0_0
  replace c1_0_1 := (hX3.cell (p := ⟨w1_2.heap.size, 1, none⟩) (by simp only []; omega)).trans c1_0_1
  replace c1_1_0 := (hX3.cell (p := ⟨w1_2.heap.size + 1, 0, none⟩) (by simp only []; omega)).trans c1_1_0
  replace c1_1_1 := (hX3.cell (p := ⟨w1_2.heap.size + 1, 1, none⟩) (by simp only []; omega)).trans c1_1_1
  replace c1_2_0 := (hX3.cell (p := ⟨w1_2.heap.size + 1 + 1, 0, none⟩) (by simp only []; omega)).trans c1_2_0
  replace c1_2_1 := (hX3.cell (p := ⟨w1_2.heap.size + 1 + 1, 1, none⟩) (by simp only []; omega)).trans c1_2_1
  replace c2_0_0 := (hX3.cell (p := ⟨w2_2.heap.size, 0, none⟩) (by simp only []; omega)).trans c2_0_0
  replace c2_0_1 := (hX3.cell (p := ⟨w2_2.heap.size, 1, none⟩) (by simp only []; omega)).trans c2_0_1
  replace c2_1_0 := (hX3.cell (p := ⟨w2_2.heap.size + 1, 0, none⟩) (by simp only []; omega)).trans c2_1_0
  replace c2_1_1 := (hX3.cell (p := ⟨w2_2.heap.size + 1, 1, none⟩) (by simp only []; omega)).trans c2_1_1
  have t4_1 : True := trivial
  have t4_2 : True := trivial
  have t4_3 : True := trivial
  have t4_4 : True := trivial
  go_upto_region 5 with (first
    | (go_at_call 57; have _t := t4_1; refine (use_ext _ _ _).mono ?_; rintro e w4_1 ⟨rfl, hx4_1⟩; clear t4_1)
    | (go_at_call 57; have _t := t4_2; refine (use_ext _ _ _).mono ?_; rintro e w4_2 ⟨rfl, hx4_2⟩; clear t4_2)
    | (go_at_call 57; have _t := t4_3; refine (use_ext _ _ _).mono ?_; rintro e w4_3 ⟨rfl, hx4_3⟩; clear t4_3)
    | (go_at_call 57; have _t := t4_4; refine (use_ext _ _ _).mono ?_; rintro e w4_4 ⟨rfl, hx4_4⟩; clear t4_4))
  refine wp_gen (fun W => Ext W3 W ∧ w4_4.heap.size + 4 ≤ W.heap.size ∧ W3.heap.size ≤ w4_4.heap.size ∧ W.cell? ⟨w4_4.heap.size, 0, none⟩ = some (.int .i64 19) ∧ W.cell? ⟨w4_4.heap.size, 1, none⟩ = some (.int .i64 0) ∧ W.cell? ⟨w4_4.heap.size + 1, 0, none⟩ = some (.int .i64 20) ∧ W.cell? ⟨w4_4.heap.size + 1, 1, none⟩ = some (.int .i64 0) ∧ W.cell? ⟨w4_4.heap.size + 1 + 1, 0, none⟩ = some (.int .i64 21) ∧ W.cell? ⟨w4_4.heap.size + 1 + 1, 1, none⟩ = some (.int .i64 0) ∧ W.cell? ⟨w4_4.heap.size + 1 + 1 + 1, 0, none⟩ = some (.int .i64 22) ∧ W.cell? ⟨w4_4.heap.size + 1 + 1 + 1, 1, none⟩ = some (.int .i64 0)) ?hF4 ?_
  case hF4 => exact ⟨(((((((hx4_1.trans hx4_2).trans hx4_3).trans hx4_4).alloc _).alloc _).alloc _).alloc _), by simp, by have := hx4_1.size; have := hx4_2.size; have := hx4_3.size; have := hx4_4.size; omega, boxAt (by simp) ((((Ext.refl _).alloc _).alloc _).alloc _) rfl, boxAt (by simp) ((((Ext.refl _).alloc _).alloc _).alloc _) rfl, boxAt (by simp) (((Ext.refl _).alloc _).alloc _) rfl, boxAt (by simp) (((Ext.refl _).alloc _).alloc _) rfl, boxAt (by simp) ((Ext.refl _).alloc _) rfl, boxAt (by simp) ((Ext.refl _).alloc _) rfl, boxAt (by simp) (Ext.refl _) rfl, boxAt (by simp) (Ext.refl _) rfl⟩
  rintro W4 ⟨hX4, hs4, hm4, c4_0_0, c4_0_1, c4_1_0, c4_1_1, c4_2_0, c4_2_1, c4_3_0, c4_3_1⟩
  replace c1_0_0 := (hX4.cell (p := ⟨w1_2.heap.size, 0, none⟩) (by simp only []; omega)).trans c1_0_0
  replace c1_0_1 := (hX4.cell (p := ⟨w1_2.heap.size, 1, none⟩) (by simp only []; omega)).trans c1_0_1
  replace c1_1_0 := (hX4.cell (p := ⟨w1_2.heap.size + 1, 0, none⟩) (by simp only []; omega)).trans c1_1_0
  replace c1_1_1 := (hX4.cell (p := ⟨w1_2.heap.size + 1, 1, none⟩) (by simp only []; omega)).trans c1_1_1
  replace c1_2_0 := (hX4.cell (p := ⟨w1_2.heap.size + 1 + 1, 0, none⟩) (by simp only []; omega)).trans c1_2_0
  replace c1_2_1 := (hX4.cell (p := ⟨w1_2.heap.size + 1 + 1, 1, none⟩) (by simp only []; omega)).trans c1_2_1
  replace c2_0_0 := (hX4.cell (p := ⟨w2_2.heap.size, 0, none⟩) (by simp only []; omega)).trans c2_0_0
  replace c2_0_1 := (hX4.cell (p := ⟨w2_2.heap.size, 1, none⟩) (by simp only []; omega)).trans c2_0_1
  replace c2_1_0 := (hX4.cell (p := ⟨w2_2.heap.size + 1, 0, none⟩) (by simp only []; omega)).trans c2_1_0
  replace c2_1_1 := (hX4.cell (p := ⟨w2_2.heap.size + 1, 1, none⟩) (by simp only []; omega)).trans c2_1_1
  replace c3_0_0 := (hX4.cell (p := ⟨w3_3.heap.size, 0, none⟩) (by simp only []; omega)).trans c3_0_0
  replace c3_0_1 := (hX4.cell (p := ⟨w3_3.heap.size, 1, none⟩) (by simp only []; omega)).trans c3_0_1
  replace c3_1_0 := (hX4.cell (p := ⟨w3_3.heap.size + 1, 0, none⟩) (by simp only []; omega)).trans c3_1_0
  replace c3_1_1 := (hX4.cell (p := ⟨w3_3.heap.size + 1, 1, none⟩) (by simp only []; omega)).trans c3_1_1
  replace c3_2_0 := (hX4.cell (p := ⟨w3_3.heap.size + 1 + 1, 0, none⟩) (by simp only []; omega)).trans c3_2_0
  replace c3_2_1 := (hX4.cell (p := ⟨w3_3.heap.size + 1 + 1, 1, none⟩) (by simp only []; omega)).trans c3_2_1
  have t5_1 : True := trivial
  have t5_2 : True := trivial
  go_upto_region 6 with (first
    | (go_at_call 57; have _t := t5_1; refine (use_ext _ _ _).mono ?_; rintro e w5_1 ⟨rfl, hx5_1⟩; clear t5_1)
    | (go_at_call 57; have _t := t5_2; refine (use_ext _ _ _).mono ?_; rintro e w5_2 ⟨rfl, hx5_2⟩; clear t5_2))
  refine wp_gen (fun W => Ext W4 W ∧ w5_2.heap.size + 2 ≤ W.heap.size ∧ W4.heap.size ≤ w5_2.heap.size ∧ W.cell? ⟨w5_2.heap.size, 0, none⟩ = some (.int .i64 12) ∧ W.cell? ⟨w5_2.heap.size, 1, none⟩ = some (.int .i64 256) ∧ W.cell? ⟨w5_2.heap.size + 1, 0, none⟩ = some (.int .i64 18) ∧ W.cell? ⟨w5_2.heap.size + 1, 1, none⟩ = some (.int .i64 0)) ?hF5 ?_
  case hF5 => exact ⟨(((hx5_1.trans hx5_2).alloc _).alloc _), by simp, by have := hx5_1.size; have := hx5_2.size; omega, boxAt (by simp) ((Ext.refl _).alloc _) rfl, boxAt (by simp) ((Ext.refl _).alloc _) rfl, boxAt (by simp) (Ext.refl _) rfl, boxAt (by simp) (Ext.refl _) rfl⟩
  rintro W5 ⟨hX5, hs5, hm5, c5_0_0, c5_0_1, c5_1_0, c5_1_1⟩
  replace c1_0_0 := (hX5.cell (p := ⟨w1_2.heap.size, 0, none⟩) (by simp only []; omega)).trans c1_0_0
  replace c1_0_1 := (hX5.cell (p := ⟨w1_2.heap.size, 1, none⟩) (by simp only []; omega)).trans c1_0_1
  replace c1_1_0 := (hX5.cell (p := ⟨w1_2.heap.size + 1, 0, none⟩) (by simp only []; omega)).trans c1_1_0
  replace c1_1_1 := (hX5.cell (p := ⟨w1_2.heap.size + 1, 1, none⟩) (by simp only []; omega)).trans c1_1_1
  replace c1_2_0 := (hX5.cell (p := ⟨w1_2.heap.size + 1 + 1, 0, none⟩) (by simp only []; omega)).trans c1_2_0
  replace c1_2_1 := (hX5.cell (p := ⟨w1_2.heap.size + 1 + 1, 1, none⟩) (by simp only []; omega)).trans c1_2_1
  replace c2_0_0 := (hX5.cell (p := ⟨w2_2.heap.size, 0, none⟩) (by simp only []; omega)).trans c2_0_0
  replace c2_0_1 := (hX5.cell (p := ⟨w2_2.heap.size, 1, none⟩) (by simp only []; omega)).trans c2_0_1
  replace c2_1_0 := (hX5.cell (p := ⟨w2_2.heap.size + 1, 0, none⟩) (by simp only []; omega)).trans c2_1_0
  replace c2_1_1 := (hX5.cell (p := ⟨w2_2.heap.size + 1, 1, none⟩) (by simp only []; omega)).trans c2_1_1
  replace c3_0_0 := (hX5.cell (p := ⟨w3_3.heap.size, 0, none⟩) (by simp only []; omega)).trans c3_0_0
  replace c3_0_1 := (hX5.cell (p := ⟨w3_3.heap.size, 1, none⟩) (by simp only []; omega)).trans c3_0_1
  replace c3_1_0 := (hX5.cell (p := ⟨w3_3.heap.size + 1, 0, none⟩) (by simp only []; omega)).trans c3_1_0
  replace c3_1_1 := (hX5.cell (p := ⟨w3_3.heap.size + 1, 1, none⟩) (by simp only []; omega)).trans c3_1_1
  replace c3_2_0 := (hX5.cell (p := ⟨w3_3.heap.size + 1 + 1, 0, none⟩) (by simp only []; omega)).trans c3_2_0
  replace c3_2_1 := (hX5.cell (p := ⟨w3_3.heap.size + 1 + 1, 1, none⟩) (by simp only []; omega)).trans c3_2_1
  replace c4_0_0 := (hX5.cell (p := ⟨w4_4.heap.size, 0, none⟩) (by simp only []; omega)).trans c4_0_0
  replace c4_0_1 := (hX5.cell (p := ⟨w4_4.heap.size, 1, none⟩) (by simp only []; omega)).trans c4_0_1
  replace c4_1_0 := (hX5.cell (p := ⟨w4_4.heap.size + 1, 0, none⟩) (by simp only []; omega)).trans c4_1_0
  replace c4_1_1 := (hX5.cell (p := ⟨w4_4.heap.size + 1, 1, none⟩) (by simp only []; omega)).trans c4_1_1
  replace c4_2_0 := (hX5.cell (p := ⟨w4_4.heap.size + 1 + 1, 0, none⟩) (by simp only []; omega)).trans c4_2_0
  replace c4_2_1 := (hX5.cell (p := ⟨w4_4.heap.size + 1 + 1, 1, none⟩) (by simp only []; omega)).trans c4_2_1
  replace c4_3_0 := (hX5.cell (p := ⟨w4_4.heap.size + 1 + 1 + 1, 0, none⟩) (by simp only []; omega)).trans c4_3_0
  replace c4_3_1 := (hX5.cell (p := ⟨w4_4.heap.size + 1 + 1 + 1, 1, none⟩) (by simp only []; omega)).trans c4_3_1
  have hXX := (((hX1.trans hX2).trans hX3).trans hX4).trans hX5
  clear hX1 hX2 hX3 hX4 hX5
  have f1_0_0 := fun x : EW W5 => (x.h.cell (p := ⟨w1_2.heap.size, 0, none⟩) (by simp only []; omega)).trans c1_0_0
  have f1_0_1 := fun x : EW W5 => (x.h.cell (p := ⟨w1_2.heap.size, 1, none⟩) (by simp only []; omega)).trans c1_0_1
  have f1_1_0 := fun x : EW W5 => (x.h.cell (p := ⟨w1_2.heap.size + 1, 0, none⟩) (by simp only []; omega)).trans c1_1_0
  have f1_1_1 := fun x : EW W5 => (x.h.cell (p := ⟨w1_2.heap.size + 1, 1, none⟩) (by simp only []; omega)).trans c1_1_1
  have f1_2_0 := fun x : EW W5 => (x.h.cell (p := ⟨w1_2.heap.size + 1 + 1, 0, none⟩) (by simp only []; omega)).trans c1_2_0
  have f1_2_1 := fun x : EW W5 => (x.h.cell (p := ⟨w1_2.heap.size + 1 + 1, 1, none⟩) (by simp only []; omega)).trans c1_2_1
  have f2_0_0 := fun x : EW W5 => (x.h.cell (p := ⟨w2_2.heap.size, 0, none⟩) (by simp only []; omega)).trans c2_0_0
  have f2_0_1 := fun x : EW W5 => (x.h.cell (p := ⟨w2_2.heap.size, 1, none⟩) (by simp only []; omega)).trans c2_0_1
  have f2_1_0 := fun x : EW W5 => (x.h.cell (p := ⟨w2_2.heap.size + 1, 0, none⟩) (by simp only []; omega)).trans c2_1_0
  have f2_1_1 := fun x : EW W5 => (x.h.cell (p := ⟨w2_2.heap.size + 1, 1, none⟩) (by simp only []; omega)).trans c2_1_1
  have f3_0_0 := fun x : EW W5 => (x.h.cell (p := ⟨w3_3.heap.size, 0, none⟩) (by simp only []; omega)).trans c3_0_0
  have f3_0_1 := fun x : EW W5 => (x.h.cell (p := ⟨w3_3.heap.size, 1, none⟩) (by simp only []; omega)).trans c3_0_1
  have f3_1_0 := fun x : EW W5 => (x.h.cell (p := ⟨w3_3.heap.size + 1, 0, none⟩) (by simp only []; omega)).trans c3_1_0
  have f3_1_1 := fun x : EW W5 => (x.h.cell (p := ⟨w3_3.heap.size + 1, 1, none⟩) (by simp only []; omega)).trans c3_1_1
  have f3_2_0 := fun x : EW W5 => (x.h.cell (p := ⟨w3_3.heap.size + 1 + 1, 0, none⟩) (by simp only []; omega)).trans c3_2_0
  have f3_2_1 := fun x : EW W5 => (x.h.cell (p := ⟨w3_3.heap.size + 1 + 1, 1, none⟩) (by simp only []; omega)).trans c3_2_1
  have f4_0_0 := fun x : EW W5 => (x.h.cell (p := ⟨w4_4.heap.size, 0, none⟩) (by simp only []; omega)).trans c4_0_0
  have f4_0_1 := fun x : EW W5 => (x.h.cell (p := ⟨w4_4.heap.size, 1, none⟩) (by simp only []; omega)).trans c4_0_1
  have f4_1_0 := fun x : EW W5 => (x.h.cell (p := ⟨w4_4.heap.size + 1, 0, none⟩) (by simp only []; omega)).trans c4_1_0
  have f4_1_1 := fun x : EW W5 => (x.h.cell (p := ⟨w4_4.heap.size + 1, 1, none⟩) (by simp only []; omega)).trans c4_1_1
  have f4_2_0 := fun x : EW W5 => (x.h.cell (p := ⟨w4_4.heap.size + 1 + 1, 0, none⟩) (by simp only []; omega)).trans c4_2_0
  have f4_2_1 := fun x : EW W5 => (x.h.cell (p := ⟨w4_4.heap.size + 1 + 1, 1, none⟩) (by simp only []; omega)).trans c4_2_1
  have f4_3_0 := fun x : EW W5 => (x.h.cell (p := ⟨w4_4.heap.size + 1 + 1 + 1, 0, none⟩) (by simp only []; omega)).trans c4_3_0
  have f4_3_1 := fun x : EW W5 => (x.h.cell (p := ⟨w4_4.heap.size + 1 + 1 + 1, 1, none⟩) (by simp only []; omega)).trans c4_3_1
  have f5_0_0 := fun x : EW W5 => (x.h.cell (p := ⟨w5_2.heap.size, 0, none⟩) (by simp only []; omega)).trans c5_0_0
  have f5_0_1 := fun x : EW W5 => (x.h.cell (p := ⟨w5_2.heap.size, 1, none⟩) (by simp only []; omega)).trans c5_0_1
  have f5_1_0 := fun x : EW W5 => (x.h.cell (p := ⟨w5_2.heap.size + 1, 0, none⟩) (by simp only []; omega)).trans c5_1_0
  have f5_1_1 := fun x : EW W5 => (x.h.cell (p := ⟨w5_2.heap.size + 1, 1, none⟩) (by simp only []; omega)).trans c5_1_1
  clear c1_0_0 c1_0_1 c1_1_0 c1_1_1 c1_2_0 c1_2_1 c2_0_0 c2_0_1 c2_1_0 c2_1_1 c3_0_0 c3_0_1 c3_1_0 c3_1_1 c3_2_0 c3_2_1 c4_0_0 c4_0_1 c4_1_0 c4_1_1 c4_2_0 c4_2_1 c4_3_0 c4_3_1 c5_0_0 c5_0_1 c5_1_0 c5_1_1
  refine wp_code (by simp (config := { maxSteps := 5000000 }) only [List.append_eq, List.cons_append, List.nil_append]; rfl) ?_
  refine wp_region_quietE_cut 80 (by kernel_rfl) (by kernel_rfl) (by simp (config := { maxSteps := 5000000 }) only [List.take_succ_cons, List.take_zero]; rfl) (by simp (config := { maxSteps := 5000000 }) only [List.drop_succ_cons, List.drop_zero]; rfl) ?_
  repeat (go_big_quiet_step (first
    | (go_at_call 58; exact Calls.ew (fun w' _ => suite_ext _ _ _ _ _ _ _ _ _ _ _ _ w'))
    | (go_at_call 57; exact Calls.ew (fun w' _ => use_ext _ _ w'))))
  refine wpQuiet_nil ?_
  intro w7 hw'
  obtain ⟨⟨w7', hx7⟩, hw''⟩ := hw'
  have hw3 : w7 = w7' := hw''
  subst hw3
  clear hw''
  refine wpList_plain rfl fun K hK => wp_run (v := .slice (some ⟨w7.heap.size, 0, none⟩) 16 16) (w' := w7.alloc (.cells suitesC 79)) (by kernel_rfl) (hK _ _ ?_)
  go_wp2
  go_ret
  exact ⟨w7, ret_val rfl, rfl, hXX.trans hx7⟩
theorem cellAt {w : World} {cs : Array Value} {t : TypeId} {i : Nat} {v : Value} (h : cs[i]? = some v) : (w.alloc (.cells cs t)).cell? ⟨w.heap.size, i, none⟩ = some v := by
  simp only [World.cell?, heap_alloc_new]
  simpa using h
theorem cellAt0 {w : World} {cs : Array Value} {t : TypeId} {v : Value} (h : cs[0]? = some v) : (w.alloc (.cells cs t)).cell? ⟨w.heap.size, 0, none⟩ = some v := cellAt h
theorem twelve {wr : World} {g : Nat} {v0 v1 v2 v3 v4 v5 v6 v7 v8 v9 v10 v11 : Value} {t : TypeId} (h : wr.heap[g]? = some (.cells #[v0, v1, v2, v3, v4, v5, v6, v7, v8, v9, v10, v11] t)) :
    (wr.cell? { block := g, off := 0 } = some v0 ∧ wr.cell? { block := g, off := 1 } = some v1 ∧ wr.cell? { block := g, off := 2 } = some v2 ∧ wr.cell? { block := g, off := 3 } = some v3 ∧ wr.cell? { block := g, off := 4 } = some v4 ∧ wr.cell? { block := g, off := 5 } = some v5 ∧
     wr.cell? { block := g, off := 6 } = some v6 ∧ wr.cell? { block := g, off := 7 } = some v7 ∧ wr.cell? { block := g, off := 8 } = some v8 ∧ wr.cell? { block := g, off := 9 } = some v9 ∧ wr.cell? { block := g, off := 10 } = some v10 ∧ wr.cell? { block := g, off := 11 } = some v11) ∧
    ∀ j, wr.frozen? { block := g, off := j } = false := by
  simp [World.cell?, World.frozen?, h]
def zero12 : Array Value := #[.int .i64 0, .string ⟨#[]⟩, .int .i64 0, .int .i64 0, .int .i64 0, .int .i64 0, .int .i64 0, .int .i64 0, .int .i64 0, .int .i64 0, .int .i64 0, .int .i64 0]
set_option maxRecDepth 100000 in
set_option maxHeartbeats 1600000 in
theorem one_1 (w : World) : Calls Try.prog 50 #[.int .i64 1] w fun e w' => e = .returned (.tuple #[.agg sui1, .int .i64 0]) ∧ Ext w w' := by
  go_enter Try.func50, Try.ntmps50
  go_wp2_with (go_at_call 53; refine (suites_any _).mono ?_; rintro e w' ⟨w5, rfl, rfl, hx5⟩; obtain ⟨⟨q0, q1, q2, q3, q4, q5, q6, q7, q8, q9, q10, q11⟩, fz⟩ := twelve (hx5.alloc (.cells suitesC 79)).blk; have e0 := cellAt (w := w5) (cs := suitesC) (t := 79) (i := 0) (v := (.int .i64 1)) rfl; have e1 := cellAt (w := w5) (cs := suitesC) (t := 79) (i := 1) (v := (.string ⟨#[114, 115, 97, 45, 114, 99, 52, 45, 109, 100, 53]⟩)) rfl; have e2 := cellAt (w := w5) (cs := suitesC) (t := 79) (i := 2) (v := (.int .i64 10)) rfl; have e3 := cellAt (w := w5) (cs := suitesC) (t := 79) (i := 3) (v := (.int .i64 0)) rfl; have e4 := cellAt (w := w5) (cs := suitesC) (t := 79) (i := 4) (v := (.int .i64 5)) rfl; have e5 := cellAt (w := w5) (cs := suitesC) (t := 79) (i := 5) (v := (.int .i64 0)) rfl; have e6 := cellAt (w := w5) (cs := suitesC) (t := 79) (i := 6) (v := (.int .i64 14)) rfl; have e7 := cellAt (w := w5) (cs := suitesC) (t := 79) (i := 7) (v := (.int .i64 128)) rfl; have e8 := cellAt (w := w5) (cs := suitesC) (t := 79) (i := 8) (v := (.int .i64 19)) rfl; have e9 := cellAt (w := w5) (cs := suitesC) (t := 79) (i := 9) (v := (.int .i64 0)) rfl; have e10 := cellAt (w := w5) (cs := suitesC) (t := 79) (i := 10) (v := (.int .i64 1)) rfl; have e11 := cellAt (w := w5) (cs := suitesC) (t := 79) (i := 11) (v := (.int .i64 2)) rfl)
  refine bodyPost_ret (v := .tuple #[.agg sui1, .int .i64 0]) (by simp [results, Try.results50, go_sem, q0, q1, q2, q3, q4, q5, q6, q7, q8, q9, q10, q11, fz, sui1]) rfl ?_
  exact ⟨rfl, by have hh := ((Ext.refl w).alloc (.cells #[.int .i64 0, .string ⟨#[]⟩, .int .i64 0, .int .i64 0, .int .i64 0, .int .i64 0, .int .i64 0, .int .i64 0, .int .i64 0, .int .i64 0, .int .i64 0, .int .i64 0] 79)).trans (hx5.alloc (.cells suitesC 79)); exact ((((((((((((hh.setCell (by simp) _).setCell (by simp) _).setCell (by simp) _).setCell (by simp) _).setCell (by simp) _).setCell (by simp) _).setCell (by simp) _).setCell (by simp) _).setCell (by simp) _).setCell (by simp) _).setCell (by simp) _).setCell (by simp) _)⟩
set_option maxRecDepth 100000 in
set_option maxHeartbeats 1600000 in
theorem one_2 (w : World) : Calls Try.prog 50 #[.int .i64 2] w fun e w' => e = .returned (.tuple #[.agg sui2, .int .i64 0]) ∧ Ext w w' := by
  go_enter Try.func50, Try.ntmps50
  go_wp2_with (go_at_call 53; refine (suites_any _).mono ?_; rintro e w' ⟨w5, rfl, rfl, hx5⟩; obtain ⟨⟨q0, q1, q2, q3, q4, q5, q6, q7, q8, q9, q10, q11⟩, fz⟩ := twelve (hx5.alloc (.cells suitesC 79)).blk; have e0 := cellAt (w := w5) (cs := suitesC) (t := 79) (i := 12) (v := (.int .i64 2)) rfl; have e1 := cellAt (w := w5) (cs := suitesC) (t := 79) (i := 13) (v := (.string ⟨#[114, 115, 97, 45, 114, 99, 52, 45, 115, 104, 97]⟩)) rfl; have e2 := cellAt (w := w5) (cs := suitesC) (t := 79) (i := 14) (v := (.int .i64 10)) rfl; have e3 := cellAt (w := w5) (cs := suitesC) (t := 79) (i := 15) (v := (.int .i64 0)) rfl; have e4 := cellAt (w := w5) (cs := suitesC) (t := 79) (i := 16) (v := (.int .i64 5)) rfl; have e5 := cellAt (w := w5) (cs := suitesC) (t := 79) (i := 17) (v := (.int .i64 0)) rfl; have e6 := cellAt (w := w5) (cs := suitesC) (t := 79) (i := 18) (v := (.int .i64 14)) rfl; have e7 := cellAt (w := w5) (cs := suitesC) (t := 79) (i := 19) (v := (.int .i64 128)) rfl; have e8 := cellAt (w := w5) (cs := suitesC) (t := 79) (i := 20) (v := (.int .i64 20)) rfl; have e9 := cellAt (w := w5) (cs := suitesC) (t := 79) (i := 21) (v := (.int .i64 0)) rfl; have e10 := cellAt (w := w5) (cs := suitesC) (t := 79) (i := 22) (v := (.int .i64 1)) rfl; have e11 := cellAt (w := w5) (cs := suitesC) (t := 79) (i := 23) (v := (.int .i64 3)) rfl)
  refine bodyPost_ret (v := .tuple #[.agg sui2, .int .i64 0]) (by simp [results, Try.results50, go_sem, q0, q1, q2, q3, q4, q5, q6, q7, q8, q9, q10, q11, fz, sui2]) rfl ?_
  exact ⟨rfl, by have hh := ((Ext.refl w).alloc (.cells #[.int .i64 0, .string ⟨#[]⟩, .int .i64 0, .int .i64 0, .int .i64 0, .int .i64 0, .int .i64 0, .int .i64 0, .int .i64 0, .int .i64 0, .int .i64 0, .int .i64 0] 79)).trans (hx5.alloc (.cells suitesC 79)); exact ((((((((((((hh.setCell (by simp) _).setCell (by simp) _).setCell (by simp) _).setCell (by simp) _).setCell (by simp) _).setCell (by simp) _).setCell (by simp) _).setCell (by simp) _).setCell (by simp) _).setCell (by simp) _).setCell (by simp) _).setCell (by simp) _)⟩
set_option maxRecDepth 100000 in
set_option maxHeartbeats 1600000 in
theorem one_3 (w : World) : Calls Try.prog 50 #[.int .i64 3] w fun e w' => e = .returned (.tuple #[.agg sui3, .int .i64 0]) ∧ Ext w w' := by
  go_enter Try.func50, Try.ntmps50
  go_wp2_with (go_at_call 53; refine (suites_any _).mono ?_; rintro e w' ⟨w5, rfl, rfl, hx5⟩; obtain ⟨⟨q0, q1, q2, q3, q4, q5, q6, q7, q8, q9, q10, q11⟩, fz⟩ := twelve (hx5.alloc (.cells suitesC 79)).blk; have e0 := cellAt (w := w5) (cs := suitesC) (t := 79) (i := 24) (v := (.int .i64 3)) rfl; have e1 := cellAt (w := w5) (cs := suitesC) (t := 79) (i := 25) (v := (.string ⟨#[114, 115, 97, 45, 100, 101, 115, 51, 45, 115, 104, 97]⟩)) rfl; have e2 := cellAt (w := w5) (cs := suitesC) (t := 79) (i := 26) (v := (.int .i64 10)) rfl; have e3 := cellAt (w := w5) (cs := suitesC) (t := 79) (i := 27) (v := (.int .i64 0)) rfl; have e4 := cellAt (w := w5) (cs := suitesC) (t := 79) (i := 28) (v := (.int .i64 5)) rfl; have e5 := cellAt (w := w5) (cs := suitesC) (t := 79) (i := 29) (v := (.int .i64 0)) rfl; have e6 := cellAt (w := w5) (cs := suitesC) (t := 79) (i := 30) (v := (.int .i64 15)) rfl; have e7 := cellAt (w := w5) (cs := suitesC) (t := 79) (i := 31) (v := (.int .i64 168)) rfl; have e8 := cellAt (w := w5) (cs := suitesC) (t := 79) (i := 32) (v := (.int .i64 20)) rfl; have e9 := cellAt (w := w5) (cs := suitesC) (t := 79) (i := 33) (v := (.int .i64 0)) rfl; have e10 := cellAt (w := w5) (cs := suitesC) (t := 79) (i := 34) (v := (.int .i64 1)) rfl; have e11 := cellAt (w := w5) (cs := suitesC) (t := 79) (i := 35) (v := (.int .i64 3)) rfl)
  refine bodyPost_ret (v := .tuple #[.agg sui3, .int .i64 0]) (by simp [results, Try.results50, go_sem, q0, q1, q2, q3, q4, q5, q6, q7, q8, q9, q10, q11, fz, sui3]) rfl ?_
  exact ⟨rfl, by have hh := ((Ext.refl w).alloc (.cells #[.int .i64 0, .string ⟨#[]⟩, .int .i64 0, .int .i64 0, .int .i64 0, .int .i64 0, .int .i64 0, .int .i64 0, .int .i64 0, .int .i64 0, .int .i64 0, .int .i64 0] 79)).trans (hx5.alloc (.cells suitesC 79)); exact ((((((((((((hh.setCell (by simp) _).setCell (by simp) _).setCell (by simp) _).setCell (by simp) _).setCell (by simp) _).setCell (by simp) _).setCell (by simp) _).setCell (by simp) _).setCell (by simp) _).setCell (by simp) _).setCell (by simp) _).setCell (by simp) _)⟩
set_option maxRecDepth 100000 in
set_option maxHeartbeats 1600000 in
theorem one_4 (w : World) : Calls Try.prog 50 #[.int .i64 4] w fun e w' => e = .returned (.tuple #[.agg sui4, .int .i64 0]) ∧ Ext w w' := by
  go_enter Try.func50, Try.ntmps50
  go_wp2_with (go_at_call 53; refine (suites_any _).mono ?_; rintro e w' ⟨w5, rfl, rfl, hx5⟩; obtain ⟨⟨q0, q1, q2, q3, q4, q5, q6, q7, q8, q9, q10, q11⟩, fz⟩ := twelve (hx5.alloc (.cells suitesC 79)).blk; have e0 := cellAt (w := w5) (cs := suitesC) (t := 79) (i := 36) (v := (.int .i64 4)) rfl; have e1 := cellAt (w := w5) (cs := suitesC) (t := 79) (i := 37) (v := (.string ⟨#[100, 104, 101, 45, 100, 115, 97, 45, 100, 101, 115, 51, 45, 115, 104, 97]⟩)) rfl; have e2 := cellAt (w := w5) (cs := suitesC) (t := 79) (i := 38) (v := (.int .i64 11)) rfl; have e3 := cellAt (w := w5) (cs := suitesC) (t := 79) (i := 39) (v := (.int .i64 1024)) rfl; have e4 := cellAt (w := w5) (cs := suitesC) (t := 79) (i := 40) (v := (.int .i64 6)) rfl; have e5 := cellAt (w := w5) (cs := suitesC) (t := 79) (i := 41) (v := (.int .i64 0)) rfl; have e6 := cellAt (w := w5) (cs := suitesC) (t := 79) (i := 42) (v := (.int .i64 15)) rfl; have e7 := cellAt (w := w5) (cs := suitesC) (t := 79) (i := 43) (v := (.int .i64 168)) rfl; have e8 := cellAt (w := w5) (cs := suitesC) (t := 79) (i := 44) (v := (.int .i64 20)) rfl; have e9 := cellAt (w := w5) (cs := suitesC) (t := 79) (i := 45) (v := (.int .i64 0)) rfl; have e10 := cellAt (w := w5) (cs := suitesC) (t := 79) (i := 46) (v := (.int .i64 1)) rfl; have e11 := cellAt (w := w5) (cs := suitesC) (t := 79) (i := 47) (v := (.int .i64 3)) rfl)
  refine bodyPost_ret (v := .tuple #[.agg sui4, .int .i64 0]) (by simp [results, Try.results50, go_sem, q0, q1, q2, q3, q4, q5, q6, q7, q8, q9, q10, q11, fz, sui4]) rfl ?_
  exact ⟨rfl, by have hh := ((Ext.refl w).alloc (.cells #[.int .i64 0, .string ⟨#[]⟩, .int .i64 0, .int .i64 0, .int .i64 0, .int .i64 0, .int .i64 0, .int .i64 0, .int .i64 0, .int .i64 0, .int .i64 0, .int .i64 0] 79)).trans (hx5.alloc (.cells suitesC 79)); exact ((((((((((((hh.setCell (by simp) _).setCell (by simp) _).setCell (by simp) _).setCell (by simp) _).setCell (by simp) _).setCell (by simp) _).setCell (by simp) _).setCell (by simp) _).setCell (by simp) _).setCell (by simp) _).setCell (by simp) _).setCell (by simp) _)⟩
set_option maxRecDepth 100000 in
set_option maxHeartbeats 1600000 in
theorem one_5 (w : World) : Calls Try.prog 50 #[.int .i64 5] w fun e w' => e = .returned (.tuple #[.agg sui5, .int .i64 0]) ∧ Ext w w' := by
  go_enter Try.func50, Try.ntmps50
  go_wp2_with (go_at_call 53; refine (suites_any _).mono ?_; rintro e w' ⟨w5, rfl, rfl, hx5⟩; obtain ⟨⟨q0, q1, q2, q3, q4, q5, q6, q7, q8, q9, q10, q11⟩, fz⟩ := twelve (hx5.alloc (.cells suitesC 79)).blk; have e0 := cellAt (w := w5) (cs := suitesC) (t := 79) (i := 48) (v := (.int .i64 5)) rfl; have e1 := cellAt (w := w5) (cs := suitesC) (t := 79) (i := 49) (v := (.string ⟨#[100, 104, 101, 45, 114, 115, 97, 45, 100, 101, 115, 51, 45, 115, 104, 97]⟩)) rfl; have e2 := cellAt (w := w5) (cs := suitesC) (t := 79) (i := 50) (v := (.int .i64 11)) rfl; have e3 := cellAt (w := w5) (cs := suitesC) (t := 79) (i := 51) (v := (.int .i64 1024)) rfl; have e4 := cellAt (w := w5) (cs := suitesC) (t := 79) (i := 52) (v := (.int .i64 5)) rfl; have e5 := cellAt (w := w5) (cs := suitesC) (t := 79) (i := 53) (v := (.int .i64 0)) rfl; have e6 := cellAt (w := w5) (cs := suitesC) (t := 79) (i := 54) (v := (.int .i64 15)) rfl; have e7 := cellAt (w := w5) (cs := suitesC) (t := 79) (i := 55) (v := (.int .i64 168)) rfl; have e8 := cellAt (w := w5) (cs := suitesC) (t := 79) (i := 56) (v := (.int .i64 20)) rfl; have e9 := cellAt (w := w5) (cs := suitesC) (t := 79) (i := 57) (v := (.int .i64 0)) rfl; have e10 := cellAt (w := w5) (cs := suitesC) (t := 79) (i := 58) (v := (.int .i64 1)) rfl; have e11 := cellAt (w := w5) (cs := suitesC) (t := 79) (i := 59) (v := (.int .i64 3)) rfl)
  refine bodyPost_ret (v := .tuple #[.agg sui5, .int .i64 0]) (by simp [results, Try.results50, go_sem, q0, q1, q2, q3, q4, q5, q6, q7, q8, q9, q10, q11, fz, sui5]) rfl ?_
  exact ⟨rfl, by have hh := ((Ext.refl w).alloc (.cells #[.int .i64 0, .string ⟨#[]⟩, .int .i64 0, .int .i64 0, .int .i64 0, .int .i64 0, .int .i64 0, .int .i64 0, .int .i64 0, .int .i64 0, .int .i64 0, .int .i64 0] 79)).trans (hx5.alloc (.cells suitesC 79)); exact ((((((((((((hh.setCell (by simp) _).setCell (by simp) _).setCell (by simp) _).setCell (by simp) _).setCell (by simp) _).setCell (by simp) _).setCell (by simp) _).setCell (by simp) _).setCell (by simp) _).setCell (by simp) _).setCell (by simp) _).setCell (by simp) _)⟩
set_option maxRecDepth 100000 in
set_option maxHeartbeats 1600000 in
theorem one_6 (w : World) : Calls Try.prog 50 #[.int .i64 6] w fun e w' => e = .returned (.tuple #[.agg sui6, .int .i64 0]) ∧ Ext w w' := by
  go_enter Try.func50, Try.ntmps50
  go_wp2_with (go_at_call 53; refine (suites_any _).mono ?_; rintro e w' ⟨w5, rfl, rfl, hx5⟩; obtain ⟨⟨q0, q1, q2, q3, q4, q5, q6, q7, q8, q9, q10, q11⟩, fz⟩ := twelve (hx5.alloc (.cells suitesC 79)).blk; have e0 := cellAt (w := w5) (cs := suitesC) (t := 79) (i := 60) (v := (.int .i64 6)) rfl; have e1 := cellAt (w := w5) (cs := suitesC) (t := 79) (i := 61) (v := (.string ⟨#[114, 115, 97, 45, 97, 101, 115, 49, 50, 56, 45, 115, 104, 97]⟩)) rfl; have e2 := cellAt (w := w5) (cs := suitesC) (t := 79) (i := 62) (v := (.int .i64 10)) rfl; have e3 := cellAt (w := w5) (cs := suitesC) (t := 79) (i := 63) (v := (.int .i64 0)) rfl; have e4 := cellAt (w := w5) (cs := suitesC) (t := 79) (i := 64) (v := (.int .i64 5)) rfl; have e5 := cellAt (w := w5) (cs := suitesC) (t := 79) (i := 65) (v := (.int .i64 0)) rfl; have e6 := cellAt (w := w5) (cs := suitesC) (t := 79) (i := 66) (v := (.int .i64 16)) rfl; have e7 := cellAt (w := w5) (cs := suitesC) (t := 79) (i := 67) (v := (.int .i64 128)) rfl; have e8 := cellAt (w := w5) (cs := suitesC) (t := 79) (i := 68) (v := (.int .i64 20)) rfl; have e9 := cellAt (w := w5) (cs := suitesC) (t := 79) (i := 69) (v := (.int .i64 0)) rfl; have e10 := cellAt (w := w5) (cs := suitesC) (t := 79) (i := 70) (v := (.int .i64 1)) rfl; have e11 := cellAt (w := w5) (cs := suitesC) (t := 79) (i := 71) (v := (.int .i64 3)) rfl)
  refine bodyPost_ret (v := .tuple #[.agg sui6, .int .i64 0]) (by simp [results, Try.results50, go_sem, q0, q1, q2, q3, q4, q5, q6, q7, q8, q9, q10, q11, fz, sui6]) rfl ?_
  exact ⟨rfl, by have hh := ((Ext.refl w).alloc (.cells #[.int .i64 0, .string ⟨#[]⟩, .int .i64 0, .int .i64 0, .int .i64 0, .int .i64 0, .int .i64 0, .int .i64 0, .int .i64 0, .int .i64 0, .int .i64 0, .int .i64 0] 79)).trans (hx5.alloc (.cells suitesC 79)); exact ((((((((((((hh.setCell (by simp) _).setCell (by simp) _).setCell (by simp) _).setCell (by simp) _).setCell (by simp) _).setCell (by simp) _).setCell (by simp) _).setCell (by simp) _).setCell (by simp) _).setCell (by simp) _).setCell (by simp) _).setCell (by simp) _)⟩
set_option maxRecDepth 100000 in
set_option maxHeartbeats 1600000 in
theorem one_7 (w : World) : Calls Try.prog 50 #[.int .i64 7] w fun e w' => e = .returned (.tuple #[.agg sui7, .int .i64 0]) ∧ Ext w w' := by
  go_enter Try.func50, Try.ntmps50
  go_wp2_with (go_at_call 53; refine (suites_any _).mono ?_; rintro e w' ⟨w5, rfl, rfl, hx5⟩; obtain ⟨⟨q0, q1, q2, q3, q4, q5, q6, q7, q8, q9, q10, q11⟩, fz⟩ := twelve (hx5.alloc (.cells suitesC 79)).blk; have e0 := cellAt (w := w5) (cs := suitesC) (t := 79) (i := 72) (v := (.int .i64 7)) rfl; have e1 := cellAt (w := w5) (cs := suitesC) (t := 79) (i := 73) (v := (.string ⟨#[100, 104, 101, 45, 114, 115, 97, 45, 97, 101, 115, 49, 50, 56, 45, 115, 104, 97]⟩)) rfl; have e2 := cellAt (w := w5) (cs := suitesC) (t := 79) (i := 74) (v := (.int .i64 11)) rfl; have e3 := cellAt (w := w5) (cs := suitesC) (t := 79) (i := 75) (v := (.int .i64 2048)) rfl; have e4 := cellAt (w := w5) (cs := suitesC) (t := 79) (i := 76) (v := (.int .i64 5)) rfl; have e5 := cellAt (w := w5) (cs := suitesC) (t := 79) (i := 77) (v := (.int .i64 0)) rfl; have e6 := cellAt (w := w5) (cs := suitesC) (t := 79) (i := 78) (v := (.int .i64 16)) rfl; have e7 := cellAt (w := w5) (cs := suitesC) (t := 79) (i := 79) (v := (.int .i64 128)) rfl; have e8 := cellAt (w := w5) (cs := suitesC) (t := 79) (i := 80) (v := (.int .i64 20)) rfl; have e9 := cellAt (w := w5) (cs := suitesC) (t := 79) (i := 81) (v := (.int .i64 0)) rfl; have e10 := cellAt (w := w5) (cs := suitesC) (t := 79) (i := 82) (v := (.int .i64 1)) rfl; have e11 := cellAt (w := w5) (cs := suitesC) (t := 79) (i := 83) (v := (.int .i64 3)) rfl)
  refine bodyPost_ret (v := .tuple #[.agg sui7, .int .i64 0]) (by simp [results, Try.results50, go_sem, q0, q1, q2, q3, q4, q5, q6, q7, q8, q9, q10, q11, fz, sui7]) rfl ?_
  exact ⟨rfl, by have hh := ((Ext.refl w).alloc (.cells #[.int .i64 0, .string ⟨#[]⟩, .int .i64 0, .int .i64 0, .int .i64 0, .int .i64 0, .int .i64 0, .int .i64 0, .int .i64 0, .int .i64 0, .int .i64 0, .int .i64 0] 79)).trans (hx5.alloc (.cells suitesC 79)); exact ((((((((((((hh.setCell (by simp) _).setCell (by simp) _).setCell (by simp) _).setCell (by simp) _).setCell (by simp) _).setCell (by simp) _).setCell (by simp) _).setCell (by simp) _).setCell (by simp) _).setCell (by simp) _).setCell (by simp) _).setCell (by simp) _)⟩
set_option maxRecDepth 100000 in
set_option maxHeartbeats 1600000 in
theorem one_8 (w : World) : Calls Try.prog 50 #[.int .i64 8] w fun e w' => e = .returned (.tuple #[.agg sui8, .int .i64 0]) ∧ Ext w w' := by
  go_enter Try.func50, Try.ntmps50
  go_wp2_with (go_at_call 53; refine (suites_any _).mono ?_; rintro e w' ⟨w5, rfl, rfl, hx5⟩; obtain ⟨⟨q0, q1, q2, q3, q4, q5, q6, q7, q8, q9, q10, q11⟩, fz⟩ := twelve (hx5.alloc (.cells suitesC 79)).blk; have e0 := cellAt (w := w5) (cs := suitesC) (t := 79) (i := 84) (v := (.int .i64 8)) rfl; have e1 := cellAt (w := w5) (cs := suitesC) (t := 79) (i := 85) (v := (.string ⟨#[101, 99, 100, 104, 101, 45, 114, 115, 97, 45, 97, 101, 115, 49, 50, 56, 45, 115, 104, 97]⟩)) rfl; have e2 := cellAt (w := w5) (cs := suitesC) (t := 79) (i := 86) (v := (.int .i64 12)) rfl; have e3 := cellAt (w := w5) (cs := suitesC) (t := 79) (i := 87) (v := (.int .i64 256)) rfl; have e4 := cellAt (w := w5) (cs := suitesC) (t := 79) (i := 88) (v := (.int .i64 5)) rfl; have e5 := cellAt (w := w5) (cs := suitesC) (t := 79) (i := 89) (v := (.int .i64 0)) rfl; have e6 := cellAt (w := w5) (cs := suitesC) (t := 79) (i := 90) (v := (.int .i64 16)) rfl; have e7 := cellAt (w := w5) (cs := suitesC) (t := 79) (i := 91) (v := (.int .i64 128)) rfl; have e8 := cellAt (w := w5) (cs := suitesC) (t := 79) (i := 92) (v := (.int .i64 20)) rfl; have e9 := cellAt (w := w5) (cs := suitesC) (t := 79) (i := 93) (v := (.int .i64 0)) rfl; have e10 := cellAt (w := w5) (cs := suitesC) (t := 79) (i := 94) (v := (.int .i64 1)) rfl; have e11 := cellAt (w := w5) (cs := suitesC) (t := 79) (i := 95) (v := (.int .i64 3)) rfl)
  refine bodyPost_ret (v := .tuple #[.agg sui8, .int .i64 0]) (by simp [results, Try.results50, go_sem, q0, q1, q2, q3, q4, q5, q6, q7, q8, q9, q10, q11, fz, sui8]) rfl ?_
  exact ⟨rfl, by have hh := ((Ext.refl w).alloc (.cells #[.int .i64 0, .string ⟨#[]⟩, .int .i64 0, .int .i64 0, .int .i64 0, .int .i64 0, .int .i64 0, .int .i64 0, .int .i64 0, .int .i64 0, .int .i64 0, .int .i64 0] 79)).trans (hx5.alloc (.cells suitesC 79)); exact ((((((((((((hh.setCell (by simp) _).setCell (by simp) _).setCell (by simp) _).setCell (by simp) _).setCell (by simp) _).setCell (by simp) _).setCell (by simp) _).setCell (by simp) _).setCell (by simp) _).setCell (by simp) _).setCell (by simp) _).setCell (by simp) _)⟩
set_option maxRecDepth 100000 in
set_option maxHeartbeats 1600000 in
theorem one_9 (w : World) : Calls Try.prog 50 #[.int .i64 9] w fun e w' => e = .returned (.tuple #[.agg sui9, .int .i64 0]) ∧ Ext w w' := by
  go_enter Try.func50, Try.ntmps50
  go_wp2_with (go_at_call 53; refine (suites_any _).mono ?_; rintro e w' ⟨w5, rfl, rfl, hx5⟩; obtain ⟨⟨q0, q1, q2, q3, q4, q5, q6, q7, q8, q9, q10, q11⟩, fz⟩ := twelve (hx5.alloc (.cells suitesC 79)).blk; have e0 := cellAt (w := w5) (cs := suitesC) (t := 79) (i := 96) (v := (.int .i64 9)) rfl; have e1 := cellAt (w := w5) (cs := suitesC) (t := 79) (i := 97) (v := (.string ⟨#[101, 99, 100, 104, 101, 45, 101, 99, 100, 115, 97, 45, 97, 101, 115, 50, 53, 54, 45, 115, 104, 97, 50, 53, 54]⟩)) rfl; have e2 := cellAt (w := w5) (cs := suitesC) (t := 79) (i := 98) (v := (.int .i64 12)) rfl; have e3 := cellAt (w := w5) (cs := suitesC) (t := 79) (i := 99) (v := (.int .i64 256)) rfl; have e4 := cellAt (w := w5) (cs := suitesC) (t := 79) (i := 100) (v := (.int .i64 7)) rfl; have e5 := cellAt (w := w5) (cs := suitesC) (t := 79) (i := 101) (v := (.int .i64 0)) rfl; have e6 := cellAt (w := w5) (cs := suitesC) (t := 79) (i := 102) (v := (.int .i64 16)) rfl; have e7 := cellAt (w := w5) (cs := suitesC) (t := 79) (i := 103) (v := (.int .i64 256)) rfl; have e8 := cellAt (w := w5) (cs := suitesC) (t := 79) (i := 104) (v := (.int .i64 21)) rfl; have e9 := cellAt (w := w5) (cs := suitesC) (t := 79) (i := 105) (v := (.int .i64 0)) rfl; have e10 := cellAt (w := w5) (cs := suitesC) (t := 79) (i := 106) (v := (.int .i64 3)) rfl; have e11 := cellAt (w := w5) (cs := suitesC) (t := 79) (i := 107) (v := (.int .i64 3)) rfl)
  refine bodyPost_ret (v := .tuple #[.agg sui9, .int .i64 0]) (by simp [results, Try.results50, go_sem, q0, q1, q2, q3, q4, q5, q6, q7, q8, q9, q10, q11, fz, sui9]) rfl ?_
  exact ⟨rfl, by have hh := ((Ext.refl w).alloc (.cells #[.int .i64 0, .string ⟨#[]⟩, .int .i64 0, .int .i64 0, .int .i64 0, .int .i64 0, .int .i64 0, .int .i64 0, .int .i64 0, .int .i64 0, .int .i64 0, .int .i64 0] 79)).trans (hx5.alloc (.cells suitesC 79)); exact ((((((((((((hh.setCell (by simp) _).setCell (by simp) _).setCell (by simp) _).setCell (by simp) _).setCell (by simp) _).setCell (by simp) _).setCell (by simp) _).setCell (by simp) _).setCell (by simp) _).setCell (by simp) _).setCell (by simp) _).setCell (by simp) _)⟩
set_option maxRecDepth 100000 in
set_option maxHeartbeats 1600000 in
theorem one_10 (w : World) : Calls Try.prog 50 #[.int .i64 10] w fun e w' => e = .returned (.tuple #[.agg sui10, .int .i64 0]) ∧ Ext w w' := by
  go_enter Try.func50, Try.ntmps50
  go_wp2_with (go_at_call 53; refine (suites_any _).mono ?_; rintro e w' ⟨w5, rfl, rfl, hx5⟩; obtain ⟨⟨q0, q1, q2, q3, q4, q5, q6, q7, q8, q9, q10, q11⟩, fz⟩ := twelve (hx5.alloc (.cells suitesC 79)).blk; have e0 := cellAt (w := w5) (cs := suitesC) (t := 79) (i := 108) (v := (.int .i64 10)) rfl; have e1 := cellAt (w := w5) (cs := suitesC) (t := 79) (i := 109) (v := (.string ⟨#[101, 99, 100, 104, 101, 45, 114, 115, 97, 45, 97, 101, 115, 49, 50, 56, 45, 103, 99, 109]⟩)) rfl; have e2 := cellAt (w := w5) (cs := suitesC) (t := 79) (i := 110) (v := (.int .i64 12)) rfl; have e3 := cellAt (w := w5) (cs := suitesC) (t := 79) (i := 111) (v := (.int .i64 256)) rfl; have e4 := cellAt (w := w5) (cs := suitesC) (t := 79) (i := 112) (v := (.int .i64 5)) rfl; have e5 := cellAt (w := w5) (cs := suitesC) (t := 79) (i := 113) (v := (.int .i64 0)) rfl; have e6 := cellAt (w := w5) (cs := suitesC) (t := 79) (i := 114) (v := (.int .i64 17)) rfl; have e7 := cellAt (w := w5) (cs := suitesC) (t := 79) (i := 115) (v := (.int .i64 128)) rfl; have e8 := cellAt (w := w5) (cs := suitesC) (t := 79) (i := 116) (v := (.int .i64 22)) rfl; have e9 := cellAt (w := w5) (cs := suitesC) (t := 79) (i := 117) (v := (.int .i64 0)) rfl; have e10 := cellAt (w := w5) (cs := suitesC) (t := 79) (i := 118) (v := (.int .i64 3)) rfl; have e11 := cellAt (w := w5) (cs := suitesC) (t := 79) (i := 119) (v := (.int .i64 3)) rfl)
  refine bodyPost_ret (v := .tuple #[.agg sui10, .int .i64 0]) (by simp [results, Try.results50, go_sem, q0, q1, q2, q3, q4, q5, q6, q7, q8, q9, q10, q11, fz, sui10]) rfl ?_
  exact ⟨rfl, by have hh := ((Ext.refl w).alloc (.cells #[.int .i64 0, .string ⟨#[]⟩, .int .i64 0, .int .i64 0, .int .i64 0, .int .i64 0, .int .i64 0, .int .i64 0, .int .i64 0, .int .i64 0, .int .i64 0, .int .i64 0] 79)).trans (hx5.alloc (.cells suitesC 79)); exact ((((((((((((hh.setCell (by simp) _).setCell (by simp) _).setCell (by simp) _).setCell (by simp) _).setCell (by simp) _).setCell (by simp) _).setCell (by simp) _).setCell (by simp) _).setCell (by simp) _).setCell (by simp) _).setCell (by simp) _).setCell (by simp) _)⟩
set_option maxRecDepth 100000 in
set_option maxHeartbeats 1600000 in
theorem one_11 (w : World) : Calls Try.prog 50 #[.int .i64 11] w fun e w' => e = .returned (.tuple #[.agg sui11, .int .i64 0]) ∧ Ext w w' := by
  go_enter Try.func50, Try.ntmps50
  go_wp2_with (go_at_call 53; refine (suites_any _).mono ?_; rintro e w' ⟨w5, rfl, rfl, hx5⟩; obtain ⟨⟨q0, q1, q2, q3, q4, q5, q6, q7, q8, q9, q10, q11⟩, fz⟩ := twelve (hx5.alloc (.cells suitesC 79)).blk; have e0 := cellAt (w := w5) (cs := suitesC) (t := 79) (i := 120) (v := (.int .i64 11)) rfl; have e1 := cellAt (w := w5) (cs := suitesC) (t := 79) (i := 121) (v := (.string ⟨#[101, 99, 100, 104, 101, 45, 101, 99, 100, 115, 97, 45, 97, 101, 115, 50, 53, 54, 45, 103, 99, 109]⟩)) rfl; have e2 := cellAt (w := w5) (cs := suitesC) (t := 79) (i := 122) (v := (.int .i64 12)) rfl; have e3 := cellAt (w := w5) (cs := suitesC) (t := 79) (i := 123) (v := (.int .i64 384)) rfl; have e4 := cellAt (w := w5) (cs := suitesC) (t := 79) (i := 124) (v := (.int .i64 7)) rfl; have e5 := cellAt (w := w5) (cs := suitesC) (t := 79) (i := 125) (v := (.int .i64 0)) rfl; have e6 := cellAt (w := w5) (cs := suitesC) (t := 79) (i := 126) (v := (.int .i64 17)) rfl; have e7 := cellAt (w := w5) (cs := suitesC) (t := 79) (i := 127) (v := (.int .i64 256)) rfl; have e8 := cellAt (w := w5) (cs := suitesC) (t := 79) (i := 128) (v := (.int .i64 22)) rfl; have e9 := cellAt (w := w5) (cs := suitesC) (t := 79) (i := 129) (v := (.int .i64 0)) rfl; have e10 := cellAt (w := w5) (cs := suitesC) (t := 79) (i := 130) (v := (.int .i64 3)) rfl; have e11 := cellAt (w := w5) (cs := suitesC) (t := 79) (i := 131) (v := (.int .i64 3)) rfl)
  refine bodyPost_ret (v := .tuple #[.agg sui11, .int .i64 0]) (by simp [results, Try.results50, go_sem, q0, q1, q2, q3, q4, q5, q6, q7, q8, q9, q10, q11, fz, sui11]) rfl ?_
  exact ⟨rfl, by have hh := ((Ext.refl w).alloc (.cells #[.int .i64 0, .string ⟨#[]⟩, .int .i64 0, .int .i64 0, .int .i64 0, .int .i64 0, .int .i64 0, .int .i64 0, .int .i64 0, .int .i64 0, .int .i64 0, .int .i64 0] 79)).trans (hx5.alloc (.cells suitesC 79)); exact ((((((((((((hh.setCell (by simp) _).setCell (by simp) _).setCell (by simp) _).setCell (by simp) _).setCell (by simp) _).setCell (by simp) _).setCell (by simp) _).setCell (by simp) _).setCell (by simp) _).setCell (by simp) _).setCell (by simp) _).setCell (by simp) _)⟩
set_option maxRecDepth 100000 in
set_option maxHeartbeats 1600000 in
theorem one_12 (w : World) : Calls Try.prog 50 #[.int .i64 12] w fun e w' => e = .returned (.tuple #[.agg sui12, .int .i64 0]) ∧ Ext w w' := by
  go_enter Try.func50, Try.ntmps50
  go_wp2_with (go_at_call 53; refine (suites_any _).mono ?_; rintro e w' ⟨w5, rfl, rfl, hx5⟩; obtain ⟨⟨q0, q1, q2, q3, q4, q5, q6, q7, q8, q9, q10, q11⟩, fz⟩ := twelve (hx5.alloc (.cells suitesC 79)).blk; have e0 := cellAt (w := w5) (cs := suitesC) (t := 79) (i := 132) (v := (.int .i64 12)) rfl; have e1 := cellAt (w := w5) (cs := suitesC) (t := 79) (i := 133) (v := (.string ⟨#[101, 99, 100, 104, 101, 45, 114, 115, 97, 45, 99, 104, 97, 99, 104, 97]⟩)) rfl; have e2 := cellAt (w := w5) (cs := suitesC) (t := 79) (i := 134) (v := (.int .i64 12)) rfl; have e3 := cellAt (w := w5) (cs := suitesC) (t := 79) (i := 135) (v := (.int .i64 256)) rfl; have e4 := cellAt (w := w5) (cs := suitesC) (t := 79) (i := 136) (v := (.int .i64 5)) rfl; have e5 := cellAt (w := w5) (cs := suitesC) (t := 79) (i := 137) (v := (.int .i64 0)) rfl; have e6 := cellAt (w := w5) (cs := suitesC) (t := 79) (i := 138) (v := (.int .i64 18)) rfl; have e7 := cellAt (w := w5) (cs := suitesC) (t := 79) (i := 139) (v := (.int .i64 0)) rfl; have e8 := cellAt (w := w5) (cs := suitesC) (t := 79) (i := 140) (v := (.int .i64 22)) rfl; have e9 := cellAt (w := w5) (cs := suitesC) (t := 79) (i := 141) (v := (.int .i64 0)) rfl; have e10 := cellAt (w := w5) (cs := suitesC) (t := 79) (i := 142) (v := (.int .i64 3)) rfl; have e11 := cellAt (w := w5) (cs := suitesC) (t := 79) (i := 143) (v := (.int .i64 3)) rfl)
  refine bodyPost_ret (v := .tuple #[.agg sui12, .int .i64 0]) (by simp [results, Try.results50, go_sem, q0, q1, q2, q3, q4, q5, q6, q7, q8, q9, q10, q11, fz, sui12]) rfl ?_
  exact ⟨rfl, by have hh := ((Ext.refl w).alloc (.cells #[.int .i64 0, .string ⟨#[]⟩, .int .i64 0, .int .i64 0, .int .i64 0, .int .i64 0, .int .i64 0, .int .i64 0, .int .i64 0, .int .i64 0, .int .i64 0, .int .i64 0] 79)).trans (hx5.alloc (.cells suitesC 79)); exact ((((((((((((hh.setCell (by simp) _).setCell (by simp) _).setCell (by simp) _).setCell (by simp) _).setCell (by simp) _).setCell (by simp) _).setCell (by simp) _).setCell (by simp) _).setCell (by simp) _).setCell (by simp) _).setCell (by simp) _).setCell (by simp) _)⟩
set_option maxRecDepth 100000 in
set_option maxHeartbeats 1600000 in
theorem one_13 (w : World) : Calls Try.prog 50 #[.int .i64 13] w fun e w' => e = .returned (.tuple #[.agg sui13, .int .i64 0]) ∧ Ext w w' := by
  go_enter Try.func50, Try.ntmps50
  go_wp2_with (go_at_call 53; refine (suites_any _).mono ?_; rintro e w' ⟨w5, rfl, rfl, hx5⟩; obtain ⟨⟨q0, q1, q2, q3, q4, q5, q6, q7, q8, q9, q10, q11⟩, fz⟩ := twelve (hx5.alloc (.cells suitesC 79)).blk; have e0 := cellAt (w := w5) (cs := suitesC) (t := 79) (i := 144) (v := (.int .i64 13)) rfl; have e1 := cellAt (w := w5) (cs := suitesC) (t := 79) (i := 145) (v := (.string ⟨#[114, 115, 97, 45, 97, 101, 115, 50, 53, 54, 45, 103, 99, 109]⟩)) rfl; have e2 := cellAt (w := w5) (cs := suitesC) (t := 79) (i := 146) (v := (.int .i64 10)) rfl; have e3 := cellAt (w := w5) (cs := suitesC) (t := 79) (i := 147) (v := (.int .i64 0)) rfl; have e4 := cellAt (w := w5) (cs := suitesC) (t := 79) (i := 148) (v := (.int .i64 5)) rfl; have e5 := cellAt (w := w5) (cs := suitesC) (t := 79) (i := 149) (v := (.int .i64 0)) rfl; have e6 := cellAt (w := w5) (cs := suitesC) (t := 79) (i := 150) (v := (.int .i64 17)) rfl; have e7 := cellAt (w := w5) (cs := suitesC) (t := 79) (i := 151) (v := (.int .i64 256)) rfl; have e8 := cellAt (w := w5) (cs := suitesC) (t := 79) (i := 152) (v := (.int .i64 22)) rfl; have e9 := cellAt (w := w5) (cs := suitesC) (t := 79) (i := 153) (v := (.int .i64 0)) rfl; have e10 := cellAt (w := w5) (cs := suitesC) (t := 79) (i := 154) (v := (.int .i64 3)) rfl; have e11 := cellAt (w := w5) (cs := suitesC) (t := 79) (i := 155) (v := (.int .i64 3)) rfl)
  refine bodyPost_ret (v := .tuple #[.agg sui13, .int .i64 0]) (by simp [results, Try.results50, go_sem, q0, q1, q2, q3, q4, q5, q6, q7, q8, q9, q10, q11, fz, sui13]) rfl ?_
  exact ⟨rfl, by have hh := ((Ext.refl w).alloc (.cells #[.int .i64 0, .string ⟨#[]⟩, .int .i64 0, .int .i64 0, .int .i64 0, .int .i64 0, .int .i64 0, .int .i64 0, .int .i64 0, .int .i64 0, .int .i64 0, .int .i64 0] 79)).trans (hx5.alloc (.cells suitesC 79)); exact ((((((((((((hh.setCell (by simp) _).setCell (by simp) _).setCell (by simp) _).setCell (by simp) _).setCell (by simp) _).setCell (by simp) _).setCell (by simp) _).setCell (by simp) _).setCell (by simp) _).setCell (by simp) _).setCell (by simp) _).setCell (by simp) _)⟩
set_option maxRecDepth 100000 in
set_option maxHeartbeats 1600000 in
theorem one_14 (w : World) : Calls Try.prog 50 #[.int .i64 14] w fun e w' => e = .returned (.tuple #[.agg sui14, .int .i64 0]) ∧ Ext w w' := by
  go_enter Try.func50, Try.ntmps50
  go_wp2_with (go_at_call 53; refine (suites_any _).mono ?_; rintro e w' ⟨w5, rfl, rfl, hx5⟩; obtain ⟨⟨q0, q1, q2, q3, q4, q5, q6, q7, q8, q9, q10, q11⟩, fz⟩ := twelve (hx5.alloc (.cells suitesC 79)).blk; have e0 := cellAt (w := w5) (cs := suitesC) (t := 79) (i := 156) (v := (.int .i64 14)) rfl; have e1 := cellAt (w := w5) (cs := suitesC) (t := 79) (i := 157) (v := (.string ⟨#[97, 101, 115, 49, 50, 56, 45, 103, 99, 109]⟩)) rfl; have e2 := cellAt (w := w5) (cs := suitesC) (t := 79) (i := 158) (v := (.int .i64 12)) rfl; have e3 := cellAt (w := w5) (cs := suitesC) (t := 79) (i := 159) (v := (.int .i64 256)) rfl; have e4 := cellAt (w := w5) (cs := suitesC) (t := 79) (i := 160) (v := (.int .i64 0)) rfl; have e5 := cellAt (w := w5) (cs := suitesC) (t := 79) (i := 161) (v := (.int .i64 0)) rfl; have e6 := cellAt (w := w5) (cs := suitesC) (t := 79) (i := 162) (v := (.int .i64 17)) rfl; have e7 := cellAt (w := w5) (cs := suitesC) (t := 79) (i := 163) (v := (.int .i64 128)) rfl; have e8 := cellAt (w := w5) (cs := suitesC) (t := 79) (i := 164) (v := (.int .i64 22)) rfl; have e9 := cellAt (w := w5) (cs := suitesC) (t := 79) (i := 165) (v := (.int .i64 0)) rfl; have e10 := cellAt (w := w5) (cs := suitesC) (t := 79) (i := 166) (v := (.int .i64 4)) rfl; have e11 := cellAt (w := w5) (cs := suitesC) (t := 79) (i := 167) (v := (.int .i64 4)) rfl)
  refine bodyPost_ret (v := .tuple #[.agg sui14, .int .i64 0]) (by simp [results, Try.results50, go_sem, q0, q1, q2, q3, q4, q5, q6, q7, q8, q9, q10, q11, fz, sui14]) rfl ?_
  exact ⟨rfl, by have hh := ((Ext.refl w).alloc (.cells #[.int .i64 0, .string ⟨#[]⟩, .int .i64 0, .int .i64 0, .int .i64 0, .int .i64 0, .int .i64 0, .int .i64 0, .int .i64 0, .int .i64 0, .int .i64 0, .int .i64 0] 79)).trans (hx5.alloc (.cells suitesC 79)); exact ((((((((((((hh.setCell (by simp) _).setCell (by simp) _).setCell (by simp) _).setCell (by simp) _).setCell (by simp) _).setCell (by simp) _).setCell (by simp) _).setCell (by simp) _).setCell (by simp) _).setCell (by simp) _).setCell (by simp) _).setCell (by simp) _)⟩
set_option maxRecDepth 100000 in
set_option maxHeartbeats 1600000 in
theorem one_15 (w : World) : Calls Try.prog 50 #[.int .i64 15] w fun e w' => e = .returned (.tuple #[.agg sui15, .int .i64 0]) ∧ Ext w w' := by
  go_enter Try.func50, Try.ntmps50
  go_wp2_with (go_at_call 53; refine (suites_any _).mono ?_; rintro e w' ⟨w5, rfl, rfl, hx5⟩; obtain ⟨⟨q0, q1, q2, q3, q4, q5, q6, q7, q8, q9, q10, q11⟩, fz⟩ := twelve (hx5.alloc (.cells suitesC 79)).blk; have e0 := cellAt (w := w5) (cs := suitesC) (t := 79) (i := 168) (v := (.int .i64 15)) rfl; have e1 := cellAt (w := w5) (cs := suitesC) (t := 79) (i := 169) (v := (.string ⟨#[99, 104, 97, 99, 104, 97]⟩)) rfl; have e2 := cellAt (w := w5) (cs := suitesC) (t := 79) (i := 170) (v := (.int .i64 12)) rfl; have e3 := cellAt (w := w5) (cs := suitesC) (t := 79) (i := 171) (v := (.int .i64 256)) rfl; have e4 := cellAt (w := w5) (cs := suitesC) (t := 79) (i := 172) (v := (.int .i64 0)) rfl; have e5 := cellAt (w := w5) (cs := suitesC) (t := 79) (i := 173) (v := (.int .i64 0)) rfl; have e6 := cellAt (w := w5) (cs := suitesC) (t := 79) (i := 174) (v := (.int .i64 18)) rfl; have e7 := cellAt (w := w5) (cs := suitesC) (t := 79) (i := 175) (v := (.int .i64 0)) rfl; have e8 := cellAt (w := w5) (cs := suitesC) (t := 79) (i := 176) (v := (.int .i64 22)) rfl; have e9 := cellAt (w := w5) (cs := suitesC) (t := 79) (i := 177) (v := (.int .i64 0)) rfl; have e10 := cellAt (w := w5) (cs := suitesC) (t := 79) (i := 178) (v := (.int .i64 4)) rfl; have e11 := cellAt (w := w5) (cs := suitesC) (t := 79) (i := 179) (v := (.int .i64 4)) rfl)
  refine bodyPost_ret (v := .tuple #[.agg sui15, .int .i64 0]) (by simp [results, Try.results50, go_sem, q0, q1, q2, q3, q4, q5, q6, q7, q8, q9, q10, q11, fz, sui15]) rfl ?_
  exact ⟨rfl, by have hh := ((Ext.refl w).alloc (.cells #[.int .i64 0, .string ⟨#[]⟩, .int .i64 0, .int .i64 0, .int .i64 0, .int .i64 0, .int .i64 0, .int .i64 0, .int .i64 0, .int .i64 0, .int .i64 0, .int .i64 0] 79)).trans (hx5.alloc (.cells suitesC 79)); exact ((((((((((((hh.setCell (by simp) _).setCell (by simp) _).setCell (by simp) _).setCell (by simp) _).setCell (by simp) _).setCell (by simp) _).setCell (by simp) _).setCell (by simp) _).setCell (by simp) _).setCell (by simp) _).setCell (by simp) _).setCell (by simp) _)⟩
set_option maxRecDepth 100000 in
set_option maxHeartbeats 1600000 in
theorem one_16 (w : World) : Calls Try.prog 50 #[.int .i64 16] w fun e w' => e = .returned (.tuple #[.agg sui16, .int .i64 0]) ∧ Ext w w' := by
  go_enter Try.func50, Try.ntmps50
  go_wp2_with (go_at_call 53; refine (suites_any _).mono ?_; rintro e w' ⟨w5, rfl, rfl, hx5⟩; obtain ⟨⟨q0, q1, q2, q3, q4, q5, q6, q7, q8, q9, q10, q11⟩, fz⟩ := twelve (hx5.alloc (.cells suitesC 79)).blk; have e0 := cellAt (w := w5) (cs := suitesC) (t := 79) (i := 180) (v := (.int .i64 16)) rfl; have e1 := cellAt (w := w5) (cs := suitesC) (t := 79) (i := 181) (v := (.string ⟨#[109, 108, 107, 101, 109, 45, 97, 101, 115, 50, 53, 54, 45, 103, 99, 109]⟩)) rfl; have e2 := cellAt (w := w5) (cs := suitesC) (t := 79) (i := 182) (v := (.int .i64 13)) rfl; have e3 := cellAt (w := w5) (cs := suitesC) (t := 79) (i := 183) (v := (.int .i64 768)) rfl; have e4 := cellAt (w := w5) (cs := suitesC) (t := 79) (i := 184) (v := (.int .i64 0)) rfl; have e5 := cellAt (w := w5) (cs := suitesC) (t := 79) (i := 185) (v := (.int .i64 0)) rfl; have e6 := cellAt (w := w5) (cs := suitesC) (t := 79) (i := 186) (v := (.int .i64 17)) rfl; have e7 := cellAt (w := w5) (cs := suitesC) (t := 79) (i := 187) (v := (.int .i64 256)) rfl; have e8 := cellAt (w := w5) (cs := suitesC) (t := 79) (i := 188) (v := (.int .i64 22)) rfl; have e9 := cellAt (w := w5) (cs := suitesC) (t := 79) (i := 189) (v := (.int .i64 0)) rfl; have e10 := cellAt (w := w5) (cs := suitesC) (t := 79) (i := 190) (v := (.int .i64 4)) rfl; have e11 := cellAt (w := w5) (cs := suitesC) (t := 79) (i := 191) (v := (.int .i64 4)) rfl)
  refine bodyPost_ret (v := .tuple #[.agg sui16, .int .i64 0]) (by simp [results, Try.results50, go_sem, q0, q1, q2, q3, q4, q5, q6, q7, q8, q9, q10, q11, fz, sui16]) rfl ?_
  exact ⟨rfl, by have hh := ((Ext.refl w).alloc (.cells #[.int .i64 0, .string ⟨#[]⟩, .int .i64 0, .int .i64 0, .int .i64 0, .int .i64 0, .int .i64 0, .int .i64 0, .int .i64 0, .int .i64 0, .int .i64 0, .int .i64 0] 79)).trans (hx5.alloc (.cells suitesC 79)); exact ((((((((((((hh.setCell (by simp) _).setCell (by simp) _).setCell (by simp) _).setCell (by simp) _).setCell (by simp) _).setCell (by simp) _).setCell (by simp) _).setCell (by simp) _).setCell (by simp) _).setCell (by simp) _).setCell (by simp) _).setCell (by simp) _)⟩
set_option maxRecDepth 100000 in
set_option maxHeartbeats 1600000 in
theorem one_no (c : Int) (hc : c < 1 ∨ 16 < c) (w : World) : Calls Try.prog 50 #[.int .i64 c] w fun e w' => e = .returned (.tuple #[.agg zero12, .int .i64 8]) ∧ Ext w w' := by
  go_enter Try.func50, Try.ntmps50
  go_wp2
  all_goals try (exfalso; omega)
  all_goals
    refine bodyPost_ret (v := .tuple #[.agg zero12, .int .i64 8]) (by simp [results, Try.results50, go_sem, zero12]) rfl ?_
    exact ⟨rfl, (Ext.refl w).alloc _⟩
def ciphS (c : Int) : Int × Int := if c = 1 then (14, 128) else if c = 2 then (14, 128) else if c = 3 then (15, 168) else if c = 4 then (15, 168) else if c = 5 then (15, 168) else if c = 6 then (16, 128) else if c = 7 then (16, 128) else if c = 8 then (16, 128) else if c = 9 then (16, 256) else if c = 10 then (17, 128) else if c = 11 then (17, 256) else if c = 12 then (18, 0) else if c = 13 then (17, 256) else if c = 14 then (17, 128) else if c = 15 then (18, 0) else if c = 16 then (17, 256) else  (0, 0)
def str8S (c : Int) : Int := if c < 1 ∨ 16 < c then 0 else strS (ciphS c).1 (ciphS c).2
set_option maxRecDepth 100000 in
set_option maxHeartbeats 800000 in
theorem st8_1 (w : World) : Calls Try.prog 48 #[.int .i64 1] w fun e w' => e = .returned (.int .i64 (strS 14 128)) ∧ Ext w w' := by
  have H1 := one_1
  unfold sui1 at H1
  have H1 := Lib.hid H1
  obtain ⟨S, hS⟩ : ∃ S, strS 14 128 = S := ⟨_, rfl⟩
  have H2 := strength_any 14 128
  rw [hS] at H2 ⊢
  have H2 := Lib.hid H2
  clear hS
  go_enter Try.func48, Try.ntmps48
  go_wp2_with (first
    | (go_at_call 50; refine (H1.out _).mono ?_; rintro e w1 ⟨rfl, hx1⟩)
    | (go_at_call 51; refine (H2.out _).mono ?_; rintro e w2 ⟨rfl, hx2⟩))
  go_ret
  exact ⟨ret_val rfl, (hx1.alloc _).trans hx2⟩
set_option maxRecDepth 100000 in
set_option maxHeartbeats 800000 in
theorem st8_2 (w : World) : Calls Try.prog 48 #[.int .i64 2] w fun e w' => e = .returned (.int .i64 (strS 14 128)) ∧ Ext w w' := by
  have H1 := one_2
  unfold sui2 at H1
  have H1 := Lib.hid H1
  obtain ⟨S, hS⟩ : ∃ S, strS 14 128 = S := ⟨_, rfl⟩
  have H2 := strength_any 14 128
  rw [hS] at H2 ⊢
  have H2 := Lib.hid H2
  clear hS
  go_enter Try.func48, Try.ntmps48
  go_wp2_with (first
    | (go_at_call 50; refine (H1.out _).mono ?_; rintro e w1 ⟨rfl, hx1⟩)
    | (go_at_call 51; refine (H2.out _).mono ?_; rintro e w2 ⟨rfl, hx2⟩))
  go_ret
  exact ⟨ret_val rfl, (hx1.alloc _).trans hx2⟩
set_option maxRecDepth 100000 in
set_option maxHeartbeats 800000 in
theorem st8_3 (w : World) : Calls Try.prog 48 #[.int .i64 3] w fun e w' => e = .returned (.int .i64 (strS 15 168)) ∧ Ext w w' := by
  have H1 := one_3
  unfold sui3 at H1
  have H1 := Lib.hid H1
  obtain ⟨S, hS⟩ : ∃ S, strS 15 168 = S := ⟨_, rfl⟩
  have H2 := strength_any 15 168
  rw [hS] at H2 ⊢
  have H2 := Lib.hid H2
  clear hS
  go_enter Try.func48, Try.ntmps48
  go_wp2_with (first
    | (go_at_call 50; refine (H1.out _).mono ?_; rintro e w1 ⟨rfl, hx1⟩)
    | (go_at_call 51; refine (H2.out _).mono ?_; rintro e w2 ⟨rfl, hx2⟩))
  go_ret
  exact ⟨ret_val rfl, (hx1.alloc _).trans hx2⟩
set_option maxRecDepth 100000 in
set_option maxHeartbeats 800000 in
theorem st8_4 (w : World) : Calls Try.prog 48 #[.int .i64 4] w fun e w' => e = .returned (.int .i64 (strS 15 168)) ∧ Ext w w' := by
  have H1 := one_4
  unfold sui4 at H1
  have H1 := Lib.hid H1
  obtain ⟨S, hS⟩ : ∃ S, strS 15 168 = S := ⟨_, rfl⟩
  have H2 := strength_any 15 168
  rw [hS] at H2 ⊢
  have H2 := Lib.hid H2
  clear hS
  go_enter Try.func48, Try.ntmps48
  go_wp2_with (first
    | (go_at_call 50; refine (H1.out _).mono ?_; rintro e w1 ⟨rfl, hx1⟩)
    | (go_at_call 51; refine (H2.out _).mono ?_; rintro e w2 ⟨rfl, hx2⟩))
  go_ret
  exact ⟨ret_val rfl, (hx1.alloc _).trans hx2⟩
set_option maxRecDepth 100000 in
set_option maxHeartbeats 800000 in
theorem st8_5 (w : World) : Calls Try.prog 48 #[.int .i64 5] w fun e w' => e = .returned (.int .i64 (strS 15 168)) ∧ Ext w w' := by
  have H1 := one_5
  unfold sui5 at H1
  have H1 := Lib.hid H1
  obtain ⟨S, hS⟩ : ∃ S, strS 15 168 = S := ⟨_, rfl⟩
  have H2 := strength_any 15 168
  rw [hS] at H2 ⊢
  have H2 := Lib.hid H2
  clear hS
  go_enter Try.func48, Try.ntmps48
  go_wp2_with (first
    | (go_at_call 50; refine (H1.out _).mono ?_; rintro e w1 ⟨rfl, hx1⟩)
    | (go_at_call 51; refine (H2.out _).mono ?_; rintro e w2 ⟨rfl, hx2⟩))
  go_ret
  exact ⟨ret_val rfl, (hx1.alloc _).trans hx2⟩
set_option maxRecDepth 100000 in
set_option maxHeartbeats 800000 in
theorem st8_6 (w : World) : Calls Try.prog 48 #[.int .i64 6] w fun e w' => e = .returned (.int .i64 (strS 16 128)) ∧ Ext w w' := by
  have H1 := one_6
  unfold sui6 at H1
  have H1 := Lib.hid H1
  obtain ⟨S, hS⟩ : ∃ S, strS 16 128 = S := ⟨_, rfl⟩
  have H2 := strength_any 16 128
  rw [hS] at H2 ⊢
  have H2 := Lib.hid H2
  clear hS
  go_enter Try.func48, Try.ntmps48
  go_wp2_with (first
    | (go_at_call 50; refine (H1.out _).mono ?_; rintro e w1 ⟨rfl, hx1⟩)
    | (go_at_call 51; refine (H2.out _).mono ?_; rintro e w2 ⟨rfl, hx2⟩))
  go_ret
  exact ⟨ret_val rfl, (hx1.alloc _).trans hx2⟩
set_option maxRecDepth 100000 in
set_option maxHeartbeats 800000 in
theorem st8_7 (w : World) : Calls Try.prog 48 #[.int .i64 7] w fun e w' => e = .returned (.int .i64 (strS 16 128)) ∧ Ext w w' := by
  have H1 := one_7
  unfold sui7 at H1
  have H1 := Lib.hid H1
  obtain ⟨S, hS⟩ : ∃ S, strS 16 128 = S := ⟨_, rfl⟩
  have H2 := strength_any 16 128
  rw [hS] at H2 ⊢
  have H2 := Lib.hid H2
  clear hS
  go_enter Try.func48, Try.ntmps48
  go_wp2_with (first
    | (go_at_call 50; refine (H1.out _).mono ?_; rintro e w1 ⟨rfl, hx1⟩)
    | (go_at_call 51; refine (H2.out _).mono ?_; rintro e w2 ⟨rfl, hx2⟩))
  go_ret
  exact ⟨ret_val rfl, (hx1.alloc _).trans hx2⟩
set_option maxRecDepth 100000 in
set_option maxHeartbeats 800000 in
theorem st8_8 (w : World) : Calls Try.prog 48 #[.int .i64 8] w fun e w' => e = .returned (.int .i64 (strS 16 128)) ∧ Ext w w' := by
  have H1 := one_8
  unfold sui8 at H1
  have H1 := Lib.hid H1
  obtain ⟨S, hS⟩ : ∃ S, strS 16 128 = S := ⟨_, rfl⟩
  have H2 := strength_any 16 128
  rw [hS] at H2 ⊢
  have H2 := Lib.hid H2
  clear hS
  go_enter Try.func48, Try.ntmps48
  go_wp2_with (first
    | (go_at_call 50; refine (H1.out _).mono ?_; rintro e w1 ⟨rfl, hx1⟩)
    | (go_at_call 51; refine (H2.out _).mono ?_; rintro e w2 ⟨rfl, hx2⟩))
  go_ret
  exact ⟨ret_val rfl, (hx1.alloc _).trans hx2⟩
set_option maxRecDepth 100000 in
set_option maxHeartbeats 800000 in
theorem st8_9 (w : World) : Calls Try.prog 48 #[.int .i64 9] w fun e w' => e = .returned (.int .i64 (strS 16 256)) ∧ Ext w w' := by
  have H1 := one_9
  unfold sui9 at H1
  have H1 := Lib.hid H1
  obtain ⟨S, hS⟩ : ∃ S, strS 16 256 = S := ⟨_, rfl⟩
  have H2 := strength_any 16 256
  rw [hS] at H2 ⊢
  have H2 := Lib.hid H2
  clear hS
  go_enter Try.func48, Try.ntmps48
  go_wp2_with (first
    | (go_at_call 50; refine (H1.out _).mono ?_; rintro e w1 ⟨rfl, hx1⟩)
    | (go_at_call 51; refine (H2.out _).mono ?_; rintro e w2 ⟨rfl, hx2⟩))
  go_ret
  exact ⟨ret_val rfl, (hx1.alloc _).trans hx2⟩
set_option maxRecDepth 100000 in
set_option maxHeartbeats 800000 in
theorem st8_10 (w : World) : Calls Try.prog 48 #[.int .i64 10] w fun e w' => e = .returned (.int .i64 (strS 17 128)) ∧ Ext w w' := by
  have H1 := one_10
  unfold sui10 at H1
  have H1 := Lib.hid H1
  obtain ⟨S, hS⟩ : ∃ S, strS 17 128 = S := ⟨_, rfl⟩
  have H2 := strength_any 17 128
  rw [hS] at H2 ⊢
  have H2 := Lib.hid H2
  clear hS
  go_enter Try.func48, Try.ntmps48
  go_wp2_with (first
    | (go_at_call 50; refine (H1.out _).mono ?_; rintro e w1 ⟨rfl, hx1⟩)
    | (go_at_call 51; refine (H2.out _).mono ?_; rintro e w2 ⟨rfl, hx2⟩))
  go_ret
  exact ⟨ret_val rfl, (hx1.alloc _).trans hx2⟩
set_option maxRecDepth 100000 in
set_option maxHeartbeats 800000 in
theorem st8_11 (w : World) : Calls Try.prog 48 #[.int .i64 11] w fun e w' => e = .returned (.int .i64 (strS 17 256)) ∧ Ext w w' := by
  have H1 := one_11
  unfold sui11 at H1
  have H1 := Lib.hid H1
  obtain ⟨S, hS⟩ : ∃ S, strS 17 256 = S := ⟨_, rfl⟩
  have H2 := strength_any 17 256
  rw [hS] at H2 ⊢
  have H2 := Lib.hid H2
  clear hS
  go_enter Try.func48, Try.ntmps48
  go_wp2_with (first
    | (go_at_call 50; refine (H1.out _).mono ?_; rintro e w1 ⟨rfl, hx1⟩)
    | (go_at_call 51; refine (H2.out _).mono ?_; rintro e w2 ⟨rfl, hx2⟩))
  go_ret
  exact ⟨ret_val rfl, (hx1.alloc _).trans hx2⟩
set_option maxRecDepth 100000 in
set_option maxHeartbeats 800000 in
theorem st8_12 (w : World) : Calls Try.prog 48 #[.int .i64 12] w fun e w' => e = .returned (.int .i64 (strS 18 0)) ∧ Ext w w' := by
  have H1 := one_12
  unfold sui12 at H1
  have H1 := Lib.hid H1
  obtain ⟨S, hS⟩ : ∃ S, strS 18 0 = S := ⟨_, rfl⟩
  have H2 := strength_any 18 0
  rw [hS] at H2 ⊢
  have H2 := Lib.hid H2
  clear hS
  go_enter Try.func48, Try.ntmps48
  go_wp2_with (first
    | (go_at_call 50; refine (H1.out _).mono ?_; rintro e w1 ⟨rfl, hx1⟩)
    | (go_at_call 51; refine (H2.out _).mono ?_; rintro e w2 ⟨rfl, hx2⟩))
  go_ret
  exact ⟨ret_val rfl, (hx1.alloc _).trans hx2⟩
set_option maxRecDepth 100000 in
set_option maxHeartbeats 800000 in
theorem st8_13 (w : World) : Calls Try.prog 48 #[.int .i64 13] w fun e w' => e = .returned (.int .i64 (strS 17 256)) ∧ Ext w w' := by
  have H1 := one_13
  unfold sui13 at H1
  have H1 := Lib.hid H1
  obtain ⟨S, hS⟩ : ∃ S, strS 17 256 = S := ⟨_, rfl⟩
  have H2 := strength_any 17 256
  rw [hS] at H2 ⊢
  have H2 := Lib.hid H2
  clear hS
  go_enter Try.func48, Try.ntmps48
  go_wp2_with (first
    | (go_at_call 50; refine (H1.out _).mono ?_; rintro e w1 ⟨rfl, hx1⟩)
    | (go_at_call 51; refine (H2.out _).mono ?_; rintro e w2 ⟨rfl, hx2⟩))
  go_ret
  exact ⟨ret_val rfl, (hx1.alloc _).trans hx2⟩
set_option maxRecDepth 100000 in
set_option maxHeartbeats 800000 in
theorem st8_14 (w : World) : Calls Try.prog 48 #[.int .i64 14] w fun e w' => e = .returned (.int .i64 (strS 17 128)) ∧ Ext w w' := by
  have H1 := one_14
  unfold sui14 at H1
  have H1 := Lib.hid H1
  obtain ⟨S, hS⟩ : ∃ S, strS 17 128 = S := ⟨_, rfl⟩
  have H2 := strength_any 17 128
  rw [hS] at H2 ⊢
  have H2 := Lib.hid H2
  clear hS
  go_enter Try.func48, Try.ntmps48
  go_wp2_with (first
    | (go_at_call 50; refine (H1.out _).mono ?_; rintro e w1 ⟨rfl, hx1⟩)
    | (go_at_call 51; refine (H2.out _).mono ?_; rintro e w2 ⟨rfl, hx2⟩))
  go_ret
  exact ⟨ret_val rfl, (hx1.alloc _).trans hx2⟩
set_option maxRecDepth 100000 in
set_option maxHeartbeats 800000 in
theorem st8_15 (w : World) : Calls Try.prog 48 #[.int .i64 15] w fun e w' => e = .returned (.int .i64 (strS 18 0)) ∧ Ext w w' := by
  have H1 := one_15
  unfold sui15 at H1
  have H1 := Lib.hid H1
  obtain ⟨S, hS⟩ : ∃ S, strS 18 0 = S := ⟨_, rfl⟩
  have H2 := strength_any 18 0
  rw [hS] at H2 ⊢
  have H2 := Lib.hid H2
  clear hS
  go_enter Try.func48, Try.ntmps48
  go_wp2_with (first
    | (go_at_call 50; refine (H1.out _).mono ?_; rintro e w1 ⟨rfl, hx1⟩)
    | (go_at_call 51; refine (H2.out _).mono ?_; rintro e w2 ⟨rfl, hx2⟩))
  go_ret
  exact ⟨ret_val rfl, (hx1.alloc _).trans hx2⟩
set_option maxRecDepth 100000 in
set_option maxHeartbeats 800000 in
theorem st8_16 (w : World) : Calls Try.prog 48 #[.int .i64 16] w fun e w' => e = .returned (.int .i64 (strS 17 256)) ∧ Ext w w' := by
  have H1 := one_16
  unfold sui16 at H1
  have H1 := Lib.hid H1
  obtain ⟨S, hS⟩ : ∃ S, strS 17 256 = S := ⟨_, rfl⟩
  have H2 := strength_any 17 256
  rw [hS] at H2 ⊢
  have H2 := Lib.hid H2
  clear hS
  go_enter Try.func48, Try.ntmps48
  go_wp2_with (first
    | (go_at_call 50; refine (H1.out _).mono ?_; rintro e w1 ⟨rfl, hx1⟩)
    | (go_at_call 51; refine (H2.out _).mono ?_; rintro e w2 ⟨rfl, hx2⟩))
  go_ret
  exact ⟨ret_val rfl, (hx1.alloc _).trans hx2⟩
set_option maxRecDepth 100000 in
set_option maxHeartbeats 800000 in
theorem strength8_any (c : Int) (w : World) : Calls Try.prog 48 #[.int .i64 c] w fun e w' => e = .returned (.int .i64 (str8S c)) ∧ Ext w w' := by
  unfold str8S
  by_cases hc : c < 1 ∨ 16 < c
  · rw [if_pos hc]
    have H1 := one_no c hc
    unfold zero12 at H1
    have H1 := Lib.hid H1
    clear hc
    go_enter Try.func48, Try.ntmps48
    go_wp2_with (go_at_call 50; refine (H1.out _).mono ?_; rintro e w1 ⟨rfl, hx1⟩)
    go_ret
    exact ⟨ret_val rfl, hx1.alloc _⟩
  · rw [if_neg hc]
    by_cases h1 : c = 1
    · subst h1; exact st8_1 w
    by_cases h2 : c = 2
    · subst h2; exact st8_2 w
    by_cases h3 : c = 3
    · subst h3; exact st8_3 w
    by_cases h4 : c = 4
    · subst h4; exact st8_4 w
    by_cases h5 : c = 5
    · subst h5; exact st8_5 w
    by_cases h6 : c = 6
    · subst h6; exact st8_6 w
    by_cases h7 : c = 7
    · subst h7; exact st8_7 w
    by_cases h8 : c = 8
    · subst h8; exact st8_8 w
    by_cases h9 : c = 9
    · subst h9; exact st8_9 w
    by_cases h10 : c = 10
    · subst h10; exact st8_10 w
    by_cases h11 : c = 11
    · subst h11; exact st8_11 w
    by_cases h12 : c = 12
    · subst h12; exact st8_12 w
    by_cases h13 : c = 13
    · subst h13; exact st8_13 w
    by_cases h14 : c = 14
    · subst h14; exact st8_14 w
    by_cases h15 : c = 15
    · subst h15; exact st8_15 w
    by_cases h16 : c = 16
    · subst h16; exact st8_16 w
    exfalso; omega
end Go.Proofs.Ythjgcmifggdepaa
