/- The walks: the parts of bytes that slices.Chunk hands out. -/
import Derived.RangeFuncNested
import Derived.RangeFuncBound
import Derived.RangeFuncCalls
import Derived.RangeFuncLeaves
import Derived.RangeFuncBox
import Derived.Shelf.Abstract
import Derived.WalkKit
import Derived.OwnWalkIn
import Derived.TacticsInMore
import Derived.LoopNIn
import Derived.LoopIn
import Derived.Maps.AppendAt
import Derived.Test.YthjgcmifggdepaaH8
set_option linter.unusedSimpArgs false
set_option linter.unusedVariables false
namespace Go.Proofs.Ythjgcmifggdepaa
open Go.RowKit Go.Shelf

attribute [local go_sem] Oper.semAt_some

/-- Where the parts begin, from i on. -/
def offs (s n : Nat) (i : Nat) : List {j : Nat // j < n} := if h : i < n ∧ 0 < s then ⟨i, h.1⟩ :: offs s n (i + s) else []
termination_by n - i
decreasing_by omega
theorem offs_more {s n i : Nat} (hi : i < n) (hs : 0 < s) : offs s n i = ⟨i, hi⟩ :: offs s n (i + s) := by rw [offs, dif_pos ⟨hi, hs⟩]
theorem offs_end {s n i : Nat} (hi : ¬ i < n) : offs s n i = [] := by rw [offs, dif_neg (fun h => hi h.1)]
/-- The record of the part that begins at i. -/
def recAt (l : List UInt8) (s n i : Nat) : List UInt8 := [22, b8 (((min s (n - i) : Nat) : Int) / 256), b8 ((min s (n - i) : Nat) : Int)] ++ (l.drop i).take (min s (n - i))
theorem recs_offs {l : List UInt8} {s n : Nat} (hl : l.length = n) (hs : 0 < s) : ∀ (k i : Nat), n - i ≤ k → recs s (l.drop i) = (offs s n i).flatMap (fun j => recAt l s n j.1) := by
  intro k
  induction k with
  | zero =>
    intro i hi
    rw [offs_end (by omega), List.drop_of_length_le (by omega), recs_nil]
    rfl
  | succ k ih =>
    intro i hi
    by_cases h : i < n
    · rw [offs_more h hs, recs_more hl hs h, ih (i + s) (by omega), List.flatMap_cons]
      rfl
    · rw [offs_end h, List.drop_of_length_le (by omega), recs_nil]
      rfl

set_option maxRecDepth 100000 in
set_option maxHeartbeats 1000000 in
/-- slices.Chunk: both arguments are boxed; the function value captures the boxes. -/
theorem chunk_in (F : Fence) (n : Nat) (h40 : F.fn 40) (hro : F.round = none) (A : Option Addr) (len cap s : Nat) (hs : 0 < s) (w : World) :
    CallsIn F n Try.prog 40 #[.slice A len cap, .int .i64 (s : Nat)] w fun e w' => e = .returned (.func (.func 47) #[] #[.pointer (some ⟨w.heap.size, 0, none⟩), .pointer (some ⟨w.heap.size + 1, 0, none⟩)]) ∧ w' = (w.alloc (.cells #[.slice A len cap] 33)).alloc (.cells #[.int .i64 (s : Nat)] 3) := by
  have s1 : ¬ (s : Int) < 1 := by omega
  refine callsIn_of_wp Try.func40 rfl h40 ?_ hro
  simp only [Try.ntmps40, List.size_toArray, List.length_cons, List.length_nil, Nat.reduceAdd, Nat.reduceSub, Array.replicate_succ, Array.replicate_zero, List.push_toArray, List.append_toArray, List.nil_append, List.cons_append]
  gi_wp2
  all_goals try (exfalso; omega)
  go_ret
  exact ⟨rfl, rfl⟩

/-- The two boxes of the closure lie as they lay. -/
def KB (Bs Bn : Nat) (vs vn : Value) (W W' : World) : Prop := (Boxed W Bs 33 vs → Boxed W' Bs 33 vs) ∧ (Boxed W Bn 3 vn → Boxed W' Bn 3 vn)
theorem KB.t {Bs Bn : Nat} {vs vn : Value} {A B C : World} (h : KB Bs Bn vs vn A B) (k : KB Bs Bn vs vn B C) : KB Bs Bn vs vn A C := ⟨fun x => k.1 (h.1 x), fun x => k.2 (h.2 x)⟩
theorem KB.b {Bs Bn : Nat} {vs vn : Value} (W : World) (l : Nat) (o o' : Obj) (h : W.heap[l]? = some o) (hc : o.isCells = false) : KB Bs Bn vs vn W (W.putObj l o') := by
  have hne : ∀ b t v, Boxed W b t v → b ≠ l := fun b t v hb e => by
    subst e
    rw [show W.heap[b]? = _ from hb] at h
    cases h
    cases hc
  exact ⟨fun x => x.kept (grownBy_putObj' W l o') (fun e => hne _ _ _ x (by simpa using e)), fun x => x.kept (grownBy_putObj' W l o') (fun e => hne _ _ _ x (by simpa using e))⟩

set_option maxRecDepth 100000 in
set_option maxHeartbeats 2000000 in
/-- The closure of slices.Chunk: for every loop body that keeps what lay below n₀. -/
theorem chunk1_in (F : Fence) (n : Nat) (h47 : F.fn 47) (hro : F.round = none) (hn : 1 ≤ n) (l Bs Bn : Nat) (A : Option Addr) (ad : Addr) (len cap s : Nat) (hs : 0 < s) (hs9 : s ≤ 65535) (hlen : len ≤ 4096) (hlc : len ≤ cap) (hcap : cap ≤ 9223372036854775807) (hA : 0 < len → A = some ad) (J Jx : List {j : Nat // j < len} → World → Prop) (hJd : ∀ pre W, J pre W → J pre W.drew)
    (hY : ∀ pre x W, J pre W → pre.length < len → YieldAt F (n - 1) Try.prog l #[.slice (some (ad.add x.1)) (min s (len - x.1)) (min s (len - x.1))] W fun e W' =>
      (e = .returned (.bool true) ∧ J (pre ++ [x]) W' ∧ KB Bs Bn (.slice A len cap) (.int .i64 (s : Nat)) W W') ∨ (e = .returned (.bool false) ∧ Jx (pre ++ [x]) W'))
    (W : World) (hBs : Boxed W Bs 33 (.slice A len cap)) (hBn : Boxed W Bn 3 (.int .i64 (s : Nat))) (h0 : J [] W) :
    CallsIn F n Try.prog 47 #[.func (.yield l) #[] #[], .pointer (some ⟨Bs, 0, none⟩), .pointer (some ⟨Bn, 0, none⟩)] W fun e W' => (∃ v, e = .returned v) ∧
      ((∃ ys, ys = offs s len 0 ∧ J ys W') ∨ (∃ pre, True ∧ Jx pre W')) := by
  refine callsIn_of_wp Try.func47 rfl h47 ?_ hro
  simp only [Try.ntmps47, List.size_toArray, List.length_cons, List.length_nil, Nat.reduceAdd, Nat.reduceSub, Array.replicate_succ, Array.replicate_zero, List.push_toArray, List.append_toArray, List.nil_append, List.cons_append]
  gi_wp2
  gi_loopw [4] (fun p wr => ∃ (i : Nat) (pre : List {j : Nat // j < len}), p = .int .i64 (i : Nat) ∧ i ≤ 70000 ∧ pre.length ≤ i ∧ Hid (offs s len 0 = pre ++ offs s len i) ∧ J pre wr ∧ Boxed wr Bs 33 (.slice A len cap) ∧ Boxed wr Bn 3 (.int .i64 (s : Nat)))
    (fun p _ => len - (intOf p).toNat)
  case atStart => exact ⟨0, [], rfl, by omega, by simp, by show _ = _; simp, h0, hBs, hBn⟩
  case round =>
    obtain ⟨i, pre, rfl, hi7, hpl, HO, hJs, hxs, hxn⟩ := hrel
    have hcs := hxs.cell
    have hcn := hxn.cell
    by_cases hlt : i < len
    · obtain rfl := hA (by omega)
      obtain ⟨m, hm⟩ : ∃ m, min s (len - i) = m := ⟨_, rfl⟩
      have nci : ¬ cap = i := by omega
      have hm1 : 1 ≤ m := by omega
      have hm3 : i + m ≤ len := by omega
      have hmi : (if len - i < s then ((len - i : Nat) : Int) else (s : Int)) = (m : Int) := by split <;> omega
      have hm' := hm
      have hil : i ≤ len := by omega
      have hmk : ((i : Int) + (m : Int)).toNat - i = m := by omega
      have hJd' : J pre wr.drew := hJd _ _ hJs
      gi_wp2
      generalize hG : Exit.then _ (Exit.inBlock 1 (Exit.then _ _)) = G
      have KEY : ∀ wd, J pre wd → Boxed wd Bs 33 (.slice (some ad) len cap) → Boxed wd Bn 3 (.int .i64 (s : Nat)) → G .normal { tmps := #[Value.func (Fn.yield l) #[] #[], Value.pointer (some { block := Bs, off := 0 }), Value.pointer (some { block := Bn, off := 0 }), undef, Value.int IntKind.i64 (i : Nat), Value.int IntKind.i64 (m : Nat), Value.int IntKind.i64 (i : Nat), Value.slice (some ad) len cap, Value.int IntKind.i64 (len : Nat), Value.bool true, u10, u11, u12, Value.int IntKind.i64 (s : Nat), Value.slice (some ad) len cap, Value.int IntKind.i64 (i : Nat), Value.slice (some (ad.add i)) (len - i) (cap - i), Value.int IntKind.i64 ((len - i : Nat) : Int), Value.int IntKind.i64 (m : Nat), u19, u20, u21, u22, u23, u24, u25, u26, u27, u28, u29, u30], defers := [] } wd := by
        intro wd hJs hxs hxn
        have hcs := hxs.cell
        have hcn := hxn.cell
        obtain ⟨fn, tmps, assign, body, hy, hR⟩ := hY pre ⟨i, hlt⟩ wd hJs (by omega)
        dsimp only at hy
        rw [hm'] at hy
        rw [← hG]
        clear hmi hm hG
        gi_wp2
        refine hR.mono ?_
        rintro e W3 (⟨rfl, hJ3, hk3⟩ | ⟨rfl, hJx3⟩)
        · have hcn3 := (hk3.2 hxn).cell
          gi_wp2
          go_roundw
          case rel => exact ⟨i + s, pre ++ [⟨i, hlt⟩], by simp, by omega, by simp; omega, by show _ = _; rw [HO.out, offs_more hlt hs]; simp, hJ3, hk3.1 hxs, hk3.2 hxn⟩
          case measure => simp [intOf]; omega
        · gi_wp2
          refine bodyPost_ret (results_none rfl _ _ _) rfl ?_
          exact ⟨⟨_, rfl⟩, .inr ⟨pre ++ [⟨i, hlt⟩], trivial, hJx3⟩⟩
      gi_region
      all_goals exact KEY _ hJd' hxs hxn
    · have HE : Hid (offs s len 0 = pre) := by show _ = _; rw [HO.out, offs_end hlt, List.append_nil]
      gi_wp2
      go_end0
      exact ⟨⟨_, rfl⟩, .inl ⟨_, HE.out.symm, hJs⟩⟩
end Go.Proofs.Ythjgcmifggdepaa
