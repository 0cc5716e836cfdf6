import Derived.Test.YtopkgllcjbpdeaaDoorOP
import Derived.Test.YtopkgllcjbpdeaaDoorRows
import Derived.LaidMore
import Derived.Stop.Joined
set_option linter.unusedVariables false
set_option linter.unusedSimpArgs false
namespace Go.Proofs.YtopkgllcjbpdeaaDoor
open Go.RowKit Go.ChangeShapes Go.WideShapes
theorem sH : Tryd.prog.globalNamed "math/bits.deBruijn32tab" = some 0 := by kernel_rfl
theorem sF : (Tryd.prog.globals[0]?).map (·.type) = some 101 := by kernel_rfl
theorem rN : Tryd.prog.cellsOf 5 = 1 := by kernel_rfl
def eH : List Int := [0, 1, 28, 2, 29, 14, 24, 3, 30, 22, 20, 15, 25, 17, 4, 8, 31, 27, 13, 23, 21, 19, 16, 7, 26, 12, 18, 6, 11, 5, 10, 9]
def Jq : List (String × DataW Unit) := [("math/bits.deBruijn32tab", Rows.laid_math_bits_deBruijn32tab)]
theorem aN {w : World} {S : Nat -> Prop} {ad : Addr} : ∀ (cs : List C) (i : Nat), (∀ j c, cs[j]? = some c -> ∃ u, w.cell? (ad.add (i + j)) = some u /\ Dd w S c u) -> Fm w S ad i cs
 | [], i, _ => by unfold Fm; trivial
 | c :: cs, i, h => by
  unfold Fm
  exact ⟨h 0 c rfl, aN cs (i + 1) fun j c' hj => by
   have := h (j + 1) c' (by simpa using hj)
   rwa [show i + (j + 1) = i + 1 + j by omega] at this⟩
theorem P4 {W : World} (h : laidMetH Tryd.prog Jq W) : Td (lt W.heap.size) W := fun p hp => by
 have hp : p = (0, eH.map fun n => C.int .u8 n) := List.mem_singleton.1 hp
 subst hp
 rw [MakeChecks.laidMetH_plain _ _ _ (by kernel_rfl)] at h
 obtain ⟨ps, ⟨g0, t0, cs0, f0, p0, q0, hg0, ht0, hv0, hd0, -, -⟩, -, -⟩ := h
 obtain rfl := oi_ (sH.symm.trans hg0)
 obtain rfl := oi_ (sF.symm.trans ht0)
 obtain ⟨xs, m1, rfl, hx1, hlen, hn, hel⟩ := DataW.trod_array Tryd.underlying101 hd0
 have hx1 := (Prod.mk.injEq _ _ _ _).mp hx1
 have hx1 : (DataW.agg (eH.map fun n => DataW.lit (.int .u8 n)) : DataW Unit) = .agg (xs.map (·.1)) := hx1.1
 injection hx1 with hx1
 have cell : ∀ (j : Nat) (n : Int), eH[j]? = some n -> W.cell? ⟨0, j, none⟩ = some (.int .u8 n) /\ IntKind.u8.min <= n /\ n <= IntKind.u8.max := fun j n hj => by
  have hj32 : j < 32 := (List.getElem?_eq_some_iff.1 hj).1
  obtain ⟨y, hy⟩ : ∃ y, xs[j]? = some y := ⟨_, List.getElem?_eq_getElem (by omega)⟩
  have h1 := hel j hj32
  rw [hy, rN, Nat.mul_one] at h1
  obtain ⟨k, e1, e2, e3⟩ := DataW.trod_int Tryd.underlying5 h1
  have hk : k = n := by
   have h2 : (eH.map fun n => (DataW.lit (.int .u8 n) : DataW Unit))[j]? = (xs.map (·.1))[j]? := by rw [hx1]
   rw [List.getElem?_map, List.getElem?_map, hj, hy] at h2
   have h3 : (DataW.lit (.int .u8 n) : DataW Unit) = y.1 := oi_ h2
   rw [e2] at h3
   have h3 : (DataW.lit (.int .u8 n) : DataW Unit) = .lit (.int .u8 k) := h3
   simp only [DataW.lit.injEq, Lit.int.injEq, true_and] at h3
   exact h3.symm
  subst hk
  refine ⟨?_, P3 e3⟩
  have := World.var?_cell hg0 hv0 j
  rw [this]
  have e4 : cs0.toList[j]? = some (.int .u8 k) := by
   have := congrArg (fun l => l[0]?) e1
   simpa [List.getElem?_take, List.getElem?_drop] using this
  rw [<- Array.getElem?_toList]
  exact e4
 have hb : lt W.heap.size 0 := by
  have := (cell 0 0 rfl).1
  rcases Nat.lt_or_ge 0 W.heap.size with h1 | h1
  ·exact h1
  ·rw [World.cell?, Array.getElem?_eq_none h1] at this
   simp at this
 unfold Bw
 refine ⟨⟨0, 0, none⟩, rfl, hb, aN _ 0 fun j c hj => ?_⟩
 rw [List.getElem?_map] at hj
 cases hn' : eH[j]? with
 | none => rw [hn'] at hj; cases hj
 | some n =>
  rw [hn'] at hj
  injection hj with hj
  subst hj
  obtain ⟨c1, c2⟩ := cell j n hn'
  refine ⟨.int .u8 n, ?_, by unfold Dd; exact ⟨rfl, c2⟩⟩
  show W.cell? (Addr.add ⟨0, 0, none⟩ (0 + j)) = _
  rw [<- c1, Nat.zero_add]
  cases j with
  | zero => rfl
  | succ j => simp [Addr.add]
theorem Nq (os : Os) (args : Array Value) : laidMetH Tryd.prog Jq ((World.doorLaid Tryd.prog 400 os).forCall (fun _ _ => 0) ⟨#[], args, []⟩).memory :=
 laidMetH_of_parts3 (fuel := 8) (laidMet_of_run' 8 (by kernel_rfl) (by kernel_rfl)) (by kernel_rfl) (by kernel_rfl)
end Go.Proofs.YtopkgllcjbpdeaaDoor
