import Derived.Test.YtfkgbfhpibiheaaEE
import Derived.ChangeArms
import Derived.ChangeSlices
import Derived.WideShapes
import Derived.OpenShut
import Derived.DataReads
set_option linter.unusedVariables false
set_option linter.unusedSimpArgs false
namespace Go.Proofs.Ytfkgbfhpibiheaa
open Go.RowKit Go.ChangeShapes Go.WideShapes
section
variable {P : Program}
def Sb (P : Program) (k : Nat) (t : TypeId) {α : Type} (f : α -> List C) : Prop :=
 ∀ (H : Type) (enc : TypeId × Value -> H) (w : World) (fuel : Nat) (cs : List Value) (x : DataW H × List MemPlace), fuel <= k -> DataW.trod enc P w 0 (fun _ => true) true fuel t cs = some x -> ∃ a : α, E0 w (lt w.heap.size) (f a) cs
def vP (P : Program) (t : TypeId) {α : Type} (f : α -> List C) : Prop := ∀ k, Sb P k t f
variable {α : Type} {f : α -> List C} {t e : TypeId} {k sz : Nat}
theorem Sb.le {j : Nat} (h : Sb P k t f) (hj : j <= k) : Sb P j t f := fun H enc w fuel cs x hf => h H enc w fuel cs x (by omega)
theorem Sb.zero : Sb P 0 t f := fun H enc w fuel cs x hf h => by
 obtain rfl : fuel = 0 := by omega
 simp [DataW.trod] at h
theorem E0.one {w : World} {S : Nat -> Prop} {c : C} {u : Value} (h : D0 w S c u) : E0 w S [c] [u] := ⟨rfl, fun j c' u' h1 h2 => by
 cases j with
 | zero => simp at h1 h2; subst h1 h2; exact h
 | succ j => simp at h1⟩
theorem E0.one_ {w : World} {S : Nat -> Prop} {c : C} {u : Value} (h : E0 w S [c] [u]) : D0 w S c u := h.2 0 c u rfl rfl
theorem Vj {k : IntKind} {n : Int} (h : (Lit.int k n).wf = true) : k.min <= n /\ n <= k.max := by
 simpa [Lit.wf] using h
theorem Sb.int {k : IntKind} (ht : P.underlying t = some (.int k)) {n : Nat} : Sb P n t (eK k) := fun H enc w fuel cs x hf h => by
 obtain ⟨m, rfl, -, hw⟩ := DataW.trod_int ht h
 exact ⟨m, E0.one (by unfold D0; exact ⟨rfl, Vj hw⟩)⟩
theorem Sb.i64 (ht : P.underlying t = some (.int .i64)) {n : Nat} : Sb P n t eI := Sb.int ht
theorem Sb.u8 (ht : P.underlying t = some (.int .u8)) {n : Nat} : Sb P n t e8 := fun H enc w fuel cs x hf h => by
 obtain ⟨m, rfl, -, hw⟩ := DataW.trod_int ht h
 have hr := Vj hw
 have h1 : IntKind.u8.min = 0 := rfl
 have h2 : IntKind.u8.max = 255 := rfl
 rw [h1, h2] at hr
 have e2 : ((UInt8.ofNat m.toNat).toNat : Int) = m := by rw [UInt8.toNat_ofNat', aAe (by omega)]; omega
 exact ⟨UInt8.ofNat m.toNat, E0.one (by unfold D0; rw [e2]; exact ⟨rfl, Vj hw⟩)⟩
theorem Sb.bool (ht : P.underlying t = some .bool) {n : Nat} : Sb P n t eB := fun H enc w fuel cs x hf h => by
 obtain ⟨b, rfl, -⟩ := DataW.trod_bool ht h
 exact ⟨b, E0.one (by unfold D0; rfl)⟩
theorem Sb.str (ht : P.underlying t = some .string) {n : Nat} : Sb P n t eS := fun H enc w fuel cs x hf h => by
 obtain ⟨s, rfl, -, hs⟩ := DataW.trod_string ht h
 exact ⟨s, E0.one (by unfold D0; exact ⟨rfl, hs⟩)⟩
theorem gL {α : Type} (n : Nat) (Q : Nat -> α -> Prop) (h : ∀ i, i < n -> ∃ d, Q i d) : ∃ es : List α, es.length = n /\ ∀ i d, es[i]? = some d -> Q i d := by
 induction n with
 | zero => exact ⟨[], rfl, fun i d h => by simp at h⟩
 | succ n ih =>
  obtain ⟨es, h1, h2⟩ := ih fun i hi => h i (by omega)
  obtain ⟨d, hd⟩ := h n (by omega)
  refine ⟨es ++ [d], by simp [h1], fun i d' hi => ?_⟩
  rw [List.getElem?_append] at hi
  split at hi
  ·exact h2 i d' hi
  ·rename_i hn
   have : i - es.length = 0 := by
    rcases yR (i - es.length) with h0 | h0
    ·exact h0
    ·rw [zW (by simp; omega)] at hi; cases hi
   rw [this] at hi
   simp at hi
   subst hi
   have e : i = n := by omega
   rw [e]; exact hd
theorem iG {sz : Nat} (hf : ∀ x, (f x).length = sz) {l : List α} {j : Nat} {x : α} (hx : l[j]? = some x) {r : Nat} (hr : r < sz) : (As f l)[j * sz + r]? = (f x)[r]? := by
 have hj := (xM.1 hx).1
 rw [Mh hx, yE (by rw [J9 hf (by omega)]; omega), J9 hf (by omega), yD (by rw [hf]; omega)]
 congr 1; omega
theorem Sb.slice (ht : P.underlying t = some (.slice e)) (hc : P.cellsOf e = sz) (hz : 0 < sz) (hf : ∀ x, (f x).length = sz) (h : Sb P k e f) : Sb P (k + 1) t (eL sz f) := fun H enc w fuel cs x hk hx => by
 rcases DataW.trod_slice ht hx with ⟨rfl, -⟩ | ⟨a, len, cap, elems, rest, n', rfl, rfl, -, -, hlc, hcm, hel, hat, -⟩
 ·exact ⟨[], E0.one (D0.mk_slice (cs := As f []) (by simp [As]) (xX _) (yL _) (fun h => by omega))⟩
 ·rw [hc] at hat
  obtain ⟨es, hes, hP⟩ := gL len (fun i d => ∃ cs', E0 w (lt w.heap.size) (f d) cs' /\ ∀ r, r < sz -> w.cell? ((a.add (i * sz)).add r) = cs'[r]?) (fun i hi => by
   obtain ⟨y, hy⟩ : ∃ y, elems[i]? = some y := ⟨_, xK (by omega)⟩
   have h1 := (hat i hi).trans hy
   obtain ⟨cs', h2, h3⟩ := Option.bind_eq_some_iff.1 h1
   obtain ⟨d, hd⟩ := h H enc w n' cs' y (by omega) h3
   obtain ⟨-, -, h5⟩ := World.cells?_some h2
   exact ⟨d, cs', hd, fun r hr => h5 r hr⟩)
  have hcell : ∀ i d, es[i]? = some d -> ∀ r, r < sz -> ∃ c u, (f d)[r]? = some c /\ w.cell? (a.add (i * sz + r)) = some u /\ D0 w (lt w.heap.size) c u := by
   intro i d hd r hr
   obtain ⟨cs', h4, h5⟩ := hP i d hd
   have hl : cs'.length = sz := by rw [<- h4.1, hf]
   obtain ⟨c, hc'⟩ : ∃ c, (f d)[r]? = some c := ⟨_, xK (by rw [hf]; omega)⟩
   obtain ⟨u, hu⟩ : ∃ u, cs'[r]? = some u := ⟨_, xK (by omega)⟩
   have h6 := h5 r hr
   rw [No, hu] at h6
   exact ⟨c, u, hc', h6, h4.2 r c u hc' hu⟩
  refine ⟨es, E0.one (D0.mk_slice (cs := As f es) (by rw [D5 hf, hes]) hlc hcm fun hn => ⟨a, rfl, ?_, fun j c hj => ?_⟩)⟩
  ·obtain ⟨d, hd⟩ : ∃ d, es[0]? = some d := ⟨_, xK (by omega)⟩
   obtain ⟨c, u, -, h5, -⟩ := hcell 0 d hd 0 hz
   have h1 : (a.add (0 * sz + 0)).block < w.heap.size := by
    rcases yY (a.add (0 * sz + 0)).block w.heap.size with h1 | h1
    ·exact h1
    ·rw [World.cell?, Array.getElem?_eq_none h1] at h5
     simp at h5
   rwa [Ja] at h1
  ·have hjl := (xM.1 hj).1
   rw [D5 hf] at hjl
   have hq : j / sz < es.length := by rw [aCd hz]; exact hjl
   have hm := Nat.mod_lt j hz
   have he : j / sz * sz + j % sz = j := by rw [aA0]; exact Nat.div_add_mod j sz
   obtain ⟨d, hd⟩ : ∃ d, es[j / sz]? = some d := ⟨_, xK hq⟩
   obtain ⟨c', u, h1, h2, h3⟩ := hcell (j / sz) d hd (j % sz) hm
   have h4 := iG hf hd hm
   rw [he, hj, h1] at h4
   injection h4 with h4
   subst h4
   rw [he] at h2
   exact ⟨u, h2, h3⟩
theorem E0.cut {w : World} {S : Nat -> Prop} {c1 c2 : List C} {cs : List Value} {o q o' : Nat} (h1 : E0 w S c1 ((cs.drop o).take q)) (h2 : E0 w S c2 (cs.drop o')) (ho : o' = o + q) : E0 w S (c1 ++ c2) (cs.drop o) := by
 subst ho
 have e : cs.drop o = (cs.drop o).take q ++ cs.drop (o + q) := by rw [<- aBx, aA8]
 rw [e]
 exact h1.append h2
theorem Sb.field {H : Type} {enc : TypeId × Value -> H} {w : World} {n o q : Nat} {cs : List Value} {fs : Array Field} {xs : List (DataW H × List MemPlace)} (hx : xs.length = fs.size)
  (hfield : ∀ (i : Nat) (f : Field), fs[i]? = some f -> DataW.trod enc P w 0 (fun _ => true) true n f.type ((cs.drop f.offset).take (P.cellsOf f.type)) = xs[i]?) (i : Nat) {g : Field} (hi : fs[i]? = some g) (ht : g.type = t) (ho : g.offset = o) (hq : P.cellsOf t = q)
  (h : Sb P k t f) (hk : n <= k) : ∃ a : α, E0 w (lt w.heap.size) (f a) ((cs.drop o).take q) := by
 have h1 := hfield i g hi
 have hl : i < xs.length := by
  rw [hx]
  exact (yH.1 hi).1
 rw [xK hl, ht, ho, hq] at h1
 exact h H enc w n _ _ hk h1
def oY : C -> DV
 | .int k n => .val (.int k n)
 | .bool b => .val (.bool b)
 | .str s => .val (.string s)
 | .raw u => .val u
 | .sl sz cs => .sl sz cs
 | .mp l => .mp l
def kF : C -> Bool
 | .raw _ => false
 | .mp _ => false
 | _ => true
theorem D0.dv {w : World} {S : Nat -> Prop} {ρ : Nat -> Value} {c : C} {v : Value} (hc : kF c = true) (h : D0 w S c v) : Ce ρ S w (oY c) v := by
 cases c with
 | int k n => unfold D0 at h; unfold oY Ce; exact ⟨h.1, by simp [Eo, h.2.1, h.2.2]⟩
 | bool b => unfold D0 at h; unfold oY Ce; exact ⟨h, rfl⟩
 | str s => unfold D0 at h; unfold oY Ce; exact ⟨h.1, by simp [Eo, h.2]⟩
 | raw u => cases hc
 | sl sz cs => unfold oY Ce; exact h
 | mp l => cases hc
theorem E0.dv {w : World} {S : Nat -> Prop} {ρ : Nat -> Value} : ∀ {cs : List C} {us : List Value}, (∀ c ∈ cs, kF c = true) -> E0 w S cs us -> B2 ρ S w (cs.map oY) us
 | [], [], _, _ => by unfold List.map B2; rfl
 | [], u :: us, _, h => by have := h.1; simp at this
 | c :: cs, [], _, h => by have := h.1; simp at this
 | c :: cs, u :: us, hc, h => by
  unfold List.map B2
  exact ⟨u, us, rfl, (h.2 0 c u rfl rfl).dv (hc c (by simp)), E0.dv (fun c' hm => hc c' (by simp [hm])) ⟨by simpa using h.1, fun j c' u' x y => h.2 (j + 1) c' u' (by simpa using x) (by simpa using y)⟩⟩
theorem cX {H : Type} {enc : TypeId × Value -> H} {w : World} {v : Value} {d : DataW H} {p : List MemPlace} {c : α -> C} (ho : vP P t (fun a => [c a])) (hc : ∀ a, kF (c a) = true) (hv : v.cells.toList = [v]) (h : DataW.Trod enc P w 0 (fun _ => true) true t v d p) : ∃ a : α, ∀ ρ, Ce ρ (lt w.heap.size) w (oY (c a)) v := by
 obtain ⟨fuel, hf⟩ := h
 rw [hv] at hf
 obtain ⟨a, ha⟩ := ho fuel H enc w fuel _ _ (xX _) hf
 exact ⟨a, fun ρ => ha.one_.dv (hc a)⟩
theorem fS {ρ : Nat -> Value} {I : Nat -> Prop} {w : World} : B2 ρ I w [] [] := by unfold B2; rfl
theorem U2 {ρ : Nat -> Value} {I : Nat -> Prop} {w : World} {d : DV} {ds : List DV} {v : Value} {vs : List Value} (h : Ce ρ I w d v) (h' : B2 ρ I w ds vs) : B2 ρ I w (d :: ds) (v :: vs) := by unfold B2; exact ⟨v, vs, rfl, h, h'⟩
end
end Go.Proofs.Ytfkgbfhpibiheaa
