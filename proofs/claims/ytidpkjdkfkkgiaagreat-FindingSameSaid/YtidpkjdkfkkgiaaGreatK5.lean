import Derived.Test.YtidpkjdkfkkgiaaGreatK4
import Derived.Test.YtidpkjdkfkkgiaaGreatD7
set_option linter.unusedVariables false
set_option linter.unusedSimpArgs false
namespace Go.Proofs.YtidpkjdkfkkgiaaGreat
open Go
def Rj (s : ByteArray) : Ah := .mk 12 (Im s) false []
def iY (b : Bool) : Ah := .mk 1 [bif b then 255 else 0] false []
def Z2 (l : List Ah) : Ah := .mk 48 [] true l
def lV (u : As) : Ah := Z2 [Rf u.Alg, Rf u.Bits]
def eM (c : Af) : List Ah := [Rf c.Serial, Rj c.Issuer, Rj c.Subject, lV c.Key, Rf c.KeyId, lV c.Hash, Rf c.From, Rf c.To, iY c.Authority, Rf c.Path, Z2 (c.Names.map Rj)]
def eF (c : Af) : Ah := Z2 (eM c)
theorem P5 {s : ByteArray} (h : Et s = true) : s.size <= 32 := by
 unfold Et at h
 simp only [Bool.and_eq_true, decide_eq_true_eq] at h
 omega
theorem dH {l : List ByteArray} (h : Kp l = true) : ∀ s ∈ l, s.size <= 32 := by
 intro s hs
 obtain ⟨i, hi, e⟩ := List.getElem_of_mem hs
 unfold Kp at h
 have h1 : (List.range l.length).any (cG l) = false := by simpa using h
 rw [List.any_eq_false] at h1
 have h2 := h1 i (List.mem_range.2 hi)
 unfold cG at h2
 rw [Ql (List.getElem?_eq_getElem hi), e] at h2
 refine P5 ?_
 cases hn : Et s with
 | true => rfl
 | false => rw [hn] at h2; simp at h2
theorem Wh {c : Af} (h : Gx c = true) : c.Issuer.size <= 32 /\ c.Subject.size <= 32 /\ c.Names.length <= 8 /\ ∀ s ∈ c.Names, s.size <= 32 := by
 unfold Gx Uv at h
 simp only [List.any_cons, List.any_nil, id, Bool.not_eq_true', Bool.or_eq_false_iff] at h
 obtain ⟨-, -, h3, h4, h5, h6, -⟩ := h
 refine ⟨P5 (by simpa using h3), P5 (by simpa using h4), ?_, dH (by simpa using h5)⟩
 have := of_decide_eq_false h6
 omega
theorem jI (s : ByteArray) : (Rj s).sz = s.size + 1 := by
 unfold Rj
 rw [Qs]
 show (Im s).length + Tx [] + 1 = _
 rw [Tz, Tx]
theorem X7 : ∀ l : List ByteArray, (∀ s ∈ l, s.size <= 32) -> Tx (l.map Rj) <= 33 * l.length
 | [], _ => Nat.le_refl _
 | s :: l, h => by
  have h1 := X7 l fun x hx => h x (List.mem_cons_of_mem _ hx)
  have h2 := h s (List.mem_cons_self ..)
  rw [List.map_cons, Tx, jI, List.length_cons]; omega
theorem gP (u : As) : (lV u).sz <= 19 := by
 unfold lV Z2
 have h1 := Qa u.Alg
 have h2 := Qa u.Bits
 rw [Qs]
 show 0 + Tx [Rf u.Alg, Rf u.Bits] + 1 <= 19
 simp only [Tx]; omega
theorem cZ (l : List Ah) : (Z2 l).sz = Tx l + 1 := by
 unfold Z2
 rw [Qs]
 show 0 + Tx l + 1 = _
 omega
theorem jD {c : Af} (h : Gx c = true) : Tx (eM c) <= 1000 := by
 obtain ⟨h1, h2, h3, h4⟩ := Wh h
 have t := X7 c.Names h4
 have a1 := Qa c.Serial
 have a2 := gP c.Key
 have a3 := Qa c.KeyId
 have a4 := gP c.Hash
 have a5 := Qa c.From
 have a6 := Qa c.To
 have a7 := Qa c.Path
 have a8 : (iY c.Authority).sz = 2 := by unfold iY; rw [Qs]; simp [Tx]
 unfold eM
 simp only [Tx, jI, cZ, a8]
 omega
theorem jH (u : As) (h1 : -9223372036854775808 <= u.Alg /\ u.Alg <= 9223372036854775807) (h2 : -9223372036854775808 <= u.Bits /\ u.Bits <= 9223372036854775807) : Ki u = some (lV u) := by
 have := gP u
 unfold lV at this
 rw [cZ] at this
 unfold Ki
 rw [Ld _ h1.1 h1.2, Option.bind_some, Ld _ h2.1 h2.2, Option.bind_some, Ti _ (by omega)]; rfl
theorem gC (b : Bool) : Mn b = some (iY b) := by cases b <;> rfl
theorem pK (c : Af) (hf : Qd c) (h : Gx c = true) : Er c = some (eF c) := by
 obtain ⟨h1, h2, h3, h4⟩ := Wh h
 have t := X7 c.Names h4
 have hb := jD h
 have hi := hf.ints
 simp only [List.mem_cons, List.not_mem_nil, or_false, forall_eq_or_imp, forall_eq] at hi
 obtain ⟨i1, i2, i3, i4, i5, i6, i7, i8, i9, -⟩ := hi
 unfold Er
 refine O9 (body := fun q' => Er.l1 c q'.1 q'.2) c.Names.length (fun i => ((i : Int), (c.Names.take i).map Rj)) (eF c) ?_ ?_
 ·intro i hi
  obtain ⟨s, hx⟩ : ∃ s, c.Names[i]? = some s := ⟨_, List.getElem?_eq_getElem hi⟩
  show Er.l1 c (i : Int) ((c.Names.take i).map Rj) = _
  unfold Er.l1
  rw [H8 hx, show Iy s = some (Rj s) from rfl, Option.bind_some, Hm (by simp; omega), Option.bind_some, Gq (by omega), F6 hx, List.map_append]
  rfl
 ·show Er.l1 c (c.Names.length : Int) ((c.Names.take c.Names.length).map Rj) = _
  unfold Er.l1
  have hT : ∀ s, Iy s = some (Rj s) := fun _ => rfl
  rw [Ge, List.take_length, Ld _ i1.1 i1.2, Ld _ i4.1 i4.2, Ld _ i7.1 i7.2, Ld _ i8.1 i8.2, Ld _ i9.1 i9.2, jH _ i2 i3, jH _ i5 i6]
  simp only [hT, gC, Option.bind_some]
  rw [Ti _ (by omega)]
  simp only [Option.bind_some]
  show up ((Ie (eM c)).bind fun y => some y) = _
  rw [Ti _ (show Tx (eM c) < 1073741824 by omega)]
  rfl
def Nx (c : Af) : List UInt8 × Int := bif Gx c then nM (eF c) else ([], 9)
theorem pG {c : Af} (h : Gx c = true) : (eF c).sz < 67108864 := by
 have := jD h
 unfold eF
 rw [cZ]; omega
theorem kZ (c : Af) (hf : Qd c) : I8 c = some (Nx c) := by
 unfold I8 Nx
 rw [aN c hf, Option.bind_some]
 cases h : Gx c with
 | false => rfl
 | true =>
  show (Er c).bind _ = _
  rw [pK c hf h, Option.bind_some, cS _ (pG h)]; rfl
end Go.Proofs.YtidpkjdkfkkgiaaGreat
