import Derived.Test.YtkoflhimdenjaaaGreatK4
import Derived.Test.YtkoflhimdenjaaaGreatD7
set_option linter.unusedVariables false
set_option linter.unusedSimpArgs false
namespace Go.Proofs.YtkoflhimdenjaaaGreat
open Go
def Qr (s : ByteArray) : Ae := .mk 12 (Jc s) false []
def iP (b : Bool) : Ae := .mk 1 [bif b then 255 else 0] false []
def Zk (l : List Ae) : Ae := .mk 48 [] true l
def kN (u : Aw) : Ae := Zk [Qx u.Alg, Qx u.Bits]
def cP (c : Ai) : List Ae := [Qx c.Serial, Qr c.Issuer, Qr c.Subject, kN c.Key, Qx c.KeyId, kN c.Hash, Qx c.From, Qx c.To, iP c.Authority, Qx c.Path, Zk (c.Names.map Qr)]
def cS (c : Ai) : Ae := Zk (cP c)
theorem M7 {s : ByteArray} (h : F0 s = true) : s.size <= 32 := by
 unfold F0 at h
 simp only [Bool.and_eq_true, decide_eq_true_eq] at h
 omega
theorem cJ {l : List ByteArray} (h : Lt l = true) : ∀ s ∈ l, s.size <= 32 := by
 intro s hs
 obtain ⟨i, hi, e⟩ := List.getElem_of_mem hs
 unfold Lt at h
 have h1 : (List.range l.length).any (bM l) = false := by simpa using h
 rw [List.any_eq_false] at h1
 have h2 := h1 i (List.mem_range.2 hi)
 unfold bM at h2
 rw [Pr (List.getElem?_eq_getElem hi), e] at h2
 refine M7 ?_
 cases hn : F0 s with
 | true => rfl
 | false => rw [hn] at h2; simp at h2
theorem Vn {c : Ai} (h : G5 c = true) : c.Issuer.size <= 32 /\ c.Subject.size <= 32 /\ c.Names.length <= 8 /\ ∀ s ∈ c.Names, s.size <= 32 := by
 unfold G5 Th at h
 simp only [List.any_cons, List.any_nil, id, Bool.not_eq_true', Bool.or_eq_false_iff] at h
 obtain ⟨-, -, h3, h4, h5, h6, -⟩ := h
 refine ⟨M7 (by simpa using h3), M7 (by simpa using h4), ?_, cJ (by simpa using h5)⟩
 have := of_decide_eq_false h6
 omega
theorem iC (s : ByteArray) : (Qr s).sz = s.size + 1 := by
 unfold Qr
 rw [P8]
 show (Jc s).length + S8 [] + 1 = _
 rw [Te, S8]
theorem Yg : ∀ l : List ByteArray, (∀ s ∈ l, s.size <= 32) -> S8 (l.map Qr) <= 33 * l.length
 | [], _ => Nat.le_refl _
 | s :: l, h => by
  have h1 := Yg l fun x hx => h x (List.mem_cons_of_mem _ hx)
  have h2 := h s (List.mem_cons_self ..)
  rw [List.map_cons, S8, iC, List.length_cons]; omega
theorem eX (u : Aw) : (kN u).sz <= 19 := by
 unfold kN Zk
 have h1 := Pl u.Alg
 have h2 := Pl u.Bits
 rw [P8]
 show 0 + S8 [Qx u.Alg, Qx u.Bits] + 1 <= 19
 simp only [S8]; omega
theorem bR (l : List Ae) : (Zk l).sz = S8 l + 1 := by
 unfold Zk
 rw [P8]
 show 0 + S8 l + 1 = _
 omega
theorem hH {c : Ai} (h : G5 c = true) : S8 (cP c) <= 1000 := by
 obtain ⟨h1, h2, h3, h4⟩ := Vn h
 have t := Yg c.Names h4
 have a1 := Pl c.Serial
 have a2 := eX c.Key
 have a3 := Pl c.KeyId
 have a4 := eX c.Hash
 have a5 := Pl c.From
 have a6 := Pl c.To
 have a7 := Pl c.Path
 have a8 : (iP c.Authority).sz = 2 := by unfold iP; rw [P8]; simp [S8]
 unfold cP
 simp only [S8, iC, bR, a8]
 omega
theorem jB (u : Aw) (h1 : -9223372036854775808 <= u.Alg /\ u.Alg <= 9223372036854775807) (h2 : -9223372036854775808 <= u.Bits /\ u.Bits <= 9223372036854775807) : J1 u = some (kN u) := by
 have := eX u
 unfold kN at this
 rw [bR] at this
 unfold J1
 rw [Kz _ h1.1 h1.2, Option.bind_some, Kz _ h2.1 h2.2, Option.bind_some, S1 _ (by omega)]; rfl
theorem gG (b : Bool) : L6 b = some (iP b) := by cases b <;> rfl
theorem mM (c : Ai) (hf : R9 c) (h : G5 c = true) : D1 c = some (cS c) := by
 obtain ⟨h1, h2, h3, h4⟩ := Vn h
 have t := Yg c.Names h4
 have hb := hH h
 have hi := hf.ints
 simp only [List.mem_cons, List.not_mem_nil, or_false, forall_eq_or_imp, forall_eq] at hi
 obtain ⟨i1, i2, i3, i4, i5, i6, i7, i8, i9, -⟩ := hi
 unfold D1
 refine Ov (body := fun q' => D1.l1 c q'.1 q'.2) c.Names.length (fun i => ((i : Int), (c.Names.take i).map Qr)) (cS c) ?_ ?_
 ·intro i hi
  obtain ⟨s, hx⟩ : ∃ s, c.Names[i]? = some s := ⟨_, List.getElem?_eq_getElem hi⟩
  show D1.l1 c (i : Int) ((c.Names.take i).map Qr) = _
  unfold D1.l1
  rw [H7 hx, show Iq s = some (Qr s) from rfl, Option.bind_some, Im (by simp; omega), Option.bind_some, Hu (by omega), Gn hx, List.map_append]
  rfl
 ·show D1.l1 c (c.Names.length : Int) ((c.Names.take c.Names.length).map Qr) = _
  unfold D1.l1
  have hT : ∀ s, Iq s = some (Qr s) := fun _ => rfl
  rw [E9, List.take_length, Kz _ i1.1 i1.2, Kz _ i4.1 i4.2, Kz _ i7.1 i7.2, Kz _ i8.1 i8.2, Kz _ i9.1 i9.2, jB _ i2 i3, jB _ i5 i6]
  simp only [hT, gG, Option.bind_some]
  rw [S1 _ (by omega)]
  simp only [Option.bind_some]
  show up ((H4 (cP c)).bind fun y => some y) = _
  rw [S1 _ (show S8 (cP c) < 1073741824 by omega)]
  rfl
def N3 (c : Ai) : List UInt8 × Int := bif G5 c then qE (cS c) else ([], 9)
theorem pO {c : Ai} (h : G5 c = true) : (cS c).sz < 67108864 := by
 have := hH h
 unfold cS
 rw [bR]; omega
theorem kX (c : Ai) (hf : R9 c) : I1 c = some (N3 c) := by
 unfold I1 N3
 rw [Y7 c hf, Option.bind_some]
 cases h : G5 c with
 | false => rfl
 | true =>
  show (D1 c).bind _ = _
  rw [mM c hf h, Option.bind_some, bH _ (pO h)]; rfl
end Go.Proofs.YtkoflhimdenjaaaGreat
