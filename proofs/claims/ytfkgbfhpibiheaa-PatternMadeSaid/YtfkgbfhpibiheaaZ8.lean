import Derived.Test.YtfkgbfhpibiheaaZ7
import Derived.KernelRfl
set_option linter.unusedVariables false
set_option linter.unusedSimpArgs false
set_option maxRecDepth 100000
namespace Go.Proofs.Ytfkgbfhpibiheaa
open Go
def Bd (b : Fm) (n k : Nat) : Prop := k < n /\ b.take k <:+ b.take n
def lL (b : Fm) (n k : Nat) : Prop := Bd b n k /\ ∀ m, Bd b n m -> m <= k
theorem lL.uniq {b : Fm} {n k m : Nat} (h : lL b n k) (h' : lL b n m) : k = m := Nat.le_antisymm (h'.2 k h.1) (h.2 m h'.1)
def sU (b : Fm) (r : List Int) : Prop := r.length = b.length /\ ∀ n, 1 <= n -> n <= b.length -> ∃ k : Nat, r[n - 1]? = some (k : Int) /\ lL b n k
theorem sU.uniq {b : Fm} {r s : List Int} (h : sU b r) (k : sU b s) : r = s := by
 refine aB7 fun i => ?_
 rcases yY i b.length with hi | hi
 ·obtain ⟨x, h1, h2⟩ := h.2 (i + 1) (by omega) hi
  obtain ⟨y, k1, k2⟩ := k.2 (i + 1) (by omega) hi
  rw [Nat.add_sub_cancel] at h1 k1
  rw [h1, k1, h2.uniq k2]
 ·rw [zW (by rw [h.1]; exact hi), zW (by rw [k.1]; exact hi)]
section
variable {b : Fm}
theorem Bd.zero {n : Nat} (h : 0 < n) : Bd b n 0 := ⟨h, by rw [aCc]; exact List.nil_suffix⟩
theorem Bd.succ {n k : Nat} {x y : UInt8} (hx : b[n]? = some x) (hy : b[k]? = some y) : Bd b (n + 1) (k + 1) ↔ Bd b n k /\ y = x := by
 unfold Bd
 rw [E6 hx, E6 hy]
 constructor
 ·rintro ⟨h1, h2⟩
  obtain ⟨v, h3, h4⟩ := Yu h2 (by simp)
  rw [Ox] at h3
  exact ⟨⟨by omega, by rw [h3.1]; exact h4⟩, h3.2⟩
 ·rintro ⟨⟨h1, h2⟩, rfl⟩
  exact ⟨by omega, T9 h2⟩
theorem Bd.inner {n k m : Nat} (hn : n <= b.length) (h : Bd b n k) (h' : Bd b n m) (hm : m < k) : Bd b k m := by
 refine ⟨hm, List.suffix_of_suffix_length_le h'.2 h.2 ?_⟩
 rw [xY, xY]
 omega
theorem Bd.trans {n k m : Nat} (h : Bd b n k) (h' : Bd b k m) : Bd b n m := ⟨Nat.lt_trans h'.1 h.1, h'.2.trans h.2⟩
theorem Bd.at_ {n k : Nat} (hn : n <= b.length) : Bd b n k ↔ k < n /\ (b.drop (n - k)).take k = b.take k := by
 unfold Bd
 constructor
 ·rintro ⟨h1, h2⟩
  have := (Rg hn).1 h2
  rw [xY, aAu (by omega)] at this
  exact ⟨h1, this.2⟩
 ·rintro ⟨h1, h2⟩
  refine ⟨h1, (Rg hn).2 ?_⟩
  rw [xY, aAu (by omega)]
  exact ⟨by omega, h2⟩
theorem fG (hb : b.length <= 4096) : Ok (Bu b) (sU b) := by
 unfold Bu
 refine Ok.bindE (a := List.replicate b.length (0 : Int)) (by
  unfold U8
  rw [if_pos (by omega), yA]) ?_
 refine Ok.loop (fun t => ∃ i : Nat, t.1 = (i : Int) /\ 1 <= i /\ (i <= b.length \/ i = 1) /\ t.2.length = b.length /\ ∀ n, 1 <= n -> n <= i -> n <= b.length -> ∃ k : Nat, t.2[n - 1]? = some (k : Int) /\ lL b n k) (fun t => b.length - t.1.toNat) ?_ ⟨1, rfl, xX _, .inr rfl, by simp, fun n h1 h2 h3 => ?_⟩
 ·rintro ⟨x, out⟩ ⟨i, h1, h2, h3, h4, h5⟩
  simp only at h1 h4 h5 ⊢
  subst h1
  unfold Bu.l1
  refine Ok.cond (fun hlt => ?_) fun hge => ?_
  ·have hi : i < b.length := by simp at hlt; exact hlt
   obtain ⟨k0, a1, a2⟩ := h5 i h2 (xX _) (by omega)
   have hbi : b[i]? = some b[i] := xK hi
   generalize b[i] = c at hbi
   refine Ok.bindE (a := (k0 : Int)) (by
    rw [Do (by omega), show (i : Int) - 1 = ((i - 1 : Nat) : Int) by omega, Bw]
    exact a1) ?_
   refine Ok.loop (fun z => ∃ k : Nat, z = (k : Int) /\ Bd b i k /\ ∀ m, Bd b (i + 1) (m + 1) -> m <= k) (fun z => z.toNat) ?_ ⟨k0, rfl, a2.1, fun m hm => ?_⟩
   ·rintro z ⟨k, rfl, c1, c2⟩
    show Ok (Bu.l2 b (i : Int) out (k : Int)) _
    have hki := c1.1
    have hbk : b[k]? = some (b[k]'(by omega)) := xK _
    generalize (b[k]'(by omega)) = d at hbk
    have fin : (d = c \/ k = 0) -> Ok (Bu.j3 b (i : Int) out (k : Int) false) (gG (fun s' => (∃ k : Nat, s' = (k : Int) /\ Bd b i k /\ ∀ m, Bd b (i + 1) (m + 1) -> m <= k) /\ s'.toNat < (k : Int).toNat) (gG (fun s' => (∃ i : Nat, s'.1 = (i : Int) /\ 1 <= i /\ (i <= b.length \/ i = 1) /\ s'.2.length = b.length /\ ∀ n, 1 <= n -> n <= i -> n <= b.length -> ∃ k : Nat, s'.2[n - 1]? = some (k : Int) /\ lL b n k) /\ b.length - s'.1.toNat < b.length - (i : Int).toNat) (sU b))) := fun hdc => by
     unfold Bu.j3
     rw [xP]
     refine Ok.up ?_
     refine Ok.bindE (by rw [Bw]; exact hbk) ?_
     refine Ok.bindE (by rw [Bw]; exact hbi) ?_
     have done : ∀ v : Nat, lL b (i + 1) v -> Ok (Bu.j4 (i : Int) out (v : Int)) (gG (fun s' => (∃ i : Nat, s'.1 = (i : Int) /\ 1 <= i /\ (i <= b.length \/ i = 1) /\ s'.2.length = b.length /\ ∀ n, 1 <= n -> n <= i -> n <= b.length -> ∃ k : Nat, s'.2[n - 1]? = some (k : Int) /\ lL b n k) /\ b.length - s'.1.toNat < b.length - (i : Int).toNat) (sU b)) := fun v hv => by
      unfold Bu.j4
      have ho : out[i]? = some (out[i]'(by omega)) := xK _
      refine Ok.bindE (by rw [Bw]; exact ho) ?_
      refine Ok.ret ⟨⟨i + 1, Cl (by omega), by omega, .inl hi, by simp [Bi, h4], fun n e1 e2 e3 => ?_⟩, ?_⟩
      ·show ∃ k : Nat, (Bi out ((i : Int)).toNat (v : Int))[n - 1]? = some (k : Int) /\ lL b n k
       unfold Bi
       rw [yA]
       rcases yY n (i + 1) with h6 | h6
       ·rw [zK (by omega)]
        exact h5 n e1 (by omega) e3
       ·have : n = i + 1 := by omega
        subst this
        rw [Nat.add_sub_cancel, zD (by omega)]
        exact ⟨v, rfl, hv⟩
      ·show b.length - (W ((i : Int) + 1)).toNat < _
       rw [Cl (by omega)]
       omega
     refine Ok.cond (fun he => ?_) fun hne => ?_
     ·have he : d = c := by
       have he := xU he
       exact aCq.1 (by omega)
      rw [Cl (by omega)]
      refine done (k + 1) ⟨(Bd.succ hbi hbk).2 ⟨c1, he⟩, fun m hm => ?_⟩
      cases m with
      | zero => omega
      | succ m => have := c2 m hm; omega
     ·have hne : d ≠ c := fun e => by
       have hne := yB hne
       rw [e] at hne
       exact hne rfl
      have hk : k = 0 := hdc.resolve_left hne
      subst hk
      refine done 0 ⟨Bd.zero (by omega), fun m hm => ?_⟩
      cases m with
      | zero => omega
      | succ m =>
       have h7 := c2 m hm
       have : m = 0 := by omega
       subst this
       exact (hne ((Bd.succ hbi hbk).1 hm).2).elim
    unfold Bu.l2
    refine Ok.cond (fun hpos => ?_) fun hz => fin (.inr (by have := yB hz; omega))
    have hk : 0 < k := by have := xU hpos; omega
    refine Ok.bindE (by rw [Bw]; exact hbk) ?_
    refine Ok.bindE (by rw [Bw]; exact hbi) ?_
    by_cases he : d = c
    ·rw [show (!decide ((d.toNat : Int) = (c.toNat : Int))) = false by rw [he]; simp]
     exact fin (.inl he)
    ·rw [show (!decide ((d.toNat : Int) = (c.toNat : Int))) = true by
      simp
      intro e
      exact he (aCq.1 (by omega))]
     unfold Bu.j3
     rw [xT]
     obtain ⟨k', e1, e2⟩ := h5 k hk (by omega) (by omega)
     refine Ok.bindE (a := (k' : Int)) (by
      rw [Do (by omega), show (k : Int) - 1 = ((k - 1 : Nat) : Int) by omega, Bw]
      exact e1) ?_
     refine Ok.ret ⟨⟨k', rfl, c1.trans e2.1, fun m hm => ?_⟩, ?_⟩
     ·have h7 := c2 m hm
      have hml : m < b.length := by omega
      have hbm : b[m]? = some b[m] := xK hml
      have h8 := (Bd.succ hbi hbm).1 hm
      have hmk : m ≠ k := by
       rintro rfl
       rw [hbk] at hbm
       injection hbm with hbm
       exact he (by rw [hbm]; exact h8.2)
      exact e2.2 m (c1.inner (by omega) h8.1 (by omega))
     ·have := e2.1.1
      show (k' : Int).toNat < (k : Int).toNat
      omega
   ·have hml : m < b.length := by have := hm.1; omega
    have hbm : b[m]? = some b[m] := xK hml
    exact a2.2 m ((Bd.succ hbi hbm).1 hm).1
  ·have hge := yB hge
   exact Ok.up (Ok.ret ⟨h4, fun n e1 e2 => h5 n e1 (by omega) e2⟩)
 ·have : n = 1 := by omega
  subst this
  refine ⟨0, ?_, Bd.zero (by omega), fun m hm => by have := hm.1; omega⟩
  show (List.replicate b.length (0 : Int))[0]? = _
  rw [aAn, if_pos (by omega)]
  rfl
end
theorem Pb (a : List Int) (h : a.length <= 100000) : Dd a a = some true := by
 unfold Dd
 rw [xN rfl]
 show B6 _ _ = _
 have := Rm (body := fun q' => Dd.l1 a a q') a.length (fun _ => false) false true (by omega) (fun i hi => by
  show Dd.l1 a a _ = _
  unfold Dd.l1
  rw [xN (by omega), xT, Bw, xK hi]
  simp) (by
  show Dd.l1 a a _ = _
  unfold Dd.l1
  rw [I0]
  rfl)
 rw [this]
 simp
theorem cB : Hg = some true := by
 unfold Hg
 rw [bW (by unfold Lo; decide) (by kernel_rfl) (by decide)]
 rw [show Nl [(Ai.mk (Aa.mk 1 0) [(97 : UInt8), (98 : UInt8), (97 : UInt8)]), (Ai.mk (Aa.mk 1 0) [(98 : UInt8)])] [(97 : UInt8), (98 : UInt8), (97 : UInt8), (98 : UInt8), (97 : UInt8)] = ([⟨0, 0⟩, ⟨1, 1⟩, ⟨0, 2⟩, ⟨1, 3⟩], 0) by kernel_rfl]
 rw [xJ]
 obtain ⟨r, h1, h2⟩ := fG (b := [(97 : UInt8), (98 : UInt8), (97 : UInt8), (98 : UInt8)]) (by decide)
 have hr : r = [0, 0, 1, 2] := by
  have hc : ∀ n k m, Bd [(97 : UInt8), (98 : UInt8), (97 : UInt8), (98 : UInt8)] n k -> m <= n -> n <= 4 -> k < n /\ ([(97 : UInt8), (98 : UInt8), (97 : UInt8), (98 : UInt8)].drop (n - k)).take k = [(97 : UInt8), (98 : UInt8), (97 : UInt8), (98 : UInt8)].take k := fun n k m h _ hn => (Bd.at_ hn).1 h
  refine h2.uniq ⟨rfl, fun n e1 e2 => ?_⟩
  have e2 : n <= 4 := e2
  have key : ∀ n k, n <= 4 -> (k < n /\ ([(97 : UInt8), (98 : UInt8), (97 : UInt8), (98 : UInt8)].drop (n - k)).take k = [(97 : UInt8), (98 : UInt8), (97 : UInt8), (98 : UInt8)].take k) -> (∀ m, m < 4 -> m < n -> ([(97 : UInt8), (98 : UInt8), (97 : UInt8), (98 : UInt8)].drop (n - m)).take m = [(97 : UInt8), (98 : UInt8), (97 : UInt8), (98 : UInt8)].take m -> m <= k) -> lL [(97 : UInt8), (98 : UInt8), (97 : UInt8), (98 : UInt8)] n k := fun n k hn h1 h2 =>
   ⟨(Bd.at_ hn).2 h1, fun m hm => h2 m (by have := hm.1; omega) hm.1 ((Bd.at_ hn).1 hm).2⟩
  rcases (show n = 1 \/ n = 2 \/ n = 3 \/ n = 4 by omega) with rfl | rfl | rfl | rfl
  ·exact ⟨0, rfl, key 1 0 (by decide) (by decide) (by decide)⟩
  ·exact ⟨0, rfl, key 2 0 (by decide) (by decide) (by decide)⟩
  ·exact ⟨1, rfl, key 3 1 (by decide) (by decide) (by decide)⟩
  ·exact ⟨2, rfl, key 4 2 (by decide) (by decide) (by decide)⟩
 subst hr
 simp only [h1, xJ, Pb [0, 0, 1, 2] (by decide)]
 rfl
end Go.Proofs.Ytfkgbfhpibiheaa
