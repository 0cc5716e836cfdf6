/- Plain texts, joined. No program is in sight here. -/
import Derived.Test.YtfkgbfhpibiheaaZ5
import Derived.Test.YtfkgbfhpibiheaaK2
import Derived.Test.YtfkgbfhpibiheaaCO
import Derived.Test.YtfkgbfhpibiheaaSEapi_Hit
set_option linter.unusedVariables false
set_option linter.unusedSimpArgs false
set_option maxRecDepth 100000
namespace Go.Proofs.Ytfkgbfhpibiheaa
section
open Go
def Vq (q : Ai) : Bool := decide ((q.Bytes.length : Int) < 1) || (decide (64 < (q.Bytes.length : Int)) || !decide (0 < Hj q.Use))
def chk (p : List Ai) : Int := bif p.any Vq then 21 else bif decide (32 < (p.length : Int)) then 21 else 0
theorem Kb (p : List Ai) (hl : Lo p) : Cy p = some (chk p) := by
 unfold Cy chk
 refine Yz p Vq _ _ hl (fun i x hx => ?_) ?_
 ·unfold Cy.l1
  rw [Pg hx]
  unfold Vq Cy.j2
  cases decide ((x.Bytes.length : Int) < 1) <;> cases decide (64 < (x.Bytes.length : Int)) <;> simp [fM, Te]
  cases decide (0 < Hj x.Use) <;> simp [Te]
 ·unfold Cy.l1
  rw [I0]
  cases decide (32 < (p.length : Int)) <;> rfl
theorem Gk (p : List Ai) (hl : Lo p) : C3 p = some (chk p) := by
 unfold C3 chk
 cases h : decide (32 < (p.length : Int)) with
 | true => cases p.any Vq <;> rfl
 | false =>
  rw [xP]
  refine Yz p Vq _ _ hl (fun i x hx => ?_) ?_
  ·unfold C3.l1
   rw [Pg hx]
   unfold Vq C3.j2
   cases decide ((x.Bytes.length : Int) < 1) <;> cases decide (64 < (x.Bytes.length : Int)) <;> simp [fD, Te]
   cases decide (0 < Hj x.Use) <;> simp [Te]
  ·unfold C3.l1
   rw [I0]
   rfl
theorem Nj {p : List Ai} (h : chk p = 0) : lM p := by
 unfold chk at h
 cases h1 : p.any Vq with
 | true => rw [h1] at h; simp at h
 | false =>
  rw [h1, xP] at h
  cases h2 : decide (32 < (p.length : Int)) with
  | true => rw [h2] at h; simp at h
  | false =>
   refine ⟨by have := yB h2; omega, fun q hq => ?_⟩
   have := aB9.1 h1 q hq
   unfold Vq at this
   simp at this
   omega
theorem Ju {p : List Ai} {b : Fm} (hl : Lo p) : Gl p b = some (bif !decide (chk p = 0) then chk p else bif decide (4096 < (b.length : Int)) then 3 else 0) := by
 unfold Gl
 rw [Kb p hl, xJ]
 cases !decide (chk p = 0) <;> cases decide (4096 < (b.length : Int)) <;> rfl
theorem nF {a b : List UInt8} : (sT a = sT b) ↔ a = b := by
 constructor
 ·intro h
  unfold sT at h
  injection h with h
  have := congrArg Array.toList h
  simpa using this
 ·rintro rfl; rfl
theorem hQ {q b : Fm} {i : Nat} (hb : b.length <= 4096) (hq : q.length <= 64) (hi : i <= b.length) : I8 q b (i : Int) = some (At q b i) := by
 unfold I8 At
 rw [Do (by omega)]
 by_cases h : q.length + i <= b.length
 ·rw [xN (by omega), xT, Do (by omega)]
  unfold Si
  rw [if_pos (by omega), xJ]
  congr 1
  have e : ((i : Int) + (q.length : Int)).toNat - (i : Int).toNat = q.length := by omega
  rw [e, yA]
  simp only [nF]
  simp [h]
 ·rw [xL (by omega), xP]
  congr 1
  symm
  exact xL fun e => h e.1
def eV (p : List Ai) (b : Fm) (i k : Nat) : List Ab := ((List.range k).filter fun k => At (p.getD k default).Bytes b i).map fun k : Nat => (⟨(k : Int), (i : Int)⟩ : Ab)
def V3 (p : List Ai) (b : Fm) (n : Nat) : List Ab := (List.range n).flatMap fun i => eV p b i p.length
section
variable {p : List Ai} {b : Fm}
theorem Us {i k : Nat} {q : Ai} (hq : p[k]? = some q) : eV p b i (k + 1) = eV p b i k ++ (bif At q.Bytes b i then [⟨(k : Int), (i : Int)⟩] else []) := by
 unfold eV
 rw [aBj, List.filter_append, aAd]
 congr 1
 rw [List.filter_cons, List.filter_nil, zA, hq]
 cases h : At q.Bytes b i <;> simp [h]
theorem T4 {n : Nat} : V3 p b (n + 1) = V3 p b n ++ eV p b n p.length := by
 unfold V3
 rw [aBj, aBk]
 simp
theorem cL : ∀ {m n : Nat}, m <= n -> (V3 p b m).length <= (V3 p b n).length
 | m, 0, h => by rw [show m = 0 by omega]; exact xX _
 | m, n + 1, h => by
  rcases yY m (n + 1) with h' | h'
  ·rw [T4, xS]
   exact yN (cL (m := m) (n := n) (by omega)) (Nat.le_add_right _ _)
  ·rw [show m = n + 1 by omega]; exact xX _
theorem S9 {i k : Nat} (hk : k <= p.length) {h : Ab} : h ∈ eV p b i k ↔ ∃ (j : Nat) (q : Ai), j < k /\ p[j]? = some q /\ h = ⟨(j : Int), (i : Int)⟩ /\ At q.Bytes b i = true := by
 unfold eV
 simp only [yW, aB3, zR]
 constructor
 ·rintro ⟨j, ⟨h1, h2⟩, rfl⟩
  have hj : p[j]? = some p[j] := xK (by omega)
  rw [zA, hj] at h2
  exact ⟨j, _, h1, hj, rfl, h2⟩
 ·rintro ⟨j, q, h1, h2, rfl, h3⟩
  exact ⟨j, ⟨h1, by rw [zA, h2]; exact h3⟩, rfl⟩
theorem dN {n : Nat} {h : Ab} : h ∈ V3 p b n ↔ ∃ (k : Nat) (q : Ai) (i : Nat), i < n /\ p[k]? = some q /\ h = ⟨(k : Int), (i : Int)⟩ /\ At q.Bytes b i = true := by
 unfold V3
 rw [List.mem_flatMap]
 constructor
 ·rintro ⟨i, h1, h2⟩
  obtain ⟨j, q, -, a1, a2, a3⟩ := (S9 (xX _)).1 h2
  exact ⟨j, q, i, zR.1 h1, a1, a2, a3⟩
 ·rintro ⟨k, q, i, h1, h2, h3, h4⟩
  exact ⟨i, zR.2 h1, (S9 (xX _)).2 ⟨k, q, (xM.1 h2).1, h2, h3, h4⟩⟩
theorem sP (hp : lM p) {h : Ab} : h ∈ V3 p b b.length ↔ Px p b h := by
 rw [dN]
 constructor
 ·rintro ⟨k, q, i, -, h2, h3, h4⟩
  exact ⟨k, q, i, h2, h3, h4⟩
 ·rintro ⟨k, q, i, h2, h3, h4⟩
  have := (hp.2 q (xW h2)).1
  have := Zy h4
  exact ⟨k, q, i, by omega, h2, h3, h4⟩
def nJ : Ab -> Ab -> Int := bR (fun a b => Qq a.At b.At) (fun a b => Qq a.Pattern b.Pattern)
def oS (a b : Ab) : Bool := decide (nJ a b < 0)
theorem kS : Pre nJ := (Z2.by_ (fun h : Ab => h.At)).lex (Z2.by_ (fun h : Ab => h.Pattern))
theorem nG : Mv oS := kS.lin fun a b h => by
 obtain ⟨h1, h2⟩ := mR h
 have h1 := dK h1
 have h2 := dK h2
 cases a; cases b
 simp at h1 h2
 rw [h1, h2]
theorem Mv.swo {α : Type} {lt : α -> α -> Bool} (h : Mv lt) : Sort.SWO lt where
 irrefl a := h.irrefl a
 trans a b c h1 h2 := h.trans _ _ _ h1 h2
 ntrans a b c h1 h2 := by
  cases h0 : lt a c with
  | false => rfl
  | true =>
   cases h3 : lt b a with
   | true => have := h.trans _ _ _ h3 h0; rw [h2] at this; cases this
   | false =>
    rw [h.tot _ _ h1 h3] at h0
    rw [h2] at h0; cases h0
theorem bJ (x y : Int) : Fz x y = some (Qq x y) := by
 unfold Fz Hb Qq
 simp only [xJ, decide_true, aB1, xP]
 cases decide (x < y) <;> cases decide (y < x) <;> rfl
theorem uP (x y : Int) : Dk [x, y] = some (bif decide (x = 0) then y else x) := by
 have h0 : Dk.l1 [x, y] 0 = (cond (!decide (x = 0)) (some (.done x)) (some (.next 1))) := by
  unfold Dk.l1
  rw [show decide ((0 : Int) < (([x, y] : List Int).length : Int)) = true by simp, xT, iY]
  rfl
 have h1 : Dk.l1 [x, y] 1 = (cond (!decide (y = 0)) (some (.done y)) (some (.next 2))) := by
  unfold Dk.l1
  rw [show decide ((1 : Int) < (([x, y] : List Int).length : Int)) = true by simp, xT, show (1 : Int) = ((1 : Nat) : Int) from rfl, Bw]
  rfl
 have h2 : Dk.l1 [x, y] 2 = some (.done 0) := by
  unfold Dk.l1
  rw [show decide ((2 : Int) < (([x, y] : List Int).length : Int)) = false by simp, xP]
  rfl
 unfold Dk
 by_cases hx : x = 0
 ·subst hx
  rw [Dh (body := fun q' => Dk.l1 [0, y] q') (s' := 1) h0]
  by_cases hy : y = 0
  ·subst hy
   rw [Dh (body := fun q' => Dk.l1 [0, 0] q') (s' := 2) h1, Li (body := fun q' => Dk.l1 [0, 0] q') h2]
   rfl
  ·rw [Li (body := fun q' => Dk.l1 [0, y] q') (r := y) (by rw [h1]; simp [hy])]
   rfl
 ·rw [Li (body := fun q' => Dk.l1 [x, y] q') (r := x) (by rw [h0]; simp [hx])]
  simp [hx]
theorem sR : B0 (fun x0 x1 => Fc x0 x1) oS (fun _ => True) := fun x y _ _ => by
 refine ⟨nJ x y, ?_, rfl⟩
 unfold Fc
 simp only [bJ, xJ, uP]
 rfl
theorem iO {a b : Ab} (h : a.At < b.At \/ a.At = b.At /\ a.Pattern < b.Pattern) : oS a b = true := by
 unfold oS nJ
 rw [aBh]
 rcases h with h | ⟨h1, h2⟩
 ·rw [Mm]
  ·unfold Qq; rw [xN h, xT]; omega
  ·unfold Qq; rw [xN h, xT]; omega
 ·rw [Pp]
  ·unfold Qq; rw [xN h2, xT]; omega
  ·unfold Qq; rw [xL (by omega), xL (by omega)]; rfl
theorem cG {i : Nat} : ∀ {k : Nat}, k <= p.length -> Z7 oS (eV p b i k)
 | 0, _ => by simp [eV, Z7]
 | k + 1, hk => by
  have hq : p[k]? = some p[k] := xK (by omega)
  rw [Us hq]
  refine aAo.2 ⟨cG (by omega), by cases At (p[k]).Bytes b i <;> simp, fun x hx y hy => ?_⟩
  obtain ⟨j, q, h1, -, rfl, -⟩ := (S9 (by omega)).1 hx
  cases hc : At (p[k]).Bytes b i with
  | false => rw [hc] at hy; simp at hy
  | true =>
   rw [hc] at hy
   simp at hy
   subst hy
   exact iO (.inr ⟨rfl, by show (j : Int) < (k : Int); omega⟩)
theorem W9 : ∀ {n : Nat}, Z7 oS (V3 p b n)
 | 0 => by simp [V3, Z7]
 | n + 1 => by
  rw [T4]
  refine aAo.2 ⟨W9, cG (xX _), fun x hx y hy => ?_⟩
  obtain ⟨k, q, i, h1, -, rfl, -⟩ := dN.1 hx
  obtain ⟨j, q', -, -, rfl, -⟩ := (S9 (xX _)).1 hy
  exact iO (.inl (by show (i : Int) < (n : Int); omega))
def Nl (p : List Ai) (b : Fm) : List Ab × Int := bif decide (1000 < (V3 p b b.length).length) then ([], 3) else (V3 p b b.length, 0)
theorem Z6 (hl : Lo p) (hc : chk p = 0) (hb : b.length <= 4096) : Cs p b = some (Nl p b) := by
 have hp := Nj hc
 unfold Cs
 rw [Gk p hl, xJ, hc]
 rw [show (!decide ((0 : Int) = 0)) = false by decide, xP, xL (by omega), xP]
 suffices h : Ok (B6 (fun q' => Cs.l1 p b q'.1 q'.2) ((0 : Int), ([] : List Ab))) (fun r => r = Nl p b) by
  obtain ⟨r, h1, h2⟩ := h
  rw [h1, h2]
 have hpl := hp.1
 refine Ok.loop (fun t => ∃ i : Nat, t.1 = (i : Int) /\ i <= b.length /\ t.2 = V3 p b i /\ (V3 p b i).length <= 1000) (fun t => b.length - t.1.toNat) ?_ ⟨0, rfl, yL _, rfl, by simp [V3]⟩
 rintro ⟨x, out⟩ ⟨i, h1, h2, h3, h4⟩
 simp only at h1 h3 ⊢
 subst h1 h3
 unfold Cs.l1
 refine Ok.cond (fun hlt => ?_) fun hge => ?_
 ·have hi : i < b.length := by simp at hlt; exact hlt
  have hkl : ∀ k, (eV p b i k).length <= k := fun k => by
   unfold eV
   rw [zU]
   exact yN (aCg _ _) (by simp)
  refine Ok.loop (fun t => ∃ k : Nat, t.1 = (k : Int) /\ k <= p.length /\ t.2 = V3 p b i ++ eV p b i k) (fun t => p.length - t.1.toNat) ?_ ⟨0, rfl, yL _, by simp [eV]⟩
  rintro ⟨y, out'⟩ ⟨k, c1, c2, c3⟩
  simp only at c1 c3 ⊢
  subst c1 c3
  unfold Cs.l2
  refine Ok.cond (fun hlt2 => ?_) fun hge2 => ?_
  ·have hk : k < p.length := by simp at hlt2; exact hlt2
   have hq : p[k]? = some p[k] := xK hk
   generalize p[k] = q at hq
   refine Ok.bindE (by rw [Bw]; exact hq) ?_
   refine Ok.bindE (hQ hb (hp.2 q (xW hq)).2 (by omega)) ?_
   have hm : p.length - (W ((k : Int) + 1)).toNat < p.length - (k : Int).toNat := by
    rw [Cl (by omega)]
    omega
   unfold Cs.j3
   refine Ok.cond (fun ht => ?_) fun hf => ?_
   ·refine Ok.bindE (Ey (by have := hkl k; rw [xS, yJ]; omega)) ?_
    refine Ok.ret ⟨⟨k + 1, Cl (by omega), hk, ?_⟩, hm⟩
    rw [Us hq, ht, xT, yV]
   ·refine Ok.ret ⟨⟨k + 1, Cl (by omega), hk, ?_⟩, hm⟩
    rw [Us hq, hf, xP, aAm]
  ·have hk : k = p.length := by simp at hge2; omega
   subst hk
   refine Ok.up ?_
   rw [<- T4]
   refine Ok.cond (fun hbig => Ok.up (Ok.ret ?_)) fun hsm => Ok.ret ⟨⟨i + 1, Cl (by omega), hi, rfl, by have hsm := yB hsm; omega⟩, ?_⟩
   ·have hbig := xU hbig
    have := cL (p := p) (b := b) (m := i + 1) (n := b.length) hi
    unfold Nl
    rw [xN (by omega), xT]
   ·show b.length - (W ((i : Int) + 1)).toNat < _
    rw [Cl (by omega)]
    omega
 ·have hi : i = b.length := by simp at hge; omega
  subst hi
  refine Ok.up (Ok.ret ?_)
  unfold Nl
  rw [xL (by omega), xP]
theorem bW (hl : Lo p) (hc : chk p = 0) (hb : b.length <= 4096) : Ev p b = some (Nl p b) := by
 have hp := Nj hc
 unfold Ev
 rw [Ju hl, xJ, hc]
 rw [show (bif !decide ((0 : Int) = 0) then 0 else bif decide (4096 < (b.length : Int)) then 3 else 0 : Int) = 0 by
  rw [show (!decide ((0 : Int) = 0)) = false by decide, xP, xL (by omega)]; rfl]
 rw [show (!decide ((0 : Int) = 0)) = false by decide, xP]
 have hh := Nf (p := p) (b := b) (Inv := fun l s => s = l /\ l.length <= 1000) (Stop := fun l s => s = l /\ 1000 < l.length) (yield := fun x0 b0 => Ff x0 b0) (s0 := []) hp hb (fun l h s ⟨h1, h2⟩ _ => by
  subst h1
  unfold Ff
  refine Ok.bindE (Ey (by rw [yJ]; omega)) (Ok.ret ⟨fun h => ⟨rfl, ?_⟩, fun h => ⟨rfl, ?_⟩⟩)
  ·have h := xU h
   omega
  ·have h := yB h
   omega) ⟨rfl, by simp⟩
 suffices h : Ok ((Be p b (fun x0 b0 => Ff x0 b0) ([] : List Ab)).bind fun y_2 =>
   cond (decide (1000 < (y_2.length : Int)))
    (some (([] : (List Ab)), (3 : Int)))
    ((D8 y_2 (fun x0 x1 => Fc x0 x1)).bind fun y_3 =>
    some (y_3, 0))) (fun r => r = Nl p b) by
  obtain ⟨r, h1, h2⟩ := h
  rw [h1, h2]
 refine Ok.bind hh ?_
 rintro s ⟨ws, ss, hD, hs⟩
 have hmem : ∀ h, h ∈ HS p ss ws b b.length ↔ h ∈ V3 p b b.length := fun h => (qB hD hp).trans (sP hp).symm
 have hn1 := Zg (b := b) hD (xX _)
 have hn2 := (W9 (p := p) (b := b) (n := b.length)).nodup nG
 have hlen : (HS p ss ws b b.length).length = (V3 p b b.length).length := Nat.le_antisymm (aAb hn1 fun h hh => (hmem h).1 hh) (aAb hn2 fun h hh => (hmem h).2 hh)
 rcases hs with ⟨rfl, h2⟩ | ⟨l, h1, rfl, h2⟩
 ·refine Ok.cond (fun hbig => by have := xU hbig; omega) fun _ => ?_
  refine Ok.bind (Vo nG.swo sR _ (by omega) (fun _ _ => trivial)) ?_
  rintro r ⟨h3, h4⟩
  refine Ok.ret ?_
  have : r = V3 p b b.length := by
   refine Xt nG ?_ W9 fun x => h3.mem_iff.trans (hmem x)
   have hnr : r.Nodup := h3.nodup_iff.2 hn1
   exact (List.pairwise_and_iff.2 ⟨h4, hnr⟩).imp fun {x y} hxy => by
    cases hlt : oS x y with
    | true => rfl
    | false => exact absurd (nG.tot x y hlt hxy.1) hxy.2
  rw [this]
  unfold Nl
  rw [xL (by omega), xP]
 ·refine Ok.cond (fun _ => Ok.ret ?_) fun hsm => by have := yB hsm; omega
  have := h1.length_le
  unfold Nl
  rw [xN (by omega), xT]
end
end
section
open Go
def sS (q b : Fm) (x : Int) : Prop := (x = -1 /\ ∀ j, At q b j = false) \/ ∃ j : Nat, x = (j : Int) /\ At q b j = true /\ ∀ i, i < j -> At q b i = false
theorem sS.uniq {q b : Fm} {x y : Int} (h : sS q b x) (k : sS q b y) : x = y := by
 rcases h with ⟨rfl, h⟩ | ⟨i, rfl, h1, h2⟩
 ·rcases k with ⟨rfl, -⟩ | ⟨j, rfl, k1, -⟩
  ·rfl
  ·rw [h j] at k1; cases k1
 ·rcases k with ⟨rfl, k⟩ | ⟨j, rfl, k1, k2⟩
  ·rw [k i] at h1; cases h1
  ·rcases Nat.lt_trichotomy i j with h | h | h
   ·rw [k2 i h] at h1; cases h1
   ·rw [h]
   ·rw [h2 j h] at k1; cases k1
def eM (p : List Ai) (b : Fm) (r : List Int) : Prop := r.length = p.length /\ ∀ (k : Nat) q, p[k]? = some q -> ∃ x, r[k]? = some x /\ sS q.Bytes b x
theorem eM.uniq {p : List Ai} {b : Fm} {r s : List Int} (h : eM p b r) (k : eM p b s) : r = s := by
 refine aB7 fun i => ?_
 rcases yY i p.length with hi | hi
 ·obtain ⟨x, h1, h2⟩ := h.2 i _ (xK hi)
  obtain ⟨y, k1, k2⟩ := k.2 i _ (xK hi)
  rw [h1, k1, h2.uniq k2]
 ·rw [zW (by rw [h.1]; exact hi), zW (by rw [k.1]; exact hi)]
def Ge (l : List Ab) (k : Nat) : Int := match l.find? (fun h => decide (h.Pattern = (k : Int))) with | some h => h.At | none => -1
section
variable {p : List Ai} {b : Fm}
theorem Jr {l m : List Ab} {k : Nat} : Ge (l ++ m) k = (match l.find? (fun h => decide (h.Pattern = (k : Int))) with | some h => h.At | none => Ge m k) := by
 unfold Ge
 rw [List.find?_append]
 cases l.find? (fun h => decide (h.Pattern = (k : Int))) <;> rfl
theorem Zr {l : List Ab} {k : Nat} (hl : ∀ h ∈ l, Px p b h) : Ge l k < 0 ↔ l.find? (fun h => decide (h.Pattern = (k : Int))) = none := by
 unfold Ge
 cases hf : l.find? (fun h => decide (h.Pattern = (k : Int))) with
 | none => simp
 | some h =>
  obtain ⟨k', q, i, -, rfl, -⟩ := hl h (aBw hf)
  simp
theorem Ye {ws : List Fm} {ss : List Al} {k : Nat} {q : Ai} (hD : Pt p ws ss) (hp : lM p) (hq : p[k]? = some q) : ∀ n, n <= b.length ->
  ((HS p ss ws b n).find? (fun h => decide (h.Pattern = (k : Int))) = none /\ Ge (HS p ss ws b n) k = -1 /\ ∀ j, At q.Bytes b j = true -> ¬ q.Bytes.length + j <= n) \/
  ∃ j : Nat, (HS p ss ws b n).find? (fun h => decide (h.Pattern = (k : Int))) = some ⟨(k : Int), (j : Int)⟩ /\ Ge (HS p ss ws b n) k = (j : Int) /\ At q.Bytes b j = true /\ q.Bytes.length + j <= n /\ ∀ i, i < j -> At q.Bytes b i = false
 | 0, _ => by
  refine .inl ⟨by simp [HS], by simp [HS, Ge], fun j hj h => ?_⟩
  have := (hp.2 q (xW hq)).1
  omega
 | n + 1, hn => by
  rw [K8]
  rcases Ye hD hp hq n (by omega) with ⟨h0, h1, h2⟩ | ⟨j, h0, h1, h2, h3, h4⟩
  ·have e1 : Ge (HS p ss ws b n ++ S3 p ss ws b n) k = Ge (S3 p ss ws b n) k := by rw [Jr, h0]
   have e2 : (HS p ss ws b n ++ S3 p ss ws b n).find? (fun h => decide (h.Pattern = (k : Int))) = (S3 p ss ws b n).find? (fun h => decide (h.Pattern = (k : Int))) := by rw [List.find?_append, h0]; rfl
   rw [e1, e2]
   cases hf : (S3 p ss ws b n).find? (fun h => decide (h.Pattern = (k : Int))) with
   | none =>
    refine .inl ⟨rfl, by unfold Ge; rw [hf], fun j hj hle => ?_⟩
    rcases yY (q.Bytes.length + j) (n + 1) with h5 | h5
    ·exact h2 j hj (by omega)
    ·have hm : (⟨(k : Int), (j : Int)⟩ : Ab) ∈ S3 p ss ws b n := (Og hD (by omega)).2 ⟨k, q, j, hq, rfl, hj, by omega⟩
     have := List.find?_eq_none.1 hf _ hm
     simp at this
   | some h =>
    have hm := aBw hf
    have hk := List.find?_some hf
    obtain ⟨k', q', j, a1, rfl, a3, a4⟩ := (Og hD (by omega)).1 hm
    have hk : k' = k := by simp at hk; omega
    subst hk
    rw [hq] at a1
    injection a1 with a1
    subst a1
    refine .inr ⟨j, rfl, by unfold Ge; rw [hf], a3, by omega, fun i hi => ?_⟩
    cases hc : At q.Bytes b i with
    | false => rfl
    | true => exact (h2 i hc (by omega)).elim
  ·refine .inr ⟨j, by rw [List.find?_append, h0]; rfl, by rw [Jr, h0], h2, by omega, h4⟩
theorem eF {ws : List Fm} {ss : List Al} {k : Nat} {q : Ai} (hD : Pt p ws ss) (hp : lM p) (hq : p[k]? = some q) : sS q.Bytes b (Ge (HS p ss ws b b.length) k) := by
 rcases Ye (b := b) hD hp hq b.length (xX _) with ⟨-, h1, h2⟩ | ⟨j, -, h1, h2, -, h4⟩
 ·refine .inl ⟨h1, fun j => ?_⟩
  cases hc : At q.Bytes b j with
  | false => rfl
  | true => exact (h2 j hc (Zy hc)).elim
 ·exact .inr ⟨j, h1, h2, h4⟩
theorem Zw (hp : lM p) (hb : b.length <= 4096) : Ok (D3 p b) (eM p b) := by
 have hpl := hp.1
 unfold D3
 refine Ok.bindE (a := List.replicate p.length (0 : Int)) (by
  unfold U8
  rw [if_pos (by omega), yA]) ?_
 refine Ok.loop (fun t => ∃ i : Nat, t.1 = (i : Int) /\ i <= p.length /\ t.2 = List.replicate i (-1) ++ List.replicate (p.length - i) (0 : Int)) (fun t => p.length - t.1.toNat) ?_ ⟨0, rfl, yL _, by simp⟩
 rintro ⟨x, l⟩ ⟨i, h1, h2, h3⟩
 simp only at h1 h3 ⊢
 subst h1 h3
 unfold D3.l1
 refine Ok.cond (fun hlt => ?_) fun hge => ?_
 ·have hi : i < p.length := by simp at hlt; exact hlt
  refine Ok.bindE (a := 0) (by rw [Bw, yE (by simp), aAi, aBz, aAn, if_pos (by omega)]) ?_
  refine Ok.ret ⟨⟨i + 1, Cl (by omega), hi, ?_⟩, ?_⟩
  ·unfold Bi
   rw [yA, aCf _ _ (by simp), aAi, aBz, show p.length - i = (p.length - (i + 1)) + 1 by omega, zS, List.set_cons_zero, aCm, yV]
   rfl
  ·show p.length - (W ((i : Int) + 1)).toNat < _
   rw [Cl (by omega)]
   omega
 ·have hi : i = p.length := by simp at hge; omega
  subst hi
  refine Ok.up ?_
  rw [aBz, List.replicate_zero, aAm]
  refine Ok.bind (Rc (p := p) (b := b) (Inv := fun l s => s.length = p.length /\ (∀ h ∈ l, Px p b h) /\ ∀ k, k < p.length -> s[k]? = some (Ge l k)) (Stop := fun _ _ => False) (yield := fun x0 b0 => Fq x0 b0) hp hb (fun l h s ⟨h1, h2, h3⟩ hh => ?_) ⟨by simp, fun h hh => by simp at hh, fun k hk => by rw [aAn, if_pos hk]; rfl⟩) ?_
  ·obtain ⟨k, q, i, hq, rfl, hat⟩ := hh
   have hk := (xM.1 hq).1
   have hmem : ∀ h ∈ l ++ [(⟨(k : Int), (i : Int)⟩ : Ab)], Px p b h := fun h hm => by
    rcases yQ.1 hm with hm | hm
    ·exact h2 h hm
    ·rw [xQ.1 hm]; exact ⟨k, q, i, hq, rfl, hat⟩
   unfold Fq
   refine Ok.bindE (by rw [Bw]; exact h3 k hk) ?_
   refine Ok.cond (fun hneg => Ok.ret ⟨fun _ => ⟨?_, hmem, fun k' hk' => ?_⟩, fun h => by cases h⟩) fun hpos => Ok.ret ⟨fun _ => ⟨h1, hmem, fun k' hk' => ?_⟩, fun h => by cases h⟩
   ·simp [Bi, h1]
   ·have hneg := (Zr h2).1 (xU hneg)
    show (Bi s ((k : Int)).toNat (i : Int))[k']? = _
    unfold Bi
    rw [yA, aB8]
    by_cases hkk : k = k'
    ·subst hkk
     rw [if_pos rfl, if_pos (by omega), Jr, hneg]
     simp [Ge]
    ·rw [if_neg hkk, h3 k' hk', Jr]
     unfold Ge
     cases l.find? (fun h => decide (h.Pattern = (k' : Int))) with
     | some h => rfl
     | none =>
      rw [List.find?_cons, show decide ((k : Int) = (k' : Int)) = false by simp; omega]
      rfl
   ·rw [h3 k' hk', Jr]
    by_cases hkk : k = k'
    ·subst hkk
     unfold Ge at hpos ⊢
     cases hf : l.find? (fun h => decide (h.Pattern = (k : Int))) with
     | some h => rfl
     | none => rw [hf] at hpos; simp at hpos
    ·unfold Ge
     cases l.find? (fun h => decide (h.Pattern = (k' : Int))) with
     | some h => rfl
     | none =>
      rw [List.find?_cons, show decide ((k : Int) = (k' : Int)) = false by simp; omega]
      rfl
  ·rintro s ⟨ws, ss, hD, ⟨h1, h2, h3⟩ | ⟨l, -, h⟩⟩
   ·refine Ok.ret ⟨h1, fun k q hq => ⟨_, h3 k (xM.1 hq).1, eF hD hp hq⟩⟩
   ·exact h.elim
def Fr (q b : Fm) (i : Nat) (x : Int) : Prop := (x = -1 /\ ∀ j, i <= j -> At q b j = false) \/ ∃ j : Nat, x = (j : Int) /\ i <= j /\ At q b j = true /\ ∀ m, i <= m -> m < j -> At q b m = false
theorem X3 (hl : Lo p) (hc : chk p = 0) (hb : b.length <= 4096) : Ok (Cd p b) (fun r => r.2 = 0 /\ eM p b r.1) := by
 have hp := Nj hc
 have hpl := hp.1
 unfold Cd
 rw [Gk p hl, xJ, hc]
 rw [show (!decide ((0 : Int) = 0)) = false by decide, xP, xL (by omega), xP]
 refine Ok.loop (fun t => ∃ k : Nat, t.1 = (k : Int) /\ k <= p.length /\ t.2.length = k /\ ∀ (j : Nat) q, j < k -> p[j]? = some q -> ∃ x, t.2[j]? = some x /\ sS q.Bytes b x) (fun t => p.length - t.1.toNat) ?_ ⟨0, rfl, yL _, rfl, fun j q hj => absurd hj (by omega)⟩
 rintro ⟨x, out⟩ ⟨k, h1, h2, h3, h4⟩
 simp only at h1 h3 h4 ⊢
 subst h1
 unfold Cd.l1
 refine Ok.cond (fun hlt => ?_) fun hge => ?_
 ·have hk : k < p.length := by simp at hlt; exact hlt
  have hq : p[k]? = some p[k] := xK hk
  generalize p[k] = q at hq
  have hql := hp.2 q (xW hq)
  refine Ok.loop (fun t => ∃ i : Nat, t.2 = (i : Int) - 1 /\ i <= b.length /\ Fr q.Bytes b i t.1) (fun t => (t.2 + 1).toNat) ?_ ⟨b.length, Do (by omega), xX _, .inl ⟨rfl, fun j hj => ?_⟩⟩
  ·rintro ⟨y, z⟩ ⟨i, c1, c2, c3⟩
   simp only at c1 c3 ⊢
   subst c1
   unfold Cd.l2
   refine Ok.cond (fun hlt2 => ?_) fun hge2 => ?_
   ·have hi : 1 <= i := by have := xU hlt2; omega
    refine Ok.bindE (by rw [Bw]; exact hq) ?_
    refine Ok.bindE (a := At q.Bytes b (i - 1)) (by
     rw [show (i : Int) - 1 = ((i - 1 : Nat) : Int) by omega]
     exact hQ hb hql.2 (by omega)) ?_
    unfold Cd.j3
    have hm : (W ((i : Int) - 1 - 1) + 1).toNat < ((i : Int) - 1 + 1).toNat := by
     rw [Do (by omega)]
     omega
    refine Ok.cond (fun ht => Ok.ret ⟨⟨i - 1, ?_, by omega, .inr ⟨i - 1, by show (i : Int) - 1 = _; omega, xX _, ht, fun m h5 h6 => by omega⟩⟩, hm⟩) fun hf => Ok.ret ⟨⟨i - 1, ?_, by omega, ?_⟩, hm⟩
    ·show W ((i : Int) - 1 - 1) = _
     rw [Do (by omega)]
     omega
    ·show W ((i : Int) - 1 - 1) = _
     rw [Do (by omega)]
     omega
    ·have hst : ∀ m, i - 1 <= m -> i <= m \/ m = i - 1 := fun m hm => by omega
     rcases c3 with ⟨e1, e2⟩ | ⟨j, e1, e2, e3, e4⟩
     ·refine .inl ⟨e1, fun j hj => ?_⟩
      rcases hst j hj with h | h
      ·exact e2 j h
      ·rw [h]; exact hf
     ·refine .inr ⟨j, e1, by omega, e3, fun m h5 h6 => ?_⟩
      rcases hst m h5 with h | h
      ·exact e4 m h h6
      ·rw [h]; exact hf
   ·have hi : i = 0 := by have := yB hge2; omega
    subst hi
    refine Ok.up ?_
    refine Ok.bindE (Ey (by rw [yJ]; omega)) ?_
    refine Ok.ret ⟨⟨k + 1, Cl (by omega), hk, by simp [h3], fun j q' hj hq' => ?_⟩, ?_⟩
    ·rcases yY j k with hj' | hj'
     ·obtain ⟨x, a1, a2⟩ := h4 j q' hj' hq'
      exact ⟨x, by show (out ++ [y])[j]? = _; rw [yD (by omega)]; exact a1, a2⟩
     ·have : j = k := by omega
      subst this
      rw [hq] at hq'
      injection hq' with hq'
      subst hq'
      refine ⟨y, by show (out ++ [y])[j]? = _; rw [yE (by omega), h3, aBz]; rfl, ?_⟩
      rcases c3 with ⟨e1, e2⟩ | ⟨m, e1, e2, e3, e4⟩
      ·exact .inl ⟨e1, fun j => e2 j (yL _)⟩
      ·exact .inr ⟨m, e1, e3, fun i hi => e4 i (yL _) hi⟩
    ·show p.length - (W ((k : Int) + 1)).toNat < _
     rw [Cl (by omega)]
     omega
  ·cases hc' : At q.Bytes b j with
   | false => rfl
   | true => have := Zy hc'; omega
 ·have hk : k = p.length := by simp at hge; omega
  subst hk
  exact Ok.up (Ok.ret ⟨rfl, h3, fun k q hq => h4 k q (xM.1 hq).1 hq⟩)
theorem Ur (hl : Lo p) (hc : chk p = 0) (hb : b.length <= 4096) : ∃ r, Eg p b = some (r, 0) /\ Cd p b = some (r, 0) /\ eM p b r := by
 obtain ⟨⟨r, e⟩, h1, h2, h3⟩ := X3 (b := b) hl hc hb
 obtain ⟨s, h4, h5⟩ := Zw (b := b) (Nj hc) hb
 simp only at h2 h3
 subst h2
 refine ⟨r, ?_, h1, h3⟩
 unfold Eg
 rw [Ju hl, xJ, hc]
 rw [show (bif !decide ((0 : Int) = 0) then 0 else bif decide (4096 < (b.length : Int)) then 3 else 0 : Int) = 0 by
  rw [show (!decide ((0 : Int) = 0)) = false by decide, xP, xL (by omega)]; rfl]
 rw [show (!decide ((0 : Int) = 0)) = false by decide, xP, h4, xJ, h5.uniq h3]
end
end
end Go.Proofs.Ytfkgbfhpibiheaa
