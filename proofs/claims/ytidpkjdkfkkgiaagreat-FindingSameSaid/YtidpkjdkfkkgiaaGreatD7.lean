/- Plain texts, joined. No program is in sight here. -/
import Derived.Test.YtidpkjdkfkkgiaaGreatL3
import Derived.Test.YtidpkjdkfkkgiaaGreatC1
import Derived.Test.YtidpkjdkfkkgiaaGreatD1
set_option linter.unusedVariables false
set_option linter.unusedSimpArgs false
namespace Go.Proofs.YtidpkjdkfkkgiaaGreat
section
open Go
mutual
def Ah.sz : Ah -> Nat
 | .mk _ b _ es => b.length + Tx es + 1
def Tx : List Ah -> Nat
 | [] => 0
 | v :: vs => v.sz + Tx vs
end
theorem Qs (v : Ah) : v.sz = v.Bytes.length + Tx v.Elements + 1 := by cases v; rw [Ah.sz]
theorem cF : ∀ {es : List Ah} {d : Ah}, d ∈ es -> d.sz <= Tx es
 | v :: vs, d, h => by
  rw [Tx]
  rcases List.mem_cons.1 h with rfl | h
  ·omega
  ·have := cF h; omega
theorem Un : ∀ es : List Ah, es.length <= Tx es
 | [] => Nat.le_refl _
 | v :: vs => by
  have := Un vs
  rw [Tx, List.length_cons, Qs]; omega
theorem Uh {v d : Ah} (h : d ∈ v.Elements) : d.sz < v.sz := by
 have := cF h
 rw [Qs v]; omega
theorem dB (l : List Ah) (h : Tx l < 1073741824) : Cj l = some l :=
 Sc U1 id Tx (fun l => Tx l < 1073741824) (fun rec l hl hr => by
  show Cj.F rec l = some l
  unfold Cj.F
  have hn := Un l
  refine (O9 l.length (fun i => ((i : Int), l.take i)) l ?_ ?_).trans ?_
  ·intro i hi
   obtain ⟨e, he⟩ : ∃ e, l[i]? = some e := ⟨_, List.getElem?_eq_getElem hi⟩
   have h1 := cF (Ja he)
   have h2 := Qs e
   show Cj.l1 rec l (i : Int) (l.take i) = _
   unfold Cj.l1
   rw [H8 he, Hm (by simp; omega)]
   simp only [List.nil_append, Option.bind_some]
   rw [hr e.Elements (by omega) (by omega)]
   simp only [id, Option.bind_some]
   rw [Hm (by simp; omega), Gq (by omega), F6 he]
   cases e; rfl
  ·show Cj.l1 rec l (l.length : Int) (l.take l.length) = _
   unfold Cj.l1
   rw [Ge, List.take_length]; rfl
  ·rfl) l h
theorem Ti (l : List Ah) (h : Tx l < 1073741824) : Ie l = some (.mk 48 [] true l) := by unfold Ie; rw [dB l h]; rfl
theorem hO {n : Int} (h1 : 1 <= n) (h2 : n <= 255) : ∃ m : Fin 256, n = (m.val : Int) := ⟨⟨n.toNat, by omega⟩, by simp; omega⟩
theorem mC : ∀ m : Fin 256, (!decide ((m.val : Int).tmod 32 = 31)) = ((m.val : Int) % 32 != 31) := by decide +kernel
theorem lX : ∀ m : Fin 256, ((Ly (m.val : Int) 32).bind fun q => (Vl q 2).bind fun r => some (decide (r = 1))) = some (kG (m.val : Int)) := by decide +kernel
theorem lH (n : Int) : Lr n = some (gT n) := by
 unfold Lr gT
 by_cases h1 : 1 <= n
 ·by_cases h2 : n <= 255
  ·obtain ⟨m, rfl⟩ := hO h1 h2
   rw [<- mC m, decide_eq_true h1, decide_eq_true h2]; rfl
  ·simp [h1, h2]
 ·simp [h1]
theorem Qm {n : Int} (h : gT n = true) : 1 <= n /\ n <= 255 := by
 unfold gT at h
 simp only [Bool.and_eq_true, decide_eq_true_eq] at h
 exact ⟨h.1.1, h.1.2⟩
theorem Se (v : Ah) : v.formed = (gT v.Tag && (v.Nested == kG v.Tag) && !(v.Nested && decide (0 < v.Bytes.length)) && !(!v.Nested && decide (0 < v.Elements.length)) && Kj v.Elements) := by cases v; rw [Ah.formed]
theorem fC (l : List Ah) : (!l.any fun v => !v.formed) = Kj l := by
 rw [P6]
 induction l with
 | nil => rfl
 | cons v l ih => rw [List.any_cons, List.all_cons, <- ih]; cases v.formed <;> simp
theorem bL (v : Ah) (h : v.sz < 1073741824) : Bl v = some v.formed :=
 Sc Ul Ah.formed Ah.sz (fun v => v.sz < 1073741824) (fun rec v hv hr => by
  show Bl.F rec v = some v.formed
  have hn := Un v.Elements
  have h0 := Qs v
  have hj1 : Bl.j1 rec v true = some false := rfl
  have hj2 : Bl.j1 rec v false = some (Kj v.Elements) := by
   unfold Bl.j1
   have hl := Rp (body := fun q' => Bl.l2 rec v q') v.Elements (fun i => (i : Int)) (fun v => !v.formed) false true (fun i x hx => by
     have h1 := Uh (Ja hx)
     have h2 := Oq hx
     unfold Bl.l2
     rw [H8 hx, hr x (by omega) h1, Gq (by omega)]
     cases x.formed <;> rfl) (by unfold Bl.l2; rw [Ge]; rfl)
   rw [cond_false]
   refine Eq.trans hl ?_
   rw [<- fC]
   cases v.Elements.any fun v => !v.formed <;> rfl
  unfold Bl.F
  rw [lH, hj1, hj2, Se]
  cases ht : gT v.Tag
  ·rfl
  ·obtain ⟨m, hm⟩ := hO (Qm ht).1 (Qm ht).2
   have hq := lX m
   rw [hm]
   cases h1 : Ly (m.val : Int) 32 with
   | none => rw [h1] at hq; cases hq
   | some q =>
    rw [h1] at hq
    simp only [Option.bind_some] at hq
    cases h2 : Vl q 2 with
    | none => rw [h2] at hq; cases hq
    | some r =>
     rw [h2] at hq
     simp only [Option.bind_some, Option.some.injEq] at hq
     simp only [Option.bind_some, h2, hq]
     cases v.Nested <;> cases kG (m.val : Int) <;> by_cases hb : 0 < v.Bytes.length <;> by_cases he : 0 < v.Elements.length <;> simp [hb, he, hj1, hj2]) v h
theorem Rz : ∀ es : List Ah, Gg es <= Tx es
 | [] => Nat.le_refl _
 | v :: vs => by
  obtain ⟨t, b, n, es⟩ := v
  have h1 := Rz es
  have h2 := Rz vs
  rw [Gg, Tx, Ah.depth, Ah.sz]; omega
theorem pQ (v : Ah) : v.depth <= v.sz := by
 obtain ⟨t, b, n, es⟩ := v
 have := Rz es
 rw [Ah.depth, Ah.sz]; omega
theorem rB (v : Ah) : v.depth = Gg v.Elements + 1 := by cases v; rw [Ah.depth]
theorem dJ (v : Ah) (h : v.sz < 1073741824) : Cu v = some (v.depth : Int) :=
 Sc U6 (fun v => (v.depth : Int)) Ah.sz (fun v => v.sz < 1073741824) (fun rec v hv hr => by
  show Cu.F rec v = some (v.depth : Int)
  unfold Cu.F
  have hn := Un v.Elements
  have h0 := Qs v
  have hd := pQ v
  have hq := rB v
  refine (O9 v.Elements.length (fun i => ((Gg (v.Elements.take i) : Int), (i : Int))) (v.depth : Int) ?_ ?_).trans ?_
  ·intro i hi
   obtain ⟨e, he⟩ : ∃ e, v.Elements[i]? = some e := ⟨_, List.getElem?_eq_getElem hi⟩
   have h1 := Uh (Ja he)
   show Cu.l1 rec v (Gg (v.Elements.take i) : Int) (i : Int) = _
   unfold Cu.l1
   rw [H8 he, hr e (by omega) h1, Gq (by omega), Tq he]
   simp only [Option.bind_some]
   congr 3
   omega
  ·show Cu.l1 rec v (Gg (v.Elements.take v.Elements.length) : Int) (v.Elements.length : Int) = _
   unfold Cu.l1
   rw [Ge, List.take_length, Ee (by omega), hq]; rfl
  ·rfl) v h
end
section
open Go
theorem cL (m : Nat) : u8 (m : Int) = UInt8.ofNat m := by
 apply UInt8.toNat_inj.1
 have := fL (m : Int)
 rw [UInt8.toNat_ofNat']
 omega
theorem mT (n : Int) (k : Nat) : u8 (n / 256 ^ k) = Dz n k := rfl
theorem sH {k : IntKind} {x y : Int} (e : Nat) (hy : y = (e : Int)) (he : e <= k.bits) : Ov k x y = some (x / 2 ^ e) := by
 subst hy
 unfold Ov
 rw [if_neg (by omega), Int.toNat_natCast, Nat.min_eq_left he, Int.fdiv_eq_ediv_of_nonneg]
 exact Int.pow_nonneg (by omega)
theorem aB7 {x : Int} : Ov .i64 x 8 = some (x / 256) := sH (k := .i64) 8 rfl (by decide)
theorem kD (n : Int) (k : Nat) : (lE n k).length = k := by unfold lE; simp
theorem Yp (x : Int) (y : UInt8) (r : List UInt8) : Ca.l1 x (y :: r) = Ca.j2 x (y :: r) (!((decide (x = 0) && decide ((y.toNat : Int) < 128)) || (decide (x = -1) && decide (128 <= (y.toNat : Int))))) := by
 have G : B1 (y :: r) 0 = some y := rfl
 unfold Ca.l1
 by_cases h0 : x = 0
 ·have h1 : ¬ x = -1 := by omega
  by_cases c : (y.toNat : Int) < 128
  ·have c' : ¬ (128 : Int) <= (y.toNat : Int) := by omega
   simp [h0, G, c, c']
  ·have c' : (128 : Int) <= (y.toNat : Int) := by omega
   simp [h0, G, c, c']
 ·by_cases h1 : x = -1
  ·by_cases c : (y.toNat : Int) < 128
   ·have c' : ¬ (128 : Int) <= (y.toNat : Int) := by omega
    simp [h1, G, c, c']
   ·have c' : (128 : Int) <= (y.toNat : Int) := by omega
    simp [h1, G, c, c']
  ·simp [h0, h1]
theorem bM (n : Int) (h1 : -9223372036854775808 <= n) (h2 : n <= 9223372036854775807) : ∀ d k, k + d = 7 -> (∀ j, 1 <= j -> j <= k -> Fp n j = false) -> Cf (fun q' => Ca.l1 q'.1 q'.2) (n / 256 ^ (k + 1), (lE n 8).drop (7 - k)) = some (Rf n) := by
 intro d
 induction d with
 | zero =>
  intro k hk hn
  obtain rfl : k = 7 := by omega
  have hf := (eN n h1 h2 7 (by omega)).1 rfl
  rw [Hn]
  dsimp only
  rw [Sd n 7 (by omega), Yp]
  have hs := dK n 7 (by omega) hn rfl
  have hc : ((decide (n / 256 ^ (7 + 1) = 0) && decide (((Dz n 7).toNat : Int) < 128)) || (decide (n / 256 ^ (7 + 1) = -1) && decide (128 <= ((Dz n 7).toNat : Int)))) = true := by simpa using hf
  rw [hc]
  show some (Ah.mk 2 (Dz n 7 :: (lE n 8).drop (8 - 7)) false []) = some (Rf n)
  unfold Rf
  rw [kL n h1 h2, hs, <- Sd n 7 (by omega)]
 | succ d ih =>
  intro k hk hn
  have FI := eN n h1 h2 k (by omega)
  rw [Hn]
  dsimp only
  rw [Sd n k (by omega), Yp]
  cases hf : Fp n (k + 1) with
  | true =>
   have hs := dK n k (by omega) hn hf
   have hc : ((decide (n / 256 ^ (k + 1) = 0) && decide (((Dz n k).toNat : Int) < 128)) || (decide (n / 256 ^ (k + 1) = -1) && decide (128 <= ((Dz n k).toNat : Int)))) = true := by simpa using FI.1 hf
   rw [hc]
   show some (Ah.mk 2 (Dz n k :: (lE n 8).drop (8 - k)) false []) = some (Rf n)
   unfold Rf
   rw [kL n h1 h2, hs, <- Sd n k (by omega), show 8 - (k + 1) = 7 - k by omega]
  | false =>
   have hc : ((decide (n / 256 ^ (k + 1) = 0) && decide (((Dz n k).toNat : Int) < 128)) || (decide (n / 256 ^ (k + 1) = -1) && decide (128 <= ((Dz n k).toNat : Int)))) = false := by
    cases hq : ((decide (n / 256 ^ (k + 1) = 0) && decide (((Dz n k).toNat : Int) < 128)) || (decide (n / 256 ^ (k + 1) = -1) && decide (128 <= ((Dz n k).toNat : Int)))) with
    | false => rfl
    | true =>
     have := FI.2 (by simpa using hq)
     rw [hf] at this; cases this
   rw [hc]
   have e := ih (k + 1) (by omega) fun j a b => by
    rcases Nat.lt_or_ge k j with h | h
    ·obtain rfl : j = k + 1 := by omega
     exact hf
    ·exact hn j a h
   rw [Sd n (k + 1) (by omega), show 8 - (k + 1) = 7 - k by omega, <- mY] at e
   unfold Ca.j2
   rw [Bool.not_false, cond_true, Hm (by simp [kD]; omega), aB7, <- Sd n k (by omega)]
   exact e
theorem Ld (n : Int) (h1 : -9223372036854775808 <= n) (h2 : n <= 9223372036854775807) : Ca n = some (Rf n) := by
 unfold Ca
 rw [aB7]
 have := bM n h1 h2 7 0 (by omega) (fun j a b => by omega)
 rw [show (lE n 8).drop (7 - 0) = [Dz n 0] by rw [be8]; rfl] at this
 rw [Option.bind_some, show u8 n = Dz n 0 by rw [<- mT]; simp]
 exact this
theorem Qa (n : Int) : (Rf n).sz <= 9 := by
 unfold Rf
 rw [Qs]
 have h := eC (lE n 8)
 rw [kD] at h
 show (rH n).length + Tx [] + 1 <= 9
 unfold rH
 rw [Tx]; omega
end
section
open Go
mutual
theorem gH : ∀ v : Ah, v.sz < 67108864 -> v.put.length <= 8 * v.sz
 | .mk t b n es, h => by
  rw [Ah.sz] at h ⊢
  have h1 := Vb es (by omega)
  rw [Ah.put]
  cases n
  ·have h2 := aX (n := b.length) (by omega)
   simp; omega
  ·have h2 := aX (n := (Gl es).length) (by omega)
   simp; omega
theorem Vb : ∀ es : List Ah, Tx es < 67108864 -> (Gl es).length <= 8 * Tx es
 | [], _ => by simp [Gl]
 | v :: vs, h => by
  rw [Tx] at h ⊢
  have h1 := gH v (by omega)
  have h2 := Vb vs (by omega)
  rw [Gl, List.length_append]; omega
end
theorem mX (n k : Nat) (hk : 0 < k) : Vl (n : Int) (k : Int) = some ((n % k : Nat) : Int) := by
 unfold Vl
 rw [if_neg (by omega), Int.tmod_eq_emod_of_nonneg (by omega)]; rfl
theorem pN (n k : Nat) (hk : 0 < k) (hn : n < 4611686018427387904) : Ly (n : Int) (k : Int) = some ((n / k : Nat) : Int) := by
 unfold Ly
 have : n / k <= n := Nat.div_le_self n k
 rw [if_neg (by omega), Int.tdiv_eq_ediv_of_nonneg (by omega), show ((n : Int) / (k : Int)) = ((n / k : Nat) : Int) from rfl, aC3 (by omega)]
theorem cV (n : Nat) : ∀ (b : List UInt8), n < 281474976710656 -> uX n + b.length <= 1000 -> Cf (fun q' => D6.l1 q'.1 q'.2) ((n : Int), b) = some (UInt8.ofNat (128 + (be n ++ b).length) :: (be n ++ b)) := by
 induction n using Nat.strongRecOn with
 | _ n ih =>
  intro b hn hb
  rcases Nat.eq_zero_or_pos n with h0 | h0
  ·subst h0
   refine aB ?_
   show D6.l1 ((0 : Nat) : Int) b = _
   unfold D6.l1
   rw [decide_eq_false (by omega), cond_false, Ee (by omega), Hm (by simp; omega), show (128 : Int) + (b.length : Int) = ((128 + b.length : Nat) : Int) by omega, cL, aB2]
   rfl
  ·have hc := kB h0
   have e := ih (n / 256) (Nat.div_lt_self h0 (by omega)) ([UInt8.ofNat (n % 256)] ++ b) (Nat.lt_of_le_of_lt (Nat.div_le_self n 256) hn) (by simp; omega)
   refine (Eo (s' := (((n / 256 : Nat) : Int), [UInt8.ofNat (n % 256)] ++ b)) ?_).trans (e.trans ?_)
   ·show D6.l1 (n : Int) b = _
    unfold D6.l1
    rw [decide_eq_true (by omega), cond_true, show (256 : Int) = ((256 : Nat) : Int) from rfl, mX n 256 (by omega), Option.bind_some, Hm (by simp; omega), Option.bind_some, pN n 256 (by omega) (by omega), Option.bind_some, cL]
   ·rw [rL h0]
    simp
theorem bC {n : Nat} (hn : n < 281474976710656) : D6 (n : Int) = some (iG n) := by
 unfold D6 iG
 by_cases h : n < 128
 ·rw [decide_eq_true (by omega), if_pos h, cL]; rfl
 ·rw [decide_eq_false (by omega), if_neg h, cond_false]
  have hc := qZ 6 n (by simpa using hn)
  refine (cV n [] hn (by simp; omega)).trans ?_
  rw [List.append_nil]; rfl
end
section
open Go
theorem dL (v : Ah) : v.put = UInt8.ofNat (v.Tag.toNat % 256) :: (iG v.body.length ++ v.body) := by cases v; exact wC _ _ _ _
theorem tU (v : Ah) : v.body = if v.Nested then Gl v.Elements else v.Bytes := by cases v; rfl
theorem sJ (v : Ah) (h : v.sz < 67108864) : v.body.length <= 8 * v.sz := by
 have h1 := gH v h
 rw [dL] at h1
 simp at h1
 omega
theorem iK {v : Ah} (h : v.formed = true) : u8 v.Tag = UInt8.ofNat (v.Tag.toNat % 256) := by
 rw [Se] at h
 simp only [Bool.and_eq_true] at h
 obtain ⟨m, hm⟩ := hO (Qm h.1.1.1.1).1 (Qm h.1.1.1.1).2
 rw [hm, cL, Int.toNat_natCast, Nat.mod_eq_of_lt m.2]
theorem gQ {v : Ah} (h : v.formed = true) : v.Bytes ++ Gl v.Elements = v.body := by
 rw [Se] at h
 simp only [Bool.and_eq_true] at h
 obtain ⟨⟨⟨-, h1⟩, h2⟩, -⟩ := h
 rw [tU]
 cases hn : v.Nested with
 | true =>
  rw [hn] at h1
  have : v.Bytes = [] := List.eq_nil_of_length_eq_zero (by simp at h1; simpa using h1)
  rw [this]; rfl
 | false =>
  rw [hn] at h2
  have : v.Elements = [] := List.eq_nil_of_length_eq_zero (by simp at h2; simpa using h2)
  rw [this]; simp [Gl]
theorem iE {v e : Ah} (h : v.formed = true) (he : e ∈ v.Elements) : e.formed = true := by
 rw [Se] at h
 simp only [Bool.and_eq_true] at h
 have := h.2
 rw [P6, List.all_eq_true] at this
 exact this e he
def Fit (v : Ah) : Prop := v.formed = true /\ v.sz < 67108864
theorem Fit.elem {v e : Ah} (h : Fit v) (he : e ∈ v.Elements) : Fit e := ⟨iE h.1 he, Nat.lt_trans (Uh he) h.2⟩
theorem Wx {v : Ah} (h : Fit v) (i : Nat) : (Gl (v.Elements.take i)).length <= 536870912 := by
 have h1 := Zc (es := v.Elements) i
 have h0 := Qs v
 have h2 := h.2
 have h3 := Vb v.Elements (by omega)
 omega
theorem mM (v : Ah) (h : Fit v) : Dj v = some v.put :=
 Sc Zf Ah.put Ah.sz Fit (fun rec v hv hr => by
  show Dj.F rec v = some v.put
  unfold Dj.F
  have hn := Un v.Elements
  have h0 := Qs v
  have hz := hv.2
  rw [Hm (by simp; omega), List.nil_append, Option.bind_some]
  refine Eq.trans (congrArg (Cf _) ?_) (O9 v.Elements.length (fun i => ((i : Int), v.Bytes ++ Gl (v.Elements.take i))) v.put ?_ ?_)
  ·simp [Gl]
  ·intro i hi
   obtain ⟨e, he⟩ : ∃ e, v.Elements[i]? = some e := ⟨_, List.getElem?_eq_getElem hi⟩
   have h1 := Uh (Ja he)
   have h2 := Wx hv i
   have h3 := gH e (by omega)
   show Dj.l1 rec v (i : Int) (v.Bytes ++ Gl (v.Elements.take i)) = _
   unfold Dj.l1
   rw [H8 he, hr e (hv.elem (Ja he)) h1, Option.bind_some, Hm (by simp; omega), Gq (by omega), U7 he, List.append_assoc]
   rfl
  ·show Dj.l1 rec v (v.Elements.length : Int) (v.Bytes ++ Gl (v.Elements.take v.Elements.length)) = _
   have h4 := sJ v hz
   have h5 := aX (n := v.body.length) (by omega)
   unfold Dj.l1
   rw [Ge, List.take_length, gQ hv.1, bC (by omega), Option.bind_some, Hm (by simp; omega), Option.bind_some, Hm (by simp; omega), Option.bind_some, iK hv.1, dL]
   simp [up]) v h
def nM (v : Ah) : List UInt8 × Int := if v.formed then (if 16 < v.depth then ([], 3) else if 4096 < v.put.length then ([], 3) else (v.put, 0)) else ([], 1)
theorem cS (v : Ah) (h : v.sz < 67108864) : Jr v = some (nM v) := by
 unfold Jr nM
 rw [bL v (by omega), Option.bind_some]
 cases hf : v.formed with
 | false => rfl
 | true =>
  rw [Bool.not_true, cond_false, if_pos rfl, dJ v (by omega), Option.bind_some]
  by_cases hd : 16 < v.depth
  ·rw [decide_eq_true (by omega), if_pos hd]; rfl
  ·rw [decide_eq_false (by omega), if_neg hd, cond_false, mM v ⟨hf, h⟩, Option.bind_some]
   by_cases hl : 4096 < v.put.length
   ·rw [decide_eq_true (by omega), if_pos hl]; rfl
   ·rw [decide_eq_false (by omega), if_neg hl]; rfl
end
end Go.Proofs.YtidpkjdkfkkgiaaGreat
