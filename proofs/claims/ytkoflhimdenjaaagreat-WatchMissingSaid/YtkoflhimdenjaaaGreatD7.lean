/- Plain texts, joined. No program is in sight here. -/
import Derived.Test.YtkoflhimdenjaaaGreatL3
import Derived.Test.YtkoflhimdenjaaaGreatC1
import Derived.Test.YtkoflhimdenjaaaGreatD1
set_option linter.unusedVariables false
set_option linter.unusedSimpArgs false
namespace Go.Proofs.YtkoflhimdenjaaaGreat
section
open Go
mutual
def Ae.sz : Ae -> Nat
 | .mk _ b _ es => b.length + S8 es + 1
def S8 : List Ae -> Nat
 | [] => 0
 | v :: vs => v.sz + S8 vs
end
theorem P8 (v : Ae) : v.sz = v.Bytes.length + S8 v.Elements + 1 := by cases v; rw [Ae.sz]
theorem aY : ∀ {es : List Ae} {d : Ae}, d ∈ es -> d.sz <= S8 es
 | v :: vs, d, h => by
  rw [S8]
  rcases List.mem_cons.1 h with rfl | h
  ·omega
  ·have := aY h; omega
theorem Tb : ∀ es : List Ae, es.length <= S8 es
 | [] => Nat.le_refl _
 | v :: vs => by
  have := Tb vs
  rw [S8, List.length_cons, P8]; omega
theorem Tv {v d : Ae} (h : d ∈ v.Elements) : d.sz < v.sz := by
 have := aY h
 rw [P8 v]; omega
theorem aE (l : List Ae) (h : S8 l < 1073741824) : Ca l = some l :=
 Ri Tp id S8 (fun l => S8 l < 1073741824) (fun rec l hl hr => by
  show Ca.F rec l = some l
  unfold Ca.F
  have hn := Tb l
  refine (Ov l.length (fun i => ((i : Int), l.take i)) l ?_ ?_).trans ?_
  ·intro i hi
   obtain ⟨e, he⟩ : ∃ e, l[i]? = some e := ⟨_, List.getElem?_eq_getElem hi⟩
   have h1 := aY (Ho he)
   have h2 := P8 e
   show Ca.l1 rec l (i : Int) (l.take i) = _
   unfold Ca.l1
   rw [H7 he, Im (by simp; omega)]
   simp only [List.nil_append, Option.bind_some]
   rw [hr e.Elements (by omega) (by omega)]
   simp only [id, Option.bind_some]
   rw [Im (by simp; omega), Hu (by omega), Gn he]
   cases e; rfl
  ·show Ca.l1 rec l (l.length : Int) (l.take l.length) = _
   unfold Ca.l1
   rw [E9, List.take_length]; rfl
  ·rfl) l h
theorem S1 (l : List Ae) (h : S8 l < 1073741824) : H4 l = some (.mk 48 [] true l) := by unfold H4; rw [aE l h]; rfl
theorem gD {n : Int} (h1 : 1 <= n) (h2 : n <= 255) : ∃ m : Fin 256, n = (m.val : Int) := ⟨⟨n.toNat, by omega⟩, by simp; omega⟩
theorem jK : ∀ m : Fin 256, (!decide ((m.val : Int).tmod 32 = 31)) = ((m.val : Int) % 32 != 31) := by decide +kernel
theorem kD : ∀ m : Fin 256, ((Lg (m.val : Int) 32).bind fun q => (R4 q 2).bind fun r => some (decide (r = 1))) = some (hX (m.val : Int)) := by decide +kernel
theorem kV (n : Int) : La n = some (eP n) := by
 unfold La eP
 by_cases h1 : 1 <= n
 ·by_cases h2 : n <= 255
  ·obtain ⟨m, rfl⟩ := gD h1 h2
   rw [<- jK m, decide_eq_true h1, decide_eq_true h2]; rfl
  ·simp [h1, h2]
 ·simp [h1]
theorem Ps {n : Int} (h : eP n = true) : 1 <= n /\ n <= 255 := by
 unfold eP at h
 simp only [Bool.and_eq_true, decide_eq_true_eq] at h
 exact ⟨h.1.1, h.1.2⟩
theorem Rn (v : Ae) : v.formed = (eP v.Tag && (v.Nested == hX v.Tag) && !(v.Nested && decide (0 < v.Bytes.length)) && !(!v.Nested && decide (0 < v.Elements.length)) && J2 v.Elements) := by cases v; rw [Ae.formed]
theorem dP (l : List Ae) : (!l.any fun v => !v.formed) = J2 l := by
 rw [Ph]
 induction l with
 | nil => rfl
 | cons v l ih => rw [List.any_cons, List.all_cons, <- ih]; cases v.formed <;> simp
theorem Zx (v : Ae) (h : v.sz < 1073741824) : Bn v = some v.formed :=
 Ri Tm Ae.formed Ae.sz (fun v => v.sz < 1073741824) (fun rec v hv hr => by
  show Bn.F rec v = some v.formed
  have hn := Tb v.Elements
  have h0 := P8 v
  have hj1 : Bn.j1 rec v true = some false := rfl
  have hj2 : Bn.j1 rec v false = some (J2 v.Elements) := by
   unfold Bn.j1
   have hl := Qp (body := fun q' => Bn.l2 rec v q') v.Elements (fun i => (i : Int)) (fun v => !v.formed) false true (fun i x hx => by
     have h1 := Tv (Ho hx)
     have h2 := I8 hx
     unfold Bn.l2
     rw [H7 hx, hr x (by omega) h1, Hu (by omega)]
     cases x.formed <;> rfl) (by unfold Bn.l2; rw [E9]; rfl)
   rw [cond_false]
   refine Eq.trans hl ?_
   rw [<- dP]
   cases v.Elements.any fun v => !v.formed <;> rfl
  unfold Bn.F
  rw [kV, hj1, hj2, Rn]
  cases ht : eP v.Tag
  ·rfl
  ·obtain ⟨m, hm⟩ := gD (Ps ht).1 (Ps ht).2
   have hq := kD m
   rw [hm]
   cases h1 : Lg (m.val : Int) 32 with
   | none => rw [h1] at hq; cases hq
   | some q =>
    rw [h1] at hq
    simp only [Option.bind_some] at hq
    cases h2 : R4 q 2 with
    | none => rw [h2] at hq; cases hq
    | some r =>
     rw [h2] at hq
     simp only [Option.bind_some, Option.some.injEq] at hq
     simp only [Option.bind_some, h2, hq]
     cases v.Nested <;> cases hX (m.val : Int) <;> by_cases hb : 0 < v.Bytes.length <;> by_cases he : 0 < v.Elements.length <;> simp [hb, he, hj1, hj2]) v h
theorem Q4 : ∀ es : List Ae, Ft es <= S8 es
 | [] => Nat.le_refl _
 | v :: vs => by
  obtain ⟨t, b, n, es⟩ := v
  have h1 := Q4 es
  have h2 := Q4 vs
  rw [Ft, S8, Ae.depth, Ae.sz]; omega
theorem nY (v : Ae) : v.depth <= v.sz := by
 obtain ⟨t, b, n, es⟩ := v
 have := Q4 es
 rw [Ae.depth, Ae.sz]; omega
theorem nX (v : Ae) : v.depth = Ft v.Elements + 1 := by cases v; rw [Ae.depth]
theorem cZ (v : Ae) (h : v.sz < 1073741824) : Cl v = some (v.depth : Int) :=
 Ri Va (fun v => (v.depth : Int)) Ae.sz (fun v => v.sz < 1073741824) (fun rec v hv hr => by
  show Cl.F rec v = some (v.depth : Int)
  unfold Cl.F
  have hn := Tb v.Elements
  have h0 := P8 v
  have hd := nY v
  have hq := nX v
  refine (Ov v.Elements.length (fun i => ((Ft (v.Elements.take i) : Int), (i : Int))) (v.depth : Int) ?_ ?_).trans ?_
  ·intro i hi
   obtain ⟨e, he⟩ : ∃ e, v.Elements[i]? = some e := ⟨_, List.getElem?_eq_getElem hi⟩
   have h1 := Tv (Ho he)
   show Cl.l1 rec v (Ft (v.Elements.take i) : Int) (i : Int) = _
   unfold Cl.l1
   rw [H7 he, hr e (by omega) h1, Hu (by omega), Sy he]
   simp only [Option.bind_some]
   congr 3
   omega
  ·show Cl.l1 rec v (Ft (v.Elements.take v.Elements.length) : Int) (v.Elements.length : Int) = _
   unfold Cl.l1
   rw [E9, List.take_length, Eh (by omega), hq]; rfl
  ·rfl) v h
end
section
open Go
theorem Z4 (m : Nat) : u8 (m : Int) = UInt8.ofNat m := by
 apply UInt8.toNat_inj.1
 have := dK (m : Int)
 rw [UInt8.toNat_ofNat']
 omega
theorem oF (n : Int) (k : Nat) : u8 (n / 256 ^ k) = Dg n k := rfl
theorem gT {k : IntKind} {x y : Int} (e : Nat) (hy : y = (e : Int)) (he : e <= k.bits) : Px k x y = some (x / 2 ^ e) := by
 subst hy
 unfold Px
 rw [if_neg (by omega), Int.toNat_natCast, Nat.min_eq_left he, Int.fdiv_eq_ediv_of_nonneg]
 exact Int.pow_nonneg (by omega)
theorem aA8 {x : Int} : Px .i64 x 8 = some (x / 256) := gT (k := .i64) 8 rfl (by decide)
theorem iL (n : Int) (k : Nat) : (kK n k).length = k := by unfold kK; simp
theorem Xn (x : Int) (y : UInt8) (r : List UInt8) : B5.l1 x (y :: r) = B5.j2 x (y :: r) (!((decide (x = 0) && decide ((y.toNat : Int) < 128)) || (decide (x = -1) && decide (128 <= (y.toNat : Int))))) := by
 have G : B3 (y :: r) 0 = some y := rfl
 unfold B5.l1
 by_cases h0 : x = 0
 ·have h1 : ¬ x = -1 := by omega
  by_cases c : (y.toNat : Int) < 128
  ·have c' : ¬ (128 : Int) <= (y.toNat : Int) := by omega
   simp [h0, G, c, c']
  ·have c' : (128 : Int) <= (y.toNat : Int) := by omega
   simp [h0, G, c, c']
 ·by_cases h1 : x = -1
  ·by_cases c : (y.toNat : Int) < 128
   ·have c' : ¬ (128 : Int) <= (y.toNat : Int) := by omega
    simp [h1, G, c, c']
   ·have c' : (128 : Int) <= (y.toNat : Int) := by omega
    simp [h1, G, c, c']
  ·simp [h0, h1]
theorem Z1 (n : Int) (h1 : -9223372036854775808 <= n) (h2 : n <= 9223372036854775807) : ∀ d k, k + d = 7 -> (∀ j, 1 <= j -> j <= k -> E3 n j = false) -> Ch (fun q' => B5.l1 q'.1 q'.2) (n / 256 ^ (k + 1), (kK n 8).drop (7 - k)) = some (Qx n) := by
 intro d
 induction d with
 | zero =>
  intro k hk hn
  obtain rfl : k = 7 := by omega
  have hf := (cE n h1 h2 7 (by omega)).1 rfl
  rw [Gz]
  dsimp only
  rw [Rr n 7 (by omega), Xn]
  have hs := cI n 7 (by omega) hn rfl
  have hc : ((decide (n / 256 ^ (7 + 1) = 0) && decide (((Dg n 7).toNat : Int) < 128)) || (decide (n / 256 ^ (7 + 1) = -1) && decide (128 <= ((Dg n 7).toNat : Int)))) = true := by simpa using hf
  rw [hc]
  show some (Ae.mk 2 (Dg n 7 :: (kK n 8).drop (8 - 7)) false []) = some (Qx n)
  unfold Qx
  rw [iJ n h1 h2, hs, <- Rr n 7 (by omega)]
 | succ d ih =>
  intro k hk hn
  have FI := cE n h1 h2 k (by omega)
  rw [Gz]
  dsimp only
  rw [Rr n k (by omega), Xn]
  cases hf : E3 n (k + 1) with
  | true =>
   have hs := cI n k (by omega) hn hf
   have hc : ((decide (n / 256 ^ (k + 1) = 0) && decide (((Dg n k).toNat : Int) < 128)) || (decide (n / 256 ^ (k + 1) = -1) && decide (128 <= ((Dg n k).toNat : Int)))) = true := by simpa using FI.1 hf
   rw [hc]
   show some (Ae.mk 2 (Dg n k :: (kK n 8).drop (8 - k)) false []) = some (Qx n)
   unfold Qx
   rw [iJ n h1 h2, hs, <- Rr n k (by omega), show 8 - (k + 1) = 7 - k by omega]
  | false =>
   have hc : ((decide (n / 256 ^ (k + 1) = 0) && decide (((Dg n k).toNat : Int) < 128)) || (decide (n / 256 ^ (k + 1) = -1) && decide (128 <= ((Dg n k).toNat : Int)))) = false := by
    cases hq : ((decide (n / 256 ^ (k + 1) = 0) && decide (((Dg n k).toNat : Int) < 128)) || (decide (n / 256 ^ (k + 1) = -1) && decide (128 <= ((Dg n k).toNat : Int)))) with
    | false => rfl
    | true =>
     have := FI.2 (by simpa using hq)
     rw [hf] at this; cases this
   rw [hc]
   have e := ih (k + 1) (by omega) fun j a b => by
    rcases Nat.lt_or_ge k j with h | h
    ·obtain rfl : j = k + 1 := by omega
     exact hf
    ·exact hn j a h
   rw [Rr n (k + 1) (by omega), show 8 - (k + 1) = 7 - k by omega, <- mO] at e
   unfold B5.j2
   rw [Bool.not_false, cond_true, Im (by simp [iL]; omega), aA8, <- Rr n k (by omega)]
   exact e
theorem Kz (n : Int) (h1 : -9223372036854775808 <= n) (h2 : n <= 9223372036854775807) : B5 n = some (Qx n) := by
 unfold B5
 rw [aA8]
 have := Z1 n h1 h2 7 0 (by omega) (fun j a b => by omega)
 rw [show (kK n 8).drop (7 - 0) = [Dg n 0] by rw [be8]; rfl] at this
 rw [Option.bind_some, show u8 n = Dg n 0 by rw [<- oF]; simp]
 exact this
theorem Pl (n : Int) : (Qx n).sz <= 9 := by
 unfold Qx
 rw [P8]
 have h := dO (kK n 8)
 rw [iL] at h
 show (nF n).length + S8 [] + 1 <= 9
 unfold nF
 rw [S8]; omega
end
section
open Go
mutual
theorem gC : ∀ v : Ae, v.sz < 67108864 -> v.put.length <= 8 * v.sz
 | .mk t b n es, h => by
  rw [Ae.sz] at h ⊢
  have h1 := U9 es (by omega)
  rw [Ae.put]
  cases n
  ·have h2 := Zv (n := b.length) (by omega)
   simp; omega
  ·have h2 := Zv (n := (Fy es).length) (by omega)
   simp; omega
theorem U9 : ∀ es : List Ae, S8 es < 67108864 -> (Fy es).length <= 8 * S8 es
 | [], _ => by simp [Fy]
 | v :: vs, h => by
  rw [S8] at h ⊢
  have h1 := gC v (by omega)
  have h2 := U9 vs (by omega)
  rw [Fy, List.length_append]; omega
end
theorem cH (n k : Nat) (hk : 0 < k) : R4 (n : Int) (k : Int) = some ((n % k : Nat) : Int) := by
 unfold R4
 rw [if_neg (by omega), Int.tmod_eq_emod_of_nonneg (by omega)]; rfl
theorem oS (n k : Nat) (hk : 0 < k) (hn : n < 4611686018427387904) : Lg (n : Int) (k : Int) = some ((n / k : Nat) : Int) := by
 unfold Lg
 have : n / k <= n := Nat.div_le_self n k
 rw [if_neg (by omega), Int.tdiv_eq_ediv_of_nonneg (by omega), show ((n : Int) / (k : Int)) = ((n / k : Nat) : Int) from rfl, aC5 (by omega)]
theorem aK (n : Nat) : ∀ (b : List UInt8), n < 281474976710656 -> tY n + b.length <= 1000 -> Ch (fun q' => Dq.l1 q'.1 q'.2) ((n : Int), b) = some (UInt8.ofNat (128 + (be n ++ b).length) :: (be n ++ b)) := by
 induction n using Nat.strongRecOn with
 | _ n ih =>
  intro b hn hb
  rcases Nat.eq_zero_or_pos n with h0 | h0
  ·subst h0
   refine Zf ?_
   show Dq.l1 ((0 : Nat) : Int) b = _
   unfold Dq.l1
   rw [decide_eq_false (by omega), cond_false, Eh (by omega), Im (by simp; omega), show (128 : Int) + (b.length : Int) = ((128 + b.length : Nat) : Int) by omega, Z4, aCs]
   rfl
  ·have hc := hG h0
   have e := ih (n / 256) (Nat.div_lt_self h0 (by omega)) ([UInt8.ofNat (n % 256)] ++ b) (Nat.lt_of_le_of_lt (Nat.div_le_self n 256) hn) (by simp; omega)
   refine (Ey (s' := (((n / 256 : Nat) : Int), [UInt8.ofNat (n % 256)] ++ b)) ?_).trans (e.trans ?_)
   ·show Dq.l1 (n : Int) b = _
    unfold Dq.l1
    rw [decide_eq_true (by omega), cond_true, show (256 : Int) = ((256 : Nat) : Int) from rfl, cH n 256 (by omega), Option.bind_some, Im (by simp; omega), Option.bind_some, oS n 256 (by omega) (by omega), Option.bind_some, Z4]
   ·rw [oO h0]
    simp
theorem aD {n : Nat} (hn : n < 281474976710656) : Dq (n : Int) = some (gI n) := by
 unfold Dq gI
 by_cases h : n < 128
 ·rw [decide_eq_true (by omega), if_pos h, Z4]; rfl
 ·rw [decide_eq_false (by omega), if_neg h, cond_false]
  have hc := mK 6 n (by simpa using hn)
  refine (aK n [] hn (by simp; omega)).trans ?_
  rw [List.append_nil]; rfl
end
section
open Go
theorem dF (v : Ae) : v.put = UInt8.ofNat (v.Tag.toNat % 256) :: (gI v.body.length ++ v.body) := by cases v; exact aAm _ _ _ _
theorem rH (v : Ae) : v.body = if v.Nested then Fy v.Elements else v.Bytes := by cases v; rfl
theorem sI (v : Ae) (h : v.sz < 67108864) : v.body.length <= 8 * v.sz := by
 have h1 := gC v h
 rw [dF] at h1
 simp at h1
 omega
theorem gO {v : Ae} (h : v.formed = true) : u8 v.Tag = UInt8.ofNat (v.Tag.toNat % 256) := by
 rw [Rn] at h
 simp only [Bool.and_eq_true] at h
 obtain ⟨m, hm⟩ := gD (Ps h.1.1.1.1).1 (Ps h.1.1.1.1).2
 rw [hm, Z4, Int.toNat_natCast, Nat.mod_eq_of_lt m.2]
theorem fM {v : Ae} (h : v.formed = true) : v.Bytes ++ Fy v.Elements = v.body := by
 rw [Rn] at h
 simp only [Bool.and_eq_true] at h
 obtain ⟨⟨⟨-, h1⟩, h2⟩, -⟩ := h
 rw [rH]
 cases hn : v.Nested with
 | true =>
  rw [hn] at h1
  have : v.Bytes = [] := List.eq_nil_of_length_eq_zero (by simp at h1; simpa using h1)
  rw [this]; rfl
 | false =>
  rw [hn] at h2
  have : v.Elements = [] := List.eq_nil_of_length_eq_zero (by simp at h2; simpa using h2)
  rw [this]; simp [Fy]
theorem fI {v e : Ae} (h : v.formed = true) (he : e ∈ v.Elements) : e.formed = true := by
 rw [Rn] at h
 simp only [Bool.and_eq_true] at h
 have := h.2
 rw [Ph, List.all_eq_true] at this
 exact this e he
def Fit (v : Ae) : Prop := v.formed = true /\ v.sz < 67108864
theorem Fit.elem {v e : Ae} (h : Fit v) (he : e ∈ v.Elements) : Fit e := ⟨fI h.1 he, Nat.lt_trans (Tv he) h.2⟩
theorem Wa {v : Ae} (h : Fit v) (i : Nat) : (Fy (v.Elements.take i)).length <= 536870912 := by
 have h1 := Wx (es := v.Elements) i
 have h0 := P8 v
 have h2 := h.2
 have h3 := U9 v.Elements (by omega)
 omega
theorem kB (v : Ae) (h : Fit v) : Cz v = some v.put :=
 Ri W5 Ae.put Ae.sz Fit (fun rec v hv hr => by
  show Cz.F rec v = some v.put
  unfold Cz.F
  have hn := Tb v.Elements
  have h0 := P8 v
  have hz := hv.2
  rw [Im (by simp; omega), List.nil_append, Option.bind_some]
  refine Eq.trans (congrArg (Ch _) ?_) (Ov v.Elements.length (fun i => ((i : Int), v.Bytes ++ Fy (v.Elements.take i))) v.put ?_ ?_)
  ·simp [Fy]
  ·intro i hi
   obtain ⟨e, he⟩ : ∃ e, v.Elements[i]? = some e := ⟨_, List.getElem?_eq_getElem hi⟩
   have h1 := Tv (Ho he)
   have h2 := Wa hv i
   have h3 := gC e (by omega)
   show Cz.l1 rec v (i : Int) (v.Bytes ++ Fy (v.Elements.take i)) = _
   unfold Cz.l1
   rw [H7 he, hr e (hv.elem (Ho he)) h1, Option.bind_some, Im (by simp; omega), Hu (by omega), Uo he, List.append_assoc]
   rfl
  ·show Cz.l1 rec v (v.Elements.length : Int) (v.Bytes ++ Fy (v.Elements.take v.Elements.length)) = _
   have h4 := sI v hz
   have h5 := Zv (n := v.body.length) (by omega)
   unfold Cz.l1
   rw [E9, List.take_length, fM hv.1, aD (by omega), Option.bind_some, Im (by simp; omega), Option.bind_some, Im (by simp; omega), Option.bind_some, gO hv.1, dF]
   simp [up]) v h
def qE (v : Ae) : List UInt8 × Int := if v.formed then (if 16 < v.depth then ([], 3) else if 4096 < v.put.length then ([], 3) else (v.put, 0)) else ([], 1)
theorem bH (v : Ae) (h : v.sz < 67108864) : Jd v = some (qE v) := by
 unfold Jd qE
 rw [Zx v (by omega), Option.bind_some]
 cases hf : v.formed with
 | false => rfl
 | true =>
  rw [Bool.not_true, cond_false, if_pos rfl, cZ v (by omega), Option.bind_some]
  by_cases hd : 16 < v.depth
  ·rw [decide_eq_true (by omega), if_pos hd]; rfl
  ·rw [decide_eq_false (by omega), if_neg hd, cond_false, kB v ⟨hf, h⟩, Option.bind_some]
   by_cases hl : 4096 < v.put.length
   ·rw [decide_eq_true (by omega), if_pos hl]; rfl
   ·rw [decide_eq_false (by omega), if_neg hl]; rfl
end
end Go.Proofs.YtkoflhimdenjaaaGreat
