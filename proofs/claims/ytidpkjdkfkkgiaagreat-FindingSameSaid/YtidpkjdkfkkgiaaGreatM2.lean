import Derived.Test.YtidpkjdkfkkgiaaGreatS0
import Derived.Test.YtidpkjdkfkkgiaaGreatM1
set_option linter.unusedVariables false
set_option linter.unusedSimpArgs false
set_option maxRecDepth 100000
namespace Go.Proofs.YtidpkjdkfkkgiaaGreat
open Go
theorem Xt {a : Int} {l : List Int} (h : l.all (fun b => Mb ⟨a, b⟩ 2) = true) {b : Int} (hb : b ∈ l) : Mb ⟨a, b⟩ 2 = true := List.all_eq_true.1 h b hb
def eG (u : As) : Prop := SmU u /\ Mb u 2 = true
theorem tG {d : Ad} (h : Mu d) : Ok (No d) (fun y => eG y.1 /\ Mu y.2) := by
 unfold No
 refine Ok.bind (L3 h _ (by decide) (by decide)) fun y hy => ?_
 obtain ⟨a, d1⟩ := y
 obtain ⟨ha, hd⟩ := hy
 have hsz := tK hd a
 have hsa : Sm a := We (by decide) ha
 have O : ∀ l : List Int, 1 <= l.length -> l.length <= 1000 -> l.all (fun b => Mb ⟨a, b⟩ 2) = true -> Ok ((Cb d1 l).bind fun y => some (y.1, y.2)) (fun y => Mb ⟨a, y.1⟩ 2 = true) := fun l h1 h2 h3 =>
  Ok.bind (L3 hd l h1 h2) fun y hy => Ok.ret (Xt h3 hy.1)
 have key : Ok (B7 d1 a) (fun y => Mb ⟨a, y.1⟩ 2 = true) := by
  simp only [List.mem_cons, List.not_mem_nil, or_false] at ha
  rcases ha with rfl | rfl | rfl | rfl | rfl | rfl
  ·exact O [2048, 1024, 512, 3072, 1023, 4096, 16384] (by decide) (by decide) (by decide)
  ·exact O [256, 160, 224, 384, 521] (by decide) (by decide) (by decide)
  ·exact O [2048, 1024, 512, 3072, 1023, 4096, 16384] (by decide) (by decide) (by decide)
  ·exact O [2048, 1024, 512, 3072, 1023, 4096, 16384] (by decide) (by decide) (by decide)
  ·exact Ok.ret (a := ((0 : Int), d1)) (show Mb ⟨8, 0⟩ 2 = true by decide)
  ·exact O [65, 44, 87] (by decide) (by decide) (by decide)
 refine Ok.bind (hsz.and key) fun z hz => Ok.ret ⟨⟨⟨hsa, hz.1.1⟩, hz.2⟩, hz.1.2⟩
theorem Xl (a b : ByteArray) : Im (a ++ b) = Im a ++ Im b := by
 unfold Im
 rw [ByteArray.data_append, Array.toList_append]
theorem Y2 : ∀ (a : List UInt8) (x : UInt8) (b : List UInt8), K1 a (a ++ x :: b) = true
 | [], _, _ => rfl
 | y :: a, x, b => by
  show (decide (y < y) || (y == y && K1 a (a ++ x :: b))) = true
  rw [Y2 a x b]; simp
theorem rX {s : ByteArray} (h : Et s = true) (hs : s.size <= 31) : Et (s ++ ⟨#[120]⟩) = true := by
 unfold Et at *
 rw [Xl, ByteArray.size_append, List.any_append]
 have h1 : (⟨#[120]⟩ : ByteArray).size = 1 := rfl
 simp only [Bool.and_eq_true, decide_eq_true_eq, Bool.not_eq_true'] at h ⊢
 refine ⟨⟨by omega, by omega⟩, ?_⟩
 rw [h.2]
 decide
theorem rP {s : ByteArray} (h : Et s = true) : Kp [s] = true := by
 have e : Kp [s] = !(!Et s || false || false) := rfl
 rw [e, h]; rfl
theorem oH {s t : ByteArray} (h : Et s = true) (h2 : Et t = true) (h3 : K1 (Im s) (Im t) = true) : Kp [s, t] = true := by
 have e : Kp [s, t] = !((!Et s || false) || ((!Et t || (true && !K1 (Im s) (Im t))) || false)) := rfl
 rw [e, h, h2, h3]; rfl
theorem aA {c : Af} : Gx c = true ↔ ((0 <= c.Serial /\ c.Serial <= 1099511627776) /\ Et c.Issuer = true /\ Et c.Subject = true /\ Kp c.Names = true /\ (c.Names.length : Int) <= 8 /\ Mb c.Key 2 = true /\ (0 <= c.KeyId /\ c.KeyId <= 2147483648) /\ Mb c.Hash 1 = true /\ (0 <= c.Seal.Key /\ c.Seal.Key <= 2147483648) /\ (0 <= c.Seal.Sum /\ c.Seal.Sum < 4294967296) /\ (0 <= c.From /\ c.From <= c.To /\ c.To <= 40000) /\ (0 <= c.Path /\ c.Path <= 8) /\ (c.Authority = true \/ c.Path = 0)) := by
 unfold Gx Uv
 simp only [List.any_cons, List.any_nil, id, Bool.not_eq_true', Bool.or_eq_false_iff, decide_eq_false_iff_not, Bool.not_eq_false', Bool.and_eq_false_iff, decide_eq_true_eq, Bool.or_false]
 constructor
 ·rintro ⟨h1, h2, h3, h4, h5, h6, h7, h8, h9, h10, h11, h12, h13, h14, h15, h16, h17, h18, h19, h20⟩
  exact ⟨⟨by omega, by omega⟩, h3, h4, h5, by omega, h7, ⟨by omega, by omega⟩, h10, ⟨by omega, by omega⟩, ⟨by omega, by omega⟩, ⟨by omega, by omega, by omega⟩, ⟨by omega, by omega⟩, h20⟩
 ·rintro ⟨⟨h1, h2⟩, h3, h4, h5, h6, h7, ⟨h8, h9⟩, h10, ⟨h11, h12⟩, ⟨h13, h14⟩, ⟨h15, h16, h17⟩, ⟨h18, h19⟩, h20⟩
  exact ⟨by omega, by omega, h3, h4, h5, by omega, h7, by omega, by omega, h10, by omega, by omega, by omega, by omega, by omega, by omega, by omega, by omega, by omega, h20⟩
theorem dA {c : Af} (h : Gx (Ww c) = true) {s : D4} (h1 : 0 <= s.Key /\ s.Key <= 2147483648) (h2 : 0 <= s.Sum /\ s.Sum < 4294967296) : Gx (Y8 c s) = true := by
 rw [aA] at h ⊢
 obtain ⟨a1, a2, a3, a4, a5, a6, a7, a8, -, -, a11, a12, a13⟩ := h
 exact ⟨a1, a2, a3, a4, a5, a6, a7, a8, h1, h2, a11, a12, a13⟩
theorem aEp : (0 : Int) <= 0 /\ (0 : Int) <= 2147483648 := by omega
theorem aEf : (0 : Int) <= 0 /\ (0 : Int) < 4294967296 := by omega
structure qP (issuer subject : ByteArray) (key : As) (id signer : Int) (authority : Bool) (c : Af) : Prop where
 fit : Qd c
 ok : Gx c = true
 serial : 0 <= c.Serial /\ c.Serial < 1000
 issuer_ : c.Issuer = issuer
 subject_ : c.Subject = subject
 key_ : c.Key = key
 id_ : c.KeyId = id
 hash : c.Hash.Alg ∈ ([3, 2, 4, 1] : List Int) /\ c.Hash.Bits = 0
 from_ : c.From ∈ ([0, 5, 10] : List Int)
 to_ : c.To ∈ ([1000, 100, 50, 20] : List Int)
 auth : c.Authority = authority
 path : c.Path ∈ ([3, 0, 1] : List Int) /\ (authority = false -> c.Path = 0)
 names : c.Names = [subject] \/ c.Names = [subject, subject ++ ⟨#[120]⟩]
 seal_ : c.Seal = ⟨signer, Zk (Nx (Ww c)).1⟩
theorem fQ {d : Ad} (h : Mu d) {issuer subject : ByteArray} {key : As} {id signer : Int} (authority : Bool) (hi : Et issuer = true) (hs : Et subject = true) (hs31 : subject.size <= 31) (hk : eG key) (hid : 0 <= id /\ id <= 2147483648) (hsg : 0 <= signer /\ signer <= 2147483648) : Ok (By d issuer subject key id signer authority) (fun y => qP issuer subject key id signer authority y.1 /\ Mu y.2) := by
 have hi32 := P5 hi
 unfold By
 refine Ok.bind (Gp h 1000 (by omega) (by omega)) fun y1 h1 => ?_
 refine Ok.bind (L3 h1.2 _ (by decide) (by decide)) fun y2 h2 => ?_
 refine Ok.bind (L3 h2.2 _ (by decide) (by decide)) fun y3 h3 => ?_
 refine Ok.bind (L3 h3.2 _ (by decide) (by decide)) fun y4 h4 => ?_
 have i2 := (We (by decide) h2.1).i64
 have i3 := (We (by decide) h3.1).i64
 have i4 := (We (by decide) h4.1).i64
 have i1 : Rg y1.1 := by have := h1.1; unfold Rg; omega
 have hx1 : (⟨#[120]⟩ : ByteArray).size = 1 := rfl
 have j2 : ∀ (p : Int) (d' : Ad) (l : List ByteArray), p ∈ ([3, 0, 1] : List Int) -> (authority = false -> p = 0) -> Mu d' -> (l = [subject] \/ l = [subject, subject ++ ⟨#[120]⟩]) -> Ok (By.j2 issuer subject key id signer authority y1 y2 y3 y4 p d' l) (fun y => qP issuer subject key id signer authority y.1 /\ Mu y.2) := by
  intro p d' l hp hp0 hd hl
  have ip : Rg p := (We (by decide) hp).i64
  have ll : l.length <= 2 := by rcases hl with rfl | rfl <;> simp
  have ln : ∀ s ∈ l, s.size <= 2000 := by
   rcases hl with rfl | rfl
   ·intro s hs; rw [List.mem_singleton.1 hs]; omega
   ·intro s hs
    simp only [List.mem_cons, List.not_mem_nil, or_false] at hs
    rcases hs with rfl | rfl
    ·omega
    ·rw [ByteArray.size_append]; omega
  unfold By.j2
  have hf : Qd (Af.mk y1.1 issuer subject key id (As.mk y2.1 0) y3.1 y4.1 authority p l (D4.mk 0 0)) := nQ (by show l.length < 1000000000; omega) (fun s hs => by have := ln s hs; omega) (by show issuer.size <= _; omega) (by show subject.size <= _; omega) i1 hk.1.1.i64 hk.1.2.i64 (show Rg id by unfold Rg; omega) i2 dO i3 i4 ip dO dO
  have hv : Gx (Af.mk y1.1 issuer subject key id (As.mk y2.1 0) y3.1 y4.1 authority p l (D4.mk 0 0)) = true := by
   rw [aA]
   have t1 := h1.1
   refine ⟨⟨t1.1, by dsimp only; omega⟩, hi, hs, ?_, by dsimp only; omega, hk.2, hid, ?_, aEp, aEf, ?_, ?_, ?_⟩
   ·rcases hl with rfl | rfl
    ·exact rP hs
    ·exact oH hs (rX hs hs31) (by rw [Xl]; exact Y2 _ 120 [])
   ·have : ([3, 2, 4, 1] : List Int).all (fun a => Mb ⟨a, 0⟩ 1) = true := by decide
    exact List.all_eq_true.1 this _ h2.1
   ·have t3 := h3.1
    have t4 := h4.1
    simp only [List.mem_cons, List.not_mem_nil, or_false] at t3 t4
    dsimp only
    omega
   ·simp only [List.mem_cons, List.not_mem_nil, or_false] at hp
    dsimp only
    omega
   ·cases ha : authority with
    | true => exact .inl rfl
    | false => exact .inr (hp0 ha)
  refine Ok.bindE (qO _ hf signer) ?_
  have e : jN (Af.mk y1.1 issuer subject key id (As.mk y2.1 0) y3.1 y4.1 authority p l (D4.mk 0 0)) signer = (Y8 (Af.mk y1.1 issuer subject key id (As.mk y2.1 0) y3.1 y4.1 authority p l (D4.mk 0 0)) ⟨signer, Zk (Nx (Af.mk y1.1 issuer subject key id (As.mk y2.1 0) y3.1 y4.1 authority p l (D4.mk 0 0))).1⟩, 0) := by
   unfold jN
   have : Gx (Ww (Af.mk y1.1 issuer subject key id (As.mk y2.1 0) y3.1 y4.1 authority p l (D4.mk 0 0))) = true := hv
   rw [this, decide_eq_true hsg.1, decide_eq_true hsg.2]; rfl
  rw [e]
  have hr := gF (Nx (Af.mk y1.1 issuer subject key id (As.mk y2.1 0) y3.1 y4.1 authority p l (D4.mk 0 0))).1
  exact Ok.ret ⟨⟨Xx hf (show Rg signer by unfold Rg; omega) (pU _), dA (c := Af.mk y1.1 issuer subject key id (As.mk y2.1 0) y3.1 y4.1 authority p l (D4.mk 0 0)) hv hsg hr, h1.1, rfl, rfl, rfl, rfl, ⟨h2.1, rfl⟩, h3.1, h4.1, rfl, ⟨hp, hp0⟩, hl, rfl⟩, hd⟩
 have j1 : ∀ (p : Int) (d' : Ad), p ∈ ([3, 0, 1] : List Int) -> (authority = false -> p = 0) -> Mu d' -> Ok (By.j1 issuer subject key id signer authority y1 y2 y3 y4 d' p) (fun y => qP issuer subject key id signer authority y.1 /\ Mu y.2) := by
  intro p d' hp hp0 hd
  unfold By.j1
  refine Ok.bind (Y6 hd 3 (by omega) (by omega)) fun y hy => ?_
  refine Ok.cond (fun _ => ?_) fun _ => ?_
  ·refine Ok.bind (sY (by omega)) fun s hs' => ?_
   refine Ok.bind (Ju (by simp)) fun l hl => ?_
   subst hl hs'
   exact j2 p y.2 _ hp hp0 hy (.inr rfl)
  ·exact j2 p y.2 _ hp hp0 hy (.inl rfl)
 cases ha : authority with
 | true =>
  rw [ha] at j1
  rw [cond_true]
  refine Ok.bind (L3 h4.2 _ (by decide) (by decide)) fun y5 h5 => ?_
  exact j1 _ _ h5.1 (fun h => by cases h) h5.2
 | false =>
  rw [ha] at j1
  rw [cond_false]
  exact j1 _ _ (by decide) (fun _ => rfl) h4.2
end Go.Proofs.YtidpkjdkfkkgiaaGreat
