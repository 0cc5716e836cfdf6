import Derived.Test.YtkoflhimdenjaaaGreatF5
import Derived.Test.YtkoflhimdenjaaaGreatME
set_option autoImplicit false
set_option linter.unusedVariables false
set_option linter.unusedSimpArgs false
namespace Go.Proofs.YtkoflhimdenjaaaGreat
open Go
theorem fK {S R : Type} {body : S -> Option (Lp S R)} (n : Nat) (G : Nat -> S) (r : Option R) (h1 : ∀ i, i < n -> body (G i) = some (.next (G (i + 1)))) (h2 : body (G n) = up r) : Ch body (G 0) = r := by
 have : ∀ k, k <= n -> Ch body (G 0) = Ch body (G k) := by
  intro k
  induction k with
  | zero => intro _; rfl
  | succ k ih => intro hk; rw [ih (by omega)]; exact Ey (h1 k (by omega))
 rw [this n (Nat.le_refl _)]
 exact Ed h2
def Sd (at' : Aa) (k : Int) (u : Aw) (n : Int) : Aa := ⟨at'.Source, at'.Host, at'.Machine, at'.Day, at'.Confidence, k, at'.Subject, u, n, ⟨#[]⟩⟩
def eD (at' : Aa) : Aa := Sd at' 4 ⟨0, 0⟩ 1
abbrev aAk := Int × Int × ByteArray × Int × Int × Int × Int × ByteArray × Int × Int × Int × ByteArray × List Aa
def eG (A : Aa) (l : List Aa) (i : Int) : aAk := (i, A.Source, A.Host, A.Machine, A.Day, A.Confidence, A.Kind, A.Subject, A.Use.Alg, A.Use.Bits, A.Number, A.Text, l)
theorem Zy (at' : Aa) (l : List Aa) (k : Int) (u : Aw) (n : Int) (hl : l.length <= 1000) : C7 ⟨eD at', l⟩ k u n = some ⟨eD at', l ++ [Sd at' k u n]⟩ := by
 unfold C7
 rw [Im (by show (l.length + 1) * 1232 <= _; omega)]
 rfl
theorem Rm {α R : Type} (at' : Aa) (X : List α) (kd : Int) (us : α -> Aw) (nm : α -> Int) {body : aAk -> Option (Lp aAk R)} {fin : List Aa -> Option R}
  (hb : ∀ (i : Int) l, body (eG (eD at') l i) = cond (decide (i < (X.length : Int))) ((B3 X i).bind fun x => (C7 ⟨eD at', l⟩ kd (us x) (nm x)).bind fun y => some (.next (eG y.at_ y.l (W (i + 1))))) (up (fin l)))
  (l : List Aa) (hl : l.length + X.length <= 1000) : Ch body (eG (eD at') l 0) = fin (l ++ X.map fun x => Sd at' kd (us x) (nm x)) := by
 refine (fK (body := body) X.length (fun i => eG (eD at') (l ++ (X.take i).map fun x => Sd at' kd (us x) (nm x)) (i : Int)) (fin (l ++ X.map fun x => Sd at' kd (us x) (nm x))) (fun i hi => ?_) ?_).symm.symm.trans rfl |> (fun h => by simpa [eG] using h)
 ·obtain ⟨x, hx⟩ : ∃ x, X[i]? = some x := ⟨_, List.getElem?_eq_getElem hi⟩
  rw [hb, H7 hx, Zy _ _ _ _ _ (by rw [List.length_append, List.length_map, List.length_take]; omega), Option.bind_some, Hu (by omega), Gn hx, List.map_append, List.append_assoc]
  rfl
 ·rw [hb, E9, List.take_length]
def fN (at' : Aa) (e : Ao) : List Aa :=
 ((([Sd at' 5 ⟨0, 0⟩ e.Least, Sd at' 4 ⟨0, 0⟩ e.Most] ++ e.Suites.map fun n => Sd at' 2 ⟨0, 0⟩ n) ++ e.Identities.map fun x => Sd at' 3 x.Key x.KeyId) ++ e.Anchors.map fun n => Sd at' 6 ⟨0, 0⟩ n) ++ e.Hashes.map fun n => Sd at' 1 ⟨n, 0⟩ 0
structure gS (e : Ao) : Prop where
 suites : e.Suites.length <= 50
 ids : e.Identities.length <= 50
 anchors : e.Anchors.length <= 50
 hashes : e.Hashes.length <= 50
theorem bA {at' : Aa} (h : Tk at') (k : Int) (u : Aw) (n : Int) : Tk (Sd at' k u n) := ⟨h.host, h.subj, by show (0 : Nat) <= _; omega⟩
theorem rS {at' : Aa} (h : Tk at') (e : Ao) : ∀ f ∈ fN at' e, Tk f := by
 intro f hf
 have : ∃ k u n, f = Sd at' k u n := by
  unfold fN at hf
  simp only [List.mem_append, List.mem_cons, List.not_mem_nil, or_false, List.mem_map] at hf
  rcases hf with (((((rfl | rfl) | ⟨_, -, rfl⟩) | ⟨_, -, rfl⟩) | ⟨_, -, rfl⟩) | ⟨_, -, rfl⟩) <;> exact ⟨_, _, _, rfl⟩
 obtain ⟨k, u, n, rfl⟩ := this
 exact bA h k u n
theorem gV (at' : Aa) {e : Ao} (h : gS e) : (fN at' e).length <= 202 := by
 have h1 := h.suites
 have h2 := h.ids
 have h3 := h.anchors
 have h4 := h.hashes
 unfold fN
 simp only [List.length_append, List.length_map, List.length_cons, List.length_nil]
 omega
noncomputable def Zw (at' : Aa) (e : Ao) : List Aa × Int :=
 bif Vu (eD at') then ([], 24) else bif decide (Bi e = some 0) then dT (fN at' e) else ([], 19)
theorem tN {at' : Aa} (h : Tk at') : Jg at' = some (⟨eD at', []⟩, R7 (eD at')) := by
 have := Xx (bA h 4 ⟨0, 0⟩ 1)
 unfold Jg
 show ((Bl (eD at')).bind _) = _
 rw [show Bl (eD at') = _ from this]
 rfl
theorem rJ {f : Aa} (h : Vu f = false) : R7 f = 0 := by
 unfold Vu at h
 simpa using h
theorem jS {at' : Aa} (h : Tk at') {e : Ao} (he : cX e) (hf : gS e) : Ba at' e = some (Zw at' e) := by
 have h1 := hf.suites
 have h2 := hf.ids
 have h3 := hf.anchors
 have h4 := hf.hashes
 unfold Ba Zw
 rw [tN h, Option.bind_some]
 cases hb : Vu (eD at') with
 | true =>
  rw [dN hb]
  rfl
 | false =>
  rw [rJ hb]
  obtain ⟨c, hc, hcv⟩ := Ny he
  rw [hc]
  show Ba.j1 e _ c = _
  unfold Ba.j1
  rw [cond_false]
  rcases hcv with ⟨rfl, -⟩ | ⟨rfl, -⟩
  ·rw [decide_eq_true rfl, decide_eq_true rfl, Bool.not_true, cond_false, cond_true]
   show ((C7 ⟨eD at', []⟩ 5 ⟨0, 0⟩ e.Least).bind _) = _
   rw [Zy _ _ _ _ _ (Nat.zero_le _), Option.bind_some, Zy _ _ _ _ _ (by show (1 : Nat) <= 1000; omega), Option.bind_some]
   refine (Rm at' e.Suites 2 (fun _ => ⟨0, 0⟩) (fun n => n) (fin := fun l => Ch (fun q' => Ba.l3 e q'.1 q'.2.1 q'.2.2.1 q'.2.2.2.1 q'.2.2.2.2.1 q'.2.2.2.2.2.1 q'.2.2.2.2.2.2.1 q'.2.2.2.2.2.2.2.1 q'.2.2.2.2.2.2.2.2.1 q'.2.2.2.2.2.2.2.2.2.1 q'.2.2.2.2.2.2.2.2.2.2.1 q'.2.2.2.2.2.2.2.2.2.2.2.1 q'.2.2.2.2.2.2.2.2.2.2.2.2) (eG (eD at') l 0)) (fun i l => rfl) _ (by simp; omega)).trans ?_
   refine (Rm at' e.Identities 3 (fun x => x.Key) (fun x => x.KeyId) (fin := fun l => Ch (fun q' => Ba.l4 e q'.1 q'.2.1 q'.2.2.1 q'.2.2.2.1 q'.2.2.2.2.1 q'.2.2.2.2.2.1 q'.2.2.2.2.2.2.1 q'.2.2.2.2.2.2.2.1 q'.2.2.2.2.2.2.2.2.1 q'.2.2.2.2.2.2.2.2.2.1 q'.2.2.2.2.2.2.2.2.2.2.1 q'.2.2.2.2.2.2.2.2.2.2.2.1 q'.2.2.2.2.2.2.2.2.2.2.2.2) (eG (eD at') l 0)) (fun i l => rfl) _ (by simp; omega)).trans ?_
   refine (Rm at' e.Anchors 6 (fun _ => ⟨0, 0⟩) (fun n => n) (fin := fun l => Ch (fun q' => Ba.l5 e q'.1 q'.2.1 q'.2.2.1 q'.2.2.2.1 q'.2.2.2.2.1 q'.2.2.2.2.2.1 q'.2.2.2.2.2.2.1 q'.2.2.2.2.2.2.2.1 q'.2.2.2.2.2.2.2.2.1 q'.2.2.2.2.2.2.2.2.2.1 q'.2.2.2.2.2.2.2.2.2.2.1 q'.2.2.2.2.2.2.2.2.2.2.2.1 q'.2.2.2.2.2.2.2.2.2.2.2.2) (eG (eD at') l 0)) (fun i l => rfl) _ (by simp; omega)).trans ?_
   refine (Rm at' e.Hashes 1 (fun n => ⟨n, 0⟩) (fun _ => 0) (fin := fun l => (Dh l).bind fun y => some (y.1, y.2)) (fun i l => rfl) _ (by simp; omega)).trans ?_
   show ((Dh (fN at' e)).bind _) = _
   rw [aCa _ (by have := gV at' hf; exact Nat.le_trans this (by omega)) (rS h e)]
   rfl
  ·rfl
end Go.Proofs.YtkoflhimdenjaaaGreat
