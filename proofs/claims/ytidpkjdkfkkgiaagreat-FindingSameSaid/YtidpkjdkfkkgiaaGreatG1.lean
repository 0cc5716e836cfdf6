import Derived.Test.YtidpkjdkfkkgiaaGreatF5
import Derived.Test.YtidpkjdkfkkgiaaGreatME
set_option autoImplicit false
set_option linter.unusedVariables false
set_option linter.unusedSimpArgs false
namespace Go.Proofs.YtidpkjdkfkkgiaaGreat
open Go
theorem M0 {S R : Type} {body : S -> Option (Lp S R)} (n : Nat) (G : Nat -> S) (r : Option R) (h1 : ∀ i, i < n -> body (G i) = some (.next (G (i + 1)))) (h2 : body (G n) = up r) : Cf body (G 0) = r := by
 have : ∀ k, k <= n -> Cf body (G 0) = Cf body (G k) := by
  intro k
  induction k with
  | zero => intro _; rfl
  | succ k ih => intro hk; rw [ih (by omega)]; exact Eo (h1 k (by omega))
 rw [this n (Nat.le_refl _)]
 exact Ea h2
def Oh (at' : Aa) (k : Int) (u : As) (n : Int) : Aa := ⟨at'.Source, at'.Host, at'.Machine, at'.Day, at'.Confidence, k, at'.Subject, u, n, ⟨#[]⟩⟩
def Sr (at' : Aa) : Aa := Oh at' 4 ⟨0, 0⟩ 1
abbrev xC := Int × Int × ByteArray × Int × Int × Int × Int × ByteArray × Int × Int × Int × ByteArray × List Aa
def fZ (A : Aa) (l : List Aa) (i : Int) : xC := (i, A.Source, A.Host, A.Machine, A.Day, A.Confidence, A.Kind, A.Subject, A.Use.Alg, A.Use.Bits, A.Number, A.Text, l)
theorem Qo (at' : Aa) (l : List Aa) (k : Int) (u : As) (n : Int) (hl : l.length <= 1000) : Cp ⟨Sr at', l⟩ k u n = some ⟨Sr at', l ++ [Oh at' k u n]⟩ := by
 unfold Cp
 rw [Hm (by show (l.length + 1) * 1232 <= _; omega)]
 rfl
theorem Sn {α R : Type} (at' : Aa) (X : List α) (kd : Int) (us : α -> As) (nm : α -> Int) {body : xC -> Option (Lp xC R)} {fin : List Aa -> Option R}
  (hb : ∀ (i : Int) l, body (fZ (Sr at') l i) = cond (decide (i < (X.length : Int))) ((B1 X i).bind fun x => (Cp ⟨Sr at', l⟩ kd (us x) (nm x)).bind fun y => some (.next (fZ y.at_ y.l (W (i + 1))))) (up (fin l)))
  (l : List Aa) (hl : l.length + X.length <= 1000) : Cf body (fZ (Sr at') l 0) = fin (l ++ X.map fun x => Oh at' kd (us x) (nm x)) := by
 refine (M0 (body := body) X.length (fun i => fZ (Sr at') (l ++ (X.take i).map fun x => Oh at' kd (us x) (nm x)) (i : Int)) (fin (l ++ X.map fun x => Oh at' kd (us x) (nm x))) (fun i hi => ?_) ?_).symm.symm.trans rfl |> (fun h => by simpa [fZ] using h)
 ·obtain ⟨x, hx⟩ : ∃ x, X[i]? = some x := ⟨_, List.getElem?_eq_getElem hi⟩
  rw [hb, H8 hx, Qo _ _ _ _ _ (by rw [List.length_append, List.length_map, List.length_take]; omega), Option.bind_some, Gq (by omega), F6 hx, List.map_append, List.append_assoc]
  rfl
 ·rw [hb, Ge, List.take_length]
def iW (at' : Aa) (e : A6) : List Aa :=
 ((([Oh at' 5 ⟨0, 0⟩ e.Least, Oh at' 4 ⟨0, 0⟩ e.Most] ++ e.Suites.map fun n => Oh at' 2 ⟨0, 0⟩ n) ++ e.Identities.map fun x => Oh at' 3 x.Key x.KeyId) ++ e.Anchors.map fun n => Oh at' 6 ⟨0, 0⟩ n) ++ e.Hashes.map fun n => Oh at' 1 ⟨n, 0⟩ 0
structure mR (e : A6) : Prop where
 suites : e.Suites.length <= 50
 ids : e.Identities.length <= 50
 anchors : e.Anchors.length <= 50
 hashes : e.Hashes.length <= 50
theorem Xg {at' : Aa} (h : Oz at') (k : Int) (u : As) (n : Int) : Oz (Oh at' k u n) := ⟨h.host, h.subj, by show (0 : Nat) <= _; omega⟩
theorem sG {at' : Aa} (h : Oz at') (e : A6) : ∀ f ∈ iW at' e, Oz f := by
 intro f hf
 have : ∃ k u n, f = Oh at' k u n := by
  unfold iW at hf
  simp only [List.mem_append, List.mem_cons, List.not_mem_nil, or_false, List.mem_map] at hf
  rcases hf with (((((rfl | rfl) | ⟨_, -, rfl⟩) | ⟨_, -, rfl⟩) | ⟨_, -, rfl⟩) | ⟨_, -, rfl⟩) <;> exact ⟨_, _, _, rfl⟩
 obtain ⟨k, u, n, rfl⟩ := this
 exact Xg h k u n
theorem jC (at' : Aa) {e : A6} (h : mR e) : (iW at' e).length <= 202 := by
 have h1 := h.suites
 have h2 := h.ids
 have h3 := h.anchors
 have h4 := h.hashes
 unfold iW
 simp only [List.length_append, List.length_map, List.length_cons, List.length_nil]
 omega
noncomputable def cY (at' : Aa) (e : A6) : List Aa × Int :=
 bif Sv (Sr at') then ([], 24) else bif decide (Bg e = some 0) then Y4 (iW at' e) else ([], 19)
theorem kF {at' : Aa} (h : Oz at') : Gu at' = some (⟨Sr at', []⟩, P9 (Sr at')) := by
 have := Ts (Xg h 4 ⟨0, 0⟩ 1)
 unfold Gu
 show ((Bd (Sr at')).bind _) = _
 rw [show Bd (Sr at') = _ from this]
 rfl
theorem jU {f : Aa} (h : Sv f = false) : P9 f = 0 := by
 unfold Sv at h
 simpa using h
theorem lR {at' : Aa} (h : Oz at') {e : A6} (he : qL e) (hf : mR e) : A9 at' e = some (cY at' e) := by
 have h1 := hf.suites
 have h2 := hf.ids
 have h3 := hf.anchors
 have h4 := hf.hashes
 unfold A9 cY
 rw [kF h, Option.bind_some]
 cases hb : Sv (Sr at') with
 | true =>
  rw [eO hb]
  rfl
 | false =>
  rw [jU hb]
  obtain ⟨c, hc, hcv⟩ := Oj he
  rw [hc]
  show A9.j1 e _ c = _
  unfold A9.j1
  rw [cond_false]
  rcases hcv with ⟨rfl, -⟩ | ⟨rfl, -⟩
  ·rw [decide_eq_true rfl, decide_eq_true rfl, Bool.not_true, cond_false, cond_true]
   show ((Cp ⟨Sr at', []⟩ 5 ⟨0, 0⟩ e.Least).bind _) = _
   rw [Qo _ _ _ _ _ (Nat.zero_le _), Option.bind_some, Qo _ _ _ _ _ (by show (1 : Nat) <= 1000; omega), Option.bind_some]
   refine (Sn at' e.Suites 2 (fun _ => ⟨0, 0⟩) (fun n => n) (fin := fun l => Cf (fun q' => A9.l3 e q'.1 q'.2.1 q'.2.2.1 q'.2.2.2.1 q'.2.2.2.2.1 q'.2.2.2.2.2.1 q'.2.2.2.2.2.2.1 q'.2.2.2.2.2.2.2.1 q'.2.2.2.2.2.2.2.2.1 q'.2.2.2.2.2.2.2.2.2.1 q'.2.2.2.2.2.2.2.2.2.2.1 q'.2.2.2.2.2.2.2.2.2.2.2.1 q'.2.2.2.2.2.2.2.2.2.2.2.2) (fZ (Sr at') l 0)) (fun i l => rfl) _ (by simp; omega)).trans ?_
   refine (Sn at' e.Identities 3 (fun x => x.Key) (fun x => x.KeyId) (fin := fun l => Cf (fun q' => A9.l4 e q'.1 q'.2.1 q'.2.2.1 q'.2.2.2.1 q'.2.2.2.2.1 q'.2.2.2.2.2.1 q'.2.2.2.2.2.2.1 q'.2.2.2.2.2.2.2.1 q'.2.2.2.2.2.2.2.2.1 q'.2.2.2.2.2.2.2.2.2.1 q'.2.2.2.2.2.2.2.2.2.2.1 q'.2.2.2.2.2.2.2.2.2.2.2.1 q'.2.2.2.2.2.2.2.2.2.2.2.2) (fZ (Sr at') l 0)) (fun i l => rfl) _ (by simp; omega)).trans ?_
   refine (Sn at' e.Anchors 6 (fun _ => ⟨0, 0⟩) (fun n => n) (fin := fun l => Cf (fun q' => A9.l5 e q'.1 q'.2.1 q'.2.2.1 q'.2.2.2.1 q'.2.2.2.2.1 q'.2.2.2.2.2.1 q'.2.2.2.2.2.2.1 q'.2.2.2.2.2.2.2.1 q'.2.2.2.2.2.2.2.2.1 q'.2.2.2.2.2.2.2.2.2.1 q'.2.2.2.2.2.2.2.2.2.2.1 q'.2.2.2.2.2.2.2.2.2.2.2.1 q'.2.2.2.2.2.2.2.2.2.2.2.2) (fZ (Sr at') l 0)) (fun i l => rfl) _ (by simp; omega)).trans ?_
   refine (Sn at' e.Hashes 1 (fun n => ⟨n, 0⟩) (fun _ => 0) (fin := fun l => (Ce l).bind fun y => some (y.1, y.2)) (fun i l => rfl) _ (by simp; omega)).trans ?_
   show ((Ce (iW at' e)).bind _) = _
   rw [vE _ (by have := jC at' hf; exact Nat.le_trans this (by omega)) (sG h e)]
   rfl
  ·rfl
end Go.Proofs.YtidpkjdkfkkgiaaGreat
