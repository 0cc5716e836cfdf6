import Derived.Test.YtfkgbfhpibiheaaEG
set_option linter.unusedVariables false
set_option linter.unusedSimpArgs false
namespace Go.Proofs.Ytfkgbfhpibiheaa
open Go.RowKit
def aC (k : IntKind) (n : Nat) (l : List Int) : List C := (G0 n l).map (.int k)
def aD (k : IntKind) (n : Nat) (l : List Int) : List DV := (G0 n l).map fun x => .val (.int k x)
theorem N8 {α : Type} [Inhabited α] (n : Nat) (l : List α) : (G0 n l).length = n := by simp [G0]
theorem fT {α : Type} [Inhabited α] {n : Nat} {l : List α} (h : l.length = n) : G0 n l = l := by
 subst h
 refine List.ext_getElem (by simp [G0]) fun i h1 h2 => ?_
 simp [G0, h2]
theorem Yb {n : Nat} {l : List Int} {j : Nat} {v : Int} : G0 n (Bi (G0 n l) j v) = Bi (G0 n l) j v := fT (by simp [Bi, N8])
theorem Ph (k : IntKind) (n : Nat) (l : List Int) : (aC k n l).length = n := by simp [aC, N8]
theorem aO (k : IntKind) (n : Nat) (l : List Int) : (aD k n l).length = n := by simp [aD, N8]
theorem G8 {n : Nat} {l : List Int} {j : Nat} {x : Int} (h : (G0 n l)[j]? = some x) : j < n := by
 have := (xM.1 h).1
 rwa [N8] at this
section
variable {k : IntKind} {n : Nat} {l : List Int} {j i : Nat} {x v : Int}
theorem tW {r : List C} (h : (G0 n l)[j]? = some x) : (aC k n l ++ r)[j]? = some (.int k x) := by
 rw [yD (by rw [Ph]; exact G8 h)]
 unfold aC
 rw [zF, h]
 rfl
theorem Oo {r : List C} {c : C} (h : r[i]? = some c) : (aC k n l ++ r)[n + i]? = some c := by
 rw [yE (by rw [Ph]; omega), Ph, zQ]
 exact h
theorem Wa {α : Type} {a r : List α} {y : α} (h : j < a.length) : Ca (a ++ r) j [y] = a.set j y ++ r := by
 unfold Ca
 rw [aAf (by omega), aAl, if_pos h, yJ, aAz (by omega)]
 simp
theorem Zi {α : Type} {a r r' xs : List α} (h : Ca r i xs = r') : Ca (a ++ r) (a.length + i) xs = a ++ r' := by
 subst h
 unfold Ca
 rw [aA4, yG (by omega), zQ, Nat.add_assoc, List.drop_append, List.drop_eq_nil_of_le (by omega), zQ]
 simp
theorem kG {α : Type} {a r r' : List α} {y : α} (h : r.set i y = r') : (a ++ r).set (a.length + i) y = a ++ r' := by
 subst h
 rw [aCf _ _ (by omega), zQ]
theorem eD {r : List C} (h : (G0 n l)[j]? = some x) : Ca (aC k n l ++ r) j [.int k v] = aC k n (Bi (G0 n l) j v) ++ r := by
 rw [Wa (by rw [Ph]; exact G8 h)]
 unfold aC
 rw [Yb]
 simp [Bi, List.map_set]
theorem Tg {r r' xs : List C} (h : Ca r i xs = r') : Ca (aC k n l ++ r) (n + i) xs = aC k n l ++ r' := by
 have := Zi (a := aC k n l) h
 rwa [Ph] at this
theorem R1 {r r' : List C} {y : C} (h : r.set i y = r') : (aC k n l ++ r).set (n + i) y = aC k n l ++ r' := by
 have := kG (a := aC k n l) h
 rwa [Ph] at this
theorem bV {σ : St} {θ : Nat -> Option Nat} : ∀ {L : List Int} {a b : List DV}, Lr σ θ a b -> Lr σ θ (L.map (fun x => .val (.int k x)) ++ a) (L.map (fun x => .val (.int k x)) ++ b)
 | [], _, _, h => h
 | _ :: L, _, _, h => .cons (.val _) (bV (L := L) h)
theorem jP {σ : St} {θ : Nat -> Option Nat} {a b : List DV} (h : Lr σ θ a b) : Lr σ θ (aD k n l ++ a) (aD k n l ++ b) := bV h
theorem Yi : ∀ {L : List Int} {ks : List (Option Nat)} {a : List DV} {b : List C}, Fb ks a b -> Fb (List.replicate L.length none ++ ks) (L.map (fun x => .val (.int k x)) ++ a) (L.map (.int k) ++ b)
 | [], _, _, _, h => h
 | _ :: L, _, _, _, h => .cons .int (Yi (L := L) h)
theorem uD {ks : List (Option Nat)} {a : List DV} {b : List C} (h : Fb ks a b) : Fb (List.replicate n none ++ ks) (aD k n l ++ a) (aC k n l ++ b) := by
 have := Yi (k := k) (L := G0 n l) h
 rwa [N8] at this
theorem mX {r : List DV} (h : r.all Oh = true) : (aD k n l ++ r).all Oh = true := by
 rw [List.all_append, h, Bool.and_true, yO]
 intro d hd
 obtain ⟨x, -, rfl⟩ := yW.1 hd
 rfl
end
section
variable {P : Program} {np tk : Nat} {ty : TypeId} {env : Vw} {t : TypeId} {X Y : Operand} {k : IntKind} {n : Nat} {l : List Int} {j : Nat} {x v : Int} {b2 : Option LB}
theorem Zu {z : List Value} {ds : List DV} (h : Zt P t z) (hz : z.map DV.val = ds) : Ex P tk (.alloc t) ty [] [] (J2 tk (.box ds t) (.ptr tk 0)) := by
 subst hz
 exact .alloc h
theorem eO {ds : List DV} {bt kk sz : Nat} (ht : Ty P t true sz) (h : ds.length = sz) : Ex P tk (.load t X) ty [(.ptr kk 0, some (.box ds bt))] [] (v0 (.agg ds)) := by
 have := Ex.loadBA (P := P) (tk := tk) (x := X) (ty := ty) (k := kk) (i := 0) (ds := ds) (bt := bt) ht (by omega)
 rwa [aBv, yG (by omega)] at this
theorem fZ {r : List DV} {bt kk : Nat} (ht : Ty P t false 1) (h : (G0 n l)[j]? = some x) : Ex P tk (.store t X Y) ty [(.ptr kk (0 + j * 1), some (.box (aD k n l ++ r) bt)), (.val (.int k v), b2)] [kk] (aV kk (.box (aD k n (Bi (G0 n l) j v) ++ r) bt)) := by
 refine Uz ht rfl (by have := G8 h; rw [xS, aO]; omega) rfl ?_
 show Ca _ _ [DV.val (.int k v)] = _
 rw [zC, aBr, Wa (by rw [aO]; exact G8 h)]
 unfold aD
 rw [Yb]
 simp [Bi, List.map_set]
variable {α : Type} {f : α -> List C} {sz : Nat} {y y' : α} {L : List α} {q : Nat}
theorem kR {r : List DV} : (aD k n l ++ r).length = n + r.length := by rw [xS, aO]
theorem S1 {o : Nat} (h : (G0 n l)[j]? = some x) (h1 : n <= o) (h2 : o < sz) : (q * sz + 0 + j * 1) % sz ≠ o := by
 have := G8 h
 exact aH (of := j) (by omega) (by omega) (j := q) (by omega)
theorem L8 {r : List C} (hf : ∀ x, (f x).length = sz) (hy : L[q]? = some y) (hr : f y = aC k n l ++ r) (h : (G0 n l)[j]? = some x) : (As f L)[q * sz + 0 + j * 1]? = some (.int k x) :=
 C8 hf hy (o := j) (by rw [hr]; exact tW h) (by omega)
theorem W0 {r : List C} {o e2 sz2 s kk e : Nat} {hh : Option Nat} (hf : ∀ x, (f x).length = sz) (ht : Ty P t false 1) (hy : L[q]? = some y) (hr : f y = aC k n l ++ r) (h : (G0 n l)[j]? = some x) (h1 : n <= o) (h2 : o < sz) (hk : kk ∈ env.map (·.1)) (hr' : f y' = aC k n (Bi (G0 n l) j v) ++ r) :
  ExtR P np tk (.store t X Y) ty [(.ptr kk (q * sz + 0 + j * 1), some (.tree e sz o e2 sz2 s hh (As f L))), (.val (.int k v), b2)] env [kk] (fun e' => e' = O2 kk (.tree e sz o e2 sz2 s hh (As f (Bi L q y'))) none) := by
 have hlt := G8 h
 refine Yo (ck := [none]) (cs' := [.int k v]) ht rfl (Eb hf hy (o := j) (by omega) (by omega)) (cC (of := j) (by omega) (.inr (by omega)) (j := q) (by omega)) (.cons .int .nil) hk (Hv hf hy (o := j) (x' := y') (by show j + 1 <= sz; omega) ?_ (by omega))
 rw [hr, hr']
 exact eD h
theorem W5 {r : List C} (hf : ∀ x, (f x).length = sz) (hy : L[q]? = some y) (hr : f y = aC k n l ++ r) (h : (G0 n l)[j]? = some x) : ((As f L).drop (q * sz + 0))[j]? = some (.int k x) := by
 rw [yP]
 have := L8 (q := q) (j := j) hf hy hr h
 rwa [aBr] at this
theorem fP {ds ds2 : List DV} {bt kk : Nat} {m : Nat} (ht : Ty P t true m) (h1 : ds.length = m) (h2 : ds2.length = m) (ho : ds2.all Oh = true) : Ex P tk (.store t X Y) ty [(.ptr kk 0, some (.box ds bt)), (.agg ds2, b2)] [kk] (aV kk (.box ds2 bt)) :=
 Uz ht h2 (by omega) ho (by
  show Ca ds 0 ds2 = ds2
  unfold Ca
  rw [aCc, aBi, List.drop_eq_nil_of_le (by omega), aAm])
variable {bytes : Nat} {e : TypeId}
theorem rE {kk : Nat} {i : Int} {kd : IntKind} {m : List α} {b : Option LB} (hS : Fs P t e sz bytes) (hf : ∀ x, (f x).length = sz) (h : Si L i (L.length : Int) = some m) (hk : kk ∈ env.map (·.1)) (hnp : Nat.ble np kk = true) :
  ExtR P np tk (.slice t X (some Y) none none) ty [(.row kk, some (.que e sz (As f L))), (.val (.int kd i), b)] env [kk] (fun e' => e' = Hn tk (.que e sz (As f m)) [kk] (.row tk)) := by
 obtain ⟨h1, h2, h3, rfl⟩ : 0 <= i /\ i.toNat <= L.length /\ True /\ m = L.drop i.toNat := by
  have hle := jE h
  unfold Si at h
  split at h
  ·rename_i hc
   injection h with h
   refine ⟨by omega, by omega, trivial, ?_⟩
   rw [<- h]
   rw [yG]
   simp
  ·cases h
 have e1 : i = (i.toNat : Int) := by omega
 have := ExtR.sliQ (P := P) (np := np) (tk := tk) (x := X) (y := Y) (ty := ty) (env := env) (k := kk) (kk := kd) (b := b) (l := i.toNat) (n := L.length) hS (D5 hf L) h2 hk hnp
 rw [<- e1] at this
 have e2 : (As f L).drop (i.toNat * sz) = As f (L.drop i.toNat) := by
  have := P0 hf L i.toNat L.length h2 (xX _)
  rw [yG (by rw [yK, D5 hf, aCs]; exact xX _), yG (by simp)] at this
  exact this
 rwa [e2] at this
theorem aP {l' l2 : List α} {kk k : Nat} {d' : DV × Option LB} {cs' : List C} (hS : Fs P t e sz bytes) (hf : ∀ x, (f x).length = sz) (hs : S7 d' sz cs') (hc' : cs' = As f l') (h : H7 kk L l' = some l2) (hkk : sz * bytes = kk) (hk : k ∈ env.map (·.1)) (hnp : Nat.ble np k = true) :
  ExtR P np tk (.call ⟨.builtin .append, #[X, Y], #[t, t]⟩) ty [(.row k, some (.que e sz (As f L))), d'] env [k] (fun e' => e' = Hn tk (.que e sz (As f l2)) [k] (.row tk)) := by
 subst hc'
 obtain ⟨h1, rfl⟩ := Lq h
 rw [F7]
 exact .appQ hS hs (by rw [D5 hf, D5 hf, <- zJ, Nat.mul_assoc, hkk]; exact h1) hk hnp
theorem mL {ts k : TypeId} {l l2 : List UInt8} {s : ByteArray} {b : Option LB} (hS : Fs P t e 1 1) (hu : P.underlying ts = some .string) (h : H7 1 l (Up s) = some l2) (hk : k ∈ env.map (·.1)) (hnp : Nat.ble np k = true) :
  ExtR P np tk (.call ⟨.builtin .append, #[X, Y], #[t, ts]⟩) ty [(.row k, some (.que e 1 (As e8 l))), (.val (.string s), b)] env [k] (fun e' => e' = Hn tk (.que e 1 (As e8 l2)) [k] (.row tk)) := by
 obtain ⟨h1, rfl⟩ := Lq h
 rw [F7, dB (Up s)]
 refine .appQS hS hu ?_ hk hnp
 rw [dB, Hh]
 have : (Up s).length = s.size := aBy
 omega
theorem pS {kk e' : Nat} {kd : IntKind} {i : Int} {b : Option LB} (h : Fs P t e sz bytes) (hf : ∀ x, (f x).length = sz) (hj : i = (j : Int)) (hx : L[j]? = some y) : ExtR P np tk (.indexAddr t X Y) ty [(.row kk, some (.que e' sz (As f L))), (.val (.int kd i), b)] env [] (fun e' => e' = v0 (.qpt kk (j * sz))) := .idxQ h hj (Hk hf hx)
theorem jA {kk e' : Nat} (hS : Fs P t e sz bytes) (hf : ∀ x, (f x).length = sz) : ExtR P np tk (.call ⟨.builtin .len, #[X], #[t]⟩) ty [(.row kk, some (.que e' sz (As f L)))] env [] (fun e' => e' = v0 (.val (.int .i64 (L.length : Int)))) := .lenQ hS (D5 hf L)
end
end Go.Proofs.Ytfkgbfhpibiheaa
