/- Arrays with many cells at the beginning of a struct, read and written by index; what is left of a row. -/
import Derived.Test.YtfkgbfhpibiheaaEG
set_option linter.unusedVariables false
set_option linter.unusedSimpArgs false
namespace Go.Proofs.Ytfkgbfhpibiheaa
open Go.RowKit
def aC (k : IntKind) (n : Nat) (l : List Int) : List C := (arrL n l).map (.int k)
def aD (k : IntKind) (n : Nat) (l : List Int) : List DV := (arrL n l).map fun x => .val (.int k x)
theorem arrL_len {α : Type} [Inhabited α] (n : Nat) (l : List α) : (arrL n l).length = n := by simp [arrL]
theorem arrL_self {α : Type} [Inhabited α] {n : Nat} {l : List α} (h : l.length = n) : arrL n l = l := by
  subst h
  refine List.ext_getElem (by simp [arrL]) fun i h1 h2 => ?_
  simp [arrL, h2]
theorem arrL_set {n : Nat} {l : List Int} {j : Nat} {v : Int} : arrL n (setI (arrL n l) j v) = setI (arrL n l) j v := arrL_self (by simp [setI, arrL_len])
theorem aC_len (k : IntKind) (n : Nat) (l : List Int) : (aC k n l).length = n := by simp [aC, arrL_len]
theorem aD_len (k : IntKind) (n : Nat) (l : List Int) : (aD k n l).length = n := by simp [aD, arrL_len]
theorem arrL_lt {n : Nat} {l : List Int} {j : Nat} {x : Int} (h : (arrL n l)[j]? = some x) : j < n := by
  have := (List.getElem?_eq_some_iff.1 h).1
  rwa [arrL_len] at this
section
variable {k : IntKind} {n : Nat} {l : List Int} {j i : Nat} {x v : Int}
theorem aC_at {r : List C} (h : (arrL n l)[j]? = some x) : (aC k n l ++ r)[j]? = some (.int k x) := by
  rw [List.getElem?_append_left (by rw [aC_len]; exact arrL_lt h)]
  unfold aC
  rw [List.getElem?_map, h]
  rfl
theorem aC_past {r : List C} {c : C} (h : r[i]? = some c) : (aC k n l ++ r)[n + i]? = some c := by
  rw [List.getElem?_append_right (by rw [aC_len]; omega), aC_len, Nat.add_sub_cancel_left]
  exact h
theorem splice_at {α : Type} {a r : List α} {y : α} (h : j < a.length) : splice (a ++ r) j [y] = a.set j y ++ r := by
  unfold splice
  rw [List.take_append_of_le_length (by omega), List.set_eq_take_append_cons_drop, if_pos h, List.length_singleton, List.drop_append_of_le_length (by omega)]
  simp
theorem splice_past {α : Type} {a r r' xs : List α} (h : splice r i xs = r') : splice (a ++ r) (a.length + i) xs = a ++ r' := by
  subst h
  unfold splice
  rw [List.take_append, List.take_of_length_le (by omega), Nat.add_sub_cancel_left, Nat.add_assoc, List.drop_append, List.drop_eq_nil_of_le (by omega), Nat.add_sub_cancel_left]
  simp
theorem set_past {α : Type} {a r r' : List α} {y : α} (h : r.set i y = r') : (a ++ r).set (a.length + i) y = a ++ r' := by
  subst h
  rw [List.set_append_right _ _ (by omega), Nat.add_sub_cancel_left]
theorem aC_splice {r : List C} (h : (arrL n l)[j]? = some x) : splice (aC k n l ++ r) j [.int k v] = aC k n (setI (arrL n l) j v) ++ r := by
  rw [splice_at (by rw [aC_len]; exact arrL_lt h)]
  unfold aC
  rw [arrL_set]
  simp [setI, List.map_set]
theorem aC_splice_past {r r' xs : List C} (h : splice r i xs = r') : splice (aC k n l ++ r) (n + i) xs = aC k n l ++ r' := by
  have := splice_past (a := aC k n l) h
  rwa [aC_len] at this
theorem aC_set_past {r r' : List C} {y : C} (h : r.set i y = r') : (aC k n l ++ r).set (n + i) y = aC k n l ++ r' := by
  have := set_past (a := aC k n l) h
  rwa [aC_len] at this
theorem CvL_app {σ : St} {θ : Nat → Option Nat} : ∀ {L : List Int} {a b : List DV}, CvL σ θ a b → CvL σ θ (L.map (fun x => .val (.int k x)) ++ a) (L.map (fun x => .val (.int k x)) ++ b)
  | [], _, _, h => h
  | _ :: L, _, _, h => .cons (.val _) (CvL_app (L := L) h)
theorem cvA_ {σ : St} {θ : Nat → Option Nat} {a b : List DV} (h : CvL σ θ a b) : CvL σ θ (aD k n l ++ a) (aD k n l ++ b) := CvL_app h
theorem DcsE_app : ∀ {L : List Int} {ks : List (Option Nat)} {a : List DV} {b : List C}, DcsE ks a b → DcsE (List.replicate L.length none ++ ks) (L.map (fun x => .val (.int k x)) ++ a) (L.map (.int k) ++ b)
  | [], _, _, _, h => h
  | _ :: L, _, _, _, h => .cons .int (DcsE_app (L := L) h)
theorem dcA_ {ks : List (Option Nat)} {a : List DV} {b : List C} (h : DcsE ks a b) : DcsE (List.replicate n none ++ ks) (aD k n l ++ a) (aC k n l ++ b) := by
  have := DcsE_app (k := k) (L := arrL n l) h
  rwa [arrL_len] at this
theorem all_okA {r : List DV} (h : r.all okC = true) : (aD k n l ++ r).all okC = true := by
  rw [List.all_append, h, Bool.and_true, List.all_eq_true]
  intro d hd
  obtain ⟨x, -, rfl⟩ := List.mem_map.1 hd
  rfl
end
section
variable {P : Program} {np tk : Nat} {ty : TypeId} {env : Env} {t : TypeId} {X Y : Operand} {k : IntKind} {n : Nat} {l : List Int} {j : Nat} {x v : Int} {b2 : Option LB}
theorem r_allocA {z : List Value} {ds : List DV} (h : Zt P t z) (hz : z.map DV.val = ds) : OpR P tk (.alloc t) ty [] [] (new1 tk (.box ds t) (.ptr tk 0)) := by
  subst hz
  exact .alloc h
theorem r_loadBA_ {ds : List DV} {bt kk sz : Nat} (ht : Ty P t true sz) (h : ds.length = sz) : OpR P tk (.load t X) ty [(.ptr kk 0, some (.box ds bt))] [] (v0 (.agg ds)) := by
  have := OpR.loadBA (P := P) (tk := tk) (x := X) (ty := ty) (k := kk) (i := 0) (ds := ds) (bt := bt) ht (by omega)
  rwa [List.drop_zero, List.take_of_length_le (by omega)] at this
theorem r_storeBA {r : List DV} {bt kk : Nat} (ht : Ty P t false 1) (h : (arrL n l)[j]? = some x) : OpR P tk (.store t X Y) ty [(.ptr kk (0 + j * 1), some (.box (aD k n l ++ r) bt)), (.val (.int k v), b2)] [kk] (wrt kk (.box (aD k n (setI (arrL n l) j v) ++ r) bt)) := by
  refine r_storeB ht rfl (by have := arrL_lt h; rw [List.length_append, aD_len]; omega) rfl ?_
  show splice _ _ [DV.val (.int k v)] = _
  rw [Nat.zero_add, Nat.mul_one, splice_at (by rw [aD_len]; exact arrL_lt h)]
  unfold aD
  rw [arrL_set]
  simp [setI, List.map_set]
variable {α : Type} {f : α → List C} {sz : Nat} {y y' : α} {L : List α} {q : Nat}
theorem lenD {r : List DV} : (aD k n l ++ r).length = n + r.length := by rw [List.length_append, aD_len]
theorem at_modA {o : Nat} (h : (arrL n l)[j]? = some x) (h1 : n ≤ o) (h2 : o < sz) : (q * sz + 0 + j * 1) % sz ≠ o := by
  have := arrL_lt h
  exact at_mod (of := j) (by omega) (by omega) (j := q) (by omega)
theorem enc_cellA {r : List C} (hf : ∀ x, (f x).length = sz) (hy : L[q]? = some y) (hr : f y = aC k n l ++ r) (h : (arrL n l)[j]? = some x) : (encL f L)[q * sz + 0 + j * 1]? = some (.int k x) :=
  enc_cell hf hy (o := j) (by rw [hr]; exact aC_at h) (by omega)
theorem x_storeTA {r : List C} {o e2 sz2 s kk e : Nat} {hh : Option Nat} (hf : ∀ x, (f x).length = sz) (ht : Ty P t false 1) (hy : L[q]? = some y) (hr : f y = aC k n l ++ r) (h : (arrL n l)[j]? = some x) (h1 : n ≤ o) (h2 : o < sz) (hk : kk ∈ env.map (·.1)) (hr' : f y' = aC k n (setI (arrL n l) j v) ++ r) :
    ExtR P np tk (.store t X Y) ty [(.ptr kk (q * sz + 0 + j * 1), some (.tree e sz o e2 sz2 s hh (encL f L))), (.val (.int k v), b2)] env [kk] (fun e' => e' = wrtD kk (.tree e sz o e2 sz2 s hh (encL f (setI L q y'))) none) := by
  have hlt := arrL_lt h
  refine x_storeT (ck := [none]) (cs' := [.int k v]) ht rfl (enc_cells_le hf hy (o := j) (by omega) (by omega)) (flat_at (of := j) (by omega) (.inr (by omega)) (j := q) (by omega)) (.cons .int .nil) hk (enc_splice hf hy (o := j) (x' := y') (by show j + 1 ≤ sz; omega) ?_ (by omega))
  rw [hr, hr']
  exact aC_splice h
theorem enc_cellE {r : List C} (hf : ∀ x, (f x).length = sz) (hy : L[q]? = some y) (hr : f y = aC k n l ++ r) (h : (arrL n l)[j]? = some x) : ((encL f L).drop (q * sz + 0))[j]? = some (.int k x) := by
  rw [List.getElem?_drop]
  have := enc_cellA (q := q) (j := j) hf hy hr h
  rwa [Nat.mul_one] at this
theorem r_storeBW {ds ds2 : List DV} {bt kk : Nat} {m : Nat} (ht : Ty P t true m) (h1 : ds.length = m) (h2 : ds2.length = m) (ho : ds2.all okC = true) : OpR P tk (.store t X Y) ty [(.ptr kk 0, some (.box ds bt)), (.agg ds2, b2)] [kk] (wrt kk (.box ds2 bt)) :=
  r_storeB ht h2 (by omega) ho (by
    show splice ds 0 ds2 = ds2
    unfold splice
    rw [List.take_zero, List.nil_append, List.drop_eq_nil_of_le (by omega), List.append_nil])
variable {bytes : Nat} {e : TypeId}
theorem x_sliQ {kk : Nat} {i : Int} {kd : IntKind} {m : List α} {b : Option LB} (hS : SlT P t e sz bytes) (hf : ∀ x, (f x).length = sz) (h : slI L i (L.length : Int) = some m) (hk : kk ∈ env.map (·.1)) (hnp : Nat.ble np kk = true) :
    ExtR P np tk (.slice t X (some Y) none none) ty [(.row kk, some (.que e sz (encL f L))), (.val (.int kd i), b)] env [kk] (fun e' => e' = new1k tk (.que e sz (encL f m)) [kk] (.row tk)) := by
  obtain ⟨h1, h2, h3, rfl⟩ : 0 ≤ i ∧ i.toNat ≤ L.length ∧ True ∧ m = L.drop i.toNat := by
    have hle := slI_le h
    unfold slI at h
    split at h
    · rename_i hc
      injection h with h
      refine ⟨by omega, by omega, trivial, ?_⟩
      rw [← h]
      rw [List.take_of_length_le]
      simp
    · cases h
  have e1 : i = (i.toNat : Int) := by omega
  have := ExtR.sliQ (P := P) (np := np) (tk := tk) (x := X) (y := Y) (ty := ty) (env := env) (k := kk) (kk := kd) (b := b) (l := i.toNat) (n := L.length) hS (encL_len hf L) h2 hk hnp
  rw [← e1] at this
  have e2 : (encL f L).drop (i.toNat * sz) = encL f (L.drop i.toNat) := by
    have := enc_sub hf L i.toNat L.length h2 (Nat.le_refl _)
    rw [List.take_of_length_le (by rw [List.length_drop, encL_len hf, Nat.sub_mul]; exact Nat.le_refl _), List.take_of_length_le (by simp)] at this
    exact this
  rwa [e2] at this
theorem x_appQ {l' l2 : List α} {kk k : Nat} {d' : DV × Option LB} {cs' : List C} (hS : SlT P t e sz bytes) (hf : ∀ x, (f x).length = sz) (hs : Src d' sz cs') (hc' : cs' = encL f l') (h : appI kk L l' = some l2) (hkk : sz * bytes = kk) (hk : k ∈ env.map (·.1)) (hnp : Nat.ble np k = true) :
    ExtR P np tk (.call ⟨.builtin .append, #[X, Y], #[t, t]⟩) ty [(.row k, some (.que e sz (encL f L))), d'] env [k] (fun e' => e' = new1k tk (.que e sz (encL f l2)) [k] (.row tk)) := by
  subst hc'
  obtain ⟨h1, rfl⟩ := appI_some h
  rw [encL_append]
  exact .appQ hS hs (by rw [encL_len hf, encL_len hf, ← Nat.add_mul, Nat.mul_assoc, hkk]; exact h1) hk hnp
theorem x_idxQ {kk e' : Nat} {kd : IntKind} {i : Int} {b : Option LB} (h : SlT P t e sz bytes) (hf : ∀ x, (f x).length = sz) (hj : i = (j : Int)) (hx : L[j]? = some y) : ExtR P np tk (.indexAddr t X Y) ty [(.row kk, some (.que e' sz (encL f L))), (.val (.int kd i), b)] env [] (fun e' => e' = v0 (.qpt kk (j * sz))) := .idxQ h hj (enc_le hf hx)
theorem x_lenQ {kk e' : Nat} (hS : SlT P t e sz bytes) (hf : ∀ x, (f x).length = sz) : ExtR P np tk (.call ⟨.builtin .len, #[X], #[t]⟩) ty [(.row kk, some (.que e' sz (encL f L)))] env [] (fun e' => e' = v0 (.val (.int .i64 (L.length : Int)))) := .lenQ hS (encL_len hf L)
end
end Go.Proofs.Ytfkgbfhpibiheaa
