/- Plain texts, joined. No program is in sight here. -/
import Derived.Test.YtmbhoimeiahbaaaGreatEF
import Derived.ChangeKeysEq
import Derived.Test.YtmbhoimeiahbaaaGreatPF
set_option linter.unusedVariables false
set_option linter.unusedSimpArgs false
namespace Go.Proofs.YtmbhoimeiahbaaaGreat
section
open Go.RowKit
section
variable {P : Program} {np tk : Nat} {ty : TypeId} {env : Env} {α : Type} {f : α → List C} {t e sz bytes : Nat}
theorem enc_rep_ (hf : ∀ x, (f x).length = sz) (z : α) : ∀ m, encL f (List.replicate m z) = (List.replicate m (f z)).flatten
  | 0 => rfl
  | m + 1 => by
    rw [List.replicate_succ, List.replicate_succ, List.flatten_cons, ← enc_rep_ hf z m]
    rfl
theorem enc_drop_ (hf : ∀ x, (f x).length = sz) (l : List α) (n : Nat) : (encL f l).drop (n * sz) = encL f (l.drop n) := by
  induction n generalizing l with
  | zero => simp
  | succ n ih =>
    cases l with
    | nil => simp [encL]
    | cons x l =>
      have : encL f (x :: l) = f x ++ encL f l := rfl
      rw [this, Nat.succ_mul, List.drop_append, hf, List.drop_of_length_le (by rw [hf]; omega), List.nil_append, Nat.add_sub_cancel]
      exact ih l
theorem enc_take_ (hf : ∀ x, (f x).length = sz) (l : List α) (n : Nat) : (encL f l).take (n * sz) = encL f (l.take n) := by
  induction n generalizing l with
  | zero => simp [encL]
  | succ n ih =>
    cases l with
    | nil => simp [encL]
    | cons x l =>
      have e1 : encL f (x :: l) = f x ++ encL f l := rfl
      have e2 : encL f ((x :: l).take (n + 1)) = f x ++ encL f (l.take n) := rfl
      rw [e1, e2, Nat.succ_mul, Nat.add_comm, List.take_append, List.take_of_length_le (by rw [hf]; omega), hf, Nat.add_sub_cancel_left, ih l]
theorem zt_of {z : List Value} {ck : List (Option Nat)} {z0 : α} (hz : Zt P e z) (hd : DcsE ck (z.map DV.val) (f z0)) : ZtC' P e (f z0) := ⟨z, ck, hz, hd⟩
theorem x_clear {x : Operand} {k a m : Nat} {b : Option LB} {l r : List α} {z0 : α} (hS : SlT P t e sz bytes) (hf : ∀ x, (f x).length = sz) (hz : ZtC' P e (f z0)) (hL : (k, some (.row e sz (encL f l))) ∈ env) (h : clrI l a m z0 = some r) :
    ExtR P np tk (.call ⟨.builtin .clear, #[x], #[t]⟩) ty [(.part k (a * sz) m, b)] env [k] (fun e' => e' = wrtD k (.row e sz (encL f r)) (some (.tup []))) := by
  obtain ⟨h1, rfl⟩ := clrI_some h
  have := ExtR.clearP (np := np) (tk := tk) (x := x) (ty := ty) (b := b) (off := a * sz) (m := m) hS hz hL (by rw [encL_len hf, ← Nat.add_mul]; exact Nat.mul_le_mul_right _ h1)
  have e1 : splice (encL f l) (a * sz) (List.replicate m (f z0)).flatten = encL f (l.take a ++ List.replicate m z0 ++ l.drop (a + m)) := by
    unfold splice
    rw [← enc_rep_ hf, encL_len hf, enc_take_ hf, List.length_replicate, ← Nat.add_mul, enc_drop_ hf, encL_append, encL_append]
  rwa [e1] at this
end
theorem keyK {P : Program} {t : TypeId} {k : IntKind} (h : P.underlying t = some (.int k)) : KeyT P t (fun x : Int => Value.int k x) := by
  refine ⟨fun e x w => ?_, fun x es xs w hes => ?_, fun x => ?_⟩
  · exact Go.MapKept.run_checkKey (k := .int k x) h rfl e 9999
  · have key : ∀ (es : List MapEntry) (xs : List Int) (i : Nat), es.map (·.key) = xs.map (fun x => Value.int k x) → (Instr.findNow (.int k) (.int k x) es i = some none ∧ x ∉ xs) ∨ ∃ j e, Instr.findNow (.int k) (.int k x) es i = some (some (i + j, e.val)) ∧ es[j]? = some e ∧ e.key = .int k x ∧ xs[j]? = some x ∧ ∀ j', j' < j → xs[j']? ≠ some x := by
      intro es
      induction es with
      | nil =>
        intro xs i h
        cases xs with
        | nil => exact .inl ⟨rfl, by simp⟩
        | cons y ys => simp at h
      | cons e es ih =>
        intro xs i h
        cases xs with
        | nil => simp at h
        | cons y ys =>
          simp only [List.map_cons, List.cons.injEq] at h
          obtain ⟨h1, h2⟩ := h
          by_cases hxy : x = y
          · subst hxy
            refine .inr ⟨0, e, ?_, rfl, h1, rfl, fun j' hj' => by omega⟩
            simp [Instr.findNow, Instr.sameNow, h1]
          · have hf : Instr.findNow (.int k) (.int k x) (e :: es) i = Instr.findNow (.int k) (.int k x) es (i + 1) := by
              have hb : (x == y) = false := by simpa using hxy
              simp only [Instr.findNow, Instr.sameNow, h1, if_true, hb]
            rw [hf]
            rcases ih ys (i + 1) h2 with ⟨q1, q2⟩ | ⟨j, e', q1, q2, q3, q4, q5⟩
            · exact .inl ⟨q1, by simp [hxy, q2]⟩
            · refine .inr ⟨j + 1, e', by rw [q1]; congr 3; omega, by simpa using q2, q3, by simpa using q4, fun j' hj' => ?_⟩
              cases j' with
              | zero => simp; exact fun h => hxy h.symm
              | succ j' => simpa using q5 j' (by omega)
    rcases key es xs 0 hes with ⟨q1, q2⟩ | ⟨j, e, q1, q2, q3, q4, q5⟩
    · exact ⟨none, by simp [Instr.findKey, run_underlying h, q1], q2⟩
    · refine ⟨some (j, e.val), ?_, e, q2, rfl, q3, q4, q5⟩
      rw [Nat.zero_add] at q1
      simp [Instr.findKey, run_underlying h, q1]
  · simp [Instr.sameBits]
abbrev vI (k : IntKind) (x : Int) : Value := .int k x
section
variable {P : Program} {np tk : Nat} {ty : TypeId} {env : Env} {κ ν : Type} [DecidableEq κ] {f : κ → Value} {g : ν → Value} {t kt vt k : Nat} {x i : Operand} {b bk bv : Option LB} {kd vd : DV} {l : List (κ × ν)} {key : κ} {z v : ν}
theorem x_mapPut {y' : Operand} (ht : P.underlying t = some (.map kt vt)) (hK : KeyT P kt f) (hk : dval kd = some (f key)) (hv : dval vd = some (g v)) (hm : (k, some (.map (kvs f g l))) ∈ env) :
    ExtR P np tk (.mapUpdate t x i y') ty [(.row k, b), (kd, bk), (vd, bv)] env [k] (fun e => e = wrtD k (.map (kvs f g (mapPut l key v))) none) := .put ht hK hm hk hv
end
end
section
open Go.RowKit
theorem mlp_ {P : Program} {cx : Cx} {σ : St} {Q : Exit → St → Prop} {x : Code} {α S R : Type} {body : α → S → Option (Lp S R)} {ed : S → Option (Lp S R)} {l : List α} {s0 : S} {r : R} (st : List Nat → S → St) (hg : mloop body ed l s0 = some r) (h0 : Sub cx σ (st [] s0))
    (round : ∀ (s : S) (sn : List Nat), MH body ed l r sn s → awp P cx x (thn (fun σ' => ∃ j : List Nat × S, (rest l.length j.1).length < (rest l.length sn).length ∧ MH body ed l r j.1 j.2 ∧ Sub cx σ' (st j.1 j.2)) Q) (st sn s)) : awp P cx (.loop x) Q σ :=
  awp_loop (ι := List Nat × S) (fun q => st q.1 q.2) (fun q => MH body ed l r q.1 q.2) (fun q => (rest l.length q.1).length) ([], s0) h0 (MH.init hg) fun q hq => round q.2 q.1 hq
theorem kvs_get {κ ν : Type} {f : κ → Value} {g : ν → Value} {l : List (κ × ν)} {i : Nat} {p : Value × Value} (h : (kvs f g l)[i]? = some p) : ∃ x, l[i]? = some x ∧ p = (f x.1, g x.2) := by
  unfold kvs at h
  rw [List.getElem?_map] at h
  cases hx : l[i]? with
  | none => rw [hx] at h; cases h
  | some x => rw [hx] at h; injection h with h; exact ⟨x, rfl, h.symm⟩
theorem kvs_it {κ ν : Type} {f : κ → Value} {g : ν → Value} {l : List (κ × ν)} {i : Nat} {x : κ × ν} (h : l[i]? = some x) : (kvs f g l)[i]? = some (f x.1, g x.2) := by
  unfold kvs
  rw [List.getElem?_map, h]
  rfl
theorem kvs_len {κ ν : Type} {f : κ → Value} {g : ν → Value} {l : List (κ × ν)} : (kvs f g l).length = l.length := by simp [kvs]
theorem next_all {κ ν : Type} {f : κ → Value} {g : ν → Value} {l : List (κ × ν)} {seen : List Nat} (h : ∀ i, i < (kvs f g l).length → i ∈ seen) : ∀ i, i < l.length → i ∈ seen := by
  rw [kvs_len] at h
  exact h
theorem next_ex {j k : Nat} {l : List (Value × Value)} {n : Nat} {seen : List Nat} (hn : n = l.length) : ∃ e : Eff, ((∀ i, i < n → i ∈ seen) ∧ e = wrtD j (.mit k n seen) (some (.tup [.val (.bool false)]))) ∨ ∃ i p, l[i]? = some p ∧ i ∉ seen ∧ e = wrtD j (.mit k n (seen ++ [i])) (some (.tup [.val (.bool true), .val p.1, .val p.2])) := by
  subst hn
  by_cases h : ∀ i, i < l.length → i ∈ seen
  · exact ⟨_, .inl ⟨h, rfl⟩⟩
  · have : ∃ i, ¬ (i < l.length → i ∈ seen) := Classical.not_forall.1 h
    obtain ⟨i, hi⟩ := this
    rw [Classical.not_imp] at hi
    exact ⟨_, .inr ⟨i, l[i]'hi.1, List.getElem?_eq_getElem hi.1, hi.2, rfl⟩⟩
end
end Go.Proofs.YtmbhoimeiahbaaaGreat
