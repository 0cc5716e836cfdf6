import Derived.Test.YtkoflhimdenjaaaGreatEC
import Derived.Maps.RangeWalk
import Derived.Laws.Externs
import Derived.Lib.Bytealg
import Derived.Lib.AppendZeros
import Derived.Test.YtkoflhimdenjaaaGreatPU
set_option linter.unusedVariables false
set_option linter.unusedSimpArgs false
namespace Go.Proofs.YtkoflhimdenjaaaGreat
open Go.RowKit
open Go.ChangeMaps (setBlock)
abbrev bU := List (Nat × Option LB)
theorem It {σ : St} {l : List Nat} {j : Nat} {lb : LB} (h : (j, some lb) ∈ Kn σ l) : σ.L j = some lb := by
 obtain ⟨k, -, hk⟩ := List.mem_map.1 h
 injection hk with h1 h2
 subst h1
 exact h2
structure aV (P : Program) (kt : TypeId) {κ : Type} (f : κ -> Value) : Prop where
 chk : ∀ (e : Bool) x w, (Instr.checkKey e 10000 kt (f x)).run P w = .ok () w
 find : ∀ x (es : List MapEntry) (xs : List κ) w, es.map (·.key) = xs.map f -> ∃ r, (Instr.findKey kt (f x) es).run P w = .ok r w /\ match r with
  | none => x ∉ xs
  | some (i, v) => ∃ e, es[i]? = some e /\ v = e.val /\ e.key = f x /\ xs[i]? = some x /\ ∀ j, j < i -> xs[j]? ≠ some x
 same : ∀ x, Instr.sameBits 10000 (f x) (f x) = true
section
variable {κ ν : Type} [DecidableEq κ]
def Rw (f : κ -> Value) (g : ν -> Value) (l : List (κ × ν)) : List (Value × Value) := l.map fun p => (f p.1, g p.2)
theorem Y6 {l : List (κ × ν)} {x : κ} (h : x ∉ l.map (·.1)) (z : ν) : F4 l x z = z /\ Qw l x = false /\ l.findIdx? (fun p => decide (p.1 = x)) = none := by
 have hn : ∀ p ∈ l, ¬ decide (p.1 = x) = true := fun p hp hd => h (List.mem_map.2 ⟨p, hp, of_decide_eq_true hd⟩)
 refine ⟨?_, ?_, ?_⟩
 ·unfold F4
  rw [List.find?_eq_none.2 hn]
 ·unfold Qw
  cases ha : l.any fun p => decide (p.1 = x) with
  | false => rfl
  | true =>
   obtain ⟨p, hp, hd⟩ := List.any_eq_true.1 ha
   exact absurd hd (hn p hp)
 ·rw [List.findIdx?_eq_none_iff]
  intro p hp
  simpa using hn p hp
theorem Zq {l : List (κ × ν)} {x : κ} {i : Nat} (h : (l.map (·.1))[i]? = some x) (hj : ∀ j, j < i -> (l.map (·.1))[j]? ≠ some x) (z : ν) : ∃ v, l[i]? = some (x, v) /\ F4 l x z = v /\ Qw l x = true /\ l.findIdx? (fun p => decide (p.1 = x)) = some i := by
 have hi : i < l.length := by
  have := (List.getElem?_eq_some_iff.1 h).1
  simpa using this
 have hx : l[i].1 = x := by
  rw [List.getElem?_map, List.getElem?_eq_getElem hi] at h
  injection h
 have hf : l.findIdx? (fun p => decide (p.1 = x)) = some i := by
  rw [List.findIdx?_eq_some_iff_getElem]
  refine ⟨hi, by rw [hx]; exact decide_eq_true rfl, fun j hjl => ?_⟩
  have hj' := hj j hjl
  rw [List.getElem?_map, List.getElem?_eq_getElem (by omega)] at hj'
  simp only [decide_eq_true_eq]
  intro e
  exact hj' (by rw [<- e]; rfl)
 refine ⟨l[i].2, by rw [List.getElem?_eq_getElem hi, <- hx], ?_, ?_, hf⟩
 ·unfold F4
  have : l.find? (fun p => decide (p.1 = x)) = some l[i] := by
   rw [List.find?_eq_some_iff_getElem]
   refine ⟨by rw [hx]; exact decide_eq_true rfl, i, hi, rfl, fun j hjl => ?_⟩
   have hj' := hj j hjl
   rw [List.getElem?_map, List.getElem?_eq_getElem (by omega)] at hj'
   simp only [Bool.not_eq_true', decide_eq_false_iff_not]
   intro e
   exact hj' (by rw [<- e]; rfl)
  rw [this]
 ·exact List.any_eq_true.2 ⟨l[i], List.getElem_mem hi, by rw [hx]; exact decide_eq_true rfl⟩
omit [DecidableEq κ] in
theorem cO {f : κ -> Value} {g : ν -> Value} {l : List (κ × ν)} {es : List MapEntry} (h : es.map (fun e => (e.key, e.val)) = Rw f g l) : es.map (·.key) = (l.map (·.1)).map f := by
 have := congrArg (List.map Prod.fst) h
 unfold Rw at this
 rw [List.map_map, List.map_map] at this
 rw [List.map_map]
 exact this
omit [DecidableEq κ] in
theorem xN {f : κ -> Value} {g : ν -> Value} {l : List (κ × ν)} {es : List MapEntry} (h : es.map (fun e => (e.key, e.val)) = Rw f g l) {i : Nat} {e : MapEntry} {p : κ × ν} (h1 : es[i]? = some e) (h2 : l[i]? = some p) : e.key = f p.1 /\ e.val = g p.2 := by
 have := congrArg (fun q : List (Value × Value) => q[i]?) h
 unfold Rw at this
 simp only [List.getElem?_map, h1, h2, Option.map_some] at this
 injection this with this
 injection this with a b
 exact ⟨a, b⟩
end
section
variable {P : Program} {w : World}
theorem dB {κ ν : Type} [DecidableEq κ] {t kt vt : TypeId} {f : κ -> Value} {g : ν -> Value} {l : List (κ × ν)} {m : Nat} {x : κ} {z : ν} (ht : P.underlying t = some (.map kt vt)) (hK : aV P kt f) (hz : ∀ w, (zeroValue vt).run P w = .ok (g z) w) (hm : T2 w m (Rw f g l)) (ok : Bool) :
  (Instr.lookup t (.map (some m)) (f x) ok).run P w = .ok (bif ok then .tuple #[g (F4 l x z), .bool (Qw l x)] else g (F4 l x z)) w := by
 obtain ⟨es, h1, h2, h3, h4⟩ := hm
 obtain ⟨r, hr, hs⟩ := hK.find x es.toList (l.map (·.1)) w (cO h2)
 simp only [Instr.lookup, Sem.run_bind, run_underlying ht, Result.andThen_ok, Go.MapKept.run_getObj_map h1, Sem.run_pure, hK.chk, hr]
 cases r with
 | none =>
  obtain ⟨q1, q2, -⟩ := Y6 hs z
  rw [q1, q2]
  simp only [Sem.run_bind, hz, Result.andThen_ok, Sem.run_pure]
  cases ok <;> rfl
 | some q =>
  obtain ⟨i, v⟩ := q
  obtain ⟨e, e1, rfl, e2, e3, e4⟩ := hs
  obtain ⟨v, q0, q1, q2, -⟩ := Zq e3 e4 z
  have := xN h2 e1 q0
  rw [q1, q2, this.2]
  cases ok <;> rfl
theorem Q6 (r : Nat) (o : Obj) : (setBlock w r o).heap.size = w.heap.size := by simp [setBlock]
theorem Qb {r b : Nat} (o : Obj) (h : b ≠ r) : (setBlock w r o).heap[b]? = w.heap[b]? := by
 simp [setBlock, Array.getElem?_setIfInBounds, Ne.symm h]
theorem Nq {r : Nat} {o o' : Obj} (h : w.heap[r]? = some o') : (setBlock w r o).heap[r]? = some o := by
 have := (Array.getElem?_eq_some_iff.1 h).1
 simp [setBlock, Array.getElem?_setIfInBounds, this]
theorem rO {κ ν : Type} [DecidableEq κ] {t kt vt : TypeId} {f : κ -> Value} {g : ν -> Value} {l : List (κ × ν)} {m : Nat} {x : κ} {v : ν} (ht : P.underlying t = some (.map kt vt)) (hK : aV P kt f) (hm : T2 w m (Rw f g l)) (hkx : D0 (f x) = true) (hgv : D0 (g v) = true) :
  ∃ es, (Instr.mapUpdate t (.map (some m)) (f x) (g v)).run P w = .ok () (setBlock w m (.map es es.size)) /\ T2 (setBlock w m (.map es es.size)) m (Rw f g (Jo l x v)) := by
 obtain ⟨es, h1, h2, h3, h4⟩ := hm
 obtain ⟨r, hr, hs⟩ := hK.find x es.toList (l.map (·.1)) w (cO h2)
 have hlen : es.size = l.length := by
  have := congrArg List.length h2
  simpa [Rw] using this
 cases r with
 | none =>
  obtain ⟨q1, q2, q3⟩ := Y6 (l := l) hs v
  refine ⟨es.push { key := f x, val := g v, born := es.size }, ?_, ?_⟩
  ·simp only [Instr.mapUpdate, Sem.run_bind, run_underlying ht, Result.andThen_ok, Go.MapKept.run_getObj_map h1, hK.chk, hr, Go.MapKept.run_setObj_map _ h1, Array.size_push]
   rfl
  ·refine ⟨_, Nq h1, ?_, fun i e hi => ?_, fun p hp => ?_⟩
   ·unfold Jo
    rw [q3]
    simp only [Array.toList_push, List.map_append, h2, List.map_cons, List.map_nil]
    unfold Rw
    rw [List.map_append]
    rfl
   ·rw [Array.getElem?_push] at hi
    split at hi
    ·injection hi with hi
     subst hi
     rename_i h; exact h.symm
    ·exact h3 i e hi
   ·unfold Jo at hp
    rw [q3] at hp
    unfold Rw at hp
    rw [List.map_append] at hp
    rcases List.mem_append.1 hp with hp | hp
    ·exact h4 p hp
    ·rw [List.map_cons, List.map_nil, List.mem_singleton] at hp
     subst hp
     exact ⟨hkx, hgv⟩
 | some q =>
  obtain ⟨i, v0⟩ := q
  obtain ⟨e, e1, rfl, e2, e3, e4⟩ := hs
  obtain ⟨v1, q0, -, -, q3⟩ := Zq e3 e4 v
  have hi : i < es.size := by
   have := (List.getElem?_eq_some_iff.1 e1).1
   simpa using this
  have e1' : es[i]? = some e := by rw [<- Array.getElem?_toList]; exact e1
  refine ⟨es.modify i fun e => { e with key := f x, val := g v }, ?_, ?_⟩
  ·have hst : (Instr.keyThatStays (((es[i]?).map (·.key)).getD (f x)) (f x)).run P w = .ok (f x) w := by
    rw [e1']
    simp only [Option.map_some, Option.getD_some, e2, Instr.keyThatStays, hK.same, if_true]
    rfl
   simp only [Instr.mapUpdate, Sem.run_bind, run_underlying ht, Result.andThen_ok, Go.MapKept.run_getObj_map h1, hK.chk, hr, hst, Go.MapKept.run_setObj_map _ h1, Array.size_modify]
   rfl
  ·have hlist : (es.modify i fun e => { e with key := f x, val := g v }).toList.map (fun e => (e.key, e.val)) = Rw f g (Jo l x v) := by
    unfold Jo
    rw [q3]
    apply List.ext_getElem?
    intro j
    have hj := congrArg (fun q : List (Value × Value) => q[j]?) h2
    simp only [List.getElem?_map] at hj
    unfold Rw at hj ⊢
    rw [List.getElem?_map, List.getElem?_map, Array.getElem?_toList, Array.getElem?_modify, List.getElem?_set]
    rw [List.getElem?_map, Array.getElem?_toList] at hj
    by_cases hij : i = j
    ·subst hij
     rw [if_pos rfl, if_pos rfl, if_pos (by omega), e1']
     rfl
    ·rw [if_neg hij, if_neg hij]
     exact hj
   refine ⟨_, Nq h1, hlist, fun j e' hj => ?_, fun p hp => ?_⟩
   ·rw [Array.getElem?_modify] at hj
    split at hj
    ·rename_i hij
     subst hij
     rw [e1'] at hj
     injection hj with hj
     subst hj
     exact h3 i e e1'
    ·exact h3 j e' hj
   ·unfold Jo at hp
    rw [q3] at hp
    unfold Rw at hp
    obtain ⟨q, hq, rfl⟩ := List.mem_map.1 hp
    rcases List.mem_or_eq_of_mem_set hq with hq | rfl
    ·exact h4 _ (List.mem_map.2 ⟨q, hq, rfl⟩)
    ·exact ⟨hkx, hgv⟩
end
def Uw (k0 : Nat) (lb : LB) (d : Option DV) : K2 := ⟨d, fun k => bif Nat.beq k k0 then some (some lb) else none⟩
section
variable {P : Program} {cx : Cx} {ρ : Nat -> Value} {σ : St} {a : Act} {w w' : World} {o : Oper} {K : Act -> World -> Prop} {Q : Exit -> Act -> World -> Prop}
theorem gF (ha : Du cx ρ σ a w) (hdst : ∀ t, o.dst = some t -> t < cx.N) {k0 : Nat} {lb lb' : LB} {d : Option DV} {v : Value} (hL : σ.L k0 = some lb) (hrun : (execOp a.eval o).run P w = .ok .skip w' /\ v = undef \/ (execOp a.eval o).run P w = .ok (.value v) w')
  (hw : w'.os = w.os /\ w'.tape = w.tape /\ w'.output = w.output /\ w'.heap.size = w.heap.size) (hb : ∀ b, Cn (ρ k0) ≠ some b -> w'.heap[b]? = w.heap[b]?)
  (hnew : ∀ I' : Nat -> Prop, (∀ b, K7 cx σ ρ w b -> I' b /\ w'.heap[b]? = w.heap[b]?) -> Rc cx ρ I' w' (ρ k0) lb' /\ ∀ x, d = some x -> Cf ρ I' w' x v) (hu : (∀ k', Pu lb' k' -> σ.U k' = true) /\ ∀ x k', d = some x -> men x k' -> σ.U k' = true)
  (hK : ∀ a' w', Jm cx (σ.app o.dst (Uw k0 lb' d)) a' w' -> K a' w') : o.wp P a w K Q := by
 have hl : ∀ k lb1, (Uw k0 lb' d).l k = some (some lb1) -> k = k0 /\ lb1 = lb' := fun k lb1 h => by
  have h' : (bif Nat.beq k k0 then some (some lb') else none) = some (some lb1) := h
  cases hb : Nat.beq k k0 with
  | true =>
   rw [hb] at h'
   injection h' with h'
   injection h' with h'
   exact ⟨Nat.eq_of_beq_eq_true hb, h'.symm⟩
  | false => rw [hb] at h'; cases h'
 have hl0 : (Uw k0 lb' d).l k0 ≠ none := by
  have : (Uw k0 lb' d).l k0 = bif Nat.beq k0 k0 then some (some lb') else none := rfl
  rw [this]; simp
 obtain ⟨c1, c2, c3, c4, c5⟩ := ha.kept
 obtain ⟨w1, w2, w3, w4⟩ := hw
 have key : Jm cx (σ.app o.dst (Uw k0 lb' d)) (a.put o.dst v) w' := by
  refine ⟨ρ, ha.app (v := v) ⟨w1.trans c1, w2.trans c2, w3.trans c3, by rw [w4]; exact c4, fun b hb' hM => ?_⟩ (by rw [w4]; exact Nat.le_refl _) hdst (fun _ _ => rfl) (fun b _ h => hb b fun e => h k0 lb hl0 hL e) (fun k lb1 b h1 h2 => ?_) (fun k k' lb1 lb2 b h1 h2 _ _ => by rw [(hl k lb1 h1).1, (hl k' lb2 h2).1]) (fun hI _ => ?_) ⟨fun k lb1 k' h1 h2 => ?_, fun d' k' h1 h2 => ?_⟩ (fun k lb1 b h1 h2 h3 => by obtain ⟨rfl, rfl⟩ := hl k lb1 h1; exact ha.fresh k lb b hL h2 h3)⟩
  ·refine (hb b fun e => ?_).trans (c5 b hb' hM)
   rcases ((ha.lo k0 lb hL).blk e).2 with h | h
   ·omega
   ·exact hM h
  ·obtain ⟨rfl, rfl⟩ := hl k lb1 h1
   exact .inr ⟨k, lb, hl0, hL, h2⟩
  ·obtain ⟨n1, n2⟩ := hnew _ hI
   refine ⟨fun k lb1 h => ?_, fun d' hd' => n2 d' hd'⟩
   obtain ⟨rfl, rfl⟩ := hl k lb1 h
   exact n1
  ·obtain ⟨rfl, rfl⟩ := hl k lb1 h1
   exact .inl (hu.1 k' h2)
  ·exact .inl (hu.2 d' k' h1 h2)
 unfold Oper.wp
 rcases hrun with ⟨hrun, rfl⟩ | hrun
 ·rw [hrun]
  exact hK _ _ key
 ·rw [hrun]
  exact hK _ _ key
end
def lB (P : Program) (e : TypeId) (zc : List C) : Prop := ∃ z ck, Zt P e z /\ Jn ck (z.map DV.val) zc
inductive ExtR (P : Program) (np : Nat) : Nat -> Op -> TypeId -> List (DV × Option LB) -> bU -> List Nat -> (K2 -> Prop) -> Prop
 | makeMap {tk t ty env} : ExtR P np tk (.makeMap t none) ty [] env [] (fun e => e = Mh tk (.map []) (.row tk))
 | lookR {tk t x i ok ty env k b kd bk} {κ ν : Type} [DecidableEq κ] {kt vt : TypeId} {f : κ -> Value} {g : ν -> Value} {l : List (κ × ν)} {key : κ} {z : ν} (ht : P.underlying t = some (.map kt vt)) (hK : aV P kt f) (hz : ∀ w, (zeroValue vt).run P w = .ok (g z) w) (hzk : D0 (g z) = true) (hm : (k, some (.map (Rw f g l))) ∈ env) (hk : Ke kd = some (f key)) :
  ExtR P np tk (.lookup t x i ok) ty [(.row k, b), (kd, bk)] env [] (fun e => e = v0 (bif ok then .tup [.val (g (F4 l key z)), .val (.bool (Qw l key))] else .val (g (F4 l key z))))
 | lookM {tk t x i ok ty env b kd bk} {κ ν : Type} [DecidableEq κ] {kt vt : TypeId} {f : κ -> Value} {g : ν -> Value} {l : List (κ × ν)} {key : κ} {z : ν} (ht : P.underlying t = some (.map kt vt)) (hK : aV P kt f) (hz : ∀ w, (zeroValue vt).run P w = .ok (g z) w) (hzk : D0 (g z) = true) (hk : Ke kd = some (f key)) :
  ExtR P np tk (.lookup t x i ok) ty [(.mp (Rw f g l), b), (kd, bk)] env [] (fun e => e = v0 (bif ok then .tup [.val (g (F4 l key z)), .val (.bool (Qw l key))] else .val (g (F4 l key z))))
 | put {tk t x y y' ty env k b kd bk vd bv} {κ ν : Type} [DecidableEq κ] {kt vt : TypeId} {f : κ -> Value} {g : ν -> Value} {l : List (κ × ν)} {key : κ} {v : ν} (ht : P.underlying t = some (.map kt vt)) (hK : aV P kt f) (hm : (k, some (.map (Rw f g l))) ∈ env) (hk : Ke kd = some (f key)) (hv : Ke vd = some (g v)) :
  ExtR P np tk (.mapUpdate t x y y') ty [(.row k, b), (kd, bk), (vd, bv)] env [k] (fun e => e = Uw k (.map (Rw f g (Jo l key v))) none)
 | range {tk t x ty env k b l} {kt vt : TypeId} (ht : P.underlying t = some (.map kt vt)) (hm : (k, some (.map l)) ∈ env) : ExtR P np tk (.range t x) ty [(.row k, b)] env [] (fun e => e = Mh tk (.mit k l.length []) (.ptr tk 0))
 | next {tk x ty env j k b n seen l} (hj : (j, some (.mit k n seen)) ∈ env) (hm : (k, some (.map l)) ∈ env) (hn : n = l.length) :
  ExtR P np tk (.next x false) ty [(.ptr j 0, b)] env [j] (fun e => ((∀ i, i < n -> i ∈ seen) /\ e = Uw j (.mit k n seen) (some (.tup [.val (.bool false)]))) \/ ∃ i p, l[i]? = some p /\ i ∉ seen /\ e = Uw j (.mit k n (seen ++ [i])) (some (.tup [.val (.bool true), .val p.1, .val p.2])))
 | entry {tk x ty env j k b n seen i l p} (hj : (j, some (.mit k n (seen ++ [i]))) ∈ env) (hm : (k, some (.map l)) ∈ env) (hn : n = l.length) (hp : l[i]? = some p) :
  ExtR P np tk (.entry x) ty [(.ptr j 0, b)] env [] (fun e => e = v0 (.tup [.val p.1, .val p.2]))
 | clearP {tk t x ty env k off m b e sz bytes cs zc} (hS : Hq P t e sz bytes) (hz : lB P e zc) (hL : (k, some (.row e sz cs)) ∈ env) (hl : off + m * sz <= cs.length) :
  ExtR P np tk (.call ⟨.builtin .clear, #[x], #[t]⟩) ty [(.part k off m, b)] env [k] (fun e' => e' = Uw k (.row e sz (Cy cs off (List.replicate m zc).flatten)) (some (.tup [])))
 | copyR {tk t t' x y ty env k b d' e sz bytes cs cs' n} (hS : Hq P t e sz bytes) (hS' : Hq P t' e sz bytes) (hL : (k, some (.row e sz cs)) ∈ env) (hs : ∃ b', d' = (DV.sl sz cs', b')) (hn : cs.length = n * sz) (hn' : cs'.length = n * sz) :
  ExtR P np tk (.call ⟨.builtin .copy, #[x, y], #[t, t']⟩) ty [(.row k, b), d'] env [k] (fun e' => e' = Uw k (.row e sz cs') (some (.val (.int .i64 (n : Int)))))
 | makeC {tk t x y ty env e sz bytes k k' n c b b' zc} {m : Nat} (hS : Hq P t e sz bytes) (hz : lB P e zc) (hn : n = (m : Int)) {cap : Nat} (hc : c = (cap : Int)) (hlt : m <= cap) (hxy : x ≠ y) (hm : cap * bytes <= 140737488355328 /\ cap <= 1000000) :
  ExtR P np tk (.makeSlice t x y) ty [(.val (.int k n), b), (.val (.int k' c), b')] env [] (fun e' => e' = Mh tk (.row e sz (List.replicate m zc).flatten) (.row tk))
 | appZ {tk t tn x y ty env e sz bytes k kn n b b' zc} {m : Nat} (hS : Hq P t e sz bytes) (htn : P.underlying tn = some (.int kn)) (hz : lB P e zc) (hn : n = (m : Int)) (h0 : 0 < m) (hm : m * bytes <= 140737488355328 /\ m <= 1000000) :
  ExtR P np tk (.call ⟨.builtin .append, #[x, y], #[t, tn]⟩) ty [(.val (.slice none 0 0), b), (.val (.int k n), b')] env [] (fun e' => e' = Mh tk (.row e sz (List.replicate m zc).flatten) (.row tk))
 | buildV {tk t len parts ty ds env e bytes z r} (hS : Hq P t e 1 bytes) (hz : Zt P e z) (hlen : len * 1 <= 16777216) (hd : Hr (fun i => some (i * 1, 1)) ((List.replicate len (z.map DV.val)).flatten) ((parts.toList.map (·.1)).zip (ds.map (·.1))) = some r) (hoc : ds.all (fun q => (Ck q.1).all Wr) = true) (h0 : 0 < len) {pl : List (Nat × DV)} {pi f n : Nat} {pc : List DV} (hl : (parts.toList.map (·.1)).zip (ds.map (·.1)) = pl ++ [(pi, .clo f n pc)]) :
  ExtR P np tk (.buildSlice t len parts) ty ds env [] (fun e' => e' = Mh tk (.vec r e) (.row tk))
 | extV {tk f xs tys ty dsA env vs v} (hd : On (dsA.map (·.1)) = some vs) (hv : (∀ u ∈ vs, D0 u = true) -> D0 v = true) (h : ∀ w, (callFunc f vs.toArray).run P w = .ok (.value v) w) :
  ExtR P np tk (.call ⟨.value (.func f), xs, tys⟩) ty ((.val (.func (.func f) #[] #[]), none) :: dsA) env [] (fun e => e = v0 (.val v))
 | lenV {tk t x ty env k ds e bytes} (hS : Hq P t e 1 bytes) : ExtR P np tk (.call ⟨.builtin .len, #[x], #[t]⟩) ty [(.row k, some (.vec ds e))] env [] (fun e' => e' = v0 (.val (.int .i64 (ds.length : Int))))
 | idxV {tk t x i ty env k ds e bytes kk b n} {j : Nat} (hS : Hq P t e 1 bytes) (hj : n = (j : Int)) (hl : j < ds.length) : ExtR P np tk (.indexAddr t x i) ty [(.row k, some (.vec ds e)), (.val (.int kk n), b)] env [] (fun e' => e' = v0 (.ptr k j))
 | loadV {tk t x ty env k i ds e sz d} (ht : Ty P t false sz) (hd : ds[i]? = some d) : ExtR P np tk (.load t x) ty [(.ptr k i, some (.vec ds e))] env [] (fun e' => e' = v0 d)
section
variable {P : Program} {cx : Cx} {ρ : Nat -> Value} {σ : St} {a : Act} {w w' : World} {o : Oper} {K : Act -> World -> Prop} {Q : Exit -> Act -> World -> Prop}
theorem fA {α : Type} (l xs : List α) (i : Nat) (h : i + xs.length <= l.length) : (Cy l i xs).length = l.length := by
 unfold Cy
 simp only [List.length_append, List.length_take, List.length_drop]
 omega
theorem fZ {α : Type} (l : List α) (i : Nat) : Cy l i [] = l := by
 unfold Cy
 simp
theorem Vo {I : Nat -> Prop} {v : Value} {e s i g : Nat} {cs cs' : List C} {us' : List Value} (hw : Rc cx ρ I w v (.row e s cs)) (G : Cn v = some g) (hr' : Fl w I cs' us') (h1 : ∀ u ∈ us', u.oneCell' = true) (hi : i + cs'.length <= cs.length) :
  ∃ X : Array Value, (storeCells ⟨g, i, none⟩ us').run P w = .ok () (w.setRow g X) /\ ∀ I' : Nat -> Prop, (∀ b, I b -> I' b /\ (w.setRow g X).heap[b]? = w.heap[b]?) -> Rc cx ρ I' (w.setRow g X) v (.row e s (Cy cs i cs')) := by
 obtain ⟨n, us, hw, hM, hr⟩ := hw
 rcases hw.2 with ⟨A0, q1, -⟩ | ⟨g', cap, cur, q1, q2, q3, q4, q5, q6, q7⟩
 ·rw [q1] at G; cases A0 <;> cases G
 ·have hgg : g' = g := by rw [q1] at G; exact (Em G).1
  subst hgg
  have hul : us.length = n * s := hw.1
  have hcl : cs.length = us.length := hr.1
  have hcl' : cs'.length = us'.length := hr'.1
  have hn : n * s <= cap * s := Nat.mul_le_mul_right _ q4
  have hrun := run_storeCells_at P g' i e us' 0 cur w q3 (by omega) h1
  simp only [Nat.add_zero] at hrun
  refine ⟨_, hrun, fun I' hI => ?_⟩
  have hlen : ∀ {α : Type} (l xs : List α), i + xs.length <= l.length -> (Cy l i xs).length = l.length := fun l xs h => fA l xs i h
  have hcur : cur.toList.length = cap * s := by simpa using q6
  refine ⟨n, Cy us i us', ⟨by rw [hlen us us' (by omega)]; exact hul, .inr ⟨g', cap, (Cy cur.toList i us').toArray, q1, q2, setRow_heap w g' _ _ e (0, 0) q3, q4, q5, ?_, ?_⟩⟩, hM, ?_⟩
  ·simp only [List.size_toArray]
   rw [hlen cur.toList us' (by omega)]
   simpa using q6
  ·unfold Cy
   have e3 : us.take i = cur.toList.take i := by rw [<- q7, List.take_take]; congr 1; omega
   have e4 : us.drop (i + us'.length) = (cur.toList.drop (i + us'.length)).take (n * s - (i + us'.length)) := by rw [<- q7, List.drop_take]
   rw [e3, e4]
   rw [List.take_append, List.take_of_length_le (by simp only [List.length_append, List.length_take]; omega)]
   congr 1
   congr 1
   simp only [List.length_append, List.length_take]
   omega
  ·exact (hr.splice hr' i).keep_ (fun b hb => (hI b hb).2) fun b hb => (hI b hb).1
theorem mI {κ ν : Type} [DecidableEq κ] {f : κ -> Value} {g : ν -> Value} {l : List (κ × ν)} {key : κ} {z : ν} {m : Nat} (hm : T2 w m (Rw f g l)) (hz : D0 (g z) = true) : D0 (g (F4 l key z)) = true := by
 unfold F4
 cases hf : l.find? fun p => decide (p.1 = key) with
 | none => exact hz
 | some p =>
  obtain ⟨es, -, -, -, h4⟩ := hm
  exact (h4 _ (List.mem_map.2 ⟨p, List.mem_of_find?_eq_some hf, rfl⟩)).2
theorem aP {I : Nat -> Prop} {x y : Value} (hx : D0 x = true) (hy : D0 y = true) : Cf ρ I w (.tup [.val x, .val y]) (.tuple #[x, y]) := by
 unfold Cf
 refine ⟨[x, y], rfl, ?_⟩
 unfold Bx
 refine ⟨x, [y], rfl, Ip hx, ?_⟩
 unfold Bx
 refine ⟨y, [], rfl, Ip hy, ?_⟩
 unfold Bx
 rfl
theorem oG {I : Nat -> Prop} {x y z : Value} (hx : D0 x = true) (hy : D0 y = true) (hz : D0 z = true) : Cf ρ I w (.tup [.val x, .val y, .val z]) (.tuple #[x, y, z]) := by
 unfold Cf
 refine ⟨[x, y, z], rfl, ?_⟩
 unfold Bx
 refine ⟨x, [y, z], rfl, Ip hx, ?_⟩
 unfold Bx
 refine ⟨y, [z], rfl, Ip hy, ?_⟩
 unfold Bx
 refine ⟨z, [], rfl, Ip hz, ?_⟩
 unfold Bx
 rfl
theorem oL {I : Nat -> Prop} {x : Value} (hx : D0 x = true) : Cf ρ I w (.tup [.val x]) (.tuple #[x]) := by
 unfold Cf
 refine ⟨[x], rfl, ?_⟩
 unfold Bx
 refine ⟨x, [], rfl, Ip hx, ?_⟩
 unfold Bx
 rfl
theorem Nk : ∀ (l : List Value) (k : Nat), men (.tup (l.map DV.val)) k -> False := fun l k h => Mg l k (by unfold men at h; exact h)
theorem oP {e sz : Nat} {zc : List C} (h : lB P e zc) {t bytes : Nat} (hS : Hq P t e sz bytes) (w : World) (I : Nat -> Prop) (m : Nat) : ∃ z : Value, (zeroValue e).run P w = .ok z w /\ z.cells.size = sz /\ zc.length = sz /\ Fl w I (List.replicate m zc).flatten (List.replicate m z.cells.toList).flatten /\ (∀ u ∈ z.cells.toList, u.oneCell' = true) /\ (∃ it, P.info? e = some it /\ it.zero = some z /\ it.size = sz /\ it.bytes = bytes) := by
 obtain ⟨z, ck, hz, hd⟩ := h
 obtain ⟨it, zv, z1, z2, z3, z4⟩ := hz.get
 obtain ⟨it', zv', y1, y2, y3, y4, y5⟩ := hS.hi
 rw [z1] at y1
 injection y1 with y1
 subst y1
 rw [z2] at y2
 injection y2 with y2
 subst y2
 have hr : Fl w I zc z := Jn.rd (ρ := fun _ => .nilFunc) hd (Bx.ofVals _ fun u hu => (z4 u hu).2)
 have hl : zc.length = sz := by rw [hr.1, <- z3]; simpa using y5
 refine ⟨zv, by simp [zeroValue, typeInfo, z1, z2], y5, hl, ?_, fun u hu => (z4 u (by rw [<- z3]; exact hu)).1, it, z1, z2, y3, y4⟩
 rw [z3]
 induction m with
 | zero => exact ⟨rfl, fun j c u h _ => by simp at h⟩
 | succ m ih =>
  rw [List.replicate_succ, List.replicate_succ, List.flatten_cons, List.flatten_cons]
  exact hr.append ih
theorem pH {t e : TypeId} {len bytes tk : Nat} {parts : Array (Nat × Operand)} {ds : List (DV × Option LB)} {z : List Value} {r : List DV} {tc : Bool} (hS : Hq P t e 1 bytes) (hz : Zt P e z) (hlen : len * 1 <= 16777216)
  (hd : Hr (fun i => some (i * 1, 1)) ((List.replicate len (z.map DV.val)).flatten) ((parts.toList.map (·.1)).zip (ds.map (·.1))) = some r) (h0 : 0 < len) (hoc : ds.all (fun q => (Ck q.1).all Wr) = true)
  (ha : Du cx ρ σ a w) (hds : Dw σ tc (parts.toList.map (·.2)) = some ds) (ho : o.op = .buildSlice t len parts) (hf : σ.U tk = false) (hdst : ∀ t, o.dst = some t -> t < cx.N) (hK : ∀ a' w', Jm cx (σ.app o.dst (Mh tk (.vec r e) (.row tk))) a' w' -> K a' w') : o.wp P a w K Q := by
 obtain ⟨hr, hm⟩ := K8 ha hds
 obtain ⟨it, zv, z1, z2, z3, z4⟩ := hz.get
 obtain ⟨it', zv', y1, y2, y3, y4, y5⟩ := hS.hi
 rw [z1] at y1
 injection y1 with y1
 subst y1
 rw [z2] at y2
 injection y2 with y2
 subst y2
 have hsz := hS.hsz
 rw [Uu] at hd
 have hone : ∀ u ∈ (List.replicate len z).flatten, u.oneCell' = true := fun u hu => by
  obtain ⟨l, h1, h2⟩ := List.mem_flatten.1 hu
  rw [(List.mem_replicate.1 h1).2] at h2
  exact (z4 u h2).1
 have hok0 : ∀ u ∈ (List.replicate len z).flatten, D0 u = true := fun u hu => by
  obtain ⟨l, h1, h2⟩ := List.mem_flatten.1 hu
  rw [(List.mem_replicate.1 h1).2] at h2
  exact (z4 u h2).2
 obtain ⟨rs, r1, r2, r3⟩ := Q7 (place := fun i => some (i * 1, 1)) (parts.toList.map (·.1)) _ _ _ ((List.replicate len z).flatten) r hr (fun d hd' => by
  obtain ⟨q, hq, rfl⟩ := List.mem_map.1 hd'
  exact List.all_eq_true.1 hoc q hq) (Bx.ofVals _ hok0) hone hd
 have hrun : (Instr.buildSlice t len (parts.map fun (i, x) => (i, a.eval x))).run P w = .ok (.slice (some ⟨w.heap.size, 0, none⟩) len len) (w.alloc (.cells rs.toArray e)) := by
  have e1 : (parts.map fun (i, x) => (i, a.eval x)).toList = (parts.toList.map (·.1)).zip ((parts.toList.map (·.2)).map a.eval) := by
   rw [<- Rj]; simp
  have e3 : ((Array.range (len * 1)).map (zv.cells[· % zv.cells.size]!)) = ((List.replicate len z).flatten).toArray := by
   rw [<- z3, <- Mf zv.cells len 1 y5 hsz]
  by_cases h0' : len * 1 = 0
  ·have hl0 : len = 0 := by
    rcases Nat.mul_eq_zero.1 h0' with h | h
    ·exact h
    ·omega
   subst hl0
   have r1' : Instr.fill (fun i => some (i * 1, 1)) #[] (parts.map fun (i, x) => (i, a.eval x)).toList = some rs.toArray := by
    rw [e1]; simpa using r1
   have hs0 := hS.size (w := w)
   generalize (parts.map fun (i, x) => (i, a.eval x)) = pp at r1' ⊢
   have hn0 : ((Array.range (0 * 1)).map ((#[] : Array Value)[· % (#[] : Array Value).size]!)) = #[] := by
    rw [Nat.zero_mul]; simp
   simp only [Instr.buildSlice, Sem.run_bind, run_underlying hS.ht, Result.andThen_ok, hs0, Nat.zero_mul]
   rw [if_neg (by omega)]
   simp only [if_true, Sem.run_pure, Result.andThen_ok, Sem.run_bind]
   rw [Nat.zero_mul] at hn0
   rw [hn0, r1']
   simp [newRow]
  ·refine run_buildSlice w t e len _ rs.toArray it zv hS.ht z1 z2 (by rw [y3]; omega) (by rw [y3]; exact h0') ?_
   rw [y3, e3, e1]
   exact r1
 have hrl : rs.length = len * 1 := by
  have hdl : ∀ (ps : List (Nat × DV)) (ds r : List DV), Hr (fun i => some (i * 1, 1)) ds ps = some r -> r.length = ds.length := by
   intro ps
   induction ps with
   | nil => intro ds r h; unfold Hr at h; injection h with h; rw [h]
   | cons p ps ih =>
    intro ds r h
    obtain ⟨i, d⟩ := p
    unfold Hr at h
    simp only [] at h
    cases hb : (Nat.beq (Ck d).length 1 && Nat.ble (i * 1 + 1) ds.length) with
    | false => rw [hb] at h; cases h
    | true =>
     rw [hb] at h
     rw [Bool.and_eq_true] at hb
     have b1 := Nat.eq_of_beq_eq_true hb.1
     have b2 := Nat.le_of_ble_eq_true hb.2
     rw [ih _ _ h]
     unfold Cy
     simp only [List.length_append, List.length_take, List.length_drop]
     omega
  rw [<- r2.length, hdl _ _ _ hd, List.length_map]
  have hzl : z.length = 1 := by rw [<- z3]; simpa using y5
  simp [hzl]
 have hmr : ∀ k, Es r k -> σ.U k = true := fun k hk => by
  rcases Rq hd hk with h | ⟨p, h1, h2⟩
  ·exact (Mg _ k h).elim
  ·obtain ⟨q, hq, he⟩ := List.mem_map.1 (List.of_mem_zip h1).2
   exact hm q hq k (by rw [he]; exact h2)
 rw [Po] at hK
 have hrl' : rs.length = len := by rw [hrl]; omega
 refine V9 (lb := .vec r e) (ks := []) (d := .row tk) (w' := w.alloc (.cells rs.toArray e)) ha hdst hf (v := .slice (some ⟨w.heap.size, 0, none⟩) len len) (vn := .slice (some ⟨w.heap.size, 0, none⟩) len len) ?_ (ha.kept.alloc _) (by simp) (fun b hb _ => Below.heap_alloc w _ b hb) (fun b hb => .inl (Nat.le_of_eq (Em hb).1)) (fun I' hI => ⟨?_, ?_⟩) ⟨fun k' hk' => ?_, fun k' hk' => .inr (by unfold men at hk'; exact hk')⟩ (fun k' hk' => by simp at hk') hK
 ·simp only [execOp, ho, Sem.run_bind, hrun, Result.andThen_ok, Sem.run_pure]
 ·refine ⟨w.heap.size, rs, by rw [hrl'], ⟨by omega, by unfold maxLen; omega⟩, heap_alloc_new w _, .inl ha.kept.2.2.2.1, r3, Bx.step hI _ _ (fun k hk => ?_) r2⟩
  unfold I5
  split
  ·rename_i h
   subst h
   have := hmr k hk
   rw [hf] at this; cases this
  ·rfl
 ·unfold Cf
  simp [I5, Value.oneCell']
 ·exact hmr k' hk'
theorem Y2 {I : Nat -> Prop} : ∀ {ds : List DV} {vs us : List Value}, Bx ρ I w ds us -> On ds = some vs -> ∀ u ∈ vs, D0 u = true
 | [], vs, us, h, hd => by
  unfold On at hd
  injection hd with hd
  subst hd
  simp
 | d :: ds, vs, us, h, hd => by
  unfold Bx at h
  obtain ⟨u, us', rfl, h1, h2⟩ := h
  unfold On at hd
  cases hv : Ke d with
  | none => rw [hv] at hd; cases hd
  | some v =>
   cases hv' : On ds with
   | none => rw [hv, hv'] at hd; cases hd
   | some vs' =>
    rw [hv, hv'] at hd
    injection hd with hd
    subst hd
    intro x hx
    rcases List.mem_cons.1 hx with rfl | hx
    ·exact Cf.dval_ok h1 hv
    ·exact Y2 h2 hv' x hx
theorem bZ : ∀ a b : List UInt8, Go.Lib.compareBytes a b = Tu a b
 | [], [] => rfl
 | [], _ :: _ => rfl
 | _ :: _, [] => rfl
 | x :: a, y :: b => by
  show (if x < y then (-1 : Int) else if y < x then 1 else Go.Lib.compareBytes a b) = (if x < y then (-1 : Int) else if y < x then 1 else Tu a b)
  rw [bZ a b]
theorem Y9 : ∀ a b : List UInt8, -1 <= Tu a b /\ Tu a b <= 1
 | [], [] => ⟨by decide, by decide⟩
 | [], _ :: _ => ⟨by show (-1 : Int) <= -1; decide, by show (-1 : Int) <= 1; decide⟩
 | _ :: _, [] => ⟨by show (-1 : Int) <= 1; decide, by show (1 : Int) <= 1; decide⟩
 | x :: a, y :: b => by
  have h := Y9 a b
  unfold Tu
  split
  ·exact ⟨by decide, by decide⟩
  ·split
   ·exact ⟨by decide, by decide⟩
   ·exact h
theorem nQ {f : FuncId} {fn : Func} (hf : P.funcs[f]? = some fn) (hname : (fn.name == "runtime.NumGoroutine") = false) (hb : fn.body.isNone = true) (hn : Extern.findNext fn = none) (he : Extern.find fn = some Extern.BytealgCompare.compare) (a b : ByteArray) (w : World) :
  (callFunc f [.string a, .string b].toArray).run P w = .ok (.value (.int .i64 (kH a b))) w := by
 rw [run_callFunc_extern hf hname hb hn he]
 have := Go.Lib.run_compareString (P := P) a b w
 rw [show ([.string a, .string b].toArray : Array Value) = #[.string a, .string b] from rfl, this, bZ]
 rfl
theorem sA {a b : ByteArray} (h : ∀ u ∈ [Value.string a, .string b], D0 u = true) : D0 (.int .i64 (kH a b)) = true := by
 have e3 : IntKind.i64.min = -9223372036854775808 := by decide
 have e4 : IntKind.i64.max = 9223372036854775807 := by decide
 have key := Y9 a.data.toList b.data.toList
 unfold kH
 exact Hh.2 ⟨by omega, by omega⟩
theorem mW {f : FuncId} {fn : Func} (hf : P.funcs[f]? = some fn) (hname : (fn.name == "runtime.NumGoroutine") = false) (hb : fn.body.isNone = true) (hn : Extern.findNext fn = none) (he : Extern.find fn = some Extern.BytealgIndexByte.indexByte) (s : ByteArray) (c : UInt8) (w : World) :
  (callFunc f [.string s, .int .u8 (c.toNat : Int)].toArray).run P w = .ok (.value (.int .i64 (bJ s c))) w := by
 rw [run_callFunc_extern hf hname hb hn he]
 have := run_indexByte_string (P := P) s (c.toNat : Int) w
 rw [show ([.string s, .int .u8 (c.toNat : Int)].toArray : Array Value) = #[.string s, .int .u8 (c.toNat : Int)] from rfl, this]
 have e1 : ((c.toNat : Int).toNat.toUInt8) = c := by simp
 rw [e1]
 rfl
theorem sP {s : ByteArray} {c : UInt8} (h : ∀ u ∈ [Value.string s, .int .u8 (c.toNat : Int)], D0 u = true) : D0 (.int .i64 (bJ s c)) = true := by
 have hs := Og.1 (h (.string s) (by simp))
 have e3 : IntKind.i64.min = -9223372036854775808 := by decide
 have e4 : IntKind.i64.max = 9223372036854775807 := by decide
 have key : -1 <= bJ s c /\ bJ s c <= s.size := by
  unfold bJ
  cases hf : (List.range s.size).find? fun i => s[i]! == c with
  | none => exact ⟨Int.le_refl _, by show (-1 : Int) <= _; omega⟩
  | some i =>
   have := List.mem_of_find?_eq_some hf
   rw [List.mem_range] at this
   exact ⟨by show -1 <= (i : Int); omega, by show (i : Int) <= _; omega⟩
 unfold maxLen at hs
 exact Hh.2 ⟨by omega, by omega⟩
theorem ExtR.sound {tk : Nat} {op : Op} {ty : TypeId} {ds : List (DV × Option LB)} {env : bU} {wr : List Nat} {E : K2 -> Prop} (h : ExtR P cx.np tk op ty ds env wr E) (ha : Du cx ρ σ a w) (hds : Dw σ (I6 op) op.operands.toList = some ds) {l0 : List Nat} (henv : env = Kn σ l0) (hf : ∀ j, j < 8 -> σ.U (tk + j) = false) (ho : o.op = op) (hdst : ∀ t, o.dst = some t -> t < cx.N)
  (hK : ∀ e a' w', E e -> Jm cx (σ.app o.dst e) a' w' -> K a' w') : o.wp P a w K Q := by
 subst henv
 have hf0 : σ.U tk = false := hf 0 (by omega)
 cases h with
 | @makeMap t _ _ =>
  refine V9 (lb := .map []) (ks := []) (d := .row tk) (w' := w.alloc (.map #[] 0)) ha hdst hf0 (v := .map (some w.heap.size)) (vn := .map (some w.heap.size)) ?_ (ha.kept.alloc _) (by simp) (fun b hb _ => Below.heap_alloc w _ b hb) (fun b hb => .inl (by injection hb with hb; omega)) (fun I' hI => ⟨?_, ?_⟩) ⟨fun k' hk' => hk'.elim, fun k' hk' => .inr (by unfold men at hk'; exact hk')⟩ (fun k' hk' => by simp at hk') (fun a' w' h => hK _ a' w' rfl h)
  ·simp [execOp, ho, Instr.makeMap]
  ·exact ⟨w.heap.size, rfl, ⟨#[], heap_alloc_new w _, rfl, fun i e h => by simp at h, fun p hp => by cases hp⟩, .inl ha.kept.2.2.2.1⟩
  ·unfold Cf
   simp [I5, Value.oneCell']
 | @lookR t x i ok _ _ k b kd bk κ ν _ kt vt f g l key z ht hK' hz hzk hm hk =>
  have hL := It hm
  obtain ⟨e1, e2⟩ := Lq (show Dw σ false [x, i] = _ from hds)
  have h1 := (Ci ha e1).1
  have h2 := Cf.dval _ _ _ (Ci ha e2).1 hk
  unfold Cf at h1
  obtain ⟨m, q1, q2, -⟩ := ha.lo _ _ hL
  have hrun := dB (P := P) ht hK' hz q2 (x := key) ok
  have hgo := mI (key := key) q2 hzk
  refine I3 ha hdst (v := bif ok then .tuple #[g (F4 l key z), .bool (Qw l key)] else g (F4 l key z)) ?_ ?_ (fun k' hk' => ?_) (fun a' w' h => hK _ a' w' rfl h)
  ·simp only [execOp, ho, h1.1, q1, h2, Sem.run_bind, hrun, Result.andThen_ok, Sem.run_pure]
  ·cases ok with
   | true => exact aP hgo rfl
   | false => exact Ip hgo
  ·cases ok with
   | true => exact (Nk [_, _] k' hk').elim
   | false => exact Rs k' hk'
 | @lookM t x i ok _ _ b kd bk κ ν _ kt vt f g l key z ht hK' hz hzk hk =>
  obtain ⟨e1, e2⟩ := Lq (show Dw σ false [x, i] = _ from hds)
  have h1 := (Ci ha e1).1
  have h2 := Cf.dval _ _ _ (Ci ha e2).1 hk
  unfold Cf D4 at h1
  obtain ⟨m, q1, -, q2⟩ := h1
  have hrun := dB (P := P) ht hK' hz q2 (x := key) ok
  have hgo := mI (key := key) q2 hzk
  refine I3 ha hdst (v := bif ok then .tuple #[g (F4 l key z), .bool (Qw l key)] else g (F4 l key z)) ?_ ?_ (fun k' hk' => ?_) (fun a' w' h => hK _ a' w' rfl h)
  ·simp only [execOp, ho, q1, h2, Sem.run_bind, hrun, Result.andThen_ok, Sem.run_pure]
  ·cases ok with
   | true => exact aP hgo rfl
   | false => exact Ip hgo
  ·cases ok with
   | true => exact (Nk [_, _] k' hk').elim
   | false => exact Rs k' hk'
 | @put t x y y' _ _ k b kd bk vd bv κ ν _ kt vt f g l key v ht hK' hm hk hv =>
  have hL := It hm
  obtain ⟨e1, e2, e3⟩ := tI (show Dw σ false [x, y, y'] = _ from hds)
  have h1 := (Ci ha e1).1
  have h2 := Cf.dval _ _ _ (Ci ha e2).1 hk
  have h2' := Cf.dval_ok (Ci ha e2).1 hk
  have h3 := Cf.dval _ _ _ (Ci ha e3).1 hv
  have h3' := Cf.dval_ok (Ci ha e3).1 hv
  unfold Cf at h1
  obtain ⟨m, q1, q2, q3⟩ := ha.lo _ _ hL
  obtain ⟨es, hrun, hnew⟩ := rO (P := P) ht hK' q2 h2' h3'
  refine gF (lb' := .map (Rw f g (Jo l key v))) (d := none) (v := undef) (w' := setBlock w m (.map es es.size)) ha hdst hL (.inl ⟨?_, rfl⟩) ⟨rfl, rfl, rfl, Q6 _ _⟩ (fun b hb => Qb _ fun e => hb (by rw [q1, e]; rfl)) (fun I' hI => ⟨⟨m, q1, hnew, q3⟩, fun x hx => by cases hx⟩) ⟨fun k' hk' => hk'.elim, fun x k' hx => by cases hx⟩ (fun a' w' h => hK _ a' w' rfl h)
  simp only [execOp, ho, h1.1, q1, h2, h3, Sem.run_bind, hrun, Result.andThen_ok, Sem.run_pure]
 | @range t x _ _ k b l kt vt ht hm =>
  have hL := It hm
  have e1 := Jb (show Dw σ false [x] = _ from hds)
  obtain ⟨h1, h2, -⟩ := Ci ha e1
  unfold Cf at h1
  obtain ⟨m, q1, ⟨es, q2, q3, q4, q5⟩, -⟩ := ha.lo _ _ hL
  have hn : es.size = l.length := by rw [<- q3]; simp
  have hrun := run_range_map (P := P) w t kt vt m es es.size ht q2
  have hku : σ.U k = true := (ha.usedL _ _ hL).1
  have hne : k ≠ tk := fun e => by rw [e, hf0] at hku; cases hku
  refine V9 (lb := .mit k l.length []) (ks := []) (d := .ptr tk 0) (w' := w.alloc (.mapIter (some m) es.size #[] es.size)) ha hdst hf0 (v := .pointer (some ⟨w.heap.size, 0, none⟩)) (vn := .pointer (some ⟨w.heap.size, 0, none⟩)) ?_ (ha.kept.alloc _) (by simp) (fun b hb _ => Below.heap_alloc w _ b hb) (fun b hb => .inl (by injection hb with hb; exact Nat.le_of_eq hb)) (fun I' hI => ⟨?_, ?_⟩) ⟨fun k' hk' => by have hk' : k' = k := hk'; rw [hk']; exact hku, fun k' hk' => .inr (by unfold men at hk'; exact hk')⟩ (fun k' hk' => by simp at hk') (fun a' w' h => hK _ a' w' rfl h)
  ·simp only [execOp, ho, h1.1, q1, Sem.run_bind, hrun, Result.andThen_ok, Sem.run_pure]
  ·refine ⟨w.heap.size, m, rfl, by rw [<- q1]; unfold I5; rw [if_neg hne], ?_, .inl ha.kept.2.2.2.1⟩
   rw [heap_alloc_new, hn]
  ·unfold Cf
   exact ⟨w.heap.size, by simp [I5, Cn], rfl⟩
 | @next x _ _ j k b n seen l hj hm hn =>
  have hLj := It hj
  have hLk := It hm
  have e1 := Jb (show Dw σ false [x] = _ from hds)
  obtain ⟨h1, h2, -⟩ := Ci ha e1
  unfold Cf at h1
  obtain ⟨g, G, hv⟩ := h1
  obtain ⟨b', m, r1, r2, r3, r4⟩ := ha.lo _ _ hLj
  have hgb : b' = g := by rw [r1] at G; injection G
  subst hgb
  obtain ⟨m', q1, ⟨es, q2, q3, q4, q5⟩, -⟩ := ha.lo _ _ hLk
  have hmm : m = m' := by rw [r2] at q1; injection q1 with q1; injection q1
  subst hmm
  have hes : es.size = n := by rw [hn, <- q3]; simp
  have hku : σ.U k = true := (ha.usedL _ _ hLk).1
  have hlt : ∀ x ∈ es.toList, x.born < n := fun x hx => by
   obtain ⟨i, hi, rfl⟩ := List.getElem_of_mem hx
   have hi' : i < es.size := by simpa using hi
   have := q4 i es[i] (by simp [hi'])
   simp only [Array.getElem_toList]
   rw [this]; omega
  have left : ∀ e, e ∈ (leftOf es seen.toArray).toList ↔ e ∈ es.toList /\ e.born ∉ seen := fun e => by
   unfold leftOf
   simp
  rcases run_next_at (P := P) w o.type b' m n n seen.toArray es es.size r3 q2 hlt (Nat.le_refl _) with ⟨s1, s2⟩ | ⟨e, s1, w1, s2, s3⟩
  ·refine gF (d := some (.tup [.val (.bool false)])) (lb' := .mit k n seen) (v := .tuple #[.bool false]) (w' := w) ha hdst hLj (.inr ?_) ⟨rfl, rfl, rfl, rfl⟩ (fun b hb => rfl) (fun I' hI => ⟨⟨b', m, r1, r2, r3, r4⟩, fun x hx => by injection hx with hx; subst hx; exact oL rfl⟩) ⟨fun k' hk' => by have hk' : k' = k := hk'; rw [hk']; exact hku, fun x k' hx hm => by injection hx with hx; subst hx; exact (Nk [_] k' hm).elim⟩ (fun a' w' h => hK _ a' w' (.inl ⟨fun i hi => ?_, rfl⟩) h)
   ·simp only [execOp, ho, hv, Sem.run_bind, s2, Result.andThen_ok, Sem.run_pure]
   ·refine Decidable.byContradiction fun hns => ?_
    have hi' : i < es.size := by omega
    have : es[i] ∈ (leftOf es seen.toArray).toList := (left _).2 ⟨by simp, by rw [q4 i es[i] (by simp [hi'])]; exact hns⟩
    have h0 : (leftOf es seen.toArray) = #[] := Array.eq_empty_of_size_eq_zero s1
    rw [h0] at this
    simp at this
  ·obtain ⟨t1, t2⟩ := (left e).1 s1
   obtain ⟨i, hi, hie⟩ := List.getElem_of_mem t1
   have hi' : i < es.size := by simpa using hi
   have hei : es[i]? = some e := by
    rw [<- Array.getElem?_toList, List.getElem?_eq_getElem hi, hie]
   have hb := q4 i e hei
   have hl : l[i]? = some (e.key, e.val) := by
    rw [<- q3, List.getElem?_map, Array.getElem?_toList, hei]
    rfl
   have hok := q5 _ (List.mem_of_getElem? hl)
   have hw1 : w1.os = w.os /\ w1.tape = w.tape /\ w1.output = w.output /\ w1.heap = w.heap := by
    rcases s2 with rfl | rfl <;> exact ⟨rfl, rfl, rfl, rfl⟩
   obtain ⟨v1, v2, v3, v4⟩ := hw1
   refine gF (d := some (.tup [.val (.bool true), .val e.key, .val e.val])) (lb' := .mit k n (seen ++ [i])) (v := .tuple #[.bool true, e.key, e.val]) (w' := setBlock w1 b' (.mapIter (some m) n (seen.toArray.push e.born) es.size)) ha hdst hLj (.inr ?_) ⟨v1, v2, v3, by rw [Q6, v4]⟩ (fun b hb => (Qb _ fun e => hb (by rw [r1, e]; rfl)).trans (by rw [v4])) (fun I' hI => ⟨⟨b', m, r1, r2, ?_, r4⟩, fun x hx => by injection hx with hx; subst hx; exact oG rfl hok.1 hok.2⟩) ⟨fun k' hk' => by have hk' : k' = k := hk'; rw [hk']; exact hku, fun x k' hx hm => by injection hx with hx; subst hx; exact (Nk [_, _, _] k' hm).elim⟩ (fun a' w' h => hK _ a' w' (.inr ⟨i, _, hl, by rw [<- hb]; exact t2, rfl⟩) h)
   ·simp only [execOp, ho, hv, Sem.run_bind, s3, Result.andThen_ok, Sem.run_pure]
   ·rw [Nq (w := w1) (by rw [v4]; exact r3), hb, hes]
    simp
 | @entry x _ _ j k b n seen i l p hj hm hn hp =>
  have hLj := It hj
  have hLk := It hm
  have e1 := Jb (show Dw σ false [x] = _ from hds)
  obtain ⟨h1, h2, -⟩ := Ci ha e1
  unfold Cf at h1
  obtain ⟨g, G, hv⟩ := h1
  obtain ⟨b', m, r1, r2, r3, r4⟩ := ha.lo _ _ hLj
  have hgb : b' = g := by rw [r1] at G; injection G
  subst hgb
  obtain ⟨m', q1, ⟨es, q2, q3, q4, q5⟩, -⟩ := ha.lo _ _ hLk
  have hmm : m = m' := by rw [r2] at q1; injection q1 with q1; injection q1
  subst hmm
  have hes : es.size = n := by rw [hn, <- q3]; simp
  have hok := q5 _ (List.mem_of_getElem? hp)
  have hpe := hp
  rw [<- q3, List.getElem?_map, Array.getElem?_toList] at hpe
  obtain ⟨e, hei, rfl⟩ := Option.map_eq_some_iff.1 hpe
  have hb := q4 i e hei
  obtain ⟨hi, hie⟩ := Array.getElem?_eq_some_iff.1 hei
  have hfind : es.find? (fun x => x.born == i) = some e := by
   rw [Array.find?_eq_some_iff_getElem]
   refine ⟨by rw [hb]; simp, i, hi, hie, fun q hq => ?_⟩
   have := q4 q es[q] (by simp)
   rw [this]
   have : q ≠ i := by omega
   simp [this]
  have hrun : (Instr.entry (.pointer (some ⟨b', 0, none⟩))).run P w = .ok (.tuple #[e.key, e.val]) w := by
   have hback : (seen ++ [i]).toArray.back? = some i := by simp
   simp only [Instr.entry, getObj, Sem.run_bind, Sem.run, r3, q2, Result.andThen, hback, hes, hfind, bne_self_eq_false, Bool.false_eq_true, if_false]
   rfl
  refine I3 ha hdst (d := .tup [.val e.key, .val e.val]) (v := .tuple #[e.key, e.val]) ?_ (aP hok.1 hok.2) (fun k' hk' => (Nk [_, _] k' hk').elim) (fun a' w' h => hK _ a' w' rfl h)
  simp only [execOp, ho, hv, Sem.run_bind, hrun, Result.andThen_ok, Sem.run_pure]
 | @clearP t x _ _ k off m b e sz bytes cs zc hS hz hL hl =>
  have hL := It hL
  have e1 := Jb (show Dw σ true [x] = _ from hds)
  obtain ⟨h1, h2, -⟩ := Ci ha e1
  unfold Cf at h1
  obtain ⟨A, c, hv, -, -, hA, -⟩ := h1
  obtain ⟨z, z1, z2, z3, z4, z5, -⟩ := oP hz hS w (K7 cx σ ρ w) m
  have ht := hS.ht
  have hlo := ha.lo _ _ hL
  rcases Nat.eq_zero_or_pos m with hm | hm
  ·subst hm
   refine gF (lb' := .row e sz (Cy cs off (List.replicate 0 zc).flatten)) (d := some (.tup [])) (v := .tuple #[]) (w' := w) ha hdst hL (.inr ?_) ⟨rfl, rfl, rfl, rfl⟩ (fun b hb => rfl) (fun I' hI => ⟨?_, fun x hx => by injection hx with hx; subst hx; unfold Cf; exact ⟨[], rfl, by unfold Bx; rfl⟩⟩) ⟨fun k' hk' => hk'.elim, fun x k' hx hm => by injection hx with hx; subst hx; exact (Nk [] k' hm).elim⟩ (fun a' w' h => hK _ a' w' rfl h)
   ·have : (Builtin.clear_ #[t] o.type #[.slice A 0 c]).run P w = .ok (.tuple #[]) w := by
     cases A <;> simp [Builtin.clear_, run_underlying ht]
    simp [execOp, ho, resolve, invoke, builtin, hv, this]
   ·rw [List.replicate_zero, List.flatten_nil, fZ]
    obtain ⟨n, us, q1, q2, q3⟩ := hlo
    exact ⟨n, us, q1, q2, q3.keep_ (fun _ _ => rfl) fun b hb => (hI b hb).1⟩
  ·obtain ⟨g, G, rfl⟩ := hA hm
   have hlen : (List.replicate m zc).flatten.length = m * sz := by simp [z3]
   obtain ⟨X, hst, hnew⟩ := Vo (P := P) (i := off) hlo G z4 (fun u hu => by
    obtain ⟨l, h3, h4⟩ := List.mem_flatten.1 hu
    rw [(List.mem_replicate.1 h3).2] at h4
    exact z5 u h4) (by rw [hlen]; exact hl)
   have hzc : (Builtin.zeroCells z.cells m).toList = (List.replicate m z.cells.toList).flatten := by
    unfold Builtin.zeroCells
    exact Mf z.cells m z.cells.size rfl (by rw [z2]; exact hS.hsz)
   refine gF (lb' := .row e sz (Cy cs off (List.replicate m zc).flatten)) (d := some (.tup [])) (v := .tuple #[]) (w' := w.setRow g X) ha hdst hL (.inr ?_) ⟨rfl, rfl, rfl, Nz w g X⟩ (fun b hb => L7 w g b X fun e => hb (by rw [G, e])) (fun I' hI => ⟨hnew I' hI, fun x hx => by injection hx with hx; subst hx; unfold Cf; exact ⟨[], rfl, by unfold Bx; rfl⟩⟩) ⟨fun k' hk' => hk'.elim, fun x k' hx hm => by injection hx with hx; subst hx; exact (Nk [] k' hm).elim⟩ (fun a' w' h => hK _ a' w' rfl h)
   have : (Builtin.clear_ #[t] o.type #[.slice (some ⟨g, off, none⟩) m c]).run P w = .ok (.tuple #[]) (w.setRow g X) := by
    obtain ⟨m', rfl⟩ : ∃ m', m = m' + 1 := ⟨m - 1, by omega⟩
    simp [Builtin.clear_, run_underlying ht, z1, hzc, hst]
   simp [execOp, ho, resolve, invoke, builtin, hv, this]
 | @copyR t t' x y _ _ k b d' e sz bytes cs cs' n hS hS' hL hs hn hn' =>
  have hL := It hL
  obtain ⟨b', rfl⟩ := hs
  obtain ⟨e1, e2⟩ := Lq (show Dw σ true [x, y] = _ from hds)
  obtain ⟨h1, -, -⟩ := Ci ha e1
  obtain ⟨h2, -, -⟩ := Ci ha e2
  unfold Cf at h1 h2
  obtain ⟨A, m, c, hv, hm, hmc, hc⟩ := h2.slice
  have hsz := hS.hsz
  have hmn : m = n := Nat.eq_of_mul_eq_mul_right hsz (hm.symm.trans hn')
  subst hmn
  rw [hv] at h2
  obtain ⟨us', u1, u2, u3⟩ := h2.vals
  have hlo := ha.lo _ _ hL
  obtain ⟨N, us, q1, q2, q3⟩ := id hlo
  have hN : N = m := Nat.eq_of_mul_eq_mul_right hsz (by rw [<- q1.1, <- q3.1]; exact hn)
  subst hN
  obtain ⟨it, zv, y1, y2, y3, y4, y5⟩ := hS.hi
  have hsplice : Cy cs 0 cs' = cs' := by
   unfold Cy
   rw [Nat.zero_add, hn', <- hn, List.take_zero, List.drop_length]
   simp
  rcases Nat.eq_zero_or_pos N with h0 | h0
  ·subst h0
   have hcs : cs = [] := List.eq_nil_of_length_eq_zero (by simpa using hn)
   have hcs' : cs' = [] := List.eq_nil_of_length_eq_zero (by simpa using hn')
   subst hcs hcs'
   refine gF (lb' := .row e sz []) (d := some (.val (.int .i64 0))) (v := .int .i64 0) (w' := w) ha hdst hL (.inr ?_) ⟨rfl, rfl, rfl, rfl⟩ (fun b hb => rfl) (fun I' hI => ⟨?_, fun x hx => by injection hx with hx; subst hx; exact Ip rfl⟩) ⟨fun k' hk' => hk'.elim, fun x k' hx hm => by injection hx with hx; subst hx; unfold men at hm; exact hm.elim⟩ (fun a' w' h => hK _ a' w' rfl h)
   ·have key : ∀ B cap', (Builtin.copy_ #[t, t'] o.type #[.slice B 0 cap', .slice A 0 c]).run P w = .ok (.int .i64 0) w := fun B cap' => by
     cases B <;> cases A <;> simp [Builtin.copy_, run_underlying hS.ht, Builtin.lenOf, Builtin.firstCells, sizeOf, typeInfo, y1, storeCells, loadCells, loadCellsFrom, goInt]
    have hsl : ∃ B cap', ρ k = .slice B 0 cap' := by
     rcases q1.2 with ⟨B, e, -⟩ | ⟨g, cap, cur, e, -⟩
     ·exact ⟨_, _, e⟩
     ·exact ⟨_, _, e⟩
    obtain ⟨B, cap', hB⟩ := hsl
    simp [execOp, ho, resolve, invoke, builtin, hv, h1.1, hB, key]
   ·exact ⟨0, us, q1, q2, q3.keep_ (fun _ _ => rfl) fun b hb => (hI b hb).1⟩
  ·obtain ⟨ad, rfl, -, hcell⟩ := u3 h0
   obtain ⟨g, cap, hr, hcap, -, -⟩ := Uc q1 h0
   have G : Cn (ρ k) = some g := by rw [hr]; exact Ig (by omega)
   obtain ⟨X, hst, hnew⟩ := Vo (P := P) (i := 0) hlo G u2 (aA u2) (by rw [hn, hn']; omega)
   rw [hsplice] at hnew
   have hokN : D0 (.int .i64 (N : Int)) = true := by
    have e3 : IntKind.i64.min = -9223372036854775808 := by decide
    have e4 : IntKind.i64.max = 9223372036854775807 := by decide
    unfold maxLen at hc
    exact Hh.2 ⟨by omega, by omega⟩
   refine gF (lb' := .row e sz cs') (d := some (.val (.int .i64 (N : Int)))) (v := .int .i64 (N : Int)) (w' := w.setRow g X) ha hdst hL (.inr ?_) ⟨rfl, rfl, rfl, Nz w g X⟩ (fun b hb => L7 w g b X fun e => hb (by rw [G, e])) (fun I' hI => ⟨hnew I' hI, fun x hx => by injection hx with hx; subst hx; exact Ip hokN⟩) ⟨fun k' hk' => hk'.elim, fun x k' hx hm => by injection hx with hx; subst hx; unfold men at hm; exact hm.elim⟩ (fun a' w' h => hK _ a' w' rfl h)
   have hload := run_loadCells_list (P := P) w ad us' hcell
   rw [u1] at hload
   have key : (Builtin.copy_ #[t, t'] o.type #[.slice (some ⟨g, 0, none⟩) N cap, .slice (some ad) N c]).run P w = .ok (.int .i64 (N : Int)) (w.setRow g X) := by
    simp [Builtin.copy_, run_underlying hS.ht, Builtin.lenOf, Builtin.firstCells, sizeOf, typeInfo, y1, y3, hload, hst, goInt]
   simp [execOp, ho, resolve, invoke, builtin, hv, h1.1, hr, key]
 | @makeC t x y _ _ e sz bytes k k' n c b b' zc m hS hz hn cap hc hlt hxy hm =>
  subst hn hc
  obtain ⟨e1, e2⟩ := Lq (show Dw σ false [x, y] = _ from hds)
  have hx := Dx ha e1
  have hy := Dx ha e2
  obtain ⟨zv, z1, z2, z3, z4, z5, it, y1, y2, y3, y4⟩ := oP hz hS w (fun _ => False) m
  have hsz := hS.hsz
  have hr := run_make (P := P) w t e it zv hS.ht y1 y2 k k' (m : Int) (cap : Int) (by omega) (by omega) (by
   rw [y4]
   have : ((bytes * cap : Nat) : Int) <= 281474976710656 := by rw [Nat.mul_comm]; omega
   rwa [Int.natCast_mul] at this) (by omega)
  simp only [Int.toNat_natCast, y3] at hr
  have hcells : (madeCells zv.cells (cap * sz)).toList = (List.replicate cap zv.cells.toList).flatten := by
   unfold madeCells
   exact Mf zv.cells cap sz z2 hsz
  refine V9 (lb := .row e sz (List.replicate m zc).flatten) (ks := []) (d := .row tk) (w' := w.alloc (.cells (madeCells zv.cells (cap * sz)) e)) ha hdst hf0 (v := .slice (some ⟨w.heap.size, 0, none⟩) m cap) (vn := .slice (some ⟨w.heap.size, 0, none⟩) m cap) ?_ (ha.kept.alloc _) (by simp) (fun b hb _ => Below.heap_alloc w _ b hb) (fun b hb => .inl (Nat.le_of_eq (Em hb).1)) (fun I' hI => ⟨?_, ?_⟩) ⟨fun k' hk' => hk'.elim, fun k' hk' => .inr (by unfold men at hk'; exact hk')⟩ (fun k' hk' => by simp at hk') (fun a' w' h => hK _ a' w' rfl h)
  ·simp [execOp, ho, hx, hy, hr]
  ·refine ⟨m, (List.replicate m zv.cells.toList).flatten, World.rowOk_of (base := 0) ⟨by simp [z2], .inr ⟨w.heap.size, cap, madeCells zv.cells (cap * sz), rfl, Nat.zero_le _, heap_alloc_new w _, by omega, by unfold maxLen; omega, size_madeCells _ _, ?_⟩⟩, fun b hb => .inl (by rw [<- (Em hb).1]; exact ha.kept.2.2.2.1), z4.keep_ (fun b hb => hb.elim) fun b hb => hb.elim⟩
   rw [hcells]
   have : cap = m + (cap - m) := by omega
   rw [this, <- List.replicate_append_replicate, List.flatten_append, List.take_append_of_le_length (by simp [z2])]
   exact List.take_of_length_le (by simp [z2])
  ·unfold Cf
   simp [I5, Value.oneCell']
 | @appZ t tn x y _ _ e sz bytes k kn n b b' zc m hS htn hz hn h0 hm =>
  subst hn
  obtain ⟨e1, e2⟩ := Lq (show Dw σ true [x, y] = _ from hds)
  have hx := Dx ha e1
  have hy := Dx ha e2
  obtain ⟨zv, z1, z2, z3, z4, z5, it, y1, y2, y3, y4⟩ := oP hz hS w (fun _ => False) m
  have hsz := hS.hsz
  have hr := Go.Lib.run_append_nil_zeros (P := P) w t tn o.type e it zv k kn hS.ht htn y1 y2 m h0 (by rw [y3]; exact hsz) (by omega) (by rw [y4]; omega)
  have hge := grownCap_ge w m 0 e
  have hcm := grownCap_le_maxLen w m 0 e (by unfold maxLen; omega)
  have hzc : ∀ q, (Builtin.zeroCells zv.cells q).toList = (List.replicate q zv.cells.toList).flatten := fun q => by
   unfold Builtin.zeroCells
   rw [z2]
   have := Mf zv.cells q sz z2 hsz
   rw [z2] at this
   exact this
  generalize hcap : grownCap w m 0 e = cap at hr hge hcm
  have hsize : ∀ q, (Builtin.zeroCells zv.cells q).size = q * sz := fun q => by unfold Builtin.zeroCells; simp [z2]
  refine V9 (lb := .row e sz (List.replicate m zc).flatten) (ks := []) (d := .row tk) (w' := w.drew.alloc (.cells (Builtin.zeroCells zv.cells m ++ Builtin.zeroCells zv.cells (cap - m)) e)) ha hdst hf0 (v := .slice (some ⟨w.heap.size, 0, none⟩) m cap) (vn := .slice (some ⟨w.heap.size, 0, none⟩) m cap) ?_ ((show cx.Kept w.drew from ha.kept).alloc _) (by have := Xz w.drew (.cells (Builtin.zeroCells zv.cells m ++ Builtin.zeroCells zv.cells (cap - m)) e); have h9 : w.drew.heap.size = w.heap.size := rfl; omega) (fun b hb _ => Below.heap_alloc w.drew _ b hb) (fun b hb => .inl (Nat.le_of_eq (Em hb).1)) (fun I' hI => ⟨?_, ?_⟩) ⟨fun k' hk' => hk'.elim, fun k' hk' => .inr (by unfold men at hk'; exact hk')⟩ (fun k' hk' => by simp at hk') (fun a' w' h => hK _ a' w' rfl h)
  ·simp [execOp, ho, resolve, invoke, builtin, hx, hy, hr]
  ·refine ⟨m, (List.replicate m zv.cells.toList).flatten, World.rowOk_of (base := 0) ⟨by simp [z2], .inr ⟨w.heap.size, cap, _, rfl, Nat.zero_le _, heap_alloc_new w.drew _, hge, hcm, ?_, ?_⟩⟩, fun b hb => .inl (by rw [<- (Em hb).1]; exact ha.kept.2.2.2.1), z4.keep_ (fun b hb => hb.elim) fun b hb => hb.elim⟩
   ·rw [Array.size_append, hsize, hsize, <- Nat.add_mul]
    congr 1
    omega
   ·rw [Array.toList_append, hzc, List.take_append_of_le_length (by simp [z2])]
    exact List.take_of_length_le (by simp [z2])
  ·unfold Cf
   simp [I5, Value.oneCell']
 | buildV hS hz hlen hd hoc h0 hl => exact pH hS hz hlen hd h0 hoc ha (show Dw σ false _ = _ from hds) ho hf0 hdst (fun a' w' h => hK _ a' w' rfl h)
 | @extV f xs tys _ dsA _ vs v hd hv h =>
  have hds' : Dw σ true (.func f :: xs.toList) = some ((.val (.func (.func f) #[] #[]), none) :: dsA) := by
   have : (Op.call ⟨.value (.func f), xs, tys⟩).operands.toList = .func f :: xs.toList := by simp [Op.operands, Call.operands]
   rw [<- this]; exact hds
  obtain ⟨-, e2⟩ := Ng hds'
  have hr := (K8 ha e2).1
  have e1 := Bx.dvals _ _ _ hr hd
  have hok : ∀ u ∈ vs, D0 u = true := Y2 hr hd
  refine I3 ha hdst (v := v) ?_ (Ip (hv hok)) (fun k' hk' => Rs k' hk') (fun a' w' h => hK _ a' w' rfl h)
  have h1 := h w
  have e0 : (xs.toList.map a.eval).toArray = xs.map a.eval := by rw [<- Array.toList_map, Array.toArray_toList]
  rw [<- e1, e0] at h1
  have e4 : a.eval (.func f) = .func (.func f) #[] #[] := rfl
  have e3 : (#[] ++ Array.map a.eval xs ++ #[] : Array Value) = Array.map a.eval xs := by simp
  simp only [execOp, ho, resolve, e4, Deferred.ofValue, Sem.run_bind, Sem.run_pure, Result.andThen_ok, invoke, e3]
  exact h1
 | @lenV t x _ _ k ds e bytes hS =>
  have e1 := Jb (show Dw σ true [x] = _ from hds)
  obtain ⟨h1, -, h3⟩ := Ci ha e1
  unfold Cf at h1
  obtain ⟨b, vs, q1, q2, q3, q4, q5, q6⟩ := ha.lo _ _ (h3 _ _ rfl rfl)
  have hlen := q6.length
  refine I3 ha hdst (v := .int .i64 (ds.length : Int)) ?_ (Ip (Hh.2 ?_)) (fun k' hk' => Rs k' hk') (fun a' w' h => hK _ a' w' rfl h)
  ·have : (Builtin.len_ #[t] o.type #[.slice (some ⟨b, 0, none⟩) vs.length vs.length]).run P w = .ok (.int .i64 (ds.length : Int)) w := by
    simp [Builtin.len_, run_underlying hS.ht, goInt, hlen]
   simp [execOp, ho, resolve, invoke, builtin, h1.1, q1, this]
  ·have e3 : IntKind.i64.min = -9223372036854775808 := by decide
   have e4 : IntKind.i64.max = 9223372036854775807 := by decide
   unfold maxLen at q2
   omega
 | @idxV t x i _ _ k ds e bytes kk b n j hS hj hl =>
  subst hj
  obtain ⟨e1, e2⟩ := Lq (show Dw σ true [x, i] = _ from hds)
  obtain ⟨h1, h2, h3⟩ := Ci ha e1
  have hi := Dx ha e2
  unfold Cf at h1
  obtain ⟨b', vs, q1, q2, q3, q4, q5, q6⟩ := ha.lo _ _ (h3 _ _ rfl rfl)
  have hlen := q6.length
  have h1' := h1.1
  rw [q1] at h1'
  refine I3 ha hdst (v := .pointer (some ⟨b', j * 1, none⟩)) ?_ (by unfold Cf; exact ⟨b', by rw [q1]; exact Ig q2.1, by rw [Nat.mul_one]⟩) (fun k' hk' => h2 k' (by unfold men at *; exact hk')) (fun a' w' h => hK _ a' w' rfl h)
  simp [execOp, ho, h1', hi, Wk hS _ vs.length vs.length kk (j := j) (by omega), K4]
 | @loadV t x _ _ k i ds e sz d ht hd =>
  have e1 := Jb (show Dw σ true [x] = _ from hds)
  obtain ⟨h1, -, h3⟩ := Ci ha e1
  have hL := h3 _ _ rfl rfl
  unfold Cf at h1
  obtain ⟨g, G, hv⟩ := h1
  obtain ⟨b', vs, q1, q2, q3, q4, q5, q6⟩ := ha.lo _ _ hL
  have hgb : b' = g := by rw [q1] at G; exact (Em G).1
  subst hgb
  obtain ⟨v, hv', hr⟩ := q6.at_ hd
  have hc : w.cell? ⟨b', i, none⟩ = some v := by simp [World.cell?, q3, hv']
  refine I3 ha hdst (v := v) ?_ hr (fun k' hk' => (ha.usedL _ _ hL).2 k' (by unfold Pu; exact Rf.2 ⟨d, List.mem_of_getElem? hd, hk'⟩)) (fun a' w' h => hK _ a' w' rfl h)
  simp [execOp, ho, hv, Oy ht hc]
theorem Ra {k0 k : Nat} {lb : LB} {d : Option DV} (h : (Uw k0 lb d).l k ≠ none) : k = k0 := by
 have h' : (bif Nat.beq k k0 then some (some lb) else none) ≠ none := h
 cases hb : Nat.beq k k0 with
 | true => exact Nat.eq_of_beq_eq_true hb
 | false => rw [hb] at h'; exact absurd rfl h'
theorem Re {tk k : Nat} {lb : LB} {d : DV} (h : (Mh tk lb d).l k ≠ none) : k = tk := by
 have h' : (bif Nat.beq k tk then some (some lb) else none) ≠ none := h
 cases hb : Nat.beq k tk with
 | true => exact Nat.eq_of_beq_eq_true hb
 | false => rw [hb] at h'; exact absurd rfl h'
theorem ExtR.key {tk : Nat} {op : Op} {ty : TypeId} {ds : List (DV × Option LB)} {env : bU} {wr : List Nat} {E : K2 -> Prop} {np : Nat} (h : ExtR P np tk op ty ds env wr E) : ∀ e, E e -> ∀ k, e.l k ≠ none -> k ∈ wr \/ (tk <= k /\ k < tk + 8) := by
 cases h with
 | makeMap => rintro e rfl k hk; have := Re hk; exact .inr (by omega)
 | lookR => rintro e rfl k hk; exact absurd rfl hk
 | lookM => rintro e rfl k hk; exact absurd rfl hk
 | put => rintro e rfl k hk; exact .inl (List.mem_singleton.2 (Ra hk))
 | range => rintro e rfl k hk; have := Re hk; exact .inr (by omega)
 | next =>
  rintro e (⟨-, rfl⟩ | ⟨i, p, -, -, rfl⟩) k hk
  ·exact .inl (List.mem_singleton.2 (Ra hk))
  ·exact .inl (List.mem_singleton.2 (Ra hk))
 | entry => rintro e rfl k hk; exact absurd rfl hk
 | clearP => rintro e rfl k hk; exact .inl (List.mem_singleton.2 (Ra hk))
 | copyR => rintro e rfl k hk; exact .inl (List.mem_singleton.2 (Ra hk))
 | makeC => rintro e rfl k hk; have := Re hk; exact .inr (by omega)
 | appZ => rintro e rfl k hk; have := Re hk; exact .inr (by omega)
 | buildV => rintro e rfl k hk; have := Re hk; exact .inr (by omega)
 | lenV => rintro e rfl k hk; exact absurd rfl hk
 | extV => rintro e rfl k hk; exact absurd rfl hk
 | idxV => rintro e rfl k hk; exact absurd rfl hk
 | loadV => rintro e rfl k hk; exact absurd rfl hk
theorem ExtR.sub {tk : Nat} {op : Op} {ty : TypeId} {ds : List (DV × Option LB)} {env : bU} {wr : List Nat} {E : K2 -> Prop} {np : Nat} (h : ExtR P np tk op ty ds env wr E) : ∀ k, k ∈ wr -> k ∈ env.map (·.1) := by
 cases h with
 | put _ _ hm => intro k hk; rw [List.mem_singleton.1 hk]; exact List.mem_map.2 ⟨_, hm, rfl⟩
 | next hj => intro k hk; rw [List.mem_singleton.1 hk]; exact List.mem_map.2 ⟨_, hj, rfl⟩
 | clearP _ _ hm => intro k hk; rw [List.mem_singleton.1 hk]; exact List.mem_map.2 ⟨_, hm, rfl⟩
 | copyR _ _ hm => intro k hk; rw [List.mem_singleton.1 hk]; exact List.mem_map.2 ⟨_, hm, rfl⟩
 | _ => intro k hk; cases hk
theorem X9 {place : Nat -> Option (Nat × Nat)} {i : Nat} {d : DV} : ∀ {l : List (Nat × DV)} {cells r : List DV}, Hr place cells (l ++ [(i, d)]) = some r -> ∀ x ∈ Ck d, x ∈ r
 | [], cells, r, h, x, hx => by
  rw [List.nil_append] at h
  unfold Hr at h
  cases hp : place i with
  | none => rw [hp] at h; cases h
  | some q =>
   obtain ⟨off, size⟩ := q
   rw [hp] at h
   simp only [] at h
   cases hb : (Nat.beq (Ck d).length size && Nat.ble (off + size) cells.length) with
   | false => rw [hb] at h; cases h
   | true =>
    rw [hb] at h
    unfold Hr at h
    injection h with h
    rw [<- h]
    unfold Cy
    exact List.mem_append_left _ (List.mem_append_right _ hx)
 | (i', d') :: l, cells, r, h, x, hx => by
  rw [List.cons_append] at h
  unfold Hr at h
  cases hp : place i' with
  | none => rw [hp] at h; cases h
  | some q =>
   obtain ⟨off, size⟩ := q
   rw [hp] at h
   simp only [] at h
   cases hb : (Nat.beq (Ck d').length size && Nat.ble (off + size) cells.length) with
   | false => rw [hb] at h; cases h
   | true =>
    rw [hb] at h
    exact X9 h x hx
theorem Jn.no_clo : ∀ {ks : List (Option Nat)} {ds : List DV} {cs : List C}, Jn ks ds cs -> ∀ d ∈ ds, ∀ f n l, d ≠ .clo f n l
 | _, _, _, .nil, d, hd, _, _, _ => by cases hd
 | _, _, _, .cons h hs, d, hd, f, n, l => by
  rcases List.mem_cons.1 hd with rfl | hd
  ·rintro rfl; cases h
  ·exact hs.no_clo d hd f n l
theorem ExtR.excl {tk : Nat} {op : Op} {ty : TypeId} {ds : List (DV × Option LB)} {env : bU} {wr wr' : List Nat} {e : K2} {E : K2 -> Prop} {np : Nat} (h' : Ex P tk op ty ds wr e) (h : ExtR P np tk op ty ds env wr' E) : False := by
 cases h with
 | makeMap => cases h'
 | lookR => cases h'
 | lookM => cases h'
 | put => cases h'
 | range => cases h'
 | next => cases h'
 | entry => cases h'
 | clearP => cases h'
 | copyR _ _ _ hs => obtain ⟨b', rfl⟩ := hs; cases h'
 | makeC hS hz hn hc hlt hxy =>
  cases h' with
  | makeSl hS' hz' hn' hm' hk' hc' hxy' => exact hxy hxy'
 | appZ =>
  cases h' with
  | callV2 hb => exact absurd rfl hb
  | append _ _ hs _ => cases hs
 | buildV hS hz hlen hd hoc h0 hl =>
  cases h' with
  | buildSl hS' hz' hlen' hd' hk hc ho' =>
   rw [hl] at hd'
   have := X9 hd' _ (List.mem_singleton.2 rfl)
   exact hc.no_clo _ this _ _ _ rfl
 | lenV =>
  cases h' with
  | len _ h => cases h
 | idxV => cases h'
 | extV => cases h'
 | loadV => cases h'
end
end Go.Proofs.YtkoflhimdenjaaaGreat
