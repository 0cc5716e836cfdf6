import Derived.Test.YtopkgllcjbpdeaaDoorEE
import Derived.RangeFuncIn
set_option linter.unusedVariables false
set_option linter.unusedSimpArgs false
set_option maxHeartbeats 200000
namespace Go.Proofs.YtopkgllcjbpdeaaDoor
open Go.RowKit
section
variable {P : Program} {cx : Cx} {ρ : Nat -> Value} {σ : St} {a : Act} {w : World}
theorem Cl.rec_ (h : Cl cx ρ σ a w) {k N : Nat} {ts : List Nat} {ds : List DV} {rc : Loop} (hL : σ.L k = some (.lop ts ds N rc)) (rc' : Loop) :
  ∃ b tm, ρ k = .pointer (some ⟨b, 0, none⟩) /\ w.heap[b]? = some (.loop { rc with tmps := tm }) /\ Cl cx ρ (σ.app none (Jw k (.lop ts ds N rc'))) a (w.putObj b (.loop { rc' with tmps := tm })) := by
 obtain ⟨b, tm, q1, q2, q3, q4, q5⟩ := h.lo _ _ hL
 have hblk : B1 (ρ k) = some b := by rw [q1]; rfl
 have hb := (Array.getElem?_eq_some_iff.1 q2).1
 have hel : ∀ j x, (Jw k (.lop ts ds N rc')).l j = some x -> j = k /\ x = some (.lop ts ds N rc') := fun j x hx => by
  unfold Jw at hx
  simp only at hx
  cases hj : Nat.beq j k with
  | false => rw [hj] at hx; cases hx
  | true => rw [hj] at hx; injection hx with hx; exact ⟨Nat.eq_of_beq_eq_true hj, hx.symm⟩
 have hkk : (Jw k (.lop ts ds N rc')).l k ≠ none := by
  unfold Jw
  simp only [Nat.beq_refl, cond_true]
  intro e; cases e
 refine ⟨b, tm, q1, q2, ?_⟩
 have := h.app (w' := w.putObj b (.loop { rc' with tmps := tm })) (dst := none) (e := Jw k (.lop ts ds N rc')) (v := undef) (ρ' := ρ) ?_ (by simp) (fun t ht => by cases ht) (fun _ _ => rfl) (fun b' hb' hn => ?_) (fun j lb b' h1 h2 => ?_) (fun j j' lb lb' b' h1 h2 _ _ => ?_) (fun hI _ => ⟨fun j lb h1 => ?_, fun d hd => by cases hd⟩) ⟨fun j lb j' h1 h2 => ?_, fun d j' hd => by cases hd⟩ (fun j lb b' h1 h2 h3 => ?_)
 ·exact this
 ·obtain ⟨k1, k2, k3, k4, k5⟩ := h.kept
  refine ⟨k1, k2, k3, by simpa using k4, fun b' hb' hM => ?_⟩
  rw [World.putObj_heap_other (show b' ≠ b by rintro rfl; exact q3.elim (fun q => by omega) hM)]
  exact k5 b' hb' hM
 ·exact World.putObj_heap_other (fun e => hn k _ hkk hL (by rw [e]; exact hblk))
 ·obtain ⟨rfl, hx⟩ := hel j _ h1
  injection hx with hx
  subst hx
  exact .inr ⟨j, _, hkk, hL, h2⟩
 ·rw [(hel j _ h1).1, (hel j' _ h2).1]
 ·obtain ⟨rfl, hx⟩ := hel j _ h1
  injection hx with hx
  subst hx
  exact ⟨b, tm, q1, World.putObj_heap_same hb, q3, q4, Bj.step hI ds _ (fun _ _ => rfl) q5⟩
 ·obtain ⟨rfl, hx⟩ := hel j _ h1
  injection hx with hx
  subst hx
  exact .inl ((h.usedL j _ hL).2 j' h2)
 ·obtain ⟨rfl, hx⟩ := hel j _ h1
  injection hx with hx
  subst hx
  exact h.fresh j _ b' hL h2 h3
end
def Y7 (P : Program) (f kl np : Nat) (caps : List DV) (bx : List LB) (R : List LB -> Prop) : Prop :=
 np <= bx.length /\ kl < np /\ Rh P f /\ ∀ (ρ : Nat -> Value) (I : Nat -> Prop) (w : World) (vs : List Value) (l : Nat), B1 (ρ kl) = some l ->
  HI ρ I w bx.length -> Bj ρ I w caps vs -> (∀ k lb, bx[k]? = some lb -> Pz ρ I w (ρ k) lb) ->
  (∀ k k' b, k < bx.length -> k' < bx.length -> B1 (ρ k) = some b -> B1 (ρ k') = some b -> k = k') ->
  Calls P f (.func (.yield l) #[] #[] :: vs).toArray w fun e w' => ∃ v bx', e = .returned v /\ R bx' /\ Ww ρ I w np bx.length v (.tup []) bx' w'
theorem Y7.of {P : Program} {f kl np : Nat} {fn : Func} {c : Code} {caps : List DV} {bx : List LB} {R : List LB -> Prop} (hf : P.funcs[f]? = some fn) (hb : fn.body = some c) (hn : (fn.name == "runtime.NumGoroutine") = false)
  (hchk : (O0 bx.length caps && (bx.all (nL bx.length) && Nat.ble (caps.length + 1) fn.ntmps && Nat.ble np bx.length)) = true) (hkl : Nat.blt kl np = true)
  (h : ∀ w0 I ρ0 l, B1 (ρ0 kl) = some l -> Ca P ⟨w0, I, ρ0, np, bx.length, fn.ntmps, none⟩ c (nJ P fn np fun r b => r = .tup [] /\ R b) (mk (Wl 0 (.val (.func (.yield l) #[] #[]) :: caps)) (ix 0 bx) bx.length)) : Y7 P f kl np caps bx R := by
 have hk : kl < np := Nat.le_of_ble_eq_true hkl
 refine ⟨?_, hk, Rh.of hf hn (by rw [hb]; rfl), fun ρ I w vs l hl hI hargs hbx hsep => ?_⟩
 ·simp only [Bool.and_eq_true] at hchk
  exact Nat.le_of_ble_eq_true hchk.2.2
 refine (iB (args := .val (.func (.yield l) #[] #[]) :: caps) (vs := .func (.yield l) #[] #[] :: vs) (R := fun r b => r = .tup [] /\ R b) hf hb ?_ hI ?_ hbx hsep (h w I ρ l hl)).mono (by rintro e w' ⟨v, r, bx', h1, ⟨rfl, h2⟩, h3⟩; exact ⟨v, bx', h1, h2, h3⟩)
 ·have : O0 bx.length (.val (.func (.yield l) #[] #[]) :: caps) = O0 bx.length caps := by
   rw [O0]
   show (true && _) = _
   rw [Bool.true_and]
  rw [this]
  exact hchk
 ·unfold Bj
  exact ⟨_, _, rfl, by unfold Bw; exact ⟨rfl, rfl⟩, hargs⟩
theorem Yr : ∀ (ps : List Nat) (vs : List Value) (tm : Array Value), ps.length = vs.length -> ps.Nodup -> (∀ t ∈ ps, t < tm.size) ->
  ((ps.zip vs).foldl (fun tmps (p : Nat × Value) => tmps.setIfInBounds p.1 p.2) tm).size = tm.size /\
  (∀ (i t : Nat) (v : Value), ps[i]? = some t -> vs[i]? = some v -> ((ps.zip vs).foldl (fun tmps (p : Nat × Value) => tmps.setIfInBounds p.1 p.2) tm).getD t undef = v) /\
  ∀ t, t ∉ ps -> ((ps.zip vs).foldl (fun tmps (p : Nat × Value) => tmps.setIfInBounds p.1 p.2) tm).getD t undef = tm.getD t undef
 | [], vs, tm, _, _, _ => ⟨rfl, fun i t v h => by simp at h, fun _ _ => rfl⟩
 | p :: ps, [], tm, h, _, _ => by simp at h
 | p :: ps, v0 :: vs, tm, hl, hn, hs => by
  obtain ⟨n1, n2⟩ := List.nodup_cons.1 hn
  obtain ⟨h1, h2, h3⟩ := Yr ps vs (tm.setIfInBounds p v0) (by simpa using hl) n2 (fun t ht => by simpa using hs t (.tail _ ht))
  have hp : (tm.setIfInBounds p v0).getD p undef = v0 := by
   have := hs p (.head _)
   simp [Array.getElem?_setIfInBounds, this]
  refine ⟨by simpa using h1, fun i t v hi hv => ?_, fun t ht => ?_⟩
  ·cases i with
   | zero =>
    simp at hi hv
    subst hi hv
    exact (h3 p n1).trans hp
   | succ i => exact h2 i t v (by simpa using hi) (by simpa using hv)
  ·refine (h3 t (fun h => ht (.tail _ h))).trans ?_
   have hne : p ≠ t := fun e => ht (by rw [e]; exact .head _)
   simp [Array.getElem?_setIfInBounds, hne]
def Y6 (P : Program) (ts : List Nat) (ds : List DV) (N : Nat) (rc : Loop) (kl np : Nat) (args : List DV) (bx : List LB) (R : Bool -> List LB -> Prop) : Prop :=
 np <= bx.length /\ kl < np /\ bx[kl]? = some (.lop ts ds N rc) /\ ∀ (m : Nat) (ρ : Nat -> Value) (I : Nat -> Prop) (w : World) (vs : List Value) (l : Nat), B1 (ρ kl) = some l ->
  HI ρ I w bx.length -> Bj ρ I w args vs -> (∀ k lb, bx[k]? = some lb -> Pz ρ I w (ρ k) lb) ->
  (∀ k k' b, k < bx.length -> k' < bx.length -> B1 (ρ k) = some b -> B1 (ρ k') = some b -> k = k') ->
  ∃ fn tmps assign body, (Instr.yield l vs.toArray).run P w = .ok (.round l fn tmps assign body) w /\
   RoundIn (FW none) m P l fn tmps assign body w fun e w' => ∃ b bx', e = .returned (.bool b) /\ R b bx' /\ Ww ρ I w np bx.length (.bool b) (.val (.bool b)) bx' w'
def Z3 (np kl N : Nat) (rc : Loop) (R : Bool -> List LB -> Prop) (j : Option Code) (σ : St) : Prop :=
 ∃ ts ds bx' θ, σ.L kl = some (.lop ts ds N { rc with state := .busy }) /\ R j.isNone bx' /\
  Xm (σ.app none (Jw kl (.lop ts ds N { rc with state := if j.isNone then .ready else .done, pending := j }))) (Dy θ) (ix 0 bx') /\ Xh [(0, .val (.bool j.isNone))] (ix 0 bx') bx'.length θ = true /\ U5 θ bx'.length np = true /\ Nat.ble np bx'.length = true /\ Nat.ble bx'.length (np + 8) = true /\ (bx'.take np).all nX = true
def kN (np kl N : Nat) (rc : Loop) (R : Bool -> List LB -> Prop) : Exit -> St -> Prop
 | .normal, σ => Z3 np kl N rc R none σ
 | .ret, σ => Z3 np kl N rc R (some .ret) σ
 | .exit id, σ => Z3 np kl N rc R (some (.exit id)) σ
 | _, _ => False
def qP (P : Program) (cx : Cx) (np kl N : Nat) (rc : Loop) (R : Bool -> List LB -> Prop) : Exit -> St -> Prop
 | .normal, σ => ∃ ts ds, σ.L kl = some (.lop ts ds N rc) /\ Ca P cx rc.body (kN np kl N rc R) (σ.app none (Jw kl (.lop ts ds N { rc with state := .busy })))
 | _, _ => False
theorem Y6.of {P : Program} {ts : List Nat} {ds : List DV} {N kl np : Nat} {rc : Loop} {args : List DV} {bx : List LB} {R : Bool -> List LB -> Prop} (hrc : rc.state = .ready) (hL : bx[kl]? = some (.lop ts ds N rc))
  (hchk : (O0 bx.length args && (bx.all (nL bx.length) && (Nat.ble np bx.length && (Nat.blt kl np && (Nat.beq args.length rc.params.size && (decide rc.params.toList.Nodup && (rc.params.toList.all (fun t => Nat.blt t N) && (ts.all (fun t => !rc.params.toList.contains t) && Nat.beq ts.length ds.length)))))))) = true)
  (h : ∀ w0 I ρ0 l, B1 (ρ0 kl) = some l -> Ca P ⟨w0, I, ρ0, np, bx.length, N, some l⟩ rc.assign (qP P ⟨w0, I, ρ0, np, bx.length, N, some l⟩ np kl N rc R) (mk (rc.params.toList.zip args ++ ts.zip ds) (ix 0 bx) bx.length)) : Y6 P ts ds N rc kl np args bx R := by
 simp only [Bool.and_eq_true, List.all_eq_true] at hchk
 obtain ⟨c1, c2, c3, c4, c5, c6, c7, c8, c9⟩ := hchk
 have c3 := Nat.le_of_ble_eq_true c3
 have c4 : kl < np := Nat.le_of_ble_eq_true c4
 have c5 := Nat.eq_of_beq_eq_true c5
 have c6 := of_decide_eq_true c6
 have c9 := Nat.eq_of_beq_eq_true c9
 refine ⟨c3, c4, hL, fun m ρ I w vs l hl hI hargs hbx hsep => ?_⟩
 obtain ⟨b, tm, q1, q2, q3, q4⟩ := hbx kl _ hL
 have hbl : b = l := by rw [q1] at hl; injection hl
 subst hbl
 have hlen := hargs.length
 have hy := run_yield (P := P) (args := vs.toArray) q2 (by show vs.length = rc.params.size; omega)
 refine ⟨_, _, _, _, hy, roundIn_of_wpIn trivial ?_⟩
 have hpl : rc.params.toList.length = vs.length := by simp; omega
 obtain ⟨f1, f2, f3⟩ := Yr rc.params.toList vs tm hpl c6 (fun t ht => by rw [q3]; exact Nat.le_of_ble_eq_true (c7 t ht))
 have hfold : ((rc.params.zip vs.toArray).foldl (fun tmps (x : Nat × Value) => match x with | (t, a) => tmps.setIfInBounds t a) tm) = ((rc.params.toList.zip vs).foldl (fun tmps (p : Nat × Value) => tmps.setIfInBounds p.1 p.2) tm) := by
  rw [<- Array.foldl_toList]
  simp [Array.toList_zip]
 have hA : Cl ⟨w, I, ρ, np, bx.length, N, some b⟩ ρ (mk (rc.params.toList.zip args ++ ts.zip ds) (ix 0 bx) bx.length) { tmps := ((rc.params.toList.zip vs).foldl (fun tmps (p : Nat × Value) => tmps.setIfInBounds p.1 p.2) tm), defers := [] } w := by
  refine X8 c2 c3 (f1.trans q3) hI (fun t d hd => ?_) hbx hsep
  rcases List.mem_append.1 (Eg hd) with hm | hm
  ·obtain ⟨i, hi⟩ := List.mem_iff_getElem?.1 hm
   obtain ⟨i1, i2⟩ := List.getElem?_zip_eq_some.1 hi
   obtain ⟨v, hv, hr⟩ := hargs.at_ i2
   exact ⟨by show Bw ρ I w d (_ : Value); rw [f2 i t v i1 hv]; exact hr, fun k hk => H4 c1 k (If.menL_at i2 hk)⟩
  ·obtain ⟨i, hi⟩ := List.mem_iff_getElem?.1 hm
   obtain ⟨i1, i2⟩ := List.getElem?_zip_eq_some.1 hi
   obtain ⟨v, hv, hr⟩ := q4.at_ i2
   have i1' : ts[i]? = some t := i1
   rw [List.getElem?_map, i1'] at hv
   injection hv with hv
   subst hv
   have hnt : t ∉ rc.params.toList := fun hc => by
    have := c8 t (List.mem_of_getElem? i1')
    rw [List.contains_iff_mem.2 hc] at this
    cases this
   exact ⟨by show Bw ρ I w d (_ : Value); rw [f3 t hnt]; exact hr, fun k hk => H4 (c2 _ (List.mem_of_getElem? hL)) k (If.menL_at i2 hk)⟩
 have pinb : ∀ {ρ' : Nat -> Value} {b' : Nat}, ρ' kl = ρ kl -> ρ' kl = .pointer (some ⟨b', 0, none⟩) -> b' = b := fun h1 h2 => by
  rw [h1, q1] at h2
  injection h2 with h2
  injection h2 with h2
  injection h2 with h2
  exact h2.symm
 show rc.assign.wpIn (FW (some b)) m P _ _ w
 have hw := h w I ρ b hl m _ w ⟨ρ, hA⟩
 rw [<- hfold] at hw
 refine Code.wpIn_mono ?_ hw
 rintro e a1 w1 ⟨σ1, hq, ρ1, hA1⟩
 cases e with
 | normal =>
  obtain ⟨ts1, ds1, hL1, hbody⟩ := hq
  obtain ⟨b1, tm1, r1, r2, r3⟩ := hA1.rec_ hL1 { rc with state := .busy }
  have := pinb (hA1.pin kl c4).1 r1
  subst this
  refine ⟨_, run_beginRound r2 hrc, ?_⟩
  refine Code.wpIn_mono ?_ (hbody m _ _ ⟨ρ1, r3⟩)
  rintro e a2 w2 ⟨σ2, hq2, ρ2, hA2⟩
  have fin : ∀ j, Z3 np kl N rc R j σ2 -> ∃ v w', (Instr.endRound b1 j).run P w2 = .ok v w' /\ ∃ bb bx', Ending.returned v = .returned (.bool bb) /\ R bb bx' /\ Ww ρ I w np bx.length (.bool bb) (.val (.bool bb)) bx' w' := by
   rintro j ⟨ts2, ds2, bx', θ, e1, e2, e3, e4, e5, e6, e7, e8⟩
   obtain ⟨b2, tm2, s1, s2, s3⟩ := hA2.rec_ e1 { rc with state := if j.isNone then .ready else .done, pending := j }
   have := pinb (hA2.pin kl c4).1 s1
   subst this
   exact ⟨_, _, run_endRound j s2, _, bx', rfl, e2, aT s3 c3 (by unfold Bw; exact ⟨rfl, rfl⟩) (.val _) e3 e4 e5 e6 e7 e8⟩
  cases e with
  | normal => exact fin none hq2
  | ret => exact fin (some .ret) hq2
  | exit id => exact fin (some (.exit id)) hq2
  | _ => exact hq2.elim
 | _ => exact hq.elim
section
variable {P : Program} {cx : Cx} {σ : St} {ops : Array Oper} {Q : Exit -> St -> Prop}
theorem G6.yield {o : Oper} {l' : List Oper} {tk t kl N l : Nat} {xs : Array Operand} {tys : Array TypeId} {b : Option LB} {dsA : List (DV × Option LB)} {ps gs el ts : List Nat} {ds args : List DV} {bx : List LB} {rc : Loop} {R : Bool -> List LB -> Prop} (fl : Bool) (hrr : cx.rr = none)
  (ho : o.op = .call ⟨.value (.tmp t), xs, tys⟩) (G : G9 ops σ o = some true) (hds : Df σ true (.tmp t :: xs.toList) = some ((.val (.func (.yield l) #[] #[]), b) :: dsA)) (hF : Y6 P ts ds N rc kl ps.length args bx R)
  (hA : Dw fl (ps ++ gs) (Gd σ el) (dsA.map (·.1)) args) (hB : Qv fl (ps ++ gs) (Gd σ el) (ps ++ gs) bx) (hh : Iu cx.np ps gs = true) (hfl : fl = true -> ∀ bb bx', R bb bx' -> ∀ lb ∈ bx', Jh lb) (B : ∀ j, j < 8 -> σ.U (tk + j) = false) (hdst : ∀ t, o.dst = some t -> t < cx.N)
  (hkl : ∃ j, ps[kl]? = some j /\ j < cx.np /\ B1 (cx.ρ0 j) = some l)
  (k : ∀ bb bx', R bb bx' -> ps.length <= bx'.length -> bx'.length <= ps.length + 8 -> G6 P cx ops Q l' (σ.app o.dst (Is ps gs tk (.val (.bool bb)) bx'))) : G6 P cx ops Q (o :: l') σ := by
 rintro n a w ⟨ρ, ha⟩
 obtain ⟨e0, e2⟩ := Ji hds
 have hv := Dg ha e0
 obtain ⟨c1, c2, c3, c4⟩ := S4 rfl hA (Ip ha e2).1 hB hh ha
 obtain ⟨j, j1, j2, j3⟩ := hkl
 have hwr : (ps ++ gs)[kl]? = some j := by
  rw [List.getElem?_append_left (List.getElem?_eq_some_iff.1 j1).1]; exact j1
 have hlk : B1 (ρ (D7 (ps ++ gs) 0 kl)) = some l := by
  unfold D7
  rw [hwr]
  show B1 (ρ j) = some l
  rw [(ha.pin j j2).1]
  exact j3
 obtain ⟨fn, tmps, assign, body, hy, hR⟩ := hF.2.2.2 (n - 1) (fun k => ρ (D7 (ps ++ gs) 0 k)) (fun b => G2 cx σ ρ w b \/ Xn fl (ps ++ gs) σ ρ b) w (xs.toList.map a.eval) l hlk c1 c2 c3 c4
 have e1 : (xs.toList.map a.eval).toArray = xs.map a.eval := by rw [<- Array.toList_map, Array.toArray_toList]
 rw [e1] at hy
 have hrun : (execOp a.eval o).run P w = .ok (.round l fn tmps assign body) w := by
  have e3 : (#[] ++ Array.map a.eval xs : Array Value) = Array.map a.eval xs := by simp
  simp only [execOp, ho, resolve, hv, Deferred.ofValue, Sem.run_bind, Sem.run_pure, Result.andThen_ok, invoke, e3]
  exact hy
 unfold wpListIn
 rw [if_pos (Oe ha G)]
 unfold Oper.wpIn
 refine ⟨fun _ _ => trivial, ?_⟩
 have hs : o.semAt (FW cx.rr).round a.eval = execOp a.eval o := by rw [hrr]; rfl
 rw [hs, hrun, Oper.uponIn_round, hrr]
 refine ⟨fun h => by simp [FW, Fence.wide] at h, hR.mono ?_⟩
 rintro e w' ⟨bb, bx', rfl, hb, hback⟩
 have := (Rk (dst := o.dst) (tk := tk) rfl hB hh (fun h => ⟨by unfold Gz; trivial, hfl h bb bx' hb⟩) ha B hdst hback).imp fun _ h => h.1
 have hk := k bb bx' hb hback.le.1 hback.le.2 n _ _ this
 rw [hrr] at hk
 exact hk
end
section
variable {P : Program} {cx : Cx} {ρ : Nat -> Value} {σ : St} {a : Act} {w : World}
theorem aU {I : Nat -> Prop} {g : Nat -> Value} : ∀ (ts : List Nat) (ds : List DV), ts.length = ds.length -> (∀ (i t : Nat) (d : DV), ts[i]? = some t -> ds[i]? = some d -> Bw ρ I w d (g t)) -> Bj ρ I w ds (ts.map g)
 | [], [], _, _ => by unfold Bj; rfl
 | [], d :: ds, h, _ => by simp at h
 | t :: ts, [], h, _ => by simp at h
 | t :: ts, d :: ds, h, hr => by
  unfold Bj
  exact ⟨g t, ts.map g, rfl, hr 0 t d rfl rfl, aU ts ds (by simpa using h) fun i t' d' h1 h2 => hr (i + 1) t' d' (by simpa using h1) (by simpa using h2)⟩
theorem bB {j : Nat} : ∀ {ds : List DV}, D4 ds j -> ∃ (i : Nat) (d : DV), ds[i]? = some d /\ men d j
 | [], h => by unfold D4 at h; exact h.elim
 | d :: ds, h => by
  unfold D4 at h
  rcases h with h | h
  ·exact ⟨0, d, rfl, h⟩
  ·obtain ⟨i, d', h1, h2⟩ := bB h
   exact ⟨i + 1, d', by simpa using h1, h2⟩
theorem Cl.enter (h : Cl cx ρ σ a w) {tk : Nat} {ts : List Nat} {ds : List DV} {rc : Loop} (B : σ.U tk = false) (hlen : ts.length = ds.length) (hts : ∀ (i t : Nat) (d : DV), ts[i]? = some t -> ds[i]? = some d -> σ.F t = some d) :
  Cl cx (fun k => if k = tk then .pointer (some ⟨w.heap.size + 1, 0, none⟩) else ρ k) (σ.app none (Jw tk (.lop ts ds cx.N rc))) { a with defers := { target := .collected w.heap.size, args := #[] } :: a.defers }
   ((w.alloc (.deferred (some []))).alloc (.loop { rc with tmps := a.tmps })) := by
 have hel : ∀ j x, (Jw tk (.lop ts ds cx.N rc)).l j = some x -> j = tk /\ x = some (.lop ts ds cx.N rc) := fun j x hx => by
  unfold Jw at hx
  simp only at hx
  cases hj : Nat.beq j tk with
  | false => rw [hj] at hx; cases hx
  | true => rw [hj] at hx; injection hx with hx; exact ⟨Nat.eq_of_beq_eq_true hj, hx.symm⟩
 have hne : ∀ k, σ.U k = true -> k ≠ tk := fun k hk e => by rw [e, B] at hk; cases hk
 have hold : ∀ b, b < w.heap.size -> ((w.alloc (.deferred (some []))).alloc (.loop { rc with tmps := a.tmps })).heap[b]? = w.heap[b]? := fun b hb => by
  rw [Below.heap_alloc _ _ _ (by simp; omega), Below.heap_alloc _ _ _ hb]
 have hsz : ((w.alloc (.deferred (some []))).alloc (.loop { rc with tmps := a.tmps })).heap.size = w.heap.size + 2 := by simp
 have hD : ((w.alloc (.deferred (some []))).alloc (.loop { rc with tmps := a.tmps })).heap[w.heap.size]? = some (.deferred (some [])) := (Below.heap_alloc _ _ _ (by simp)).trans (World.alloc_heap_new w _)
 have hR : ((w.alloc (.deferred (some []))).alloc (.loop { rc with tmps := a.tmps })).heap[w.heap.size + 1]? = some (.loop { rc with tmps := a.tmps }) := by
  have := World.alloc_heap_new (w.alloc (.deferred (some []))) (.loop { rc with tmps := a.tmps }); rwa [World.size_alloc] at this
 generalize hW : (w.alloc (.deferred (some []))).alloc (.loop { rc with tmps := a.tmps }) = W at *
 have hos : W.os = w.os /\ W.tape = w.tape /\ W.output = w.output := by rw [<- hW]; exact ⟨rfl, rfl, rfl⟩
 have hA := h.app (w' := W) (dst := none) (e := Jw tk (.lop ts ds cx.N rc)) (v := undef) (ρ' := fun k => if k = tk then .pointer (some ⟨w.heap.size + 1, 0, none⟩) else ρ k) ?_ (by omega) (fun t ht => by cases ht) (fun k hk => if_neg (hne k hk)) (fun b' hb' hn => hold b' hb') (fun j lb b' h1 h2 => ?_) (fun j j' lb lb' b' h1 h2 _ _ => ?_) (fun hI _ => ⟨fun j lb h1 => ?_, fun d hd => by cases hd⟩) ⟨fun j lb j' h1 h2 => ?_, fun d j' hd => by cases hd⟩ (fun j lb b' h1 h2 h3 => ?_)
 ·have hw0 := h.kept.2.2.2.1
  refine ⟨⟨?_, fun d hd => ?_⟩, hA.size, hA.kept, hA.fr, hA.lo, hA.sep, hA.usedF, hA.usedL, hA.pin, hA.fresh, hA.glo⟩
  ·refine List.pairwise_cons.2 ⟨fun d hd => ?_, h.defers.1⟩
   obtain ⟨D, rfl, q1, -, -⟩ := h.defers.2 d hd
   intro e
   injection e with e
   injection e with e
   have := q1.1
   omega
  ·rcases List.mem_cons.1 hd with rfl | hd
   ·refine ⟨w.heap.size, rfl, ⟨by omega, ?_, fun hlt => by omega⟩, by omega, hD⟩
    rintro ⟨k, lb, h1, h2⟩
    have hLk : (k = tk /\ lb = .lop ts ds cx.N rc) \/ (k ≠ tk /\ σ.L k = some lb) := by
     unfold St.app at h1
     simp only at h1
     cases he : (Jw tk (.lop ts ds cx.N rc)).l k with
     | none =>
      rw [he] at h1
      refine .inr ⟨fun e => ?_, h1⟩
      rw [e] at he
      unfold Jw at he
      simp at he
     | some x =>
      rw [he] at h1
      obtain ⟨e1, e2⟩ := hel k x he
      rw [e2] at h1
      injection h1 with h1
      exact .inl ⟨e1, h1.symm⟩
    rcases hLk with ⟨rfl, rfl⟩ | ⟨hk, hL⟩
    ·have h2 : B1 (if k = k then (.pointer (some ⟨w.heap.size + 1, 0, none⟩) : Value) else ρ k) = some w.heap.size := h2
     rw [if_pos rfl] at h2
     have h2 : w.heap.size + 1 = w.heap.size := oi_ h2
     omega
    ·have h2 := Mo (ρ' := ρ) (fun q hq => (if_neg (hne q ((h.usedL k lb hL).2 q hq))).symm) h2
     dsimp only at h2
     rw [if_neg hk] at h2
     have := ((h.lo k lb hL).blk h2).1
     omega
   ·exact hA.defers.2 d hd
 ·obtain ⟨k1, k2, k3, k4, k5⟩ := h.kept
  exact ⟨hos.1.trans k1, hos.2.1.trans k2, hos.2.2.trans k3, by omega, fun b' hb' hM => (hold b' (by omega)).trans (k5 b' hb' hM)⟩
 ·obtain ⟨rfl, hx⟩ := hel j _ h1
  injection hx with hx
  subst hx
  have h2 : B1 (if j = j then (.pointer (some ⟨w.heap.size + 1, 0, none⟩) : Value) else ρ j) = some b' := h2
  rw [if_pos rfl] at h2
  have h2 : w.heap.size + 1 = b' := oi_ h2
  exact .inl (by omega)
 ·rw [(hel j _ h1).1, (hel j' _ h2).1]
 ·obtain ⟨rfl, hx⟩ := hel j _ h1
  injection hx with hx
  subst hx
  have hw0 := h.kept.2.2.2.1
  refine ⟨w.heap.size + 1, a.tmps, by simp, hR, .inl (by omega), h.size, aU ts ds hlen fun i t d h1 h2 => ?_⟩
  have hF := hts i t d h1 h2
  exact Bw.step hI d _ (fun k hk => if_neg (hne k (h.usedF t d k hF hk))) (h.fr t d hF)
 ·obtain ⟨rfl, hx⟩ := hel j _ h1
  injection hx with hx
  subst hx
  have h2 : D4 ds j' := h2
  obtain ⟨i, d, h3, h4⟩ := bB h2
  have hi := (List.getElem?_eq_some_iff.1 h3).1
  exact .inl (h.usedF _ d j' (hts i _ d (List.getElem?_eq_getElem (by omega)) h3) h4)
 ·obtain ⟨rfl, hx⟩ := hel j _ h1
  injection hx with hx
  subst hx
  have h3 : B1 (if j = j then (.pointer (some ⟨w.heap.size + 1, 0, none⟩) : Value) else ρ j) = some b' := h3
  rw [if_pos rfl] at h3
  have h3 : w.heap.size + 1 = b' := oi_ h3
  have hw0 := h.kept.2.2.2.1
  exact .inl (by omega)
def R3 (pr : Array Tmp) (assign body : Code) (fn D : Nat) : Loop := { state := .ready, pending := none, fn := fn, tmps := #[], params := pr, assign := assign, body := body, defers := D }
def eZ (Q : Exit -> St -> Prop) : Option Code -> St -> Prop
 | none, σ => Q .normal σ
 | some .ret, σ => Q .ret σ
 | some (.exit id), σ => Q (.exit id) σ
 | _, _ => False
theorem iV {Q : Exit -> St -> Prop} {n : Nat} (h : Cl cx ρ σ a w) {j : Option Code} : eZ Q j σ -> (match j with
  | none => post cx Q .normal a w
  | some c => c.wpIn (FW none) n P (post cx Q) a w) := by
 intro hq
 cases j with
 | none => exact ⟨_, hq, ρ, h⟩
 | some c =>
  cases c with
  | ret => exact wpIn_ret ⟨_, hq, ρ, h⟩
  | exit id => exact wpIn_exit ⟨_, hq, ρ, h⟩
  | _ => exact hq.elim
theorem bX {Q : Exit -> St -> Prop} {g : Operand} {pr : Array Tmp} {assign body : Code} {tk gf kl : Nat} {cs caps : List DV} {b : Nat -> Nat -> Option LB} {ps gs el ts : List Nat} {ds : List DV} {bx : Nat -> Nat -> List LB} {R : Nat -> Nat -> List LB -> Prop} (fl : Bool) (hrr : cx.rr = none)
  (hev : ∀ fn D, ev (σ.app none (Jw tk (.lop ts ds cx.N (R3 pr assign body fn D)))) true g = some (.clo gf 0 cs, b fn D)) (B : ∀ j, j < 16 -> σ.U (tk + j) = false) (hlen : ts.length = ds.length) (hts : ∀ (i t : Nat) (d : DV), ts[i]? = some t -> ds[i]? = some d -> σ.F t = some d)
  (hI : ∀ fn D, Y7 P gf kl ps.length caps (bx fn D) (R fn D)) (hA : ∀ fn D, Dw fl (ps ++ gs) (Gd (σ.app none (Jw tk (.lop ts ds cx.N (R3 pr assign body fn D)))) el) cs caps)
  (hB : ∀ fn D, Qv fl (ps ++ gs) (Gd (σ.app none (Jw tk (.lop ts ds cx.N (R3 pr assign body fn D)))) el) (ps ++ gs) (bx fn D)) (hh : Iu cx.np ps gs = true) (hfl : fl = true -> ∀ fn D bx', R fn D bx' -> ∀ lb ∈ bx', Jh lb) (hkl : ps[kl]? = some tk)
  (k : ∀ fn D bx', R fn D bx' -> ps.length <= bx'.length -> bx'.length <= ps.length + 8 -> ∃ ts' ds' N' rc', ((σ.app none (Jw tk (.lop ts ds cx.N (R3 pr assign body fn D)))).app none (Is ps gs (tk + 8) (.tup []) bx')).L tk = some (.lop ts' ds' N' rc') /\ rc'.state ≠ .busy /\
   eZ Q rc'.pending (((σ.app none (Jw tk (.lop ts ds cx.N (R3 pr assign body fn D)))).app none (Is ps gs (tk + 8) (.tup []) bx')).app none (Jw tk (.lop ts' ds' N' { rc' with state := .exhausted })))) : Ca P cx (.rangeFunc g pr assign body) Q σ := by
 rintro n a w ⟨ρ, ha⟩
 rw [hrr]
 refine wpIn_rangeFunc fun fn _ => ?_
 have hU0 : σ.U tk = false := B 0 (by omega)
 have hE := ha.enter (rc := R3 pr assign body fn w.heap.size) hU0 hlen hts
 obtain ⟨W1, hW1⟩ : ∃ W1, (w.alloc (.deferred (some []))).alloc (.loop { R3 pr assign body fn w.heap.size with tmps := a.tmps }) = W1 := ⟨_, rfl⟩
 rw [hW1] at hE
 have hen : (Instr.enterLoop fn a.tmps pr assign body none).run P w = .ok (w.heap.size + 1, [{ target := .collected w.heap.size, args := #[] }]) W1 := by
  rw [<- hW1]; exact run_enterLoop_outer _ _ _ _ _
 clear hW1
 obtain ⟨h0, -, -⟩ := Bv hE (hev fn w.heap.size)
 unfold Bw at h0
 obtain ⟨vs, hv, hr⟩ := h0
 have hv : a.eval g = .func (.func gf) #[] vs.toArray := by
  have hv' : a.eval g = .func (.func gf) (vs.take 0).toArray (vs.drop 0).toArray := hv
  simpa using hv'
 have hUt : (σ.app none (Jw tk (.lop ts ds cx.N (R3 pr assign body fn w.heap.size)))).U tk = true := by
  unfold St.app Jw
  simp
 have hU8 : ∀ j, j < 8 -> (σ.app none (Jw tk (.lop ts ds cx.N (R3 pr assign body fn w.heap.size)))).U (tk + 8 + j) = false := fun j hj => by
  have h1 := B (8 + j) (by omega)
  rw [<- Nat.add_assoc] at h1
  have h2 : Nat.beq (tk + 8 + j) tk = false := by
   cases h : Nat.beq (tk + 8 + j) tk with
   | false => rfl
   | true => have := Nat.eq_of_beq_eq_true h; omega
  unfold St.app Jw
  simp only [h1, h2, cond_false, Bool.false_or]
  rfl
 obtain ⟨c1, c2, c3, c4⟩ := S4 rfl (hA fn w.heap.size) hr (hB fn w.heap.size) hh hE
 obtain ⟨i1, i2, i3, i4⟩ := hI fn w.heap.size
 have hwr : (ps ++ gs)[kl]? = some tk := by
  rw [List.getElem?_append_left (List.getElem?_eq_some_iff.1 hkl).1]; exact hkl
 have hl : B1 ((fun k => if k = tk then .pointer (some ⟨w.heap.size + 1, 0, none⟩) else ρ k) (D7 (ps ++ gs) 0 kl)) = some (w.heap.size + 1) := by
  have : D7 (ps ++ gs) 0 kl = tk := by unfold D7; rw [hwr]
  rw [this]
  dsimp only
  rw [if_pos rfl]
  rfl
 have hcall := i4 _ _ _ vs (w.heap.size + 1) hl c1 c2 c3 c4
 have eargs : (Value.func (.yield (w.heap.size + 1)) #[] #[] :: vs).toArray = #[.func (.yield (w.heap.size + 1)) #[] #[]] ++ vs.toArray := by
  apply Array.toList_inj.1
  simp
 rw [eargs] at hcall
 have hres : (resolve a.eval (rangeCall g (w.heap.size + 1)) 0).run P W1 = .ok { target := .fn (.func gf) vs.toArray, args := #[.func (.yield (w.heap.size + 1)) #[] #[]] } W1 := by
  simp only [resolve, hv]
  simp [go_sem]
 have hinv : (invoke (.fn (.func gf) vs.toArray) #[.func (.yield (w.heap.size + 1)) #[] #[]]).run P W1 = .ok (.enter gf (#[.func (.yield (w.heap.size + 1)) #[] #[]] ++ vs.toArray)) W1 := by
  simp only [invoke]
  exact i3 _ _
 have hend : CallsIn (FW none) (n - 1) P gf (#[.func (.yield (w.heap.size + 1)) #[] #[]] ++ vs.toArray) W1 (rangePost (FW none) n P (w.heap.size + 1) (post cx Q) { a with defers := [{ target := .collected w.heap.size, args := #[] }] ++ a.defers }) := by
  refine O9.2 (hcall.mono ?_)
  rintro e w3 ⟨v, bx', rfl, hR, hback⟩
  obtain ⟨ρ3, h3, hρ3⟩ := Rk (dst := none) (tk := tk + 8) rfl (hB fn w.heap.size) hh (fun h => ⟨by unfold Gz Jr; trivial, hfl h _ _ bx' hR⟩) hE hU8 (fun t ht => by cases ht) hback
  obtain ⟨ts', ds', N', rc', hL, hst, hq⟩ := k fn w.heap.size bx' hR hback.le.1 hback.le.2
  obtain ⟨b3, tm3, r1, r2, r3⟩ := h3.rec_ hL { rc' with state := .exhausted }
  have hb3 : b3 = w.heap.size + 1 := by
   have := hρ3 tk hUt
   rw [if_pos rfl, r1] at this
   injection this with this
   injection this with this
   injection this
  subst hb3
  have hrl := run_endLoop (P := P) r2 hst
  have r4 : Cl cx ρ3 _ { a with defers := [{ target := .collected w.heap.size, args := #[] }] ++ a.defers } _ := r3
  exact ⟨rc'.pending, _, hrl, iV (n := n) r4 hq⟩
 have hld : ∀ f', Target.leads P W1 (.fn (.func gf) vs.toArray) #[.func (.yield (w.heap.size + 1)) #[] #[]] = some f' -> (FW none).fn f' := fun _ _ => trivial
 have hdp : (FW none).depth.isSome = true -> 1 <= n := fun h => by simp [FW, Fence.wide] at h
 exact ⟨w.heap.size + 1, _, W1, _, W1, gf, _, W1, hen, hres, hld, hinv, hdp, hend⟩
end
end Go.Proofs.YtopkgllcjbpdeaaDoor
