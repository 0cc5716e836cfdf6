/- Functions: what a call says; entering one, leaving one. -/
import Derived.Test.YthjgcmifggdepaaEC
import Derived.IntWalk
import Derived.Laws.StructEq
import Derived.KernelRfl
set_option linter.unusedVariables false
set_option linter.unusedSimpArgs false
namespace Go.Proofs.Ythjgcmifggdepaa
open Go.RowKit

/-- What is known of any data that lies in memory. -/
def okCs : List C → Prop
  | [] => True
  | .int k n :: l => (k.min ≤ n ∧ n ≤ k.max) ∧ okCs l
  | .bool _ :: l => okCs l
  | .str s :: l => s.size ≤ maxLen ∧ okCs l
  | .raw _ :: l => okCs l
  | .sl sz cs :: l => (∃ n, cs.length = n * sz ∧ n ≤ maxLen) ∧ okCs cs ∧ okCs l
mutual
theorem RdC.ok {w : World} {S : Nat → Prop} : ∀ (c : C) (v : Value), RdC w S c v → okCs [c]
  | .int k n, v, h => by unfold okCs; unfold RdC at h; exact ⟨h.2, by unfold okCs; trivial⟩
  | .bool _, _, _ => by unfold okCs; unfold okCs; trivial
  | .str s, v, h => by unfold okCs; unfold RdC at h; exact ⟨h.2, by unfold okCs; trivial⟩
  | .raw _, _, _ => by unfold okCs; unfold okCs; trivial
  | .sl sz cs, v, h => by
    unfold okCs
    unfold RdC at h
    obtain ⟨A, n, cap, h1, h2, h3, h4, h5⟩ := h
    refine ⟨⟨n, h2, Nat.le_trans h3 h4⟩, ?_, by unfold okCs; trivial⟩
    rcases Nat.eq_zero_or_pos n with h0 | h0
    · subst h0
      have : cs = [] := List.eq_nil_of_length_eq_zero (by simpa using h2)
      subst this
      unfold okCs; trivial
    · obtain ⟨ad, -, -, h8⟩ := h5 h0
      exact RdCs.ok ad cs 0 h8
theorem RdCs.ok {w : World} {S : Nat → Prop} (ad : Addr) : ∀ (cs : List C) (i : Nat), RdCs w S ad i cs → okCs cs
  | [], _, _ => by unfold okCs; trivial
  | c :: cs, i, h => by
    unfold RdCs at h
    obtain ⟨⟨u, _, h1⟩, h2⟩ := h
    have a := RdC.ok c u h1
    have b := RdCs.ok ad cs (i + 1) h2
    cases c <;> unfold okCs at a ⊢ <;> first | exact ⟨a.1, b⟩ | exact b | exact ⟨a.1, a.2.1, b⟩
end
theorem okCs_us {w : World} {S : Nat → Prop} : ∀ {cs : List C} {us : List Value}, RdUs w S cs us → okCs cs
  | [], _, _ => by unfold okCs; trivial
  | c :: cs, [], h => by have := h.1; simp at this
  | c :: cs, u :: us, h => by
    have a := RdC.ok c u (h.2 0 c u rfl rfl)
    have b := okCs_us (cs := cs) (us := us) ⟨by simpa using h.1, fun j c' u' x y => h.2 (j + 1) c' u' (by simpa using x) (by simpa using y)⟩
    cases c <;> unfold okCs at a ⊢ <;> first | exact ⟨a.1, b⟩ | exact b | exact ⟨a.1, a.2.1, b⟩
mutual
def okD : DV → Prop
  | .sl sz cs => (∃ n, cs.length = n * sz ∧ n ≤ maxLen) ∧ okCs cs
  | .elt cs => okCs cs
  | .agg ds => okDs ds
  | .tup ds => okDs ds
  | .val _ => True
  | .row _ => True
  | .part _ _ _ => True
  | .ptr _ _ => True
def okDs : List DV → Prop
  | [] => True
  | d :: ds => okD d ∧ okDs ds
end
def okB : LB → Prop
  | .box ds _ => okDs ds
  | .row _ sz cs => (∃ n, cs.length = n * sz ∧ n ≤ maxLen) ∧ okCs cs
mutual
theorem Rep.ok {ρ : Nat → Value} {I : Nat → Prop} {w : World} : ∀ (d : DV) (v : Value), Rep ρ I w d v → okD d
  | .val _, _, _ => by unfold okD; trivial
  | .sl sz cs, v, h => by
    unfold Rep at h
    have := RdC.ok _ _ h
    unfold okCs at this
    unfold okD
    exact ⟨this.1, this.2.1⟩
  | .row _, _, _ => by unfold okD; trivial
  | .part _ _ _, _, _ => by unfold okD; trivial
  | .ptr _ _, _, _ => by unfold okD; trivial
  | .elt cs, v, h => by
    unfold Rep at h
    obtain ⟨ad, -, -, h⟩ := h
    unfold okD
    exact RdCs.ok ad cs 0 h
  | .agg ds, v, h => by
    unfold Rep at h
    obtain ⟨vs, -, -, h⟩ := h
    unfold okD
    exact RepL.ok ds vs h
  | .tup ds, v, h => by
    unfold Rep at h
    obtain ⟨vs, -, h⟩ := h
    unfold okD
    exact RepL.ok ds vs h
theorem RepL.ok {ρ : Nat → Value} {I : Nat → Prop} {w : World} : ∀ (ds : List DV) (vs : List Value), RepL ρ I w ds vs → okDs ds
  | [], _, _ => by unfold okDs; trivial
  | d :: ds, vs, h => by
    unfold RepL at h
    obtain ⟨u, us, -, h1, h2⟩ := h
    unfold okDs
    exact ⟨Rep.ok d u h1, RepL.ok ds us h2⟩
end
theorem LBok.ok {cx : Cx} {ρ : Nat → Value} {I : Nat → Prop} {w : World} {v : Value} {lb : LB} (h : LBok cx ρ I w v lb) : okB lb := by
  cases lb with
  | box ds ty =>
    obtain ⟨b, vs, -, -, -, -, h5⟩ := h
    exact RepL.ok ds vs h5
  | row e sz cs =>
    obtain ⟨n, us, ho, hr⟩ := h
    refine ⟨⟨n, by rw [hr.1, ho.1], ?_⟩, okCs_us hr⟩
    rcases ho.2 with ⟨-, rfl⟩ | ⟨g, cap, cur, -, -, -, h2, h3, -⟩
    · exact Nat.zero_le _
    · exact Nat.le_trans h2 h3

def Enters (P : Program) (f : FuncId) : Prop := ∀ (vs : Array Value) (w : World), (callFunc f vs).run P w = .ok (.enter f vs) w
theorem Enters.of {P : Program} {f : FuncId} {fn : Func} (hf : P.funcs[f]? = some fn) (hn : (fn.name == "runtime.NumGoroutine") = false) (hb : fn.body.isNone = false) : Enters P f := by
  intro vs w
  simp only [callFunc, Sem.run_bind, run_program, Result.andThen_ok, hf, hn, hb, Bool.false_eq_true, if_false, Sem.run_pure]
def ix : Nat → List LB → List (Nat × LB)
  | _, [] => []
  | k, x :: l => (k, x) :: ix (k + 1) l
theorem ix_look : ∀ {l : List LB} {k i : Nat}, look (ix k l) (k + i) = l[i]?
  | [], k, i => by simp [ix, look]
  | x :: l, k, 0 => by simp [ix, look]
  | x :: l, k, i + 1 => by
    unfold ix look
    have : Nat.beq (k + (i + 1)) k = false := by
      cases h : Nat.beq (k + (i + 1)) k with
      | false => rfl
      | true => have := Nat.eq_of_beq_eq_true h; omega
    rw [this]
    simp only [cond_false]
    rw [show k + (i + 1) = (k + 1) + i by omega, ix_look]
    simp
theorem ix_get {l : List LB} {k : Nat} {lb : LB} : look (ix 0 l) k = some lb ↔ l[k]? = some lb := by
  have := ix_look (l := l) (k := 0) (i := k)
  rw [Nat.zero_add] at this
  rw [this]
/-- What is true when a call has come back: its value reads as r; the blocks that came with it, and those that were handed over, are as bx tells. -/
structure Back (ρ : Nat → Value) (I : Nat → Prop) (w : World) (np : Nat) (v : Value) (r : DV) (bx : List LB) (w' : World) : Prop where
  le : np ≤ bx.length ∧ bx.length ≤ np + 8
  os : w'.os = w.os ∧ w'.tape = w.tape ∧ w'.output = w.output ∧ w.heap.size ≤ w'.heap.size
  kept : ∀ b, b < w.heap.size → (∀ k, k < np → blkOf (ρ k) ≠ some b) → w'.heap[b]? = w.heap[b]?
  data : ∃ (ρ' : Nat → Value) (J : Nat → Prop), (∀ k, k < np → ρ' k = ρ k) ∧ (∀ b, J b → b < w'.heap.size ∧ (b < w.heap.size → I b) ∧ ∀ k, k < bx.length → blkOf (ρ' k) ≠ some b) ∧ Rep ρ' J w' r v ∧
    (∀ (k : Nat) (lb : LB), bx[k]? = some lb → LBok ⟨w, I, ρ, np, 0⟩ ρ' J w' (ρ' k) lb) ∧ (∀ k b, np ≤ k → k < bx.length → blkOf (ρ' k) = some b → w.heap.size ≤ b) ∧
    (∀ k k' b, k < bx.length → k' < bx.length → blkOf (ρ' k) = some b → blkOf (ρ' k') = some b → k = k')
  men : (∀ k, Go.Proofs.Ythjgcmifggdepaa.men r k → k < bx.length) ∧ ∀ (k : Nat) (lb : LB), bx[k]? = some lb → ∀ k', menB lb k' → k' < bx.length
def BoxIn (ρ : Nat → Value) (I : Nat → Prop) (w : World) (v : Value) : LB → Prop
  | .box ds ty => ∃ b vs, v = .pointer (some ⟨b, 0, none⟩) ∧ w.heap[b]? = some (.cells vs.toArray ty) ∧ (∀ u ∈ vs, u.oneCell' = true) ∧ RepL ρ I w ds vs
  | .row .. => False
/-- What a function does with what it gets. -/
def Fn (P : Program) (f : FuncId) (args : List DV) (bx : List LB) (R : DV → List LB → Prop) : Prop :=
  Enters P f ∧ ∀ (ρ : Nat → Value) (I : Nat → Prop) (w : World) (vs : List Value),
    (∀ b, I b → b < w.heap.size ∧ ∀ k, k < bx.length → blkOf (ρ k) ≠ some b) → RepL ρ I w args vs → (∀ k lb, bx[k]? = some lb → BoxIn ρ I w (ρ k) lb) →
    (∀ k k' b, k < bx.length → k' < bx.length → blkOf (ρ k) = some b → blkOf (ρ k') = some b → k = k') →
    Calls P f vs.toArray w fun e w' => ∃ v r bx', e = .returned v ∧ R r bx' ∧ Back ρ I w bx.length v r bx' w'
theorem Fn.mono {P : Program} {f : FuncId} {args : List DV} {bx : List LB} {R R' : DV → List LB → Prop} (h : Fn P f args bx R) (hr : ∀ r b, R r b → R' r b) : Fn P f args bx R' :=
  ⟨h.1, fun ρ I w vs a b c d => (h.2 ρ I w vs a b c d).mono fun _ _ ⟨v, r, bx', h1, h2, h3⟩ => ⟨v, r, bx', h1, hr _ _ h2, h3⟩⟩
/-- What the results' slots hold. -/
inductive ResD (P : Program) (σ : St) : ResultVar → DV → Prop
  | tmp {t d} (h : σ.F t = some d) : ResD P σ (.tmp t) d
  | cell1 {t ty k ds bt sz d} (h : σ.F t = some (.ptr k 0)) (hl : σ.L k = some (.box ds bt)) (ht : Ty P ty false sz) (hd : ds[0]? = some d) : ResD P σ (.cell t ty) d
  | cellA {t ty k ds bt sz} (h : σ.F t = some (.ptr k 0)) (hl : σ.L k = some (.box ds bt)) (ht : Ty P ty true sz) (hs : ds.length = sz) : ResD P σ (.cell t ty) (.agg ds)
inductive ResDs (P : Program) (σ : St) : List ResultVar → List DV → Prop
  | nil : ResDs P σ [] []
  | cons {x d l ds} (h : ResD P σ x d) (hs : ResDs P σ l ds) : ResDs P σ (x :: l) (d :: ds)
def oneD : List DV → DV
  | [d] => d
  | ds => .tup ds
def argF : Nat → List DV → List (Nat × DV)
  | _, [] => []
  | k, d :: l => (k, d) :: argF (k + 1) l
section
variable {P : Program} {cx : Cx} {ρ : Nat → Value} {σ : St} {a : Act} {w : World}
theorem ResD.run (ha : AbsR cx ρ σ a w) {x : ResultVar} {d : DV} (h : ResD P σ x d) : ∃ v, (match x with | .tmp t => (pure (a.tmps.getD t undef) : Sem Value) | .cell b t => do loadVar t (← asAddr (a.tmps.getD b undef))).run P w = .ok v w ∧ Rep ρ (Imm cx σ ρ w) w d v ∧ ∀ k, men d k → σ.U k = true := by
  cases h with
  | tmp h => exact ⟨_, rfl, ha.fr _ _ h, fun k hk => ha.usedF _ _ k h hk⟩
  | cell1 h hl ht hd =>
    have h1 := ha.fr _ _ h
    unfold Rep at h1
    obtain ⟨g, hg, hv⟩ := h1
    obtain ⟨g', vs, q1, q2, -, q4, q5⟩ := ha.lo _ _ hl
    rw [q1] at hg
    injection hg with hg
    subst hg
    obtain ⟨v, hv', hd'⟩ := q5.at_ hd
    have hc : w.cell? ⟨g', 0, none⟩ = some v := by simp [World.cell?, q2, hv']
    refine ⟨v, ?_, hd', fun k hk => (ha.usedL _ _ hl).2 k (by unfold menB; exact s_extract.menL_at hd hk)⟩
    have := load1_run (w := w) ht hc
    simp only [Instr.loadAt, Instr.sureAddr, Sem.run_bind, Sem.run_pure, Result.andThen_ok] at this
    simp only [hv, asAddr, Sem.run_bind, Sem.run_pure, Result.andThen_ok, this]
  | @cellA t ty k ds bt sz h hl ht hs =>
    have h1 := ha.fr _ _ h
    unfold Rep at h1
    obtain ⟨g, hg, hv⟩ := h1
    obtain ⟨g', vs, q1, q2, -, q4, q5⟩ := ha.lo _ _ hl
    rw [q1] at hg
    injection hg with hg
    subst hg
    refine ⟨.agg vs.toArray, ?_, by unfold Rep; exact ⟨vs, rfl, q4, q5⟩, fun k hk => (ha.usedL _ _ hl).2 k (by unfold menB; unfold men at hk; exact hk)⟩
    have := loadA_run (w := w) ht (ad := ⟨g', 0, none⟩) (vs := vs) (by rw [← q5.length]; exact hs) (fun j v hj => by rw [add_at, Nat.zero_add]; simp [World.cell?, q2, hj])
    simp only [Instr.loadAt, Instr.sureAddr, Sem.run_bind, Sem.run_pure, Result.andThen_ok] at this
    simp only [hv, asAddr, Sem.run_bind, Sem.run_pure, Result.andThen_ok, this]
end
end Go.Proofs.Ythjgcmifggdepaa
namespace Go.Proofs.Ythjgcmifggdepaa
open Go.RowKit

section
variable {P : Program} {cx : Cx} {ρ : Nat → Value} {σ : St} {a : Act} {w : World}
def rv (a : Act) : ResultVar → Sem Value
  | .tmp t => pure (a.tmps.getD t undef)
  | .cell b t => do loadVar t (← asAddr (a.tmps.getD b undef))
theorem results_eq (fn : Func) (a : Act) : results fn a.tmps = (do let vs ← fn.results.mapM (rv a); pure (if h : vs.size = 1 then vs[0] else .tuple vs)) := by
  unfold results
  congr 1
theorem ResDs.run (ha : AbsR cx ρ σ a w) : ∀ {l : List ResultVar} {ds : List DV}, ResDs P σ l ds → ∃ vs : List Value, (l.mapM (rv a)).run P w = .ok vs w ∧ RepL ρ (Imm cx σ ρ w) w ds vs ∧ ∀ k, menL ds k → σ.U k = true
  | _, _, .nil => ⟨[], by simp, by simp [RepL], fun k hk => by unfold menL at hk; exact hk.elim⟩
  | _, _, .cons (x := x) h hs => by
    obtain ⟨v, h1, h2, h3⟩ := h.run ha
    obtain ⟨vs, k1, k2, k3⟩ := hs.run ha
    refine ⟨v :: vs, ?_, by unfold RepL; exact ⟨v, vs, rfl, h2, k2⟩, fun k hk => ?_⟩
    · have h1' : (rv a x).run P w = .ok v w := by cases x <;> exact h1
      rw [List.mapM_cons]
      simp only [Sem.run_bind, h1', Result.andThen_ok, k1, Sem.run_pure]
    · unfold menL at hk
      rcases hk with hk | hk
      · exact h3 k hk
      · exact k3 k hk
theorem results_run (ha : AbsR cx ρ σ a w) {fn : Func} {ds : List DV} (h : ResDs P σ fn.results.toList ds) : ∃ v, (results fn a.tmps).run P w = .ok v w ∧ Rep ρ (Imm cx σ ρ w) w (oneD ds) v := by
  obtain ⟨vs, h1, h2, h3⟩ := h.run ha
  have hm : (fn.results.mapM (rv a)).run P w = .ok vs.toArray w := by
    rw [Array.mapM_eq_mapM_toList, Sem.run_map, h1]
    rfl
  have hr : ∀ v, v = (if h : vs.toArray.size = 1 then vs.toArray[0] else .tuple vs.toArray) → (results fn a.tmps).run P w = .ok v w := fun v hv => by
    rw [results_eq, Sem.run_bind, hm]
    simp only [Result.andThen_ok, Sem.run_pure]
    rw [hv]
  have hlen := h2.length
  match ds, vs, h2, hlen, hr with
  | [d], [v], h2, _, hr =>
    unfold RepL at h2
    obtain ⟨u, us, e1, e2, -⟩ := h2
    injection e1 with e1 _
    subst e1
    exact ⟨v, hr v (by simp), e2⟩
  | [], [], h2, _, hr => exact ⟨.tuple #[], hr _ (by simp), by unfold oneD Rep; exact ⟨[], rfl, h2⟩⟩
  | d :: d2 :: ds, v :: v2 :: vs, h2, _, hr => exact ⟨.tuple (v :: v2 :: vs).toArray, hr _ (by simp), by unfold oneD Rep; exact ⟨_, rfl, h2⟩⟩
def Fin (P : Program) (fn : Func) (np : Nat) (R : DV → List LB → Prop) (σ : St) : Prop :=
  ∃ ds r bx θ, ResDs P σ fn.results.toList ds ∧ R r bx ∧ Cv σ (look θ) (oneD ds) r ∧ allL σ (look θ) (ix 0 bx) ∧ chkL [(0, r)] (ix 0 bx) bx.length θ = true ∧ pinB θ bx.length np = true ∧ Nat.ble np bx.length = true ∧ Nat.ble bx.length (np + 8) = true
def finQ (P : Program) (fn : Func) (np : Nat) (R : DV → List LB → Prop) : Exit → St → Prop
  | .ret, σ => Fin P fn np R σ
  | .normal, σ => Fin P fn np R σ
  | _, _ => False
theorem Fin.out {w0 : World} {I : Nat → Prop} {ρ0 : Nat → Value} {np N : Nat} {fn : Func} {R : DV → List LB → Prop} (h : Fin P fn np R σ) (ha : AbsR ⟨w0, I, ρ0, np, N⟩ ρ σ a w) :
    ∃ v, (results fn a.tmps).run P w = .ok v w ∧ ∃ r bx, R r bx ∧ Back ρ0 I w0 np v r bx w := by
  obtain ⟨ds, r, bx, θ, h1, h2, h3, h4, h5, h6, h7, h8⟩ := h
  obtain ⟨v, hv, hr⟩ := results_run (P := P) ha h1
  have hle : np ≤ bx.length ∧ bx.length ≤ np + 8 := ⟨Nat.le_of_ble_eq_true h7, Nat.le_of_ble_eq_true h8⟩
  simp only [chkL, Bool.and_eq_true, List.all_eq_true] at h5
  obtain ⟨⟨c1, c2⟩, c3⟩ := h5
  obtain ⟨hA, hC⟩ := ha.ren (σ' := mk [] (ix 0 bx) bx.length) (look θ) (fun t d' hd => by simp [mk, look] at hd) (fun k lb hl => allL_mem h4 _ (look_mem hl)) (fun k k' j x y => nd_inj c3 (look_mem x) (look_mem y)) (fun k hk => pinB_spec h6 k hk)
    (fun t d k hd hm => by simp [mk, look] at hd) (fun k lb hl => by
      have := c2 _ (look_mem hl)
      exact ⟨this.1, fun k' hk' => ltB_men this.2 k' hk'⟩)
  have hL : ∀ k lb, (mk [] (ix 0 bx) bx.length).L k = some lb ↔ bx[k]? = some lb := fun k lb => ix_get
  have live : ∀ k, k < bx.length → ∃ lb, (mk [] (ix 0 bx) bx.length).L k = some lb := fun k hk => ⟨bx[k], (hL k _).2 (List.getElem?_eq_getElem hk)⟩
  obtain ⟨k1, k2, k3, k4, k5⟩ := ha.kept
  refine ⟨v, hv, r, bx, h2, hle, ⟨k1, k2, k3, k4⟩, fun b hb hn => k5 b hb ?_, ⟨ren (look θ) ρ, Imm ⟨w0, I, ρ0, np, N⟩ (mk [] (ix 0 bx) bx.length) (ren (look θ) ρ) w, fun k hk => (hA.pin k hk).1, fun b hb => ⟨hb.1, hb.2.2, fun k hk hbk => ?_⟩, hC _ _ _ h3 hr, fun k lb hlb => ?_, fun k b hk1 hk2 hb => ?_, fun k k' b hk hk' e1 e2 => ?_⟩, ⟨fun k hk => ?_, fun k lb hlb k' hk' => ?_⟩⟩
  · rintro ⟨k, hk, hb'⟩
    exact hn k hk hb'
  · obtain ⟨lb, hlb⟩ := live k hk
    exact hb.2.1 ⟨k, lb, hlb, hbk⟩
  · have := hA.lo k lb ((hL k lb).2 hlb)
    cases lb <;> exact this
  · obtain ⟨lb, hlb⟩ := live k hk2
    rcases ((hA.lo k lb hlb).blk hb).2 with h | ⟨j, hj, hj'⟩
    · exact h
    · exfalso
      obtain ⟨lb', hlb'⟩ := live j (by have : j < np := hj; omega)
      have hp := (hA.pin j hj).1
      have := hA.sep k j lb lb' b hlb hlb' hb (by rw [hp]; exact hj')
      have : j < np := hj
      omega
  · obtain ⟨lb, hlb⟩ := live k hk
    obtain ⟨lb', hlb'⟩ := live k' hk'
    exact hA.sep k k' lb lb' b hlb hlb' e1 e2
  · have := ltD_men (c1 _ (List.mem_singleton.2 rfl)) k hk
    exact Nat.le_of_ble_eq_true this
  · have := ltB_men (c2 _ (look_mem ((hL k lb).2 hlb))).2 k' hk'
    exact Nat.le_of_ble_eq_true this
theorem argF_get : ∀ {l : List DV} {k i : Nat}, look (argF k l) (k + i) = l[i]?
  | [], k, i => by simp [argF, look]
  | x :: l, k, 0 => by simp [argF, look]
  | x :: l, k, i + 1 => by
    unfold argF look
    have : Nat.beq (k + (i + 1)) k = false := by
      cases h : Nat.beq (k + (i + 1)) k with
      | false => rfl
      | true => have := Nat.eq_of_beq_eq_true h; omega
    rw [this]
    simp only [cond_false]
    rw [show k + (i + 1) = (k + 1) + i by omega, argF_get]
    simp
/-- What a function says, by a walk through its body. -/
theorem Fn.of {f : FuncId} {fn : Func} {c : Code} {args : List DV} {bx : List LB} {R : DV → List LB → Prop} (hf : P.funcs[f]? = some fn) (hb : fn.body = some c) (hn : (fn.name == "runtime.NumGoroutine") = false)
    (hchk : (ltDs bx.length args && (bx.all (ltB bx.length) && Nat.ble args.length fn.ntmps)) = true) (h : okDs args → (∀ lb ∈ bx, okB lb) → ∀ w0 I ρ0, awp P ⟨w0, I, ρ0, bx.length, fn.ntmps⟩ c (finQ P fn bx.length R) (mk (argF 0 args) (ix 0 bx) bx.length)) : Fn P f args bx R := by
  refine ⟨Enters.of hf hn (by rw [hb]; rfl), fun ρ I w vs hI hargs hbx hsep => ?_⟩
  simp only [Bool.and_eq_true, List.all_eq_true] at hchk
  obtain ⟨c1, c2, c3⟩ := hchk
  have hlen := hargs.length
  have hN : args.length ≤ fn.ntmps := Nat.le_of_ble_eq_true c3
  have hmk : ∀ k lb, (mk (argF 0 args) (ix 0 bx) bx.length).L k = some lb ↔ bx[k]? = some lb := fun k lb => ix_get
  have hbl : ∀ k lb, bx[k]? = some lb → k < bx.length := fun k lb h => (List.getElem?_eq_some_iff.1 h).1
  have himm : ∀ b, I b → Imm ⟨w, I, ρ, bx.length, fn.ntmps⟩ (mk (argF 0 args) (ix 0 bx) bx.length) ρ w b := fun b hb => ⟨(hI b hb).1, by
    rintro ⟨k, lb, h1, h2⟩
    exact (hI b hb).2 k (hbl k lb ((hmk k lb).1 h1)) h2, fun _ => hb⟩
  have hA : AbsR ⟨w, I, ρ, bx.length, fn.ntmps⟩ ρ (mk (argF 0 args) (ix 0 bx) bx.length) { tmps := vs.toArray ++ Array.replicate (fn.ntmps - vs.toArray.size) undef, defers := [] } w := by
    refine ⟨rfl, by simp; omega, ⟨rfl, rfl, rfl, Nat.le_refl _, fun _ _ _ => rfl⟩, fun t d hd => ?_, fun k lb hl => ?_, fun k k' lb lb' b h1 h2 h3 h4 => hsep k k' b (hbl k lb ((hmk k lb).1 h1)) (hbl k' lb' ((hmk k' lb').1 h2)) h3 h4, fun t d k hd hm => ?_, fun k lb hl => ?_, fun k hk => ⟨rfl, Nat.ble_eq_true_of_le hk⟩⟩
    · have hd' : args[t]? = some d := by
        have := argF_get (l := args) (k := 0) (i := t)
        rw [Nat.zero_add] at this
        rw [← this]
        exact hd
      obtain ⟨v, hv, hr⟩ := hargs.at_ hd'
      have e1 : (vs.toArray ++ Array.replicate (fn.ntmps - vs.toArray.size) undef).getD t undef = v := by
        have hlt := (List.getElem?_eq_some_iff.1 hv).1
        simp [Array.getElem?_append, hlt]
        simpa [hlt] using hv
      rw [e1]
      exact Rep.step (fun b hb => ⟨himm b hb, rfl⟩) d v (fun _ _ => rfl) hr
    · have hlb := (hmk k lb).1 hl
      have hB := hbx k lb hlb
      cases lb with
      | box ds ty =>
        obtain ⟨b, us, q1, q2, q3, q4⟩ := hB
        exact ⟨b, us, q1, q2, .inr ⟨k, hbl k _ hlb, by show blkOf (ρ k) = some b; rw [q1]; rfl⟩, q3, RepL.step (fun b hb => ⟨himm b hb, rfl⟩) ds us (fun _ _ => rfl) q4⟩
      | row e sz cs => exact hB.elim
    · have hd' : args[t]? = some d := by
        have := argF_get (l := args) (k := 0) (i := t)
        rw [Nat.zero_add] at this
        rw [← this]
        exact hd
      exact ltDs_men c1 k (s_extract.menL_at hd' hm)
    · have hlb := (hmk k lb).1 hl
      exact ⟨Nat.ble_eq_true_of_le (hbl k lb hlb), fun k' hk' => ltB_men (c2 lb (List.mem_of_getElem? hlb)) k' hk'⟩
  have hok : ∀ lb ∈ bx, okB lb := fun lb hlb => by
    obtain ⟨k, hk, rfl⟩ := List.getElem_of_mem hlb
    exact (hA.lo k _ ((hmk k _).2 (List.getElem?_eq_getElem hk))).ok
  refine calls_of_wp hf hb (Code.wp_mono ?_ (h (RepL.ok _ _ hargs) hok w I ρ _ w ⟨ρ, hA⟩))
  rintro e a' w' ⟨σ', hq, ⟨ρ', hA'⟩⟩
  cases e with
  | normal =>
    obtain ⟨v, hv, r, bx', h1, h2⟩ := Fin.out hq hA'
    exact ⟨hA'.defers, v, hv, v, r, bx', rfl, h1, h2⟩
  | ret =>
    obtain ⟨v, hv, r, bx', h1, h2⟩ := Fin.out hq hA'
    exact ⟨hA'.defers, v, hv, v, r, bx', rfl, h1, h2⟩
  | _ => exact hq.elim
end
end Go.Proofs.Ythjgcmifggdepaa
namespace Go.Proofs.Ythjgcmifggdepaa
open Go.RowKit

mutual
def mapD (f : Nat → Nat) : DV → DV
  | .row k => .row (f k)
  | .part k o n => .part (f k) o n
  | .ptr k i => .ptr (f k) i
  | .agg ds => .agg (mapDs f ds)
  | .tup ds => .tup (mapDs f ds)
  | .val v => .val v
  | .sl sz cs => .sl sz cs
  | .elt cs => .elt cs
def mapDs (f : Nat → Nat) : List DV → List DV
  | [] => []
  | d :: ds => mapD f d :: mapDs f ds
end
def mapB (f : Nat → Nat) : LB → LB
  | .box ds ty => .box (mapDs f ds) ty
  | .row e sz cs => .row e sz cs
mutual
def flatD : DV → Prop
  | .sl _ _ => False
  | .elt _ => False
  | .agg ds => flatDs ds
  | .tup ds => flatDs ds
  | .val _ => True
  | .row _ => True
  | .part _ _ _ => True
  | .ptr _ _ => True
def flatDs : List DV → Prop
  | [] => True
  | d :: ds => flatD d ∧ flatDs ds
end
def flatB : LB → Prop
  | .box ds _ => flatDs ds
  | .row _ _ cs => ∀ c ∈ cs, flatC c = true
section
variable {ρ ρ' : Nat → Value} {I I' : Nat → Prop} {w : World} {f : Nat → Nat}
mutual
theorem Rep.map (hI : ∀ b, I b → I' b) : ∀ (d : DV) (v : Value), (∀ k, men d k → ρ' (f k) = ρ k) → Rep ρ I w d v → Rep ρ' I' w (mapD f d) v
  | .val _, _, _, h => by unfold mapD Rep; unfold Rep at h; exact h
  | .sl _ _, _, _, h => by unfold mapD Rep; unfold Rep at h; exact RdC.mono h hI
  | .row k, _, hm, h => by
    unfold mapD Rep; unfold Rep at h
    rw [hm k (by unfold men; rfl)]
    exact h
  | .part k _ _, _, hm, h => by
    unfold mapD Rep; unfold Rep at h
    rw [hm k (by unfold men; rfl)]
    exact h
  | .ptr k _, _, hm, h => by
    unfold mapD Rep; unfold Rep at h
    rw [hm k (by unfold men; rfl)]
    exact h
  | .elt _, _, _, h => by
    unfold mapD Rep; unfold Rep at h
    obtain ⟨ad, h1, h2, h3⟩ := h
    exact ⟨ad, h1, hI _ h2, RdCs.keep_ (fun _ _ => rfl) hI ad h2 _ 0 h3⟩
  | .agg ds, _, hm, h => by
    unfold mapD Rep; unfold Rep at h
    obtain ⟨vs, h1, h2, h3⟩ := h
    exact ⟨vs, h1, h2, RepL.map hI ds vs (fun k hk => hm k (by unfold men; exact hk)) h3⟩
  | .tup ds, _, hm, h => by
    unfold mapD Rep; unfold Rep at h
    obtain ⟨vs, h1, h3⟩ := h
    exact ⟨vs, h1, RepL.map hI ds vs (fun k hk => hm k (by unfold men; exact hk)) h3⟩
theorem RepL.map (hI : ∀ b, I b → I' b) : ∀ (ds : List DV) (vs : List Value), (∀ k, menL ds k → ρ' (f k) = ρ k) → RepL ρ I w ds vs → RepL ρ' I' w (mapDs f ds) vs
  | [], _, _, h => by unfold mapDs RepL; unfold RepL at h; exact h
  | d :: ds, _, hm, h => by
    unfold mapDs RepL; unfold RepL at h
    obtain ⟨u, us, h1, h2, h3⟩ := h
    exact ⟨u, us, h1, Rep.map hI d u (fun k hk => hm k (by unfold menL; exact .inl hk)) h2, RepL.map hI ds us (fun k hk => hm k (by unfold menL; exact .inr hk)) h3⟩
end
mutual
theorem Rep.flat : ∀ (d : DV) (v : Value), flatD d → Rep ρ I w d v → Rep ρ I' w d v
  | .val _, _, _, h => by unfold Rep at *; exact h
  | .sl _ _, _, hf, _ => by unfold flatD at hf; exact hf.elim
  | .row k, _, _, h => by unfold Rep at *; exact h
  | .part k _ _, _, _, h => by unfold Rep at *; exact h
  | .ptr k _, _, _, h => by unfold Rep at *; exact h
  | .elt _, _, hf, _ => by unfold flatD at hf; exact hf.elim
  | .agg ds, _, hf, h => by
    unfold Rep at *
    obtain ⟨vs, h1, h2, h3⟩ := h
    exact ⟨vs, h1, h2, RepL.flat ds vs (by unfold flatD at hf; exact hf) h3⟩
  | .tup ds, _, hf, h => by
    unfold Rep at *
    obtain ⟨vs, h1, h3⟩ := h
    exact ⟨vs, h1, RepL.flat ds vs (by unfold flatD at hf; exact hf) h3⟩
theorem RepL.flat : ∀ (ds : List DV) (vs : List Value), flatDs ds → RepL ρ I w ds vs → RepL ρ I' w ds vs
  | [], _, _, h => by unfold RepL at *; exact h
  | d :: ds, _, hf, h => by
    unfold RepL at *
    unfold flatDs at hf
    obtain ⟨u, us, h1, h2, h3⟩ := h
    exact ⟨u, us, h1, Rep.flat d u hf.1 h2, RepL.flat ds us hf.2 h3⟩
end
mutual
theorem men_map : ∀ (d : DV) (k : Nat), men (mapD f d) k → ∃ j, men d j ∧ k = f j
  | .val _, k, h => by unfold mapD men at h; exact h.elim
  | .sl _ _, k, h => by unfold mapD men at h; exact h.elim
  | .row j, k, h => by unfold mapD men at h; exact ⟨j, by unfold men; rfl, h⟩
  | .part j _ _, k, h => by unfold mapD men at h; exact ⟨j, by unfold men; rfl, h⟩
  | .ptr j _, k, h => by unfold mapD men at h; exact ⟨j, by unfold men; rfl, h⟩
  | .elt _, k, h => by unfold mapD men at h; exact h.elim
  | .agg ds, k, h => by
    unfold mapD men at h
    obtain ⟨j, h1, h2⟩ := menL_map ds k h
    exact ⟨j, by unfold men; exact h1, h2⟩
  | .tup ds, k, h => by
    unfold mapD men at h
    obtain ⟨j, h1, h2⟩ := menL_map ds k h
    exact ⟨j, by unfold men; exact h1, h2⟩
theorem menL_map : ∀ (ds : List DV) (k : Nat), menL (mapDs f ds) k → ∃ j, menL ds j ∧ k = f j
  | [], k, h => by unfold mapDs menL at h; exact h.elim
  | d :: ds, k, h => by
    unfold mapDs menL at h
    rcases h with h | h
    · obtain ⟨j, h1, h2⟩ := men_map d k h
      exact ⟨j, by unfold menL; exact .inl h1, h2⟩
    · obtain ⟨j, h1, h2⟩ := menL_map ds k h
      exact ⟨j, by unfold menL; exact .inr h1, h2⟩
end
end

/-- What is handed to a function. ps: the blocks that it may write; fl: a row of one's own is lent. -/
inductive Ar0 : DV → DV → Prop
  | val {v} : Ar0 (.val v) (.val v)
  | sl {sz cs} : Ar0 (.sl sz cs) (.sl sz cs)
  | nils {sz} : Ar0 (.val (.slice none 0 0)) (.sl sz [])
inductive Ar0L : List DV → List DV → Prop
  | nil : Ar0L [] []
  | cons {d d' l l'} (h : Ar0 d d') (hs : Ar0L l l') : Ar0L (d :: l) (d' :: l')
inductive Ar (fl : Bool) (ps : List Nat) : DV × Option LB → DV → Prop
  | flat {d d' b} (h : Ar0 d d') : Ar fl ps (d, b) d'
  | elt {cs b} : Ar fl ps (.elt cs, b) (.elt cs)
  | ptr {j k i b} (h : ps[k]? = some j) : Ar fl ps (.ptr j i, b) (.ptr k i)
  | row {j e sz cs} (h : fl = true) : Ar fl ps (.row j, some (.row e sz cs)) (.sl sz cs)
  | part {j off n e sz cs} (h : fl = true) (hn : off + n * sz ≤ cs.length) : Ar fl ps (.part j off n, some (.row e sz cs)) (.sl sz ((cs.drop off).take (n * sz)))
  | agg {ds ds' b} (h : Ar0L ds ds') : Ar fl ps (.agg ds, b) (.agg ds')
inductive ArL (fl : Bool) (ps : List Nat) : List (DV × Option LB) → List DV → Prop
  | nil : ArL fl ps [] []
  | cons {d d' l l'} (h : Ar fl ps d d') (hs : ArL fl ps l l') : ArL fl ps (d :: l) (d' :: l')
/-- The blocks that are handed over. -/
def BxR (dsA : List (DV × Option LB)) : List Nat → List LB → Prop
  | [], bx => bx = []
  | j :: ps, bx => ∃ i ds ds' ty l, bx = .box ds' ty :: l ∧ (DV.ptr j i, some (LB.box ds ty)) ∈ dsA ∧ Ar0L ds ds' ∧ BxR dsA ps l
def impT (ps : List Nat) (tk : Nat) (k : Nat) : Nat := match ps[k]? with | some j => j | none => tk + (k - ps.length)
def impA (ps : List Nat) (tk : Nat) : Nat → List LB → List (Nat × LB)
  | _, [] => []
  | k, x :: l => (impT ps tk k, mapB (impT ps tk) x) :: impA ps tk (k + 1) l
def effC (ps : List Nat) (tk : Nat) (r : DV) (bx : List LB) : Eff := ⟨some (mapD (impT ps tk) r), fun k => match look (impA ps tk 0 bx) k with | some lb => some (some lb) | none => none⟩
/-- Calls of functions whose contract is known. -/
inductive CallR (P : Program) : Nat → Op → TypeId → List (DV × Option LB) → List Nat → (Eff → Prop) → Prop
  | call {tk f xs tys ty dsA ps args bx R} (fl : Bool) (hF : Fn P f args bx R) (hA : ArL fl ps dsA args) (hB : BxR dsA ps bx) (hnd : ndB ps = true) (hfl : fl = true → ∀ r b, R r b → flatD r ∧ ∀ lb ∈ b, flatB lb) :
    CallR P tk (.call ⟨.value (.func f), xs, tys⟩) ty ((.val (.func (.func f) #[] #[]), none) :: dsA) ps (fun e => ∃ r b, R r b ∧ e = effC ps tk r b ∧ ps.length ≤ b.length ∧ b.length ≤ ps.length + 8 ∧ okD r ∧ ∀ lb ∈ b, okB lb)
theorem BxR.length {dsA : List (DV × Option LB)} : ∀ {ps : List Nat} {bx : List LB}, BxR dsA ps bx → bx.length = ps.length
  | [], bx, h => by unfold BxR at h; rw [h]; rfl
  | j :: ps, bx, h => by
    unfold BxR at h
    obtain ⟨i, ds, ds', ty, l, rfl, -, -, h4⟩ := h
    simp [BxR.length h4]
theorem BxR.at_ {dsA : List (DV × Option LB)} : ∀ {ps : List Nat} {bx : List LB}, BxR dsA ps bx → ∀ {k : Nat} {lb : LB}, bx[k]? = some lb → ∃ j i ds ds' ty, ps[k]? = some j ∧ lb = .box ds' ty ∧ (DV.ptr j i, some (LB.box ds ty)) ∈ dsA ∧ Ar0L ds ds'
  | [], bx, h, k, lb, hl => by unfold BxR at h; rw [h] at hl; simp at hl
  | j :: ps, bx, h, 0, lb, hl => by
    unfold BxR at h
    obtain ⟨i, ds, ds', ty, l, rfl, h2, h3, h4⟩ := h
    simp at hl
    exact ⟨j, i, ds, ds', ty, rfl, hl.symm, h2, h3⟩
  | j :: ps, bx, h, k + 1, lb, hl => by
    unfold BxR at h
    obtain ⟨i, ds, ds', ty, l, rfl, h2, h3, h4⟩ := h
    have := BxR.at_ h4 (k := k) (lb := lb) (by simpa using hl)
    simpa using this
theorem impA_look {ps : List Nat} {tk : Nat} : ∀ {l : List LB} {k k' : Nat} {lb : LB}, look (impA ps tk k l) k' = some lb → ∃ i x, l[i]? = some x ∧ k' = impT ps tk (k + i) ∧ lb = mapB (impT ps tk) x
  | [], _, _, _, h => by simp [impA, look] at h
  | x :: l, k, k', lb, h => by
    unfold impA look at h
    cases hb : Nat.beq k' (impT ps tk k) with
    | true =>
      rw [hb] at h
      simp at h
      exact ⟨0, x, rfl, Nat.eq_of_beq_eq_true hb, h.symm⟩
    | false =>
      rw [hb] at h
      obtain ⟨i, y, h1, h2, h3⟩ := impA_look (l := l) (k := k + 1) h
      exact ⟨i + 1, y, by simpa using h1, by rw [h2]; congr 1; omega, h3⟩
theorem impA_some {ps : List Nat} {tk : Nat} : ∀ {l : List LB} {k i : Nat} {x : LB}, l[i]? = some x → ∃ lb, look (impA ps tk k l) (impT ps tk (k + i)) = some lb
  | [], _, _, _, h => by simp at h
  | y :: l, k, i, x, h => by
    unfold impA look
    cases hb : Nat.beq (impT ps tk (k + i)) (impT ps tk k) with
    | true => exact ⟨_, rfl⟩
    | false =>
      cases i with
      | zero => simp at hb
      | succ i =>
        have := impA_some (ps := ps) (tk := tk) (l := l) (k := k + 1) (i := i) (x := x) (by simpa using h)
        simp only [cond_false]
        rwa [show k + (i + 1) = k + 1 + i by omega]
section
variable {ρ : Nat → Value} {I : Nat → Prop} {w : World}
theorem Ar0.rep {d d' : DV} {v : Value} {ρ' : Nat → Value} {I' : Nat → Prop} (h : Ar0 d d') (hI : ∀ b, I b → I' b) (hr : Rep ρ I w d v) : Rep ρ' I' w d' v := by
  cases h with
  | val => unfold Rep at *; exact hr
  | sl => unfold Rep at *; exact hr.mono hI
  | nils => unfold Rep at *; rw [hr]; exact RdC.nil_ _
theorem Ar0L.rep {ρ' : Nat → Value} {I' : Nat → Prop} (hI : ∀ b, I b → I' b) : ∀ {ds ds' : List DV} {vs : List Value}, Ar0L ds ds' → RepL ρ I w ds vs → RepL ρ' I' w ds' vs
  | _, _, _, .nil, hr => by unfold RepL at *; exact hr
  | _, _, _, .cons h hs, hr => by
    unfold RepL at *
    obtain ⟨u, us, h1, h2, h3⟩ := hr
    exact ⟨u, us, h1, h.rep hI h2, hs.rep hI h3⟩
end
end Go.Proofs.Ythjgcmifggdepaa
namespace Go.Proofs.Ythjgcmifggdepaa
open Go.RowKit

section
variable {P : Program} {cx : Cx} {ρ : Nat → Value} {σ : St} {a : Act} {w : World} {o : Oper} {K : Act → World → Prop} {Q : Exit → Act → World → Prop}
/-- What a lent row lies in, too. -/
def Lent (fl : Bool) (ps : List Nat) (σ : St) (ρ : Nat → Value) (b : Nat) : Prop := fl = true ∧ ∃ j e sz cs, j ∉ ps ∧ σ.L j = some (.row e sz cs) ∧ blkOf (ρ j) = some b
theorem ArL.rep {fl : Bool} {ps : List Nat} {tc : Bool} (ha : AbsR cx ρ σ a w) (hps : ∀ j, j ∈ ps → ∃ ds ty, σ.L j = some (.box ds ty)) : ∀ {l : List Operand} {dsA : List (DV × Option LB)} {args : List DV}, ArL fl ps dsA args → evs σ tc l = some dsA →
    RepL (fun k => ρ (impT ps 0 k)) (fun b => Imm cx σ ρ w b ∨ Lent fl ps σ ρ b) w args (l.map a.eval)
  | l, _, _, .nil, hds => by
    cases l with
    | nil => simp [RepL]
    | cons x l => obtain ⟨q, qs, h, -⟩ := evs_cons hds; cases h
  | [], _, _, .cons h hs, hds => by unfold evs at hds; injection hds with hds; cases hds
  | x :: l, _, _, .cons (d := q) h hs, hds => by
    obtain ⟨e1, e2⟩ : ev σ tc x = some q ∧ evs σ tc l = some _ := by
      obtain ⟨q', qs, h1, h2, h3⟩ := evs_cons hds
      injection h1 with h1 h1'
      subst h1 h1'
      exact ⟨h2, h3⟩
    simp only [List.map_cons]
    unfold RepL
    refine ⟨_, _, rfl, ?_, hs.rep ha hps e2⟩
    cases h with
    | flat h => exact h.rep (fun b hb => .inl hb) (ev_rep ha e1).1
    | elt =>
      have h1 := (ev_rep ha e1).1
      unfold Rep at *
      obtain ⟨ad, h2, h3, h4⟩ := h1
      exact ⟨ad, h2, .inl h3, RdCs.keep_ (fun _ _ => rfl) (fun b hb => .inl hb) ad h3 _ 0 h4⟩
    | @ptr j k i _ hk =>
      have h1 := (ev_rep ha e1).1
      unfold Rep at *
      have : impT ps 0 k = j := by unfold impT; rw [hk]
      simp only [this]
      exact h1
    | row hfl =>
      obtain ⟨h1, -, h3⟩ := ev_rep ha e1
      have hL := h3 _ _ rfl rfl
      unfold Rep at *
      rw [h1.1]
      obtain ⟨n, us, ho, hr⟩ := ha.lo _ _ hL
      refine Own.cells ho hr (fun b hb => .inl hb) fun b hb => .inr ⟨hfl, _, _, _, _, fun hm => ?_, hL, hb⟩
      obtain ⟨ds, ty, h5⟩ := hps _ hm
      rw [hL] at h5
      cases h5
    | part hfl hn =>
      obtain ⟨h1, -, h3⟩ := ev_rep ha e1
      have hL := h3 _ _ rfl rfl
      unfold Rep at *
      obtain ⟨A, c, h4, h5, h6, h7, -⟩ := h1
      rw [h4]
      obtain ⟨n, us, ho, hr⟩ := ha.lo _ _ hL
      refine ownPart ho hr (fun b hb => .inl hb) (fun b hb => .inr ⟨hfl, _, _, _, _, fun hm => ?_, hL, hb⟩) hn h5 h6 h7
      obtain ⟨ds, ty, h8⟩ := hps _ hm
      rw [hL] at h8
      cases h8
    | agg hd =>
      have h1 := (ev_rep ha e1).1
      unfold Rep at *
      obtain ⟨vs, h2, h3, h4⟩ := h1
      exact ⟨vs, h2, h3, hd.rep (fun b hb => .inl hb) h4⟩
theorem evs_mem (ha : AbsR cx ρ σ a w) {tc : Bool} {j i : Nat} {lb : LB} : ∀ {l : List Operand} {ds : List (DV × Option LB)}, evs σ tc l = some ds → (DV.ptr j i, some lb) ∈ ds → σ.L j = some lb
  | [], ds, h, hm => by unfold evs at h; injection h with h; subst h; simp at hm
  | x :: l, ds, h, hm => by
    obtain ⟨q, qs, rfl, h1, h2⟩ := evs_cons h
    rcases List.mem_cons.1 hm with h3 | h3
    · subst h3
      exact (ev_rep ha h1).2.2 _ _ rfl rfl
    · exact evs_mem ha h2 h3
theorem nd_nth : ∀ {l : List Nat}, ndB l = true → ∀ {i j x : Nat}, l[i]? = some x → l[j]? = some x → i = j
  | [], _, i, j, x, h, _ => by simp at h
  | y :: l, hn, 0, 0, x, _, _ => rfl
  | y :: l, hn, 0, j + 1, x, h1, h2 => by
    simp only [ndB, Bool.and_eq_true, List.all_eq_true] at hn
    simp at h1 h2
    subst h1
    have := hn.1 y (List.mem_of_getElem? h2)
    simp at this
  | y :: l, hn, i + 1, 0, x, h1, h2 => by
    simp only [ndB, Bool.and_eq_true, List.all_eq_true] at hn
    simp at h1 h2
    subst h2
    have := hn.1 y (List.mem_of_getElem? h1)
    simp at this
  | y :: l, hn, i + 1, j + 1, x, h1, h2 => by
    simp only [ndB, Bool.and_eq_true] at hn
    have := nd_nth hn.2 (i := i) (j := j) (x := x) (by simpa using h1) (by simpa using h2)
    rw [this]
theorem menL_mapB {f : Nat → Nat} {lb : LB} {k : Nat} (h : menB (mapB f lb) k) : ∃ j, menB lb j ∧ k = f j := by
  cases lb with
  | box ds ty => exact menL_map ds k h
  | row => exact h.elim
theorem CallR.sound {tk : Nat} {op : Op} {ty : TypeId} {ds : List (DV × Option LB)} {wr : List Nat} {E : Eff → Prop} (h : CallR P tk op ty ds wr E) (ha : AbsR cx ρ σ a w) (hds : evs σ true op.operands.toList = some ds) (hf : ∀ j, j < 8 → σ.U (tk + j) = false) (ho : o.op = op) (hdst : ∀ t, o.dst = some t → t < cx.N)
    (hK : ∀ e a' w', E e → Abs cx (σ.app o.dst e) a' w' → K a' w') : o.wp P a w K Q := by
  cases h with
  | @call f xs tys _ dsA _ args bx R fl hF hA hB hnd hfl =>
  have hds' : evs σ true (.func f :: xs.toList) = some ((.val (.func (.func f) #[] #[]), none) :: dsA) := by
    have : (Op.call ⟨.value (.func f), xs, tys⟩).operands.toList = .func f :: xs.toList := by simp [Op.operands, Call.operands]
    rw [← this]; exact hds
  obtain ⟨-, e2⟩ := evs_tail hds'
  have hbl := hB.length
  have hpsL : ∀ k j, wr[k]? = some j → ∃ ds ty, σ.L j = some (.box ds ty) ∧ ∃ ds', bx[k]? = some (LB.box ds' ty) ∧ Ar0L ds ds' := fun k j hk => by
    have hlt : k < bx.length := by rw [hbl]; exact (List.getElem?_eq_some_iff.1 hk).1
    obtain ⟨j', i, ds, ds', ty', h1, h2, h3, h4⟩ := hB.at_ (List.getElem?_eq_getElem hlt)
    rw [hk] at h1
    injection h1 with h1
    subst h1
    exact ⟨ds, ty', evs_mem ha e2 h3, ds', by rw [List.getElem?_eq_getElem hlt, h2], h4⟩
  have hps : ∀ j, j ∈ wr → ∃ ds ty, σ.L j = some (.box ds ty) := fun j hj => by
    obtain ⟨k, hk, rfl⟩ := List.getElem_of_mem hj
    obtain ⟨ds, ty, h1, -⟩ := hpsL k _ (List.getElem?_eq_getElem hk)
    exact ⟨ds, ty, h1⟩
  have hargs := hA.rep ha hps e2
  have hi0 : ∀ k j, wr[k]? = some j → impT wr 0 k = j := fun k j h => by unfold impT; rw [h]
  have hit : ∀ k j, wr[k]? = some j → impT wr tk k = j := fun k j h => by unfold impT; rw [h]
  have hgt : ∀ k, wr.length ≤ k → impT wr tk k = tk + (k - wr.length) := fun k h => by unfold impT; rw [List.getElem?_eq_none h]
  have hin : ∀ k, k < bx.length → ∃ j, wr[k]? = some j := fun k hk => ⟨wr[k]'(by omega), List.getElem?_eq_getElem (by omega)⟩
  have hUps : ∀ k j, wr[k]? = some j → σ.U j = true := fun k j h => by
    obtain ⟨ds, ty, h1, -⟩ := hpsL k j h
    exact (ha.usedL _ _ h1).1
  -- the call itself
  have hcalls := hF.2 (fun k => ρ (impT wr 0 k)) (fun b => Imm cx σ ρ w b ∨ Lent fl wr σ ρ b) w (xs.toList.map a.eval) (fun b hb => by
      have key : ∀ k, k < bx.length → blkOf (ρ (impT wr 0 k)) = some b → False := fun k hk hbk => by
        obtain ⟨j, hj⟩ := hin k hk
        rw [hi0 k j hj] at hbk
        obtain ⟨ds, ty, h1, -⟩ := hpsL k j hj
        rcases hb with hb | ⟨-, j', e, sz, cs, h2, h3, h4⟩
        · exact hb.2.1 ⟨j, _, h1, hbk⟩
        · have := ha.sep j j' _ _ b h1 h3 hbk h4
          subst this
          exact h2 (List.mem_of_getElem? hj)
      refine ⟨?_, fun k hk hbk => key k hk hbk⟩
      rcases hb with hb | ⟨-, j', e, sz, cs, h2, h3, h4⟩
      · exact hb.1
      · exact ((ha.lo _ _ h3).blk h4).1) hargs (fun k lb hlb => by
      have hk := (List.getElem?_eq_some_iff.1 hlb).1
      obtain ⟨j, hj⟩ := hin k hk
      obtain ⟨ds, ty, h1, ds', h2, h3⟩ := hpsL k j hj
      rw [h2] at hlb
      injection hlb with hlb
      subst hlb
      show BoxIn _ _ w (ρ (impT wr 0 k)) _
      rw [hi0 k j hj]
      obtain ⟨b, vs, q1, q2, -, q4, q5⟩ := ha.lo _ _ h1
      exact ⟨b, vs, q1, q2, q4, h3.rep (fun b hb => .inl hb) q5⟩) (fun k k' b hk hk' e1 e2 => by
      obtain ⟨j, hj⟩ := hin k hk
      obtain ⟨j', hj'⟩ := hin k' hk'
      simp only [hi0 k j hj] at e1
      simp only [hi0 k' j' hj'] at e2
      obtain ⟨ds, ty, h1, -⟩ := hpsL k j hj
      obtain ⟨ds', ty', h1', -⟩ := hpsL k' j' hj'
      have := ha.sep j j' _ _ b h1 h1' e1 e2
      subst this
      exact nd_nth hnd hj hj')
  unfold Oper.wp
  have hrun : (execOp a.eval o).run P w = .ok (.enter f (xs.toList.map a.eval).toArray) w := by
    have e1 : (xs.toList.map a.eval).toArray = xs.map a.eval := by rw [← Array.toList_map, Array.toArray_toList]
    have h1 := hF.1 (xs.toList.map a.eval).toArray w
    rw [e1] at h1 ⊢
    have e4 : a.eval (.func f) = .func (.func f) #[] #[] := rfl
    have e3 : (#[] ++ Array.map a.eval xs ++ #[] : Array Value) = Array.map a.eval xs := by simp
    simp only [execOp, ho, resolve, e4, Deferred.ofValue, Sem.run_bind, Sem.run_pure, Result.andThen_ok, invoke, e3]
    exact h1
  rw [hrun]
  refine hcalls.mono ?_
  rintro e w' ⟨v, r, bx', rfl, hR, hback⟩
  obtain ⟨⟨b1, b2⟩, ⟨o1, o2, o3, o4⟩, hkept, ⟨ρ', J, d1, d2, d3, d4, d5, d6⟩, ⟨m1, m2⟩⟩ := hback
  have b1' : wr.length ≤ bx'.length := by omega
  have b2' : bx'.length ≤ wr.length + 8 := by omega
  have hok : okD r ∧ ∀ lb ∈ bx', okB lb := ⟨Rep.ok r v d3, fun lb hlb => by
    obtain ⟨k, hk, rfl⟩ := List.getElem_of_mem hlb
    exact (d4 k _ (List.getElem?_eq_getElem hk)).ok⟩
  refine hK (effC wr tk r bx') _ _ ⟨r, bx', hR, rfl, b1', b2', hok.1, hok.2⟩ ?_
  -- the names
  have himp : ∀ k, k < bx'.length → (∃ j, wr[k]? = some j ∧ impT wr tk k = j) ∨ (wr.length ≤ k ∧ impT wr tk k = tk + (k - wr.length) ∧ k - wr.length < 8) := fun k hk => by
    rcases Nat.lt_or_ge k wr.length with h | h
    · exact .inl ⟨wr[k], List.getElem?_eq_getElem h, hit k _ (List.getElem?_eq_getElem h)⟩
    · exact .inr ⟨h, hgt k h, by omega⟩
  have hel : ∀ k, (effC wr tk r bx').l k = (match look (impA wr tk 0 bx') k with | some lb => some (some lb) | none => none) := fun _ => rfl
  have hel1 : ∀ k lb, (effC wr tk r bx').l k = some (some lb) → ∃ i x, bx'[i]? = some x ∧ k = impT wr tk i ∧ lb = mapB (impT wr tk) x := fun k lb h => by
    rw [hel] at h
    cases hl : look (impA wr tk 0 bx') k with
    | none => rw [hl] at h; cases h
    | some lb' =>
      rw [hl] at h
      injection h with h
      injection h with h
      subst h
      obtain ⟨i, x, h1, h2, h3⟩ := impA_look hl
      exact ⟨i, x, h1, by simpa using h2, h3⟩
  have hel2 : ∀ i, i < bx'.length → (effC wr tk r bx').l (impT wr tk i) ≠ none := fun i hi => by
    obtain ⟨lb, hlb⟩ := impA_some (ps := wr) (tk := tk) (k := 0) (List.getElem?_eq_getElem hi)
    rw [Nat.zero_add] at hlb
    rw [hel, hlb]
    simp
  let ρ2 : Nat → Value := fun k => if tk ≤ k ∧ k < tk + 8 then ρ' (wr.length + (k - tk)) else ρ k
  have hρU : ∀ k, σ.U k = true → ρ2 k = ρ k := fun k hk => by
    show (if tk ≤ k ∧ k < tk + 8 then _ else _) = _
    rw [if_neg]
    intro hh
    have := hf (k - tk) (by omega)
    rw [show tk + (k - tk) = k by omega, hk] at this
    cases this
  have hρi : ∀ i, i < bx'.length → ρ2 (impT wr tk i) = ρ' i := fun i hi => by
    rcases himp i hi with ⟨j, h1, h2⟩ | ⟨h1, h2, h3⟩
    · rw [h2, hρU j (hUps i j h1), d1 i (by have := (List.getElem?_eq_some_iff.1 h1).1; omega)]
      show ρ j = ρ (impT wr 0 i)
      rw [hi0 i j h1]
    · rw [h2]
      show (if tk ≤ _ ∧ _ < tk + 8 then _ else _) = _
      rw [if_pos (by omega)]
      congr 1
      omega
  refine ⟨ρ2, ha.app (v := v) ?_ o4 hdst hρU (fun b hb h => hkept b hb fun k hk hbk => ?_) (fun k lb b h1 h2 => ?_) (fun k k' lb lb' b h1 h2 h3 h4 => ?_) (fun hI hI2 => ?_) ⟨fun k lb k' h1 h2 => ?_, fun d k' h1 h2 => ?_⟩⟩
  · obtain ⟨k1, k2, k3, k4, k5⟩ := ha.kept
    refine ⟨o1.trans k1, o2.trans k2, o3.trans k3, Nat.le_trans k4 o4, fun b hb hM => (hkept b (Nat.lt_of_lt_of_le hb k4) fun k hk hbk => ?_).trans (k5 b hb hM)⟩
    obtain ⟨j, hj⟩ := hin k hk
    simp only [hi0 k j hj] at hbk
    obtain ⟨ds, ty, h1, -⟩ := hpsL k j hj
    rcases ((ha.lo _ _ h1).blk hbk).2 with h | h
    · omega
    · exact hM h
  · obtain ⟨j, hj⟩ := hin k hk
    simp only [hi0 k j hj] at hbk
    obtain ⟨ds, ty, h1, -⟩ := hpsL k j hj
    have hjl := (List.getElem?_eq_some_iff.1 hj).1
    have := hel2 k (by omega)
    rw [hit k j hj] at this
    exact h j _ this h1 hbk
  · obtain ⟨i, x, e1, rfl, rfl⟩ := hel1 k lb h1
    have hi := (List.getElem?_eq_some_iff.1 e1).1
    rw [hρi i hi] at h2
    rcases himp i hi with ⟨j, q1, q2⟩ | ⟨q1, q2, q3⟩
    · right
      have hil := (List.getElem?_eq_some_iff.1 q1).1
      obtain ⟨ds, ty, q3, -⟩ := hpsL i j q1
      refine ⟨j, _, ?_, q3, ?_⟩
      · have := hel2 i hi; rwa [q2] at this
      · rw [d1 i (by omega)] at h2
        simpa only [hi0 i j q1] using h2
    · exact .inl (d5 i b (by omega) hi h2)
  · obtain ⟨i, x, e1, rfl, rfl⟩ := hel1 k lb h1
    obtain ⟨i', x', e2, rfl, rfl⟩ := hel1 k' lb' h2
    have hi := (List.getElem?_eq_some_iff.1 e1).1
    have hi' := (List.getElem?_eq_some_iff.1 e2).1
    rw [hρi i hi] at h3
    rw [hρi i' hi'] at h4
    rw [d6 i i' b hi hi' h3 h4]
  · have hJ : fl = false → ∀ b, J b → Imm cx (σ.app o.dst (effC wr tk r bx')) ρ2 w' b := fun hfl0 b hb => by
      obtain ⟨j1, j2, j3⟩ := d2 b hb
      rcases Nat.lt_or_ge b w.heap.size with h | h
      · rcases j2 h with h1 | ⟨h1, -⟩
        · exact (hI b h1).1
        · rw [hfl0] at h1; cases h1
      · refine hI2 b h j1 fun k lb h1 h2 => ?_
        obtain ⟨i, x, e1, rfl, rfl⟩ := hel1 k lb h1
        have hi := (List.getElem?_eq_some_iff.1 e1).1
        rw [hρi i hi] at h2
        exact j3 i hi h2
    have hmapB : ∀ i x, bx'[i]? = some x → LBok cx ρ2 (Imm cx (σ.app o.dst (effC wr tk r bx')) ρ2 w') w' (ρ' i) (mapB (impT wr tk) x) := fun i x hx => by
      have hi := (List.getElem?_eq_some_iff.1 hx).1
      have hb := d4 i x hx
      cases x with
      | box ds ty =>
        obtain ⟨b, vs, q1, q2, q3, q4, q5⟩ := hb
        refine ⟨b, vs, q1, q2, ?_, q4, ?_⟩
        · rcases q3 with q3 | ⟨k, hk, hk'⟩
          · exact .inl (Nat.le_trans ha.kept.2.2.2.1 q3)
          · have hk : k < bx.length := hk
            obtain ⟨j, hj⟩ := hin k hk
            have hk' : blkOf (ρ (impT wr 0 k)) = some b := hk'
            rw [hi0 k j hj] at hk'
            obtain ⟨ds2, ty2, h1, -⟩ := hpsL k j hj
            exact ((ha.lo _ _ h1).blk hk').2
        · have hm : ∀ k, menL ds k → ρ2 (impT wr tk k) = ρ' k := fun k hk => hρi k (m2 i _ hx k hk)
          cases hfc : fl with
          | false => exact RepL.map (hJ hfc) ds vs hm q5
          | true =>
            have hff := (hfl hfc r bx' hR).2 _ (List.mem_of_getElem? hx)
            exact RepL.map (I := Imm cx (σ.app o.dst (effC wr tk r bx')) ρ2 w') (fun b hb => hb) ds vs hm (RepL.flat ds vs hff q5)
      | row e sz cs =>
        obtain ⟨n, us, q1, q2⟩ := hb
        refine ⟨n, us, ⟨q1.1, ?_⟩, ?_⟩
        · rcases q1.2 with h | ⟨g, cap, cur, h1, h2, h3⟩
          · exact .inl h
          · exact .inr ⟨g, cap, cur, h1, Nat.le_trans ha.kept.2.2.2.1 h2, h3⟩
        · cases hfc : fl with
          | false => exact q2.keep_ (fun _ _ => rfl) (hJ hfc)
          | true =>
            have hff := (hfl hfc r bx' hR).2 _ (List.mem_of_getElem? hx)
            exact q2.flat_any hff
    refine ⟨fun k lb h1 => ?_, fun d h1 => ?_⟩
    · obtain ⟨i, x, e1, rfl, rfl⟩ := hel1 k lb h1
      rw [hρi i (List.getElem?_eq_some_iff.1 e1).1]
      exact hmapB i x e1
    · injection h1 with h1
      subst h1
      have hm : ∀ k, men r k → ρ2 (impT wr tk k) = ρ' k := fun k hk => hρi k (m1 k hk)
      cases hfc : fl with
      | false => exact Rep.map (hJ hfc) r v hm d3
      | true => exact Rep.map (I := Imm cx (σ.app o.dst (effC wr tk r bx')) ρ2 w') (fun b hb => hb) r v hm (Rep.flat r v (hfl hfc r bx' hR).1 d3)
  · obtain ⟨i, x, e1, rfl, rfl⟩ := hel1 k lb h1
    obtain ⟨j, q1, rfl⟩ := menL_mapB h2
    have hj := m2 i x e1 j q1
    exact .inr (hel2 j hj)
  · injection h1 with h1
    subst h1
    obtain ⟨j, q1, rfl⟩ := men_map r k' h2
    exact .inr (hel2 j (m1 j q1))
theorem CallR.key {tk : Nat} {op : Op} {ty : TypeId} {ds : List (DV × Option LB)} {wr : List Nat} {E : Eff → Prop} (h : CallR P tk op ty ds wr E) : ∀ e, E e → ∀ k, e.l k ≠ none → k ∈ wr ∨ (tk ≤ k ∧ k < tk + 8) := by
  cases h with
  | call fl hF hA hB hnd hfl =>
  rintro e ⟨r, b, -, rfl, h1, h2, -, -⟩ k hk
  have hk' : (match look (impA wr tk 0 b) k with | some lb => some (some lb) | none => none) ≠ none := hk
  cases hl : look (impA wr tk 0 b) k with
  | none => rw [hl] at hk'; exact absurd rfl hk'
  | some lb =>
    obtain ⟨i, x, e1, e2, -⟩ := impA_look hl
    rw [Nat.zero_add] at e2
    have hi := (List.getElem?_eq_some_iff.1 e1).1
    unfold impT at e2
    cases hw : wr[i]? with
    | some j => rw [hw] at e2; simp only [] at e2; rw [e2]; exact .inl (List.mem_of_getElem? hw)
    | none =>
      rw [hw] at e2
      simp only [] at e2
      have := List.getElem?_eq_none_iff.1 hw
      exact .inr (by omega)
theorem toks_mem {ds : List (DV × Option LB)} {j i : Nat} {b : Option LB} (h : (DV.ptr j i, b) ∈ ds) : j ∈ toks ds := by
  induction ds with
  | nil => simp at h
  | cons q l ih =>
    obtain ⟨d, c⟩ := q
    unfold toks
    rcases List.mem_cons.1 h with h | h
    · injection h with h1 h2
      subst h1
      simp [tokOf]
    · cases tokOf d with
      | none => exact ih h
      | some k => exact List.mem_cons_of_mem _ (ih h)
theorem CallR.sub {tk : Nat} {op : Op} {ty : TypeId} {ds : List (DV × Option LB)} {wr : List Nat} {E : Eff → Prop} (h : CallR P tk op ty ds wr E) : ∀ k, k ∈ wr → touch op = true ∧ k ∈ toks ds := by
  cases h with
  | @call f xs tys _ dsA _ args bx R fl hF hA hB hnd hfl =>
  intro k hk
  refine ⟨rfl, ?_⟩
  unfold toks
  simp only [tokOf]
  obtain ⟨i, hi, rfl⟩ := List.getElem_of_mem hk
  obtain ⟨j, i', ds', ds'', ty', h1, -, h3, -⟩ := hB.at_ (List.getElem?_eq_getElem (by rw [hB.length]; exact hi))
  rw [List.getElem?_eq_getElem hi] at h1
  injection h1 with h1
  rw [h1]
  exact toks_mem h3
end
/-! rows that are read only from their birth on -/
section
variable {P : Program} {cx : Cx} {σ : St} {a : Act} {w : World} {ρ : Nat → Value}
def frzE (sz : Nat) (cs : List C) (ks : List Nat) : Eff := ⟨some (.sl sz cs), fun k => bif ks.any (Nat.beq k) then some none else none⟩
abbrev zT (j : Nat) (k : Nat) : Option Nat := if k = j then none else some k
mutual
theorem Cv.self {j : Nat} : ∀ d, (∀ k, men d k → k ≠ j) → Cv σ (zT j) d d
  | .val v, _ => .val v
  | .sl _ _, _ => .sl _ _
  | .elt _, _ => .elt _
  | .row k, h => .row (if_neg (h k (by unfold men; rfl)))
  | .part k _ _, h => .part (if_neg (h k (by unfold men; rfl)))
  | .ptr k _, h => .ptr (if_neg (h k (by unfold men; rfl)))
  | .agg ds, h => .agg (CvL.self ds fun k hk => h k (by unfold men; exact hk))
  | .tup ds, h => .tup (CvL.self ds fun k hk => h k (by unfold men; exact hk))
theorem CvL.self {j : Nat} : ∀ ds, (∀ k, menL ds k → k ≠ j) → CvL σ (zT j) ds ds
  | [], _ => .nil
  | d :: ds, h => .cons (Cv.self d fun k hk => h k (by unfold menL; exact .inl hk)) (CvL.self ds fun k hk => h k (by unfold menL; exact .inr hk))
end
theorem Abs.frzE {ρ0 : Nat → Value} {a0 : Act} {w00 : World} (h0 : AbsR cx ρ0 σ a0 w00) {tk et sz : Nat} {cs : List C} {ks : List Nat} {dst : Option Tmp} (hf : σ.U tk = false) (h : Abs cx (σ.app dst (new1k tk (.row et sz cs) ks (.row tk))) a w) : Abs cx (σ.app dst (Go.Proofs.Ythjgcmifggdepaa.frzE sz cs ks)) a w := by
  obtain ⟨ρ, ha⟩ := h
  have hnp : cx.np ≤ tk := by
    rcases Nat.lt_or_ge tk cx.np with h | h
    · have := (h0.pin tk h).2
      rw [hf] at this; cases this
    · exact h
  have hLtk : (σ.app dst (new1k tk (.row et sz cs) ks (.row tk))).L tk = some (.row et sz cs) := by
    show (match (bif Nat.beq tk tk then some (some (LB.row et sz cs)) else _) with | some x => x | none => σ.L tk) = _
    rw [Nat.beq_refl]
    rfl
  have hLne : ∀ k, k ≠ tk → (σ.app dst (new1k tk (.row et sz cs) ks (.row tk))).L k = (σ.app dst (Go.Proofs.Ythjgcmifggdepaa.frzE sz cs ks)).L k := fun k hk => by
    show (match (bif Nat.beq k tk then some (some (LB.row et sz cs)) else (bif ks.any (Nat.beq k) then some none else none)) with | some x => x | none => σ.L k) = (match (bif ks.any (Nat.beq k) then some none else none) with | some x => x | none => σ.L k)
    have : Nat.beq k tk = false := by
      cases hb : Nat.beq k tk with
      | false => rfl
      | true => exact absurd (Nat.eq_of_beq_eq_true hb) hk
    rw [this]
    rfl
  have hU : ∀ k, σ.U k = true → (σ.app dst (Go.Proofs.Ythjgcmifggdepaa.frzE sz cs ks)).U k = true := fun k hk => by
    show (σ.U k || _) = true
    rw [hk]; rfl
  have hLs : ∀ k lb, (σ.app dst (Go.Proofs.Ythjgcmifggdepaa.frzE sz cs ks)).L k = some lb → σ.L k = some lb := fun k lb hl => by
    have hl' : (match (bif ks.any (Nat.beq k) then some none else none) with | some x => x | none => σ.L k) = some lb := hl
    cases hb : ks.any (Nat.beq k) with
    | true => rw [hb] at hl'; cases hl'
    | false => rw [hb] at hl'; exact hl'
  have hFs : ∀ t d, (σ.app dst (Go.Proofs.Ythjgcmifggdepaa.frzE sz cs ks)).F t = some d → (dst = some t ∧ d = .sl sz cs) ∨ (dst ≠ some t ∧ σ.F t = some d) := fun t d hd => by
    cases dst with
    | none => exact .inr ⟨by simp, hd⟩
    | some t' =>
      by_cases h1 : t = t'
      · subst h1
        have : (σ.app (some t) (Go.Proofs.Ythjgcmifggdepaa.frzE sz cs ks)).F t = some (.sl sz cs) := upd_eq _ _ _
        rw [this] at hd
        injection hd with hd
        exact .inl ⟨rfl, hd.symm⟩
      · have : (σ.app (some t') (Go.Proofs.Ythjgcmifggdepaa.frzE sz cs ks)).F t = σ.F t := upd_ne _ _ h1
        rw [this] at hd
        exact .inr ⟨fun h => by injection h with h; exact h1 h.symm, hd⟩
  refine ⟨_, (ha.ren (σ' := σ.app dst (Go.Proofs.Ythjgcmifggdepaa.frzE sz cs ks)) (zT tk) (fun t d' hd => ?_) (fun k lb' hl => ?_) (fun k k' i h1 h2 => ?_) (fun k hk => ⟨if_neg (by omega), hU k (h0.pin k hk).2⟩) (fun t d k hd hm => ?_) (fun k lb hl => ?_)).1⟩
  · rcases hFs t d' hd with ⟨rfl, rfl⟩ | ⟨h1, h2⟩
    · refine ⟨.row tk, upd_eq _ _ _, .frz hLtk fun k hk => ?_⟩
      unfold zT at hk
      split at hk
      · cases hk
      · rename_i hne
        injection hk with hk
        exact hne hk
    · refine ⟨d', ?_, Cv.self d' fun k hk hkt => ?_⟩
      · cases dst with
        | none => exact h2
        | some t' => exact (upd_ne _ _ fun h => h1 (by rw [h])).trans h2
      · have := h0.usedF t d' k h2 hk
        rw [hkt, hf] at this; cases this
  · have h1 := hLs k lb' hl
    have hk : k ≠ tk := fun h => by
      have := (h0.usedL k _ h1).1
      rw [h, hf] at this; cases this
    refine .inl ⟨k, lb', if_neg hk, (hLne k hk).trans hl, ?_⟩
    cases lb' with
    | row e s c => exact ⟨rfl, rfl, rfl⟩
    | box ds ty => exact ⟨rfl, CvL.self ds fun k' hk' hkt => by
        have := (h0.usedL k _ h1).2 k' hk'
        rw [hkt, hf] at this; cases this⟩
  · unfold zT at h1 h2
    split at h1
    · cases h1
    · split at h2
      · cases h2
      · injection h1 with h1
        injection h2 with h2
        omega
  · rcases hFs t d hd with ⟨rfl, rfl⟩ | ⟨h1, h2⟩
    · unfold men at hm; exact hm.elim
    · exact hU k (h0.usedF t d k h2 hm)
  · have h1 := h0.usedL k _ (hLs k lb hl)
    exact ⟨hU k h1.1, fun k' hk' => hU k' (h1.2 k' hk')⟩
end
/-! an append whose old row stays: of the result the length alone is told -/
theorem append_old {P : Program} {w w' : World} {t e : TypeId} {ty : TypeId} {sz bytes base n : Nat} {v v' : Value} {us us' : List Value} (hS : SlT P t e sz bytes) (ho : w.ownsRow base e sz v n us) {A : Option Addr} {m c : Nat} (hl' : us'.length = m * sz) (h1 : ∀ u ∈ us', u.oneCell' = true)
    (hA : 0 < m → ∃ ad, A = some ad ∧ ∀ j u, us'[j]? = some u → w.cell? (ad.add j) = some u) (hlen : (us.length + us'.length) * bytes ≤ 140737488355328) (hrun : (Builtin.append_ #[t, t] ty #[v, .slice A m c]).run P w = .ok v' w') : w'.ownsRow base e sz v n us := by
  obtain ⟨i, z, ht, q1, q2, q3, q4⟩ : ∃ i z, P.underlying t = some (.slice e) ∧ P.info? e = some i ∧ i.zero = some z ∧ (i.size = sz ∧ i.bytes = bytes) ∧ z.cells.size = sz := by
    obtain ⟨i, z, a, b, c, d, e⟩ := hS.hi
    exact ⟨i, z, hS.ht, a, b, ⟨c, d⟩, e⟩
  have hsz := hS.hsz
  obtain ⟨q3, q3'⟩ := q3
  subst q3 q3'
  rcases ho.2 with ⟨rfl, rfl⟩ | ⟨g, cap, cur, rfl, hbg, hg, hnc, hcm, hcs, htake⟩
  · have : us = [] := List.eq_nil_of_length_eq_zero (by have := ho.1; simpa using this)
    subst this
    exact World.ownsRow_nil _ _ _ _
  · by_cases hroom : n + m ≤ cap
    · cases A with
      | none =>
        have hm : m = 0 := by
          rcases Nat.eq_zero_or_pos m with h | h
          · exact h
          · obtain ⟨ad, h2, -⟩ := hA h; cases h2
        subst hm
        have hr : (Builtin.append_ #[t, t] ty #[.slice (some ⟨g, 0, none⟩) n cap, .slice none 0 c]).run P w = .ok (.slice (some ⟨g, 0, none⟩) n cap) w := by
          simp [Builtin.append_, run_underlying ht, sizeOf, typeInfo, q1, Builtin.lenOf, Builtin.firstCells, hnc, storeCells]
        rw [hr] at hrun
        injection hrun with _ hw
        rw [← hw]
        exact ho
      | some ad =>
        have hc : ∀ j u, us'[j]? = some u → w.cell? (ad.add j) = some u := by
          rcases Nat.eq_zero_or_pos m with h | h
          · have : us' = [] := List.eq_nil_of_length_eq_zero (by rw [hl', h]; simp)
            subst this
            intro j u hj; simp at hj
          · obtain ⟨ad', h2, h3⟩ := hA h
            injection h2 with h2
            rw [h2]; exact h3
        have hfit : n * i.size + us'.length ≤ cur.size := by rw [hl', hcs, ← Nat.add_mul]; exact Nat.mul_le_mul_right _ hroom
        have hr := run_append_room (P := P) w t ty e i ht q1 g n cap cur hg ad m c us' hl' hc h1 hroom hfit
        rw [hr] at hrun
        injection hrun with _ hw
        subst hw
        refine ⟨ho.1, .inr ⟨g, cap, _, rfl, hbg, setRow_heap w g cur _ e _ hg, hnc, hcm, ?_, ?_⟩⟩
        · simp only [List.size_toArray, List.length_append, List.length_take, List.length_drop, Array.length_toList]
          omega
        · rw [htake]
          simp only [List.append_assoc]
          rw [List.take_append_of_le_length (by rw [ho.1]; exact Nat.le_refl _), List.take_of_length_le (by rw [ho.1]; exact Nat.le_refl _)]
    · have hm : 0 < m := by omega
      obtain ⟨ad, rfl, hc⟩ := hA hm
      have hnm : n + m ≤ us.length + us'.length := by
        rw [ho.1, hl']
        have := Nat.le_mul_of_pos_right n hsz
        have := Nat.le_mul_of_pos_right m hsz
        omega
      have hb : (n + m) * i.bytes ≤ 140737488355328 := Nat.le_trans (Nat.mul_le_mul_right _ hnm) hlen
      have h63 : n + m ≤ 9223372036854775807 := by
        have := Nat.le_mul_of_pos_right (n + m) hS.hby
        omega
      have holds : ∀ j u, us[j]? = some u → w.cell? ((⟨g, 0, none⟩ : Addr).add j) = some u := ho.cells rfl
      have hr := run_append_grow (P := P) w t ty e i z ht q1 q2 ⟨g, 0, none⟩ n cap us ho.1 holds ad m c us' hl' hc (by omega) (by omega) (growslice_fits (by omega) hb)
      rw [hr] at hrun
      injection hrun with _ hw
      subst hw
      refine ⟨ho.1, .inr ⟨g, cap, cur, rfl, hbg, ?_, hnc, hcm, hcs, htake⟩⟩
      exact (Below.heap_alloc w.drew _ g (Array.getElem?_eq_some_iff.1 hg).1).trans hg
def keepE (tk k e sz : Nat) (cs : List C) (N : Nat) : Eff := ⟨some (.part tk 0 N), fun j => bif Nat.beq j tk then some none else bif Nat.beq j k then some (some (.row e sz cs)) else none⟩
inductive OpK (P : Program) : Nat → Op → List (DV × Option LB) → List Nat → Eff → Prop
  | keep {tk x y t e sz bytes k cs d' cs'} {N : Nat} (hS : SlT P t e sz bytes) (hs : Src d' sz cs') (hl : (cs.length + cs'.length) * bytes ≤ 140737488355328) (hn : cs.length + cs'.length = N * sz) :
    OpK P tk (.call ⟨.builtin .append, #[x, y], #[t, t]⟩) [(.row k, some (.row e sz cs)), d'] [k] (keepE tk k e sz cs N)
section
variable {P : Program} {cx : Cx} {ρ : Nat → Value} {σ : St} {a : Act} {w : World} {o : Oper} {K : Act → World → Prop} {Q : Exit → Act → World → Prop}
theorem OpK.sound {tk : Nat} {op : Op} {ds : List (DV × Option LB)} {wr : List Nat} {e : Eff} (h : OpK P tk op ds wr e) (ha : AbsR cx ρ σ a w) (hds : evs σ (touch op) op.operands.toList = some ds) (hf : σ.U tk = false) (ho : o.op = op) (hdst : ∀ t, o.dst = some t → t < cx.N)
    (hK : ∀ a' w', Abs cx (σ.app o.dst e) a' w' → K a' w') : o.wp P a w K Q := by
  cases h with
  | @keep x y t e sz bytes k cs d' cs' N hS hs hl hn =>
  have hds' : evs σ true [x, y] = some [(.row k, some (.row e sz cs)), d'] := by simpa [Op.operands, Call.operands, touch] using hds
  obtain ⟨e1, e2⟩ := evs2 hds'
  obtain ⟨A, m, c, us', hv', hl', hr', hA⟩ := hs.vals ha e2
  obtain ⟨h1, -, h3⟩ := ev_rep ha e1
  unfold Rep at h1
  have hL := h3 _ _ rfl rfl
  obtain ⟨n, us, ho1, hr⟩ := ha.lo _ _ hL
  have hlen : (us.length + us'.length) * bytes ≤ 140737488355328 := by rw [← hr.1, ← hr'.1]; exact hl
  obtain ⟨v', w', hrun, h2, hg, h4⟩ := append_run (P := P) (ty := o.type) hS ho1 (A := A) (m := m) (c := c) hl' (us_one hr') hA hlen ha.kept.2.2.2.1
  have hold := append_old hS ho1 hl' (us_one hr') hA hlen hrun
  have hNm : N = n + m := by
    have e3 : N * sz = (n + m) * sz := by rw [← hn, hr.1, hr'.1, ho1.1, hl', Nat.add_mul]
    exact Nat.eq_of_mul_eq_mul_right hS.hsz e3
  have hblk : ∀ g, (ρ k).ownBlock = some g → blkOf (ρ k) = some g := fun g hg => by
    rw [own_blk]
    · exact hg
    · rcases ho1.2 with ⟨e, -⟩ | ⟨g, cap, cur, e, -⟩
      · exact ⟨_, _, _, e⟩
      · exact ⟨_, _, _, e⟩
  have hbase : ∀ g, (ρ k).ownBlock = some g → cx.w0.heap.size ≤ g := fun g hg => by
    rcases ho1.2 with ⟨e, -⟩ | ⟨g', cap, cur, e, q, -⟩
    · rw [e] at hg; cases hg
    · rw [e] at hg; injection hg with hg; have hg : g' = g := hg; omega
  have hk : k ≠ tk := fun h => by
    have := (ha.usedL k _ hL).1
    rw [h, hf] at this; cases this
  have el : ∀ j, (keepE tk k e sz cs N).l j = bif Nat.beq j tk then some none else bif Nat.beq j k then some (some (.row e sz cs)) else none := fun _ => rfl
  have elt : (keepE tk k e sz cs N).l tk = some none := by rw [el, Nat.beq_refl]; rfl
  have elk : (keepE tk k e sz cs N).l k = some (some (.row e sz cs)) := by
    have : Nat.beq k tk = false := by
      cases hb : Nat.beq k tk with
      | false => rfl
      | true => exact absurd (Nat.eq_of_beq_eq_true hb) hk
    rw [el, this, Nat.beq_refl]; rfl
  have el1 : ∀ j lb, (keepE tk k e sz cs N).l j = some (some lb) → j = k ∧ lb = .row e sz cs := fun j lb h => by
    rw [el] at h
    cases hb : Nat.beq j tk with
    | true => rw [hb] at h; cases h
    | false =>
      rw [hb] at h
      simp only [cond_false] at h
      cases hc : Nat.beq j k with
      | false => rw [hc] at h; cases h
      | true =>
        rw [hc] at h
        injection h with h
        injection h with h
        exact ⟨Nat.eq_of_beq_eq_true hc, h.symm⟩
  let ρ2 : Nat → Value := fun j => if j = tk then v' else ρ j
  have r1 : ρ2 tk = v' := if_pos rfl
  have r2 : ρ2 k = ρ k := if_neg hk
  unfold Oper.wp
  have hex : (execOp a.eval o).run P w = .ok (.value v') w' := by
    simp [execOp, ho, resolve, invoke, builtin, hv', h1.1, hrun]
  rw [hex]
  refine hK _ _ ⟨ρ2, ha.app (e := keepE tk k e sz cs N) (v := v') (ha.kept.grown hg hbase) hg.size hdst (fun j hj => if_neg fun h => by rw [h, hf] at hj; cases hj) (fun b hb h => hg.block b hb fun e => h k _ (by rw [elk]; simp) hL (hblk b e.symm)) (fun j lb b q1 q2 => ?_) (fun j j' lb lb' b q1 q2 _ _ => by rw [(el1 j lb q1).1, (el1 j' lb' q2).1]) (fun hI _ => ⟨fun j lb q1 => ?_, fun d q1 => ?_⟩) ⟨fun j lb k' q1 q2 => ?_, fun d k' q1 q2 => ?_⟩⟩
  · obtain ⟨rfl, rfl⟩ := el1 j lb q1
    rw [r2] at q2
    exact .inr ⟨j, _, by rw [elk]; simp, hL, q2⟩
  · obtain ⟨rfl, rfl⟩ := el1 j lb q1
    rw [r2]
    exact ⟨n, us, hold, hr.keep_ (fun b hb => (hI b hb).2) fun b hb => (hI b hb).1⟩
  · injection q1 with q1
    subst q1
    unfold Rep
    rcases h2.2 with ⟨q3, q4⟩ | ⟨g, cap, cur, q3, -, -, q4, q5, -⟩
    · exact ⟨none, 0, by rw [q3]; congr 1; omega, by omega, by simp [maxLen], fun h0 => absurd h0 (by omega), fun _ A' N' c' h5 => by rw [r1, q3] at h5; injection h5 with a b c; exact ⟨a, c⟩⟩
    · exact ⟨_, cap, by rw [q3, hNm], by omega, q5, fun _ => ⟨g, by rw [r1, q3]; rfl, rfl⟩, fun _ A' N' c' h5 => by rw [r1, q3] at h5; injection h5 with a b c; exact ⟨a, c⟩⟩
  · obtain ⟨rfl, rfl⟩ := el1 j lb q1
    exact q2.elim
  · injection q1 with q1
    subst q1
    unfold men at q2
    subst q2
    exact .inr (by rw [elt]; simp)
end
theorem OpK.func {P : Program} {tk : Nat} {op : Op} {ds : List (DV × Option LB)} {wr wr' : List Nat} {e e' : Eff} (h : OpK P tk op ds wr e) (h' : OpK P tk op ds wr' e') : wr = wr' ∧ e = e' := by
  cases h with
  | keep hS hs hl hn =>
  cases h' with
  | keep hS' hs' hl' hn' =>
  have := hs.uniq hs'
  subst this
  refine ⟨rfl, ?_⟩
  have := Nat.eq_of_mul_eq_mul_right hS.hsz (hn.symm.trans hn')
  rw [this]
theorem OpK.key {P : Program} {tk : Nat} {op : Op} {ds : List (DV × Option LB)} {wr : List Nat} {e : Eff} (h : OpK P tk op ds wr e) : ∀ j, e.l j ≠ none → j ∈ wr ∨ (tk ≤ j ∧ j < tk + 8) := by
  cases h with
  | @keep x y t e sz bytes k cs d' cs' N hS hs hl hn =>
  intro j hj
  have hj' : (bif Nat.beq j tk then some (none : Option LB) else bif Nat.beq j k then some (some (.row e sz cs)) else none) ≠ none := hj
  cases hb : Nat.beq j tk with
  | true => have := Nat.eq_of_beq_eq_true hb; exact .inr (by omega)
  | false =>
    rw [hb] at hj'
    cases hc : Nat.beq j k with
    | true => rw [Nat.eq_of_beq_eq_true hc]; exact .inl (by simp)
    | false => rw [hc] at hj'; exact absurd rfl hj'
theorem OpK.sub {P : Program} {tk : Nat} {op : Op} {ds : List (DV × Option LB)} {wr : List Nat} {e : Eff} (h : OpK P tk op ds wr e) : ∀ k, k ∈ wr → touch op = true ∧ k ∈ toks ds := by
  cases h with
  | keep hS hs hl hn =>
  intro j hj
  simp at hj
  subst hj
  exact ⟨rfl, by simp [toks, tokOf]⟩
def zB (fz : List Nat) (tk : Nat) : Bool := fz.any (Nat.beq tk)
def zM (fz : List Nat) (tk : Nat) : Nat := bif zB fz tk then 1 else bif zB fz (tk + 1) then 2 else 0
/-- The rules, where the rows of some names are read only from the first. -/
def OpZ (P : Program) (fz : List Nat) (tk : Nat) (op : Op) (ty : TypeId) (ds : List (DV × Option LB)) (wr : List Nat) (e : Eff) : Prop :=
  (zM fz tk = 0 ∧ OpR P tk op ty ds wr e) ∨ (zM fz tk = 2 ∧ OpK P tk op ds wr e) ∨ (zM fz tk = 1 ∧ ∃ e0 et sz cs, OpR P tk op ty ds wr e0 ∧ e0 = new1k tk (.row et sz cs) wr (.row tk) ∧ e = frzE sz cs wr)
/-- All rules. -/
def sys (P : Program) (cx : Cx) (fz : List Nat) : Sys P cx where
  R := OpZ P fz
  C := CallR P
  soundR := by
    intro tk op ty ds wr e h ρ σ a w ha hds hf o ho hty hdst K Q hK
    have hf0 : σ.U tk = false := by have := hf 0 (by omega); simpa using this
    rcases h with ⟨-, h⟩ | ⟨-, h⟩ | ⟨-, e0, et, sz, cs, h, rfl, rfl⟩
    · exact h.sound ha hds hf0 ho hty hdst hK
    · exact h.sound ha hds hf0 ho hdst hK
    · exact h.sound ha hds hf0 ho hty hdst fun a' w' h' => hK a' w' (Abs.frzE ha hf0 h')
  soundC := by
    intro tk op ty ds wr E h ρ σ a w ha hds hf o ho hty hdst K Q hK
    exact h.sound ha (by cases h; exact hds) hf ho hdst hK
  func := by
    intro w tk op ty ds wr e wr' e' h h'
    rcases h with ⟨z, h⟩ | ⟨z, h⟩ | ⟨z, e0, et, sz, cs, h, q1, rfl⟩ <;> rcases h' with ⟨z', h'⟩ | ⟨z', h'⟩ | ⟨z', e0', et', sz', cs', h', q1', rfl⟩
    · exact h.func w h'
    · rw [z] at z'; cases z'
    · rw [z] at z'; cases z'
    · rw [z] at z'; cases z'
    · exact h.func h'
    · rw [z] at z'; cases z'
    · rw [z] at z'; cases z'
    · rw [z] at z'; cases z'
    · obtain ⟨rfl, e1⟩ := h.func w h'
      refine ⟨rfl, ?_⟩
      rw [q1, q1'] at e1
      have := congrFun (congrArg Eff.l e1) tk
      have this : (bif Nat.beq tk tk then some (some (LB.row et sz cs)) else _) = (bif Nat.beq tk tk then some (some (LB.row et' sz' cs')) else _) := this
      rw [Nat.beq_refl] at this
      injection this with this
      injection this with this
      injection this with t1 t2 t3
      rw [t2, t3]
  excl := by
    intro tk op ty ds wr e wr' E h h'
    rcases h with ⟨-, h⟩ | ⟨-, h⟩ | ⟨-, e0, et, sz, cs, h, -⟩ <;> cases h' <;> cases h
  keyR := by
    intro tk op ty ds wr e h
    rcases h with ⟨-, h⟩ | ⟨-, h⟩ | ⟨-, e0, et, sz, cs, h, -, rfl⟩
    · exact h.key
    · exact h.key
    · intro k hk
      have hk' : (bif wr.any (Nat.beq k) then some (none : Option LB) else none) ≠ none := hk
      cases hb : wr.any (Nat.beq k) with
      | false => rw [hb] at hk'; exact absurd rfl hk'
      | true =>
        obtain ⟨j, hj, hj'⟩ := List.any_eq_true.1 hb
        rw [Nat.eq_of_beq_eq_true hj']
        exact .inl hj
  keyC := fun h => h.key
  subR := by
    intro tk op ty ds wr e h
    rcases h with ⟨-, h⟩ | ⟨-, h⟩ | ⟨-, e0, et, sz, cs, h, -⟩
    · exact h.sub
    · exact h.sub
    · exact h.sub
  subC := fun h => h.sub
end Go.Proofs.Ythjgcmifggdepaa
namespace Go.Proofs.Ythjgcmifggdepaa
open Go.RowKit

section
variable {P : Program} {cx : Cx} {ops : Array Oper} {Rt : Option (List (Nat × Nat))} {nb i : Nat} {l : List Oper} {lg : Log} {σ : St} {Q : St → Prop} {fz : List Nat}
theorem ch_s {dst : Option Tmp} {op : Op} {ty : TypeId} {pos : String} {af : Array Edge} {ds : List (DV × Option LB)} {wr : List Nat} {e : Eff} (hds : evs σ (touch op) op.operands.toList = some ds) (h : OpR P (nb + 8 * i) op ty ds wr e)
    (hok : okL Rt i false (nb + 8 * i) (bif touch op then toks ds else []) wr lg = true) (k : Chain (sys P cx fz) ops Rt nb (idx (i + 1) l) ((i, false, nb + 8 * i, (bif touch op then toks ds else []), wr) :: lg) (σ.app dst e) Q) (hz : zM fz (nb + 8 * i) = 0 := by rfl) :
    Chain (sys P cx fz) ops Rt nb (idx i (⟨dst, op, ty, pos, af, none⟩ :: l)) lg σ Q :=
  .inl ⟨_, wr, e, .inr ⟨rfl, ds, hds, .inl ⟨hz, h⟩, rfl⟩, hok, k⟩
theorem ch_g {dst : Option Tmp} {op : Op} {ty : TypeId} {pos : String} {af : Array Edge} {g : Nat} {b : Bool} {ds : List (DV × Option LB)} {wr : List Nat} {e : Eff} (hg : gdv ops σ ⟨dst, op, ty, pos, af, some (g, b)⟩ = some true) (hds : evs σ (touch op) op.operands.toList = some ds) (h : OpR P (nb + 8 * i) op ty ds wr e)
    (hok : okL Rt i false (nb + 8 * i) (bif touch op then toks ds else []) wr lg = true) (k : Chain (sys P cx fz) ops Rt nb (idx (i + 1) l) ((i, false, nb + 8 * i, (bif touch op then toks ds else []), wr) :: lg) (σ.app dst e) Q) (hz : zM fz (nb + 8 * i) = 0 := by rfl) :
    Chain (sys P cx fz) ops Rt nb (idx i (⟨dst, op, ty, pos, af, some (g, b)⟩ :: l)) lg σ Q :=
  .inl ⟨_, wr, e, .inr ⟨hg, ds, hds, .inl ⟨hz, h⟩, rfl⟩, hok, k⟩
/-- An append whose old row stays; of the result the length alone is told. -/
theorem ch_k {dst : Option Tmp} {op : Op} {ty : TypeId} {pos : String} {af : Array Edge} {ds : List (DV × Option LB)} {wr : List Nat} {e : Eff} (hds : evs σ (touch op) op.operands.toList = some ds) (h : OpK P (nb + 8 * i) op ds wr e)
    (hok : okL Rt i false (nb + 8 * i) (bif touch op then toks ds else []) wr lg = true) (hz : zM fz (nb + 8 * i) = 2) (k : Chain (sys P cx fz) ops Rt nb (idx (i + 1) l) ((i, false, nb + 8 * i, (bif touch op then toks ds else []), wr) :: lg) (σ.app dst e) Q) :
    Chain (sys P cx fz) ops Rt nb (idx i (⟨dst, op, ty, pos, af, none⟩ :: l)) lg σ Q :=
  .inl ⟨_, wr, _, .inr ⟨rfl, ds, hds, .inr (.inl ⟨hz, h⟩), rfl⟩, hok, k⟩
/-- A row that is read only from its birth on. -/
theorem ch_z {dst : Option Tmp} {op : Op} {ty : TypeId} {pos : String} {af : Array Edge} {ds : List (DV × Option LB)} {wr : List Nat} {e : Eff} {et sz : Nat} {cs : List C} (hds : evs σ (touch op) op.operands.toList = some ds) (h : OpR P (nb + 8 * i) op ty ds wr e) (he : e = new1k (nb + 8 * i) (.row et sz cs) wr (.row (nb + 8 * i)))
    (hok : okL Rt i false (nb + 8 * i) (bif touch op then toks ds else []) wr lg = true) (hz : zM fz (nb + 8 * i) = 1) (k : Chain (sys P cx fz) ops Rt nb (idx (i + 1) l) ((i, false, nb + 8 * i, (bif touch op then toks ds else []), wr) :: lg) (σ.app dst (frzE sz cs wr)) Q) :
    Chain (sys P cx fz) ops Rt nb (idx i (⟨dst, op, ty, pos, af, none⟩ :: l)) lg σ Q :=
  .inl ⟨_, wr, _, .inr ⟨rfl, ds, hds, .inr (.inr ⟨hz, e, et, sz, cs, h, he, rfl⟩), rfl⟩, hok, k⟩
theorem ch_zg {dst : Option Tmp} {op : Op} {ty : TypeId} {pos : String} {af : Array Edge} {g : Nat} {b : Bool} {ds : List (DV × Option LB)} {wr : List Nat} {e : Eff} {et sz : Nat} {cs : List C} (hg : gdv ops σ ⟨dst, op, ty, pos, af, some (g, b)⟩ = some true) (hds : evs σ (touch op) op.operands.toList = some ds) (h : OpR P (nb + 8 * i) op ty ds wr e) (he : e = new1k (nb + 8 * i) (.row et sz cs) wr (.row (nb + 8 * i)))
    (hok : okL Rt i false (nb + 8 * i) (bif touch op then toks ds else []) wr lg = true) (hz : zM fz (nb + 8 * i) = 1) (k : Chain (sys P cx fz) ops Rt nb (idx (i + 1) l) ((i, false, nb + 8 * i, (bif touch op then toks ds else []), wr) :: lg) (σ.app dst (frzE sz cs wr)) Q) :
    Chain (sys P cx fz) ops Rt nb (idx i (⟨dst, op, ty, pos, af, some (g, b)⟩ :: l)) lg σ Q :=
  .inl ⟨_, wr, _, .inr ⟨hg, ds, hds, .inr (.inr ⟨hz, e, et, sz, cs, h, he, rfl⟩), rfl⟩, hok, k⟩
theorem ch_skip {dst : Option Tmp} {op : Op} {ty : TypeId} {pos : String} {af : Array Edge} {g : Nat} {b : Bool} (hg : gdv ops σ ⟨dst, op, ty, pos, af, some (g, b)⟩ = some false)
    (hok : okL Rt i false (nb + 8 * i) [] [] lg = true) (k : Chain (sys P cx fz) ops Rt nb (idx (i + 1) l) ((i, false, nb + 8 * i, [], []) :: lg) (σ.app dst undefE) Q) :
    Chain (sys P cx fz) ops Rt nb (idx i (⟨dst, op, ty, pos, af, some (g, b)⟩ :: l)) lg σ Q :=
  .inl ⟨_, _, _, .inl ⟨hg, rfl, rfl, rfl⟩, hok, k⟩
theorem evs_call {f : FuncId} {xs : Array Operand} {tys : Array TypeId} {dsA : List (DV × Option LB)} (h : evs σ true xs.toList = some dsA) : evs σ (touch (.call ⟨.value (.func f), xs, tys⟩)) (Op.call ⟨.value (.func f), xs, tys⟩).operands.toList = some ((.val (.func (.func f) #[] #[]), none) :: dsA) := by
  have : (Op.call ⟨.value (.func f), xs, tys⟩).operands.toList = .func f :: xs.toList := by simp [Op.operands, Call.operands]
  rw [this]
  show evs σ true (.func f :: xs.toList) = _
  unfold evs
  rw [h]
  rfl
theorem ch_call {dst : Option Tmp} {f : FuncId} {xs : Array Operand} {tys : Array TypeId} {ty : TypeId} {pos : String} {af : Array Edge} {dsA : List (DV × Option LB)} {ps : List Nat} {args : List DV} {bx : List LB} {R : DV → List LB → Prop} (fl : Bool)
    (hF : Fn P f args bx R) (hds : evs σ true xs.toList = some dsA) (hA : ArL fl ps dsA args) (hB : BxR dsA ps bx) (hnd : ndB ps = true) (hfl : fl = true → ∀ r b, R r b → flatD r ∧ ∀ lb ∈ b, flatB lb)
    (hok : okL Rt i true (nb + 8 * i) (toks dsA) ps lg = true) (hne : Rt.isSome = true → ∃ r b, R r b ∧ ps.length ≤ b.length ∧ b.length ≤ ps.length + 8 ∧ okD r ∧ ∀ lb ∈ b, okB lb)
    (k : ∀ r b, R r b → okD r → (∀ lb ∈ b, okB lb) → Chain (sys P cx fz) ops Rt nb (idx (i + 1) l) ((i, true, nb + 8 * i, toks dsA, ps) :: lg) (σ.app dst (effC ps (nb + 8 * i) r b)) Q) :
    Chain (sys P cx fz) ops Rt nb (idx i (⟨dst, .call ⟨.value (.func f), xs, tys⟩, ty, pos, af, none⟩ :: l)) lg σ Q := by
  refine .inr ⟨_, ps, _, ⟨rfl, _, evs_call hds, .call fl hF hA hB hnd hfl, rfl⟩, hok, fun h => ?_, ?_⟩
  · obtain ⟨r, b, h1, h2, h3, h4, h5⟩ := hne h
    exact ⟨_, r, b, h1, rfl, h2, h3, h4, h5⟩
  · rintro e ⟨r, b, h1, rfl, -, -, h4, h5⟩
    exact k r b h1 h4 h5
theorem ch_callg {dst : Option Tmp} {f : FuncId} {xs : Array Operand} {tys : Array TypeId} {ty : TypeId} {pos : String} {af : Array Edge} {g : Nat} {bb : Bool} {dsA : List (DV × Option LB)} {ps : List Nat} {args : List DV} {bx : List LB} {R : DV → List LB → Prop} (fl : Bool)
    (hg : gdv ops σ ⟨dst, .call ⟨.value (.func f), xs, tys⟩, ty, pos, af, some (g, bb)⟩ = some true)
    (hF : Fn P f args bx R) (hds : evs σ true xs.toList = some dsA) (hA : ArL fl ps dsA args) (hB : BxR dsA ps bx) (hnd : ndB ps = true) (hfl : fl = true → ∀ r b, R r b → flatD r ∧ ∀ lb ∈ b, flatB lb)
    (hok : okL Rt i true (nb + 8 * i) (toks dsA) ps lg = true) (hne : Rt.isSome = true → ∃ r b, R r b ∧ ps.length ≤ b.length ∧ b.length ≤ ps.length + 8 ∧ okD r ∧ ∀ lb ∈ b, okB lb)
    (k : ∀ r b, R r b → okD r → (∀ lb ∈ b, okB lb) → Chain (sys P cx fz) ops Rt nb (idx (i + 1) l) ((i, true, nb + 8 * i, toks dsA, ps) :: lg) (σ.app dst (effC ps (nb + 8 * i) r b)) Q) :
    Chain (sys P cx fz) ops Rt nb (idx i (⟨dst, .call ⟨.value (.func f), xs, tys⟩, ty, pos, af, some (g, bb)⟩ :: l)) lg σ Q := by
  refine .inr ⟨_, ps, _, ⟨hg, _, evs_call hds, .call fl hF hA hB hnd hfl, rfl⟩, hok, fun h => ?_, ?_⟩
  · obtain ⟨r, b, h1, h2, h3, h4, h5⟩ := hne h
    exact ⟨_, r, b, h1, rfl, h2, h3, h4, h5⟩
  · rintro e ⟨r, b, h1, rfl, -, -, h4, h5⟩
    exact k r b h1 h4 h5
theorem ch_e {y : Code} {Q : Exit → St → Prop} {nb' : Nat} (h : (∀ j, nb' ≤ j → σ.U j = false) → awp P cx y Q σ) : Chain (sys P cx fz) ops Rt nb (idx i []) lg σ (fun σ' => (∀ j, nb' ≤ j → σ'.U j = false) → thn (awp P cx y Q) Q .normal σ') := h
theorem ch_q {Q : Exit → St → Prop} {nb' : Nat} (h : (∀ j, nb' ≤ j → σ.U j = false) → Q .normal σ) : Chain (sys P cx fz) ops Rt nb (idx i []) lg σ (fun σ' => (∀ j, nb' ≤ j → σ'.U j = false) → Q .normal σ') := h
theorem mk_U {fl : List (Nat × DV)} {ll : List (Nat × LB)} {n : Nat} : ∀ k, n ≤ k → (mk fl ll n).U k = false := fun k hk => by
  show Nat.blt k n = false
  cases h : Nat.blt k n with
  | false => rfl
  | true => have : k + 1 ≤ n := Nat.le_of_ble_eq_true h; omega
end

/-! arithmetic -/
section
variable {P : Program} {t : TypeId} {X Y : Operand}
abbrev BO (P : Program) (op : BinOp) (t : TypeId) (X Y : Operand) (vx vy v : Value) : Prop := ∀ w, (do eqGuard op t X Y vx vy; binOp op t vx vy : Sem Value).run P w = .ok v w
theorem bo_lss {k : IntKind} {x y : Int} : BO P .lss t X Y (.int k x) (.int k y) (.bool (decide (x < y))) := fun w => by simp [eqGuard, binOp, Op.intCmp]
theorem bo_leq {k : IntKind} {x y : Int} : BO P .leq t X Y (.int k x) (.int k y) (.bool (decide (x ≤ y))) := fun w => by simp [eqGuard, binOp, Op.intCmp]
theorem bo_gtr {k : IntKind} {x y : Int} : BO P .gtr t X Y (.int k x) (.int k y) (.bool (decide (y < x))) := fun w => by simp [eqGuard, binOp, Op.intCmp]
theorem bo_geq {k : IntKind} {x y : Int} : BO P .geq t X Y (.int k x) (.int k y) (.bool (decide (y ≤ x))) := fun w => by simp [eqGuard, binOp, Op.intCmp]
theorem bo_eql {k : IntKind} {x y : Int} : BO P .eql t X Y (.int k x) (.int k y) (.bool (decide (x = y))) := fun w => by
  simp [eqGuard, binOp, Op.intCmp]
  rfl
theorem bo_neq {k : IntKind} {x y : Int} : BO P .neq t X Y (.int k x) (.int k y) (.bool (decide (x ≠ y))) := fun w => by
  simp [eqGuard, binOp, Op.intCmp]
  rfl
theorem bo_addw {k : IntKind} {x y : Int} : BO P .add t X Y (.int k x) (.int k y) (.int k (k.wrap (x + y))) := fun w => by simp [eqGuard, binOp, Op.intArith]
theorem bo_subw {k : IntKind} {x y : Int} : BO P .sub t X Y (.int k x) (.int k y) (.int k (k.wrap (x - y))) := fun w => by simp [eqGuard, binOp, Op.intArith]
theorem bo_mulw {k : IntKind} {x y : Int} : BO P .mul t X Y (.int k x) (.int k y) (.int k (k.wrap (x * y))) := fun w => by simp [eqGuard, binOp, Op.intArith]
theorem bo_add {x y : Int} (h : -9223372036854775808 ≤ x + y ∧ x + y ≤ 9223372036854775807) : BO P .add t X Y (.int .i64 x) (.int .i64 y) (.int .i64 (x + y)) := fun w => by rw [bo_addw w, IntWalk.i64_in _ h]
theorem bo_sub {x y : Int} (h : -9223372036854775808 ≤ x - y ∧ x - y ≤ 9223372036854775807) : BO P .sub t X Y (.int .i64 x) (.int .i64 y) (.int .i64 (x - y)) := fun w => by rw [bo_subw w, IntWalk.i64_in _ h]
theorem bo_mul {x y : Int} (h : -9223372036854775808 ≤ x * y ∧ x * y ≤ 9223372036854775807) : BO P .mul t X Y (.int .i64 x) (.int .i64 y) (.int .i64 (x * y)) := fun w => by rw [bo_mulw w, IntWalk.i64_in _ h]
theorem bo_rem {k : IntKind} {x y : Int} (h : y ≠ 0) : BO P .rem t X Y (.int k x) (.int k y) (.int k (x.tmod y)) := fun w => by simp [eqGuard, binOp, Op.intDiv, h]
theorem bo_quo {k : IntKind} {x y : Int} (h : y ≠ 0) : BO P .quo t X Y (.int k x) (.int k y) (.int k (k.wrap (x.tdiv y))) := fun w => by simp [eqGuard, binOp, Op.intDiv, h]
theorem bytes_beq (a b : ByteArray) : (a.toList == b.toList) = decide (a = b) := by
  rw [ByteArray.toList_eq, ByteArray.toList_eq]
  by_cases h : a = b
  · subst h; simp
  · rw [decide_eq_false h]
    refine beq_eq_false_iff_ne.2 fun e => h ?_
    cases a; cases b
    simp only [ByteArray.mk.injEq]
    exact Array.toList_inj.1 e
theorem bo_seql {a b : ByteArray} : BO P .eql t X Y (.string a) (.string b) (.bool (decide (a = b))) := fun w => by
  simp [eqGuard, binOp, Op.stringOp, bytes_beq]
theorem bo_sneq {a b : ByteArray} : BO P .neq t X Y (.string a) (.string b) (.bool (decide (a ≠ b))) := fun w => by
  simp [eqGuard, binOp, Op.stringOp, bytes_beq]
theorem uo_not {b : Bool} : ∀ w, (Op.unary .not (.bool b)).run P w = .ok (.bool (!b)) w := fun w => by simp [Op.unary]
theorem uo_neg {k : IntKind} {x : Int} : ∀ w, (Op.unary .neg (.int k x)).run P w = .ok (.int k (k.wrap (-x))) w := fun w => by simp [Op.unary, Op.intArith]
theorem cv_int {src dst : TypeId} {k k' : IntKind} {n : Int} (hs : (P.underlying src).isSome = true) (hd : P.underlying dst = some (.int k')) : ∀ w, (convert src dst (.int k n)).run P w = .ok (.int k' (k'.wrap n)) w := fun w => by
  obtain ⟨d, hd'⟩ := Option.isSome_iff_exists.mp hs
  simp [convert, run_underlying hd', run_underlying hd, Conv.intToInt]
end
end Go.Proofs.Ythjgcmifggdepaa
namespace Go.Proofs.Ythjgcmifggdepaa
open Go.RowKit

section
variable {Q : Exit → St → Prop} {next : St → Prop} {σ : St} {i j : Nat}
theorem thn_normal (h : next σ) : thn next Q .normal σ := h
theorem thn_exit (h : Q (.exit i) σ) : thn next Q (.exit i) σ := h
theorem thn_ret (h : Q .ret σ) : thn next Q .ret σ := h
theorem inB_here (h : Q .normal σ) : inB i Q (.exit i) σ := by
  show (if i = i then _ else _)
  rw [if_pos rfl]
  exact h
theorem inB_other (hne : j ≠ i) (h : Q (.exit j) σ) : inB i Q (.exit j) σ := by
  show (if j = i then _ else _)
  rw [if_neg hne]
  exact h
theorem inB_normal (h : Q .normal σ) : inB i Q .normal σ := h
theorem inB_ret (h : Q .ret σ) : inB i Q .ret σ := h
end
theorem clen_i {l : List Int} : (intsC l).length = l.length * 1 := by rw [intsC_length, Nat.mul_one]
theorem clen_b {l : List UInt8} : (bytesC l).length = l.length * 1 := by rw [bytesC_length, Nat.mul_one]
theorem clen_s {l : List ByteArray} : (strsC l).length = l.length * 1 := by simp [strsC]
theorem clen_1 {l : List C} : l.length = l.length * 1 := by rw [Nat.mul_one]
theorem len_ints {l : List Int} {b : Option LB} : Len (.sl 1 (intsC l), b) l.length := .sl (by omega) (by rw [intsC_length, Nat.mul_one])
theorem len_rints {k e : Nat} {l : List Int} : Len (.row k, some (.row e 1 (intsC l))) l.length := .row (by omega) (by rw [intsC_length, Nat.mul_one])
theorem len_bytes {l : List UInt8} {b : Option LB} : Len (.sl 1 (bytesC l), b) l.length := .sl (by omega) (by rw [bytesC_length, Nat.mul_one])
theorem len_rbytes {k e : Nat} {l : List UInt8} : Len (.row k, some (.row e 1 (bytesC l))) l.length := .row (by omega) (by rw [bytesC_length, Nat.mul_one])
theorem strsC_length (l : List ByteArray) : (strsC l).length = l.length := by simp [strsC]
theorem len_strs {l : List ByteArray} {b : Option LB} : Len (.sl 1 (strsC l), b) l.length := .sl (by omega) (by rw [strsC_length, Nat.mul_one])
theorem len_rstrs {k e : Nat} {l : List ByteArray} : Len (.row k, some (.row e 1 (strsC l))) l.length := .row (by omega) (by rw [strsC_length, Nat.mul_one])
theorem ints_elt {l : List Int} {k : Nat} {x : Int} (h : l[k]? = some x) : ((intsC l).drop (k * 1))[0]? = some (.int .i64 x) := by simp [intsC, h]
theorem bytes_elt {l : List UInt8} {k : Nat} {x : UInt8} (h : l[k]? = some x) : ((bytesC l).drop (k * 1))[0]? = some (.int .u8 x.toNat) := by simp [bytesC, h]
theorem strs_elt {l : List ByteArray} {k : Nat} {x : ByteArray} (h : l[k]? = some x) : ((strsC l).drop (k * 1))[0]? = some (.str x) := by simp [strsC, h]
theorem ints_cell {l : List Int} {k : Nat} {x : Int} (h : l[k]? = some x) : (intsC l)[k]? = some (.int .i64 x) := by simp [intsC, h]
theorem bytes_cell {l : List UInt8} {k : Nat} {x : UInt8} (h : l[k]? = some x) : (bytesC l)[k]? = some (.int .u8 x.toNat) := by simp [bytesC, h]
theorem ints_row {l : List Int} {k : Nat} {x : Int} (h : l[k]? = some x) : (intsC l)[0 + k * 1]? = some (.int .i64 x) := by simp [intsC, h]
theorem ints_row' {l : List Int} {k : Nat} {x : Int} (h : l[k]? = some x) : (intsC l)[k * 1]? = some (.int .i64 x) := by simp [intsC, h]
theorem bytes_row' {l : List UInt8} {k : Nat} {x : UInt8} (h : l[k]? = some x) : (bytesC l)[k * 1]? = some (.int .u8 x.toNat) := by simp [bytesC, h]
theorem okCs_mem_int : ∀ {cs : List C}, okCs cs → ∀ {k : IntKind} {x : Int}, C.int k x ∈ cs → k.min ≤ x ∧ x ≤ k.max
  | c :: cs, h, k, x, hm => by
    rcases List.mem_cons.1 hm with rfl | hm
    · unfold okCs at h; exact h.1
    · have : okCs cs := by cases c <;> unfold okCs at h <;> first | exact h.2 | exact h | exact h.2.2
      exact okCs_mem_int this hm
theorem ok_ints {l : List Int} (h : okCs (intsC l)) {k : Nat} {x : Int} (hx : l[k]? = some x) : -9223372036854775808 ≤ x ∧ x ≤ 9223372036854775807 := by
  have := okCs_mem_int h (k := .i64) (x := x) (List.mem_map.2 ⟨x, List.mem_of_getElem? hx, rfl⟩)
  have h1 : IntKind.i64.min = -9223372036854775808 := by decide
  have h2 : IntKind.i64.max = 9223372036854775807 := by decide
  rw [h1, h2] at this
  exact this
theorem len_str {P : Program} {t ty : TypeId} {s : ByteArray} (h : P.underlying t = some .string) : ∀ w, ∀ cs, (builtin .len #[t] ty cs #[.string s]).run P w = .ok (.value (.int .i64 s.size)) w := fun w cs => by
  simp [builtin, Builtin.len_, run_underlying h, goInt]
theorem bv_min {P : Program} {ts : Array TypeId} {ty : TypeId} {k : IntKind} {x y : Int} : ∀ w, ∀ cs, (builtin .min ts ty cs #[.int k x, .int k y]).run P w = .ok (.value (.int k (min x y))) w := fun w cs => by
  simp [builtin, Builtin.min_, Builtin.min2, go_sem]
  split <;> omega
section
variable {P : Program} {t : TypeId} {X Y : Operand}
theorem cv_same {src dst : TypeId} {s : ByteArray} (hs : P.underlying src = some .string) (hd : P.underlying dst = some .string) : ∀ w, (convert src dst (.string s)).run P w = .ok (.string s) w := fun w => by
  simp [convert, run_underlying hs, run_underlying hd]
end
section
variable {P : Program} {t : TypeId} {X Y : Operand} {k : IntKind} {x y : Int}
theorem bo_lss_t (h : x < y) : BO P .lss t X Y (.int k x) (.int k y) (.bool true) := fun w => by rw [bo_lss w, decide_eq_true h]
theorem bo_lss_f (h : ¬ x < y) : BO P .lss t X Y (.int k x) (.int k y) (.bool false) := fun w => by rw [bo_lss w, decide_eq_false h]
theorem bo_leq_t (h : x ≤ y) : BO P .leq t X Y (.int k x) (.int k y) (.bool true) := fun w => by rw [bo_leq w, decide_eq_true h]
theorem bo_leq_f (h : ¬ x ≤ y) : BO P .leq t X Y (.int k x) (.int k y) (.bool false) := fun w => by rw [bo_leq w, decide_eq_false h]
theorem bo_gtr_t (h : y < x) : BO P .gtr t X Y (.int k x) (.int k y) (.bool true) := fun w => by rw [bo_gtr w, decide_eq_true h]
theorem bo_gtr_f (h : ¬ y < x) : BO P .gtr t X Y (.int k x) (.int k y) (.bool false) := fun w => by rw [bo_gtr w, decide_eq_false h]
theorem bo_geq_t (h : y ≤ x) : BO P .geq t X Y (.int k x) (.int k y) (.bool true) := fun w => by rw [bo_geq w, decide_eq_true h]
theorem bo_geq_f (h : ¬ y ≤ x) : BO P .geq t X Y (.int k x) (.int k y) (.bool false) := fun w => by rw [bo_geq w, decide_eq_false h]
theorem bo_eql_t (h : x = y) : BO P .eql t X Y (.int k x) (.int k y) (.bool true) := fun w => by rw [bo_eql w, decide_eq_true h]
theorem bo_eql_f (h : ¬ x = y) : BO P .eql t X Y (.int k x) (.int k y) (.bool false) := fun w => by rw [bo_eql w, decide_eq_false h]
theorem bo_neq_t (h : x ≠ y) : BO P .neq t X Y (.int k x) (.int k y) (.bool true) := fun w => by rw [bo_neq w, decide_eq_true h]
theorem bo_neq_f (h : ¬ x ≠ y) : BO P .neq t X Y (.int k x) (.int k y) (.bool false) := fun w => by rw [bo_neq w, decide_eq_false h]
end
section
variable {P : Program} {t : TypeId} {X Y : Operand} {a b : ByteArray}
theorem bo_seql_t (h : a = b) : BO P .eql t X Y (.string a) (.string b) (.bool true) := fun w => by rw [bo_seql w, decide_eq_true h]
theorem bo_seql_f (h : ¬ a = b) : BO P .eql t X Y (.string a) (.string b) (.bool false) := fun w => by rw [bo_seql w, decide_eq_false h]
theorem bo_sneq_t (h : a ≠ b) : BO P .neq t X Y (.string a) (.string b) (.bool true) := fun w => by rw [bo_sneq w, decide_eq_true h]
theorem bo_sneq_f (h : ¬ a ≠ b) : BO P .neq t X Y (.string a) (.string b) (.bool false) := fun w => by rw [bo_sneq w, decide_eq_false h]
end
theorem Fn.cast {P : Program} {f : FuncId} {args args' : List DV} {bx : List LB} {R : DV → List LB → Prop} (h : Fn P f args bx R) (e : args' = args) : Fn P f args' bx R := e ▸ h
theorem cv_i64 {P : Program} {src dst : TypeId} {k : IntKind} {n : Int} (hs : (P.underlying src).isSome = true) (hd : P.underlying dst = some (.int .i64)) (h : -9223372036854775808 ≤ n ∧ n ≤ 9223372036854775807) : ∀ w, (convert src dst (.int k n)).run P w = .ok (.int .i64 n) w := fun w => by rw [cv_int hs hd w, IntWalk.i64_in _ h]
theorem bv_minE {P : Program} {ts : Array TypeId} {ty : TypeId} {k : IntKind} {x y m : Int} (h : min x y = m) : ∀ w, ∀ cs, (builtin .min ts ty cs #[.int k x, .int k y]).run P w = .ok (.value (.int k m)) w := fun w cs => by rw [bv_min w cs, h]
theorem cv_u8 {P : Program} {src dst : TypeId} {k : IntKind} {n : Int} (hs : (P.underlying src).isSome = true) (hd : P.underlying dst = some (.int .u8)) (h : 0 ≤ n ∧ n ≤ 255) : ∀ w, (convert src dst (.int k n)).run P w = .ok (.int .u8 n) w := fun w => by
  rw [cv_int hs hd w]
  have : IntKind.u8.wrap n = n := by simp [IntKind.wrap, IntKind.bits, IntKind.signed]; omega
  rw [this]
theorem look_ne {θ : List (Nat × Nat)} {j : Nat} (h : (θ.all fun q => !Nat.beq q.2 j) = true) : ∀ k, look θ k ≠ some j := fun k hk => by
  have := List.all_eq_true.1 h _ (look_mem hk)
  simp at this
theorem Cv.frzR {σ : St} {θ : Nat → Option Nat} {j e sz : Nat} {cs cs' : List C} (h : σ.L j = some (.row e sz cs)) (h' : ∀ k, θ k ≠ some j) (hc : cs = cs') : Cv σ θ (.row j) (.sl sz cs') := hc ▸ .frz h h'
theorem Cv.frzP {σ : St} {θ : Nat → Option Nat} {j off n e sz : Nat} {cs cs' : List C} (h : σ.L j = some (.row e sz cs)) (h' : ∀ k, θ k ≠ some j) (hn : off + n * sz ≤ cs.length) (hc : (cs.drop off).take (n * sz) = cs') : Cv σ θ (.part j off n) (.sl sz cs') := hc ▸ .frzp h h' hn
/-- Slices of bytes in a row. -/
def rowsC (l : List (List UInt8)) : List C := l.map fun x => .sl 1 (bytesC x)
theorem rowsC_length (l : List (List UInt8)) : (rowsC l).length = l.length := by simp [rowsC]
theorem rows_elt {l : List (List UInt8)} {k : Nat} {x : List UInt8} (h : l[k]? = some x) : ((rowsC l).drop (k * 1))[0]? = some (.sl 1 (bytesC x)) := by simp [rowsC, h]
theorem rows_row' {l : List (List UInt8)} {k : Nat} {x : List UInt8} (h : l[k]? = some x) : (rowsC l)[k * 1]? = some (.sl 1 (bytesC x)) := by simp [rowsC, h]
theorem len_rows {l : List (List UInt8)} {b : Option LB} : Len (.sl 1 (rowsC l), b) l.length := .sl (by omega) (by rw [rowsC_length, Nat.mul_one])
theorem len_rrows {k e : Nat} {l : List (List UInt8)} : Len (.row k, some (.row e 1 (rowsC l))) l.length := .row (by omega) (by rw [rowsC_length, Nat.mul_one])
theorem bytesC_take (l : List UInt8) (n : Nat) : ((bytesC l).drop (0 * 1)).take ((n - 0) * 1) = bytesC (l.take n) := by simp [bytesC, List.map_take]
theorem bytesC_drop (l : List UInt8) (n : Nat) : ((bytesC l).drop (n * 1)).take ((l.length - n) * 1) = bytesC (l.drop n) := by
  simp [bytesC, List.map_drop]
  rw [List.take_of_length_le (by simp)]
theorem bytesC_set {l : List UInt8} {j : Nat} {x : Int} (hj : j < l.length) (hx : 0 ≤ x ∧ x ≤ 255) : splice (bytesC l) (j * 1) [.int .u8 x] = bytesC (l.take j ++ [UInt8.ofNat x.toNat] ++ l.drop (j + 1)) := by
  have : ((UInt8.ofNat x.toNat).toNat : Int) = x := by rw [UInt8.toNat_ofNat', Nat.mod_eq_of_lt (by omega)]; omega
  unfold splice
  simp [bytesC, List.map_take, List.map_drop]
  omega
theorem bytesC_cut {l : List UInt8} {j : Nat} : (bytesC l).take ((j - 0) * 1) ++ ((bytesC l).drop ((j + 1) * 1)).take ((l.length - (j + 1)) * 1) = bytesC (l.take j ++ l.drop (j + 1)) := by
  rw [bytesC_drop, bytesC_append]
  simp [bytesC, List.map_take]
theorem okB_len {l : List Int} {rest : List DV} {t : TypeId} (h : okB (.box (.sl 1 (intsC l) :: rest) t)) : l.length ≤ 9223372036854775807 := by
  have h1 : okDs (.sl 1 (intsC l) :: rest) := h
  unfold okDs okD at h1
  obtain ⟨⟨⟨n, h2, h3⟩, -⟩, -⟩ := h1
  rw [intsC_length] at h2
  unfold maxLen at h3
  omega
theorem okD_len {l : List Int} {rest : List DV} (h : okDs (.sl 1 (intsC l) :: rest)) : l.length ≤ 9223372036854775807 ∧ okCs (intsC l) := by
  unfold okDs okD at h
  obtain ⟨⟨⟨n, h2, h3⟩, h4⟩, -⟩ := h
  rw [intsC_length] at h2
  unfold maxLen at h3
  exact ⟨by omega, h4⟩
theorem ints_get' {l : List Int} {k : Nat} (h : k < l.length) : ∃ x, l[k]? = some x := ⟨l[k], List.getElem?_eq_getElem h⟩
theorem BxR.cons' {dsA : List (DV × Option LB)} {j i : Nat} {ds ds' : List DV} {ty : TypeId} {ps : List Nat} {l : List LB} (h1 : (DV.ptr j i, some (LB.box ds ty)) ∈ dsA) (h2 : Ar0L ds ds') (h3 : BxR dsA ps l) : BxR dsA (j :: ps) (.box ds' ty :: l) := ⟨i, ds, ds', ty, l, rfl, h1, h2, h3⟩
/-- A step between two pieces of code: states of one form. -/
theorem awp_cut {P : Program} {cx : Cx} {x y : Code} {Q : Exit → St → Prop} {σ : St} {ι : Type} (mid : ι → St) (ok : ι → Prop) (hx : awp P cx x (thn (fun σ' => ∃ i, ok i ∧ Sub cx σ' (mid i)) Q) σ) (hy : ∀ i, ok i → awp P cx y Q (mid i)) : awp P cx (.seq x y) Q σ := by
  refine awp_seq (awp_mono ?_ hx)
  intro e σ' h
  cases e with
  | normal =>
    obtain ⟨i, h1, h2⟩ := h
    exact awp_sub h2 (hy i h1)
  | _ => exact h
end Go.Proofs.Ythjgcmifggdepaa
namespace Go.Proofs.Ythjgcmifggdepaa
open Go.RowKit

mutual
/-- No mention of a block but as a row. -/
def nop (j : Nat) : DV → Bool
  | .part k _ _ => !Nat.beq k j
  | .ptr k _ => !Nat.beq k j
  | .agg ds => nops j ds
  | .tup ds => nops j ds
  | .val _ => true
  | .sl _ _ => true
  | .elt _ => true
  | .row _ => true
def nops (j : Nat) : List DV → Bool
  | [] => true
  | d :: ds => nop j d && nops j ds
end
mutual
def frzD (j sz : Nat) (cs : List C) : DV → DV
  | .row k => bif Nat.beq k j then .sl sz cs else .row k
  | .agg ds => .agg (frzDs j sz cs ds)
  | .tup ds => .tup (frzDs j sz cs ds)
  | .val v => .val v
  | .sl s c => .sl s c
  | .elt c => .elt c
  | .part k o n => .part k o n
  | .ptr k i => .ptr k i
def frzDs (j sz : Nat) (cs : List C) : List DV → List DV
  | [] => []
  | d :: ds => frzD j sz cs d :: frzDs j sz cs ds
end
def St.frz (σ : St) (j sz : Nat) (cs : List C) : St where
  F := fun t => match σ.F t with | some d => bif nop j d then some (frzD j sz cs d) else none | none => none
  L := fun k => bif Nat.beq k j then none else match σ.L k with | some (.box ds ty) => (bif nops j ds then some (.box (frzDs j sz cs ds) ty) else none) | some (.row e s c) => some (.row e s c) | none => none
  U := σ.U
theorem beq_false {a b : Nat} (h : Nat.beq a b = false) : a ≠ b := fun e => by
  subst e
  rw [Nat.beq_refl] at h; cases h
section
variable {σ : St} {j e sz : Nat} {cs : List C}
abbrev frzT (j : Nat) (k : Nat) : Option Nat := if k = j then none else some k
mutual
theorem Cv.frzD (h : σ.L j = some (.row e sz cs)) : ∀ d, nop j d = true → Cv σ (frzT j) d (Go.Proofs.Ythjgcmifggdepaa.frzD j sz cs d)
  | .val v, _ => by unfold Go.Proofs.Ythjgcmifggdepaa.frzD; exact .val v
  | .sl _ _, _ => by unfold Go.Proofs.Ythjgcmifggdepaa.frzD; exact .sl _ _
  | .elt _, _ => by unfold Go.Proofs.Ythjgcmifggdepaa.frzD; exact .elt _
  | .row k, _ => by
    unfold Go.Proofs.Ythjgcmifggdepaa.frzD
    cases hb : Nat.beq k j with
    | true =>
      have := Nat.eq_of_beq_eq_true hb
      subst this
      refine .frz h fun k' hk' => ?_
      unfold frzT at hk'
      split at hk'
      · cases hk'
      · rename_i hne
        injection hk' with hk'
        exact hne hk'
    | false => exact .row (if_neg (beq_false hb))
  | .part k _ _, hn => by
    unfold nop at hn
    unfold Go.Proofs.Ythjgcmifggdepaa.frzD
    exact .part (if_neg (beq_false (by simpa using hn)))
  | .ptr k _, hn => by
    unfold nop at hn
    unfold Go.Proofs.Ythjgcmifggdepaa.frzD
    exact .ptr (if_neg (beq_false (by simpa using hn)))
  | .agg ds, hn => by
    unfold nop at hn
    unfold Go.Proofs.Ythjgcmifggdepaa.frzD
    exact .agg (CvL.frzDs h ds hn)
  | .tup ds, hn => by
    unfold nop at hn
    unfold Go.Proofs.Ythjgcmifggdepaa.frzD
    exact .tup (CvL.frzDs h ds hn)
theorem CvL.frzDs (h : σ.L j = some (.row e sz cs)) : ∀ ds, nops j ds = true → CvL σ (frzT j) ds (Go.Proofs.Ythjgcmifggdepaa.frzDs j sz cs ds)
  | [], _ => by unfold Go.Proofs.Ythjgcmifggdepaa.frzDs; exact .nil
  | d :: ds, hn => by
    unfold nops at hn
    simp only [Bool.and_eq_true] at hn
    unfold Go.Proofs.Ythjgcmifggdepaa.frzDs
    exact .cons (Cv.frzD h d hn.1) (CvL.frzDs h ds hn.2)
end
mutual
theorem men_frz : ∀ (d : DV) (k : Nat), men (frzD j sz cs d) k → men d k
  | .val _, k, h => by unfold frzD men at h; exact h.elim
  | .sl _ _, k, h => by unfold frzD men at h; exact h.elim
  | .elt _, k, h => by unfold frzD men at h; exact h.elim
  | .row i, k, h => by
    unfold frzD at h
    cases hb : Nat.beq i j with
    | true => rw [hb] at h; simp only [cond_true] at h; unfold men at h; exact h.elim
    | false => rw [hb] at h; exact h
  | .part _ _ _, k, h => by unfold frzD at h; exact h
  | .ptr _ _, k, h => by unfold frzD at h; exact h
  | .agg ds, k, h => by unfold frzD men at h; unfold men; exact menL_frz ds k h
  | .tup ds, k, h => by unfold frzD men at h; unfold men; exact menL_frz ds k h
theorem menL_frz : ∀ (ds : List DV) (k : Nat), menL (frzDs j sz cs ds) k → menL ds k
  | [], k, h => by unfold frzDs menL at h; exact h.elim
  | d :: ds, k, h => by
    unfold frzDs menL at h
    unfold menL
    exact h.imp (men_frz d k) (menL_frz ds k)
end
theorem frz_F {t : Nat} {d' : DV} (h : (σ.frz j sz cs).F t = some d') : ∃ d, σ.F t = some d ∧ nop j d = true ∧ d' = frzD j sz cs d := by
  have h' : (match σ.F t with | some d => bif nop j d then some (frzD j sz cs d) else none | none => none) = some d' := h
  cases hF : σ.F t with
  | none => rw [hF] at h'; cases h'
  | some d =>
    rw [hF] at h'
    cases hn : nop j d with
    | false => simp only [hn, cond_false] at h'; cases h'
    | true => simp only [hn, cond_true] at h'; injection h' with h'; exact ⟨d, rfl, hn, h'.symm⟩
theorem frz_L {k : Nat} {lb' : LB} (h : (σ.frz j sz cs).L k = some lb') : k ≠ j ∧ ((∃ ds ty, σ.L k = some (.box ds ty) ∧ nops j ds = true ∧ lb' = .box (frzDs j sz cs ds) ty) ∨ ∃ e s c, σ.L k = some (.row e s c) ∧ lb' = .row e s c) := by
  have h' : (bif Nat.beq k j then none else match σ.L k with | some (.box ds ty) => (bif nops j ds then some (LB.box (frzDs j sz cs ds) ty) else none) | some (.row e s c) => some (.row e s c) | none => none) = some lb' := h
  cases hb : Nat.beq k j with
  | true => rw [hb] at h'; cases h'
  | false =>
    refine ⟨beq_false hb, ?_⟩
    rw [hb] at h'
    simp only [cond_false] at h'
    cases hL : σ.L k with
    | none => rw [hL] at h'; cases h'
    | some lb =>
      rw [hL] at h'
      cases lb with
      | row e s c => simp only [] at h'; injection h' with h'; exact .inr ⟨e, s, c, rfl, h'.symm⟩
      | box ds ty =>
        simp only [] at h'
        cases hn : nops j ds with
        | false => rw [hn] at h'; cases h'
        | true => rw [hn] at h'; injection h' with h'; exact .inl ⟨ds, ty, rfl, hn, h'.symm⟩
/-- A row is given up: it may be read, and lie in data that are read. -/
theorem Sub.frz {cx : Cx} (h : σ.L j = some (.row e sz cs)) (hj : Nat.ble cx.np j = true) : Sub cx σ (σ.frz j sz cs) := by
  rintro a w ⟨ρ, ha⟩
  have hj' : cx.np ≤ j := Nat.le_of_ble_eq_true hj
  refine ⟨_, (ha.ren (σ' := σ.frz j sz cs) (frzT j) (fun t d' hd => ?_) (fun k lb' hl => ?_) (fun k k' i h1 h2 => ?_) (fun k hk => ⟨if_neg (by omega), (ha.pin k hk).2⟩) (fun t d k hd hm => ?_) (fun k lb hl => ?_)).1⟩
  · obtain ⟨d, h1, h2, rfl⟩ := frz_F hd
    exact ⟨d, h1, Cv.frzD h d h2⟩
  · obtain ⟨hne, h1⟩ := frz_L hl
    refine .inl ?_
    rcases h1 with ⟨ds, ty, h1, h2, rfl⟩ | ⟨e', s, c, h1, rfl⟩
    · exact ⟨k, _, if_neg hne, h1, rfl, CvL.frzDs h ds h2⟩
    · exact ⟨k, _, if_neg hne, h1, rfl, rfl, rfl⟩
  · unfold frzT at h1 h2
    split at h1
    · cases h1
    · split at h2
      · cases h2
      · injection h1 with h1
        injection h2 with h2
        omega
  · obtain ⟨d', h1, h2, rfl⟩ := frz_F hd
    exact ha.usedF t d' k h1 (men_frz d' k hm)
  · obtain ⟨hne, h1⟩ := frz_L hl
    rcases h1 with ⟨ds, ty, h1, h2, rfl⟩ | ⟨e', s, c, h1, rfl⟩
    · exact ⟨(ha.usedL k _ h1).1, fun k' hk' => (ha.usedL k _ h1).2 k' (menL_frz ds k' hk')⟩
    · exact ⟨(ha.usedL k _ h1).1, fun k' hk' => hk'.elim⟩
end

/-! quiet regions in parts -/
section
variable {P : Program} {cx : Cx} {ops : Array Oper} {Q : Exit → St → Prop} {l : List Oper} {σ σ' : St}
def AwpL (P : Program) (cx : Cx) (ops : Array Oper) (Q : Exit → St → Prop) (l : List Oper) (σ : St) : Prop := ∀ a w, Abs cx σ a w → wpList P ops (post cx Q) l a w
theorem awp_regionL {id : Nat} (h : AwpL P cx l.toArray Q l σ) : awp P cx (.region id l.toArray false) Q σ := fun a w ha => wp_region_lit (h a w ha)
theorem AwpL.sub (h : Sub cx σ σ') (k : AwpL P cx ops Q l σ') : AwpL P cx ops Q l σ := fun a w ha => k a w (h a w ha)
theorem AwpL.fin (h : Q .normal σ) : AwpL P cx ops Q [] σ := fun a w ha => ⟨σ, h, ha⟩
variable {S : Sys P cx} {nb nb' : Nat}
theorem chain_pre {l2 : List Oper} : ∀ (l : List Oper) (k : Nat) (lg : Log) (σ : St) (a : Act) (w : World), Chain S ops none nb (idx k l) lg σ (fun σ' => (∀ j, nb' ≤ j → σ'.U j = false) → AwpL P cx ops Q l2 σ') → Fresh nb (idx k l) σ → Dsts cx (idx k l) → (∀ j, nb' ≤ j → σ.U j = false) → nb + 8 * (k + l.length) ≤ nb' → Abs cx σ a w → wpList P ops (post cx Q) (l ++ l2) a w
  | [], k, lg, σ, a, w, h, _, _, hU, _, ha => h hU a w ha
  | o :: l, k, lg, σ, a, w, h, hf, hd, hU, hn, ⟨ρ, ha⟩ => by
    have hf0 := hf (k, o) (by simp [idx])
    have hd0 := hd (k, o) (by simp [idx])
    have hf1 : Fresh nb (idx (k + 1) l) σ := fun q hq => hf q (by simp [idx, hq])
    have hd1 : Dsts cx (idx (k + 1) l) := fun q hq => hd q (by simp [idx, hq])
    have hne : ∀ q ∈ idx (k + 1) l, q.1 ≠ k := fun q hq => by have := (idx_mem hq).1; omega
    have hn' : nb + 8 * (k + 1 + l.length) ≤ nb' := by simp at hn; omega
    have hUn : ∀ {e : Eff} {wr : List Nat} {rd : List Nat}, (∀ j, e.l j ≠ none → j ∈ wr ∨ (nb + 8 * k ≤ j ∧ j < nb + 8 * k + 8)) → (∀ j, j ∈ wr → j ∈ rd) → (∀ j, j ∈ rd → σ.U j = true) → ∀ j, nb' ≤ j → (σ.app o.dst e).U j = false := fun {e wr rd} hk hs hu j hj => by
      cases hc : (σ.app o.dst e).U j with
      | false => rfl
      | true =>
        rcases app_U hc with h1 | h1
        · rw [hU j hj] at h1; cases h1
        · rcases hk j h1 with h2 | h2
          · exact absurd (hu j (hs j h2)) (by rw [hU j hj]; simp)
          · simp at hn; omega
    show wpList P ops (post cx Q) (o :: (l ++ l2)) a w
    unfold wpList
    rcases h with ⟨rd, wr, e, h1, -, h3⟩ | ⟨rd, wr, E, h1, -, -, h3⟩
    · have hs := h1.sound ha hf0 hd0
      have := hs (wpList P ops (post cx Q) (l ++ l2)) (post cx Q) fun a' w' ha' => chain_pre l (k + 1) _ _ a' w' h3 (hf1.next h1.key.1 (fun j hj => h1.used ha j (h1.key.2 j hj)) hne) hd1 (hUn h1.key.1 h1.key.2 (h1.used ha)) hn' ha'
      split
      · rename_i hw
        rw [if_pos hw] at this
        exact .inl this
      · rename_i hw
        rw [if_neg hw] at this
        exact this
    · have := h1.sound ha hf0 hd0 (wpList P ops (post cx Q) (l ++ l2)) (post cx Q) fun e a' w' he ha' => chain_pre l (k + 1) _ _ a' w' (h3 e he) (hf1.next (h1.key.1 e he) (fun j hj => h1.used ha j (h1.key.2 j hj)) hne) hd1 (hUn (h1.key.1 e he) h1.key.2 (h1.used ha)) hn' ha'
      split
      · rename_i hw
        rw [if_pos hw] at this
        exact .inl this
      · rename_i hw
        rw [if_neg hw] at this
        exact this
/-- The first m operations. -/
theorem AwpL.chain (S : Sys P cx) (m nb nb' : Nat) (hU : ∀ k, nb ≤ k → σ.U k = false) (hn : Nat.ble (nb + 8 * (l.take m).length) nb' = true) (hd : dstB cx.N (l.take m) = true)
    (h : Chain S ops none nb (idx 0 (l.take m)) [] σ (fun σ' => (∀ j, nb' ≤ j → σ'.U j = false) → AwpL P cx ops Q (l.drop m) σ')) : AwpL P cx ops Q l σ := by
  intro a w ha
  have hn' : nb + 8 * (l.take m).length ≤ nb' := Nat.le_of_ble_eq_true hn
  have := chain_pre (l2 := l.drop m) (l.take m) 0 [] σ a w h (fun q hq j hj => hU _ (by omega)) (dstB_spec hd) (fun j hj => hU j (by omega)) (by simpa using hn') ha
  rwa [List.take_append_drop] at this
theorem ch_l {l2 : List Oper} (h : (∀ j, nb' ≤ j → σ.U j = false) → AwpL P cx ops Q l2 σ) {lg : Log} {i : Nat} : Chain S ops none nb (idx i []) lg σ (fun σ' => (∀ j, nb' ≤ j → σ'.U j = false) → AwpL P cx ops Q l2 σ') := h
end

/-! functions whose walk was another one -/
section
variable {P : Program} {f : FuncId} {args : List DV}
/-- What is answered is data, new or plain. -/
theorem Fn.data {d : DV} (hE : Enters P f) (hd : ∀ k, ¬ men d k) (h : ∀ (ρ : Nat → Value) (I : Nat → Prop) (w : World) (vs : List Value), (∀ b, I b → b < w.heap.size) → RepL ρ I w args vs → Calls P f vs.toArray w fun e w' => ∃ v, e = .returned v ∧ Rep ρ (New w w') w' d v ∧ Ext w w') :
    Fn P f args [] (fun r b => r = d ∧ b = []) := by
  refine ⟨hE, fun ρ I w vs hI hr _ _ => (h ρ I w vs (fun b hb => (hI b hb).1) hr).mono ?_⟩
  rintro e w' ⟨v, rfl, h1, h2⟩
  exact ⟨v, d, [], rfl, ⟨rfl, rfl⟩, ⟨Nat.le_refl _, Nat.zero_le _⟩, ⟨h2.os, h2.tape, h2.output, h2.size⟩, fun b hb _ => h2.block b hb, ⟨ρ, New w w', fun _ _ => rfl, fun b hb => ⟨hb.2, fun h => absurd hb.1 (by omega), fun k hk => by cases hk⟩, h1, fun k lb h => by simp at h, fun k b _ hk => by simp at hk, fun k k' b hk => by simp at hk⟩, fun k hk => absurd hk (hd k), fun k lb h => by simp at h⟩
/-- What is answered holds a new row. -/
theorem Fn.row1 {d : DV} {et sz : Nat} {cs : List C} (hE : Enters P f) (hd : ∀ k, men d k → k = 0) (h : ∀ (ρ : Nat → Value) (I : Nat → Prop) (w : World) (vs : List Value), (∀ b, I b → b < w.heap.size) → RepL ρ I w args vs → Calls P f vs.toArray w fun e w' => ∃ v u, e = .returned v ∧ (∀ ρ' : Nat → Value, ρ' 0 = u → Rep ρ' (fun _ => False) w' d v) ∧ OwnT (fun _ => False) w' w.heap.size et sz u cs ∧ Ext w w') :
    Fn P f args [] (fun r b => r = d ∧ b = [.row et sz cs]) := by
  refine ⟨hE, fun ρ I w vs hI hr _ _ => (h ρ I w vs (fun b hb => (hI b hb).1) hr).mono ?_⟩
  rintro e w' ⟨v, u, rfl, h1, h3, h2⟩
  obtain ⟨n, us, ho, hr⟩ := h3
  have h0 : ∀ {k : Nat} {lb : LB}, [LB.row et sz cs][k]? = some lb → k = 0 ∧ lb = .row et sz cs := fun {k lb} h => by
    cases k with
    | zero => simp at h; exact ⟨rfl, h.symm⟩
    | succ k => simp at h
  refine ⟨v, d, [.row et sz cs], rfl, ⟨rfl, rfl⟩, ⟨Nat.zero_le _, Nat.succ_le_succ (Nat.zero_le _)⟩, ⟨h2.os, h2.tape, h2.output, h2.size⟩, fun b hb _ => h2.block b hb, ⟨fun _ => u, fun _ => False, fun k hk => by simp at hk, fun b hb => hb.elim, h1 _ rfl, fun k lb h => ?_, fun k b _ hk hb => ?_, fun k k' b hk hk' _ _ => ?_⟩, fun k hk => ?_, fun k lb h k' hk' => ?_⟩
  · obtain ⟨rfl, rfl⟩ := h0 h
    exact ⟨n, us, ho, hr.keep_ (fun _ _ => rfl) fun b hb => hb.1⟩
  · rcases ho.2 with ⟨q1, -⟩ | ⟨g, cap, cur, q1, q2, -⟩
    · rw [q1] at hb; simp [blkOf] at hb
    · rw [q1] at hb
      simp [blkOf] at hb
      omega
  · simp at hk hk'; omega
  · rw [hd k hk]; simp
  · obtain ⟨rfl, rfl⟩ := h0 h; exact hk'.elim
/-- A plain answer. -/
theorem Fn.plain {v : Value} {R : DV → List LB → Prop} {vs : List Value} {w : World} (h : Fn P f args [] R) (hR : ∀ r b, R r b → r = .val v) (ρ : Nat → Value) (I : Nat → Prop) (hI : ∀ b, I b → b < w.heap.size) (hr : RepL ρ I w args vs) : Calls P f vs.toArray w fun e w' => e = .returned v ∧ Ext w w' := by
  refine (h.2 ρ I w vs (fun b hb => ⟨hI b hb, fun k hk => by simp at hk⟩) hr (fun k lb h => by simp at h) (fun k k' b hk => by simp at hk)).mono ?_
  rintro e w' ⟨u, r, b, rfl, h1, h2⟩
  obtain ⟨-, ⟨o1, o2, o3, o4⟩, hk, ⟨ρ', J, -, -, hrep, -⟩, -⟩ := h2
  rw [hR r b h1] at hrep
  unfold Rep at hrep
  rw [hrep]
  exact ⟨rfl, o1, o2, o3, o4, fun b hb => hk b hb fun k hk => by simp at hk⟩
end
end Go.Proofs.Ythjgcmifggdepaa
