import Derived.Test.YtopkgllcjbpdeaaDoorER
import Derived.Test.YtopkgllcjbpdeaaDoorEF
import Derived.Test.YtopkgllcjbpdeaaDoorPF
set_option linter.unusedVariables false
set_option linter.unusedSimpArgs false
set_option maxHeartbeats 400000
namespace Go.Proofs.YtopkgllcjbpdeaaDoor
open Go.RowKit
def iR : Nat -> Option Code
 | 0 => none
 | 1 => some .ret
 | k + 2 => some (.exit k)
def Ft (rc : Loop) (c : Nat) : Loop := { rc with state := if (iR c).isNone then .ready else .done, pending := iR c }
theorem dA {rc : Loop} {c : Nat} : (Ft rc c).state ≠ .busy := by
 unfold Ft
 dsimp only
 split <;> simp
section
variable {P : Program} {cx : Cx} {σ : St} {Q : Exit -> St -> Prop}
theorem eX {k nb : Nat} {lb : LB} (B : ∀ j, nb <= j -> σ.U j = false) (hk : Nat.blt k nb = true) : ∀ j, nb <= j -> (σ.app none (Jw k lb)).U j = false := fun j hj => by
 unfold St.app Jw
 have h1 : Nat.beq j k = false := by
  cases h : Nat.beq j k with
  | false => rfl
  | true =>
   have := Nat.eq_of_beq_eq_true h
   have hk : k + 1 <= nb := Nat.le_of_ble_eq_true hk
   omega
 simp only [B j hj, h1, cond_false, Bool.false_or]
 rfl
theorem lK {ps gs : List Nat} {tk nb : Nat} {r : DV} {bx : List LB} {dst : Option Tmp} (B : ∀ j, tk <= j -> σ.U j = false) (G : ∀ j ∈ ps ++ gs, j < tk) (hb : bx.length <= ps.length + 8) (hn : tk + 8 <= nb) :
  ∀ j, nb <= j -> (σ.app dst (Is ps gs tk r bx)).U j = false := fun j hj => by
 have h0 := B j (by omega)
 have hl : (Is ps gs tk r bx).l j = none := by
  show (match Dy (Oy ps tk 0 bx) j with | some lb => some (some lb) | none => bif gs.any (Nat.beq j) then some none else none) = none
  cases hk : Dy (Oy ps tk 0 bx) j with
  | some lb =>
   obtain ⟨i, x, h1, h2, -⟩ := Ou hk
   exfalso
   unfold D7 at h2
   have hi := (List.getElem?_eq_some_iff.1 h1).1
   cases hp : ps[0 + i]? with
   | some k =>
    rw [hp] at h2
    have := G k (List.mem_append_left _ (List.mem_of_getElem? hp))
    simp at h2
    omega
   | none =>
    rw [hp] at h2
    simp at h2
    omega
  | none =>
   have : gs.any (Nat.beq j) = false := by
    cases ha : gs.any (Nat.beq j) with
    | false => rfl
    | true =>
     obtain ⟨k, h1, h2⟩ := List.any_eq_true.1 ha
     have := G k (List.mem_append_right _ h1)
     have := Nat.eq_of_beq_eq_true h2
     omega
   rw [this]
   rfl
 unfold St.app
 simp only [h0, hl]
 rfl
theorem pB {np kl N nb : Nat} {rc : Loop} {R : Bool -> List LB -> Prop} {ts : List Nat} {ds : List DV} (B : ∀ j, nb <= j -> σ.U j = false) (hL : σ.L kl = some (.lop ts ds N rc)) (hk : Nat.blt kl nb = true)
  (h : ∀ rb, rb = { rc with state := .busy } -> (∀ j, nb <= j -> (σ.app none (Jw kl (.lop ts ds N rb))).U j = false) -> Ca P cx rc.body (kN np kl N rc R) (σ.app none (Jw kl (.lop ts ds N rb)))) : qP P cx np kl N rc R .normal σ :=
 ⟨ts, ds, hL, h _ rfl (eX B hk)⟩
theorem kQ {np kl N : Nat} {rc rb : Loop} {R : Bool -> List LB -> Prop} {ts : List Nat} {ds : List DV} {bx : List LB} (c : Nat) (hrb : rb = { Ft rc 0 with state := .busy }) (θ : List (Nat × Nat)) (hL : σ.L kl = some (.lop ts ds N rb)) (hR : R (iR c).isNone bx)
  (h3 : Xm (σ.app none (Jw kl (.lop ts ds N (Ft rc c)))) (Dy θ) (ix 0 bx) := by
   repeat' first
    | exact trivial
    | refine ⟨.inl ⟨_, _, rfl, rfl, ⟨rfl, rfl, rfl⟩⟩, ?_⟩
    | refine ⟨.inl ⟨_, _, rfl, rfl, ⟨⟨rfl, rfl, rfl⟩, ?_⟩⟩, ?_⟩
    | refine ⟨.inl ⟨_, _, rfl, rfl, rfl⟩, ?_⟩
    | refine ⟨.inl ⟨_, _, rfl, rfl, ⟨rfl, ?_⟩⟩, ?_⟩
    | refine ⟨.inr ⟨rfl, _, _, rfl⟩, ?_⟩
    | exact Cv.val _
    | exact Cv.sl _ _
    | exact Cv.ptr rfl
    | exact Cv.row rfl
    | exact Cv.nil rfl
    | exact Cv.nils _
    | exact Cv.elt _
    | exact Cv.mp _
    | refine Cv.clo _ _ ?_
    | refine Cv.agg ?_
    | exact Mg.nil
    | refine Mg.cons ?_ ?_
    | exact Cv.frz rfl (Hh rfl))
  (h4 : Xh [(0, .val (.bool (iR c).isNone))] (ix 0 bx) bx.length θ = true := by rfl) (h5 : U5 θ bx.length np = true := by rfl) (h6 : Nat.ble np bx.length = true := by rfl) (h7 : Nat.ble bx.length (np + 8) = true := by rfl) (h8 : (bx.take np).all nX = true := by rfl) : Z3 np kl N (Ft rc 0) R (iR c) σ := by
 subst hrb
 exact ⟨ts, ds, bx, θ, hL, hR, h3, h4, h5, h6, h7, h8⟩
theorem lR {np kl N : Nat} {rc : Loop} {R : Bool -> List LB -> Prop} (h : Z3 np kl N rc R (iR 0) σ) : kN np kl N rc R .normal σ := h
theorem sZ {np kl N : Nat} {rc : Loop} {R : Bool -> List LB -> Prop} (h : Z3 np kl N rc R (iR 1) σ) : kN np kl N rc R .ret σ := h
def mH (σ : St) : List Nat -> List DV -> Prop
 | [], [] => True
 | t :: ts, d :: ds => σ.F t = some d /\ mH σ ts ds
 | _, _ => False
theorem Vw : ∀ {ts : List Nat} {ds : List DV}, mH σ ts ds -> ts.length = ds.length /\ ∀ (i t : Nat) (d : DV), ts[i]? = some t -> ds[i]? = some d -> σ.F t = some d
 | [], [], _ => ⟨rfl, fun i t d h => by simp at h⟩
 | t :: ts, d :: ds, h => by
  obtain ⟨h1, h2⟩ := Vw h.2
  refine ⟨by simp [h1], fun i t' d' h3 h4 => ?_⟩
  cases i with
  | zero => simp at h3 h4; rw [<- h3, <- h4]; exact h.1
  | succ i => exact h2 i t' d' (by simpa using h3) (by simpa using h4)
 | [], d :: ds, h => h.elim
 | t :: ts, [], h => h.elim
theorem oY {c : Nat} (h : c = 0) (hq : Q .normal σ) : eZ Q (iR c) σ := by subst h; exact hq
theorem sX {c : Nat} (h : c = 1) (hq : Q .ret σ) : eZ Q (iR c) σ := by subst h; exact hq
theorem cC {g : Operand} {pr : Array Tmp} {assign body : Code} {gf kl c N2 : Nat} {cs caps : List DV} {b : Nat -> Nat -> Option LB} {ts : List Nat} {ds ds2 : List DV} {bx bx' : Loop -> List LB} {X : Loop -> Prop} (tk : Nat) (ps gs el : List Nat) (fl : Bool)
  (B : ∀ j, tk <= j -> σ.U j = false) (hI : ∀ rc, X rc -> Y7 P gf kl ps.length caps (bx rc) (fun b' => b' = bx' rc)) (hts : mH σ ts ds)
  (hA : ∀ fn D, Dw fl (ps ++ gs) (Gd (σ.app none (Jw tk (.lop ts ds cx.N (R3 pr assign body fn D)))) el) cs caps)
  (hB : ∀ fn D, Qv fl (ps ++ gs) (Gd (σ.app none (Jw tk (.lop ts ds cx.N (R3 pr assign body fn D)))) el) (ps ++ gs) (bx (R3 pr assign body fn D)))
  (hX : ∀ fn D, X (R3 pr assign body fn D))
  (k : ∀ fn D, (∀ j, tk + 16 <= j -> (((σ.app none (Jw tk (.lop ts ds cx.N (R3 pr assign body fn D)))).app none (Is ps gs (tk + 8) (.tup []) (bx' (R3 pr assign body fn D)))).app none (Jw tk (.lop ts ds2 N2 { Ft (R3 pr assign body fn D) c with state := .exhausted }))).U j = false) ->
   eZ Q (iR c) (((σ.app none (Jw tk (.lop ts ds cx.N (R3 pr assign body fn D)))).app none (Is ps gs (tk + 8) (.tup []) (bx' (R3 pr assign body fn D)))).app none (Jw tk (.lop ts ds2 N2 { Ft (R3 pr assign body fn D) c with state := .exhausted }))))
  (hev : ∀ fn D, ev (σ.app none (Jw tk (.lop ts ds cx.N (R3 pr assign body fn D)))) true g = some (.clo gf 0 cs, b fn D) := by exact fun _ _ => rfl)
  (hL : ∀ fn D, ((σ.app none (Jw tk (.lop ts ds cx.N (R3 pr assign body fn D)))).app none (Is ps gs (tk + 8) (.tup []) (bx' (R3 pr assign body fn D)))).L tk = some (.lop ts ds2 N2 (Ft (R3 pr assign body fn D) c)) := by exact fun _ _ => rfl)
  (hfl : fl = true -> ∀ rc, ∀ lb ∈ bx' rc, Jh lb := by intro h; cases h) (hh : Iu cx.np ps gs = true := by rfl) (hkl : ps[kl]? = some tk := by rfl) (hlt : (ps ++ gs).all (fun j => Nat.blt j (tk + 8)) = true := by rfl) (hrr : cx.rr = none := by rfl) : Ca P cx (.rangeFunc g pr assign body) Q σ := by
 obtain ⟨h1, h2⟩ := Vw hts
 have G : ∀ j ∈ ps ++ gs, j < tk + 8 := fun j hj => Nat.le_of_ble_eq_true (List.all_eq_true.1 hlt j hj)
 refine bX (R := fun fn D b' => b' = bx' (R3 pr assign body fn D)) fl hrr hev (fun j _ => B _ (by omega)) h1 h2 (fun fn D => hI _ (hX fn D)) hA hB hh (fun h fn D b' hb' => by subst hb'; exact hfl h _) hkl ?_
 rintro fn D b' rfl h3 h4
 refine ⟨ts, ds2, N2, Ft (R3 pr assign body fn D) c, hL fn D, dA, k fn D ?_⟩
 have hU1 : ∀ j, tk + 8 <= j -> (σ.app none (Jw tk (.lop ts ds cx.N (R3 pr assign body fn D)))).U j = false := eX (fun j hj => B j (by omega)) (Nat.ble_eq_true_of_le (by omega))
 exact eX (lK hU1 G h4 (Nat.le_refl _)) (Nat.ble_eq_true_of_le (by omega))
end
section
variable {P : Program} {cx : Cx} {σ : St} {ops : Array Oper} {Q : Exit -> St -> Prop}
theorem pC {l' : List Oper} {dst : Option Tmp} {t kl N l j : Nat} {xs : Array Operand} {tys : Array TypeId} {ty : TypeId} {pos : String} {af : Array Edge} {gd : Option (Nat × Bool)} {b : Option LB} {dsA : List (DV × Option LB)} {ts : List Nat} {ds args : List DV} {bx bx' : List LB} {bb : Bool} {rc : Loop} (tk : Nat) (ps gs el : List Nat) (fl : Bool)
  (B : ∀ j, tk <= j -> σ.U j = false) (hl : B1 (cx.ρ0 j) = some l) (hF : Y6 P ts ds N (Ft rc 0) kl ps.length args bx (fun b1 b2 => b1 = bb /\ b2 = bx'))
  (hA : Dw fl (ps ++ gs) (Gd σ el) (dsA.map (·.1)) args) (hB : Qv fl (ps ++ gs) (Gd σ el) (ps ++ gs) bx)
  (k : (∀ j, tk + 8 <= j -> (σ.app dst (Is ps gs tk (.val (.bool bb)) bx')).U j = false) -> G6 P cx ops Q l' (σ.app dst (Is ps gs tk (.val (.bool bb)) bx')))
  (hds : Df σ true (.tmp t :: xs.toList) = some ((.val (.func (.yield l) #[] #[]), b) :: dsA) := by rfl) (G : G9 ops σ ⟨dst, .call ⟨.value (.tmp t), xs, tys⟩, ty, pos, af, gd⟩ = some true := by rfl)
  (hh : Iu cx.np ps gs = true := by rfl) (hfl : fl = true -> ∀ lb ∈ bx', Jh lb := by intro h; cases h) (hdst : (match dst with | some t => Nat.blt t cx.N | none => true) = true := by rfl)
  (hkl : ps[kl]? = some j := by rfl) (hj : Nat.blt j cx.np = true := by rfl) (hlt : (ps ++ gs).all (fun j => Nat.blt j tk) = true := by rfl) (hrr : cx.rr = none := by rfl) : G6 P cx ops Q (⟨dst, .call ⟨.value (.tmp t), xs, tys⟩, ty, pos, af, gd⟩ :: l') σ := by
 have hg' : ∀ j ∈ ps ++ gs, j < tk := fun j hj => Nat.le_of_ble_eq_true (List.all_eq_true.1 hlt j hj)
 refine G6.yield (o := ⟨dst, .call ⟨.value (.tmp t), xs, tys⟩, ty, pos, af, gd⟩) (tk := tk) fl hrr rfl G hds hF hA hB hh (fun h b1 b2 hb => by rw [hb.2]; exact hfl h) (fun j _ => B _ (by omega)) (fun t ht => by
  have ht : dst = some t := ht
  subst ht
  exact Nat.le_of_ble_eq_true hdst) ⟨j, hkl, Nat.le_of_ble_eq_true hj, hl⟩ ?_
 rintro b1 b2 ⟨rfl, rfl⟩ h3 h4
 exact k (lK B hg' h4 (Nat.le_refl _))
end
end Go.Proofs.YtopkgllcjbpdeaaDoor
