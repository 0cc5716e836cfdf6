/- The same steps, which look for a hypothesis without opening it. -/
import Derived.Test.YtlcfdnjokgbccaaGreatEF
set_option linter.unusedVariables false
set_option linter.unusedSimpArgs false
namespace Go.Proofs.YtlcfdnjokgbccaaGreat
open Go.RowKit
section
variable {P : Program} {cx : Cx} {ops : Array Oper} {Rt : Option (List Nat)} {nb i : Nat} {l : List Oper} {lg lg' : Log} {σ σ' : St} {Q : St → Prop} {fz : List Nat} {m' : List (Nat × Oper)}
theorem gdv_n {dst : Option Tmp} {op : Op} {ty : TypeId} {pos : String} {af : Array Edge} : gdv ops σ ⟨dst, op, ty, pos, af, none⟩ = some true := rfl
theorem gdv_ff {dst : Option Tmp} {op : Op} {ty : TypeId} {pos : String} {af : Array Edge} {g : Nat} {c : Bool} {t : Tmp} (ht : (ops[g]?).bind (·.dst) = some t) (hF : σ.F t = some (.val (.bool c))) (hc : c = false) : gdv ops σ ⟨dst, op, ty, pos, af, some (g, true)⟩ = some false := gdv_f ht hF hc
theorem gdv_ft {dst : Option Tmp} {op : Op} {ty : TypeId} {pos : String} {af : Array Edge} {g : Nat} {c : Bool} {t : Tmp} (ht : (ops[g]?).bind (·.dst) = some t) (hF : σ.F t = some (.val (.bool c))) (hc : c = true) : gdv ops σ ⟨dst, op, ty, pos, af, some (g, false)⟩ = some false := gdv_f ht hF hc
theorem gdv_u {dst : Option Tmp} {op : Op} {ty : TypeId} {pos : String} {af : Array Edge} {g : Nat} {b : Bool} {t : Tmp} (ht : (ops[g]?).bind (·.dst) = some t) (hF : σ.F t = some (.val undef)) : gdv ops σ ⟨dst, op, ty, pos, af, some (g, b)⟩ = some false := by
  unfold gdv
  simp only []
  rw [ht]
  simp only []
  rw [hF]
  rfl
theorem go2_ {m : List (Nat × Oper)} (k : Chain (sys P cx fz) ops Rt nb m' lg' σ' Q) (h : Gm P cx fz ops Rt nb m lg σ m' lg' σ' := by
    repeat first
      | (apply Gm.move; exact rfl; (first | with_reducible exact gdv_n | exact gdv_t rfl rfl (by first | with_reducible assumption | with_reducible rfl | with_reducible exact not_t (by with_reducible assumption) | with_reducible exact not_f (by with_reducible assumption))); exact rfl)
      | (apply Gm.assign; exact rfl; (first | with_reducible exact gdv_n | exact gdv_t rfl rfl (by first | with_reducible assumption | with_reducible rfl | with_reducible exact not_t (by with_reducible assumption) | with_reducible exact not_f (by with_reducible assumption))); exact rfl)
      | (apply Gm.fieldP; exact rfl; (exact rfl); (first | with_reducible exact gdv_n | exact gdv_t rfl rfl (by first | with_reducible assumption | with_reducible rfl | with_reducible exact not_t (by with_reducible assumption) | with_reducible exact not_f (by with_reducible assumption))); exact rfl)
      | (apply Gm.load1; exact rfl; (exact rfl); (first | with_reducible exact gdv_n | exact gdv_t rfl rfl (by first | with_reducible assumption | with_reducible rfl | with_reducible exact not_t (by with_reducible assumption) | with_reducible exact not_f (by with_reducible assumption))); exact rfl)
      | (apply Gm.loadA; exact rfl; (exact rfl); (first | with_reducible exact gdv_n | exact gdv_t rfl rfl (by first | with_reducible assumption | with_reducible rfl | with_reducible exact not_t (by with_reducible assumption) | with_reducible exact not_f (by with_reducible assumption))); exact rfl)
      | (apply Gm.pickF; exact rfl; (first | with_reducible assumption | with_reducible rfl | with_reducible exact not_t (by with_reducible assumption)); (first | with_reducible exact gdv_n | exact gdv_t rfl rfl (by first | with_reducible assumption | with_reducible rfl | with_reducible exact not_t (by with_reducible assumption) | with_reducible exact not_f (by with_reducible assumption))); exact rfl)
      | (apply Gm.pickT; exact rfl; (first | with_reducible assumption | with_reducible rfl | with_reducible exact not_f (by with_reducible assumption)); (first | with_reducible exact gdv_n | exact gdv_t rfl rfl (by first | with_reducible assumption | with_reducible rfl | with_reducible exact not_t (by with_reducible assumption) | with_reducible exact not_f (by with_reducible assumption))); exact rfl)
      | (apply Gm.k; (first | exact gdv_ff rfl rfl (by first | with_reducible assumption | with_reducible rfl | with_reducible exact not_t (by with_reducible assumption) | with_reducible exact not_f (by with_reducible assumption)) | exact gdv_ft rfl rfl (by first | with_reducible assumption | with_reducible rfl | with_reducible exact not_t (by with_reducible assumption) | with_reducible exact not_f (by with_reducible assumption)) | exact gdv_u rfl rfl); exact rfl)
      | (apply Gm.storeB; exact rfl; (exact rfl); (exact rfl); (exact rfl); (focus repeat first | exact (rfl : _ = []) | (apply nl_c; exact rfl)); (first | exact (rfl : _ = [_]) | exact (rfl : _ = [_, _]) | exact (rfl : _ = [_, _, _])); (first | with_reducible exact gdv_n | exact gdv_t rfl rfl (by first | with_reducible assumption | with_reducible rfl | with_reducible exact not_t (by with_reducible assumption) | with_reducible exact not_f (by with_reducible assumption))); exact rfl)
      | (apply Gm.extract; exact rfl; (exact rfl); (first | with_reducible exact gdv_n | exact gdv_t rfl rfl (by first | with_reducible assumption | with_reducible rfl | with_reducible exact not_t (by with_reducible assumption) | with_reducible exact not_f (by with_reducible assumption))); exact rfl)
      | (apply Gm.lss; exact rfl; (first | with_reducible exact gdv_n | exact gdv_t rfl rfl (by first | with_reducible assumption | with_reducible rfl | with_reducible exact not_t (by with_reducible assumption) | with_reducible exact not_f (by with_reducible assumption))); exact rfl)
      | (apply Gm.eql; exact rfl; (first | with_reducible exact gdv_n | exact gdv_t rfl rfl (by first | with_reducible assumption | with_reducible rfl | with_reducible exact not_t (by with_reducible assumption) | with_reducible exact not_f (by with_reducible assumption))); exact rfl)
      | (apply Gm.gtr; exact rfl; (first | with_reducible exact gdv_n | exact gdv_t rfl rfl (by first | with_reducible assumption | with_reducible rfl | with_reducible exact not_t (by with_reducible assumption) | with_reducible exact not_f (by with_reducible assumption))); exact rfl)
      | (apply Gm.leq; exact rfl; (first | with_reducible exact gdv_n | exact gdv_t rfl rfl (by first | with_reducible assumption | with_reducible rfl | with_reducible exact not_t (by with_reducible assumption) | with_reducible exact not_f (by with_reducible assumption))); exact rfl)
      | (apply Gm.geq; exact rfl; (first | with_reducible exact gdv_n | exact gdv_t rfl rfl (by first | with_reducible assumption | with_reducible rfl | with_reducible exact not_t (by with_reducible assumption) | with_reducible exact not_f (by with_reducible assumption))); exact rfl)
      | (apply Gm.neq; exact rfl; (first | with_reducible exact gdv_n | exact gdv_t rfl rfl (by first | with_reducible assumption | with_reducible rfl | with_reducible exact not_t (by with_reducible assumption) | with_reducible exact not_f (by with_reducible assumption))); exact rfl)
      | (apply Gm.seql; exact rfl; (first | with_reducible exact gdv_n | exact gdv_t rfl rfl (by first | with_reducible assumption | with_reducible rfl | with_reducible exact not_t (by with_reducible assumption) | with_reducible exact not_f (by with_reducible assumption))); exact rfl)
      | (apply Gm.sneq; exact rfl; (first | with_reducible exact gdv_n | exact gdv_t rfl rfl (by first | with_reducible assumption | with_reducible rfl | with_reducible exact not_t (by with_reducible assumption) | with_reducible exact not_f (by with_reducible assumption))); exact rfl)
      | (apply Gm.add; exact rfl; (first | with_reducible exact gdv_n | exact gdv_t rfl rfl (by first | with_reducible assumption | with_reducible rfl | with_reducible exact not_t (by with_reducible assumption) | with_reducible exact not_f (by with_reducible assumption))); exact rfl)
      | (apply Gm.sub; exact rfl; (first | with_reducible exact gdv_n | exact gdv_t rfl rfl (by first | with_reducible assumption | with_reducible rfl | with_reducible exact not_t (by with_reducible assumption) | with_reducible exact not_f (by with_reducible assumption))); exact rfl)
      | (apply Gm.mul; exact rfl; (first | with_reducible exact gdv_n | exact gdv_t rfl rfl (by first | with_reducible assumption | with_reducible rfl | with_reducible exact not_t (by with_reducible assumption) | with_reducible exact not_f (by with_reducible assumption))); exact rfl)
      | (apply Gm.alloc; exact rfl; (first | with_reducible exact gdv_n | exact gdv_t rfl rfl (by first | with_reducible assumption | with_reducible rfl | with_reducible exact not_t (by with_reducible assumption) | with_reducible exact not_f (by with_reducible assumption))); exact rfl)
      | (apply Gm.box; exact rfl; (exact rfl); (first | with_reducible exact gdv_n | exact gdv_t rfl rfl (by first | with_reducible assumption | with_reducible rfl | with_reducible exact not_t (by with_reducible assumption) | with_reducible exact not_f (by with_reducible assumption))); exact rfl)
      | (apply Gm.not; exact rfl; (first | with_reducible exact gdv_n | exact gdv_t rfl rfl (by first | with_reducible assumption | with_reducible rfl | with_reducible exact not_t (by with_reducible assumption) | with_reducible exact not_f (by with_reducible assumption))); exact rfl)
      | (apply Gm.lenS; exact rfl; (exact inferInstance); (first | with_reducible exact gdv_n | exact gdv_t rfl rfl (by first | with_reducible assumption | with_reducible rfl | with_reducible exact not_t (by with_reducible assumption) | with_reducible exact not_f (by with_reducible assumption))); exact rfl)
      | (apply Gm.lenR; exact rfl; (exact inferInstance); (first | with_reducible exact gdv_n | exact gdv_t rfl rfl (by first | with_reducible assumption | with_reducible rfl | with_reducible exact not_t (by with_reducible assumption) | with_reducible exact not_f (by with_reducible assumption))); exact rfl)
      | (apply Gm.idxS; exact rfl; (exact inferInstance); (with_reducible assumption); (first | with_reducible exact gdv_n | exact gdv_t rfl rfl (by first | with_reducible assumption | with_reducible rfl | with_reducible exact not_t (by with_reducible assumption) | with_reducible exact not_f (by with_reducible assumption))); exact rfl)
      | (apply Gm.idxR; exact rfl; (exact inferInstance); (with_reducible assumption); (first | with_reducible exact gdv_n | exact gdv_t rfl rfl (by first | with_reducible assumption | with_reducible rfl | with_reducible exact not_t (by with_reducible assumption) | with_reducible exact not_f (by with_reducible assumption))); exact rfl)
      | (apply Gm.nilP; exact rfl; (first | with_reducible exact gdv_n | exact gdv_t rfl rfl (by first | with_reducible assumption | with_reducible rfl | with_reducible exact not_t (by with_reducible assumption) | with_reducible exact not_f (by with_reducible assumption))); exact rfl)
      | (apply Gm.nilE; exact rfl; (first | with_reducible exact gdv_n | exact gdv_t rfl rfl (by first | with_reducible assumption | with_reducible rfl | with_reducible exact not_t (by with_reducible assumption) | with_reducible exact not_f (by with_reducible assumption))); exact rfl)
      | (apply Gm.field1; exact rfl; (exact rfl); (first | with_reducible exact gdv_n | exact gdv_t rfl rfl (by first | with_reducible assumption | with_reducible rfl | with_reducible exact not_t (by with_reducible assumption) | with_reducible exact not_f (by with_reducible assumption))); exact rfl)
      | (apply Gm.fieldA; exact rfl; (first | with_reducible exact gdv_n | exact gdv_t rfl rfl (by first | with_reducible assumption | with_reducible rfl | with_reducible exact not_t (by with_reducible assumption) | with_reducible exact not_f (by with_reducible assumption))); exact rfl)
      | (apply Gm.makeF; exact rfl; (first | with_reducible exact gdv_n | exact gdv_t rfl rfl (by first | with_reducible assumption | with_reducible rfl | with_reducible exact not_t (by with_reducible assumption) | with_reducible exact not_f (by with_reducible assumption))); exact rfl)
    exact Gm.z) : Chain (sys P cx fz) ops Rt nb m lg σ Q := h Q k
end
section
variable {P : Program} {cx : Cx} {ops : Array Oper} {Rt : Option (List Nat)} {nb i : Nat} {l : List Oper} {lg : Log} {σ : St} {Q : St → Prop} {fz : List Nat}
theorem ca2_ {dst : Option Tmp} {f : FuncId} {xs : Array Operand} {tys : Array TypeId} {ty : TypeId} {pos : String} {af : Array Edge} {g : Option (Nat × Bool)} {dsA : List (DV × Option LB)} {args : List DV} {d : DV}
    (hF : Fn P f 0 args [] (fun d' b' => d' = d ∧ b' = []))
    (k : Chain (sys P cx fz) ops Rt nb (idx (i + 1) l) ((i, true, nb + 8 * i, [], []) :: lg) (σ.app dst (effP [] [] d [])) Q)
    (hds : evs σ true xs.toList = some dsA := by rfl)
    (hA : AgL false ([] ++ []) (envL σ []) (dsA.map (·.1)) args := by
      repeat' first
        | exact AgL.nil
        | exact Ag.val
        | exact Ag.sl
        | exact Ag.nils
        | exact Ag.elt
        | exact Ag.fn
        | refine Ag.agg ?_
        | refine Ag.clo ?_
        | refine AgL.cons ?_ ?_)
    (hg : gdv ops σ ⟨dst, .call ⟨.value (.func f), xs, tys⟩, ty, pos, af, g⟩ = some true := by first | with_reducible exact gdv_n | exact gdv_t rfl rfl (by first | with_reducible assumption | with_reducible rfl | with_reducible exact not_t (by with_reducible assumption) | with_reducible exact not_f (by with_reducible assumption)))
    (hrd : deep σ 3 (argT dsA) = [] := by rfl) (hok : okL Rt i true (nb + 8 * i) [] [] lg = true := by rfl) (hr : dtok d = [] := by rfl) :
    Chain (sys P cx fz) ops Rt nb (idx i (⟨dst, .call ⟨.value (.func f), xs, tys⟩, ty, pos, af, g⟩ :: l)) lg σ Q :=
  ch_callP (ps := []) (gs := []) (rd := []) (bx := []) (b := []) false hg hF hds hrd hA rfl rfl (fun h => by cases h) hok hr rfl rfl k
theorem cb2_ {dst : Option Tmp} {f : FuncId} {xs : Array Operand} {tys : Array TypeId} {ty : TypeId} {pos : String} {af : Array Edge} {g : Option (Nat × Bool)} {dsA : List (DV × Option LB)} {args : List DV} {bx : List LB} {d : DV} {b : List LB} (rd ps gs : List Nat) (fl : Bool)
    (hF : Fn P f ps.length args bx (fun d' b' => d' = d ∧ b' = b))
    (k : Chain (sys P cx fz) ops Rt nb (idx (i + 1) l) ((i, true, nb + 8 * i, rd, ps ++ gs) :: lg) (σ.app dst (effP ps gs d b)) Q)
    (hds : evs σ true xs.toList = some dsA := by rfl)
    (hA : AgL fl (ps ++ gs) (envL σ rd) (dsA.map (·.1)) args := by
      repeat' first
        | exact AgL.nil
        | exact Ag.val
        | exact Ag.sl
        | exact Ag.nils
        | exact Ag.elt
        | exact Ag.fn
        | exact Ag.ptr rfl
        | exact Ag.rowK rfl
        | exact Ag.row rfl (by repeat first | exact List.Mem.head _ | refine List.Mem.tail _ ?_) rfl
        | refine Ag.agg ?_
        | refine Ag.clo ?_
        | refine AgL.cons ?_ ?_)
    (hB : BxR fl (ps ++ gs) (envL σ rd) (ps ++ gs) bx := by
      repeat' first
        | exact (rfl : _ = [])
        | refine ⟨_, _, _, rfl, (.head _), ⟨_, rfl, ?_⟩, ?_⟩
        | refine ⟨_, _, _, rfl, (.tail _ (.head _)), ⟨_, rfl, ?_⟩, ?_⟩
        | refine ⟨_, _, _, rfl, (.tail _ (.tail _ (.head _))), ⟨_, rfl, ?_⟩, ?_⟩
        | refine ⟨_, _, _, rfl, (.tail _ (.tail _ (.tail _ (.head _)))), ⟨_, rfl, ?_⟩, ?_⟩
        | refine ⟨_, _, _, rfl, (.tail _ (.tail _ (.tail _ (.tail _ (.head _))))), ⟨_, rfl, ?_⟩, ?_⟩
        | refine ⟨_, _, _, rfl, (.tail _ (.tail _ (.tail _ (.tail _ (.tail _ (.head _)))))), ⟨_, rfl, ?_⟩, ?_⟩
        | refine ⟨_, _, _, rfl, (.tail _ (.tail _ (.tail _ (.tail _ (.tail _ (.tail _ (.head _))))))), ⟨_, rfl, ?_⟩, ?_⟩
        | refine ⟨_, _, _, rfl, (.head _), rfl, ?_⟩
        | refine ⟨_, _, _, rfl, (.tail _ (.head _)), rfl, ?_⟩
        | refine ⟨_, _, _, rfl, (.tail _ (.tail _ (.head _))), rfl, ?_⟩
        | refine ⟨_, _, _, rfl, (.tail _ (.tail _ (.tail _ (.head _)))), rfl, ?_⟩
        | refine ⟨_, _, _, rfl, (.tail _ (.tail _ (.tail _ (.tail _ (.head _))))), rfl, ?_⟩
        | refine ⟨_, _, _, rfl, (.tail _ (.tail _ (.tail _ (.tail _ (.tail _ (.head _)))))), rfl, ?_⟩
        | refine ⟨_, _, _, rfl, (.tail _ (.tail _ (.tail _ (.tail _ (.tail _ (.tail _ (.head _))))))), rfl, ?_⟩
        | exact AgL.nil
        | exact Ag.val
        | exact Ag.sl
        | exact Ag.nils
        | exact Ag.elt
        | exact Ag.ptr rfl
        | refine AgL.cons ?_ ?_)
    (hg : gdv ops σ ⟨dst, .call ⟨.value (.func f), xs, tys⟩, ty, pos, af, g⟩ = some true := by first | with_reducible exact gdv_n | exact gdv_t rfl rfl (by first | with_reducible assumption | with_reducible rfl | with_reducible exact not_t (by with_reducible assumption) | with_reducible exact not_f (by with_reducible assumption)))
    (hrd : deep σ 3 (argT dsA) = rd := by rfl) (hnd : hands cx.np ps gs = true := by rfl) (hfl : fl = true → flatD d ∧ ∀ lb ∈ b, flatB lb := by first | (intro h; cases h; done) | exact fun _ => ⟨by simp [flatD, flatDs], by simp [flatB, flatDs, flatD]⟩)
    (hok : okL Rt i true (nb + 8 * i) rd (ps ++ gs) lg = true := by rfl) (hr : dtok d = [] := by rfl) (hl : b.length = ps.length := by rfl) (hb : b.flatMap btok = [] := by rfl) :
    Chain (sys P cx fz) ops Rt nb (idx i (⟨dst, .call ⟨.value (.func f), xs, tys⟩, ty, pos, af, g⟩ :: l)) lg σ Q :=
  ch_callP fl hg hF hds hrd hA hB hnd hfl hok hr hl hb k
end
end Go.Proofs.YtlcfdnjokgbccaaGreat
