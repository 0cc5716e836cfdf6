/- The reference's search for a chain, and the program's: the same answer. No program is in sight here. -/
import Derived.Test.YtadjcdhcdmiifaaGreatB1
set_option linter.unusedVariables false
set_option linter.unusedSimpArgs false
namespace Go.Proofs.YtadjcdhcdmiifaaGreat
open Go

def resS (b : List api_Certificate × Bool) : Option (List api_Certificate) := bif b.2 then some b.1 else none
section
variable {pool : List api_Certificate} {anchors hashes : List Int} {day : Int} {name : ByteArray}
abbrev usedS (used : List Int) (j : Nat) : Bool := used.any fun e => decide ((j : Int) = e)
def PreR (pool : List api_Certificate) (anchors hashes : List Int) (day : Int) (name : ByteArray) (a : (List api_Certificate) × (List api_Certificate) × (List Int) × Int × (List Int) × (List Int) × Int × ByteArray) : Prop :=
  a.2.1 = pool ∧ a.2.2.2.2 = (anchors, hashes, day, name) ∧ ∃ n : Nat, a.2.2.2.1 = (n : Int) ∧ n ≤ 8 ∧ 1 ≤ a.1.length ∧ a.1.length + n ≤ 20 ∧ AllC a.1 ∧ a.2.2.1.length + n ≤ 20
def PostR (pool : List api_Certificate) (anchors hashes : List Int) (day : Int) (name : ByteArray) (a : (List api_Certificate) × (List api_Certificate) × (List Int) × Int × (List Int) × (List Int) × Int × ByteArray) (b : List api_Certificate × Bool) : Prop :=
  resS b = extS (accS anchors hashes day name) pool a.2.2.2.1.toNat a.1 (usedS a.2.2.1)
theorem AllC.app {l : List api_Certificate} {c : api_Certificate} (h : AllC l) (hc : FitC c) : AllC (l ++ [c]) := fun q hq => by
  rcases List.mem_append.1 hq with hq | hq
  · exact h q hq
  · rw [List.mem_singleton.1 hq]; exact hc
theorem lo8 {α : Type} {l : List α} (h : l.length ≤ 20) : Lo l := by unfold Lo; omega
theorem ref_extend (hp : AllC pool) (hpl : pool.length ≤ 8) (ha : Lo anchors) (hh : Lo hashes) {n : Nat} {l : List api_Certificate} {used : List Int} (hn : n ≤ 8) (h1 : 1 ≤ l.length) (h2 : l.length + n ≤ 20) (hl : AllC l) (hu : used.length + n ≤ 20) :
    Ok (g_ref04_extend l pool used (n : Int) anchors hashes day name) (fun b => resS b = extS (accS anchors hashes day name) pool n l (usedS used)) := by
  unfold g_ref04_extend
  refine (fixT_ok mono_ref04_extend (fun a => a.2.2.2.1.toNat) (PreR pool anchors hashes day name) (PostR pool anchors hashes day name) (fun rec a hPre ih => ?_) (l, pool, used, (n : Int), anchors, hashes, day, name) ⟨rfl, rfl, n, rfl, hn, h1, h2, hl, hu⟩).mono fun b hb => by
    unfold PostR at hb
    simpa using hb
  clear hn h1 h2 hl hu l used n
  obtain ⟨l, pl, used, nn, rest⟩ := a
  obtain ⟨rfl, hr, n, hnn, hn, h1, h2, hl, hu⟩ := hPre
  dsimp only at hr hnn h1 h2 hl hu hp hpl ih ⊢
  subst hr hnn
  dsimp only
  show Ok (g_ref04_extend.F _ l pl used (n : Int) anchors hashes day name) _
  unfold g_ref04_extend.F
  refine Ok.cond (fun h0 => ?_) (fun h0 => ?_)
  · have h0 := of_decide_eq_true h0
    have : n = 0 := by omega
    subst this
    refine Ok.bindE (ref04_Check l anchors hashes day name ha hh hl) (Ok.ret ?_)
    rfl
  have h0 := of_decide_eq_false h0
  obtain ⟨m, rfl⟩ : ∃ m, n = m + 1 := ⟨n - 1, by omega⟩
  have hW : W (((m + 1 : Nat) : Int) - 1) = (m : Int) := by rw [W_id (by omega)]; omega
  refine (Ok.loop (fun s => ∃ i : Nat, s = (i : Int) ∧ i ≤ pl.length ∧ extS (accS anchors hashes day name) pl (m + 1) l (usedS used) = firstO (fun i => match pl[i]? with
    | some c => bif usedS used i || !linkS l c then none else extS (accS anchors hashes day name) pl m (l ++ [c]) (fun j => decide (j = i) || usedS used j)
    | none => none) i (pl.length - i)) (fun s => pl.length - s.toNat) (Q := fun b => resS b = extS (accS anchors hashes day name) pl (m + 1) l (usedS used)) ?_ ⟨0, rfl, Nat.zero_le _, rfl⟩).mono fun b hb => hb
  rintro s ⟨i, rfl, hi, he⟩
  show Ok (g_ref04_extend.l1 _ l pl used ((m + 1 : Nat) : Int) anchors hashes day name (i : Int)) _
  unfold g_ref04_extend.l1
  refine Ok.cond (fun hlt => ?_) (fun hlt => Ok.up (Ok.ret ?_))
  · have hlt : i < pl.length := by have := of_decide_eq_true hlt; omega
    obtain ⟨c, hc⟩ : ∃ c, pl[i]? = some c := ⟨_, List.getElem?_eq_getElem hlt⟩
    have hfc := hp c (List.mem_of_getElem? hc)
    have hgc : getI pl (i : Int) = some c := getI_nat.trans hc
    rw [firstO_step hlt] at he
    rw [hc] at he
    dsimp only at he
    obtain ⟨e, hel⟩ : ∃ e, l[l.length - 1]? = some e := ⟨_, List.getElem?_eq_getElem (by omega)⟩
    have hge : getI l (W ((l.length : Int) - 1)) = some e := by
      rw [W_id (by omega), show ((l.length : Int) - 1) = ((l.length - 1 : Nat) : Int) by omega]
      exact getI_nat.trans hel
    have hlk : linkS l c = (decide (e.Issuer = c.Subject) && decide (e.Seal.Key = c.KeyId)) := by unfold linkS; rw [hel]
    have J4 : (bif usedS used i || !linkS l c then none else extS (accS anchors hashes day name) pl m (l ++ [c]) (fun j => decide (j = i) || usedS used j)) = none → Ok (g_ref04_extend.j4 (i : Int)) (Rd' (fun s' => (∃ i : Nat, s' = (i : Int) ∧ i ≤ pl.length ∧ extS (accS anchors hashes day name) pl (m + 1) l (usedS used) = firstO (fun i => match pl[i]? with
    | some c => bif usedS used i || !linkS l c then none else extS (accS anchors hashes day name) pl m (l ++ [c]) (fun j => decide (j = i) || usedS used j)
    | none => none) i (pl.length - i)) ∧ pl.length - s'.toNat < pl.length - (i : Int).toNat) (fun b => resS b = extS (accS anchors hashes day name) pl (m + 1) l (usedS used))) := fun hnone => by
      unfold g_ref04_extend.j4
      refine Ok.ret ⟨⟨i + 1, W_succ (by omega), hlt, ?_⟩, ?_⟩
      · rw [hnone] at he; exact he
      · rw [W_succ (by omega)]; omega
    have J : ∀ b : Bool, b = (usedS used i || !linkS l c) → Ok (g_ref04_extend.j2 (fun l pool used n anchors hashes day name => rec (l, pool, used, n, anchors, hashes, day, name)) l pl used ((m + 1 : Nat) : Int) anchors hashes day name (i : Int) b) (Rd' (fun s' => (∃ i : Nat, s' = (i : Int) ∧ i ≤ pl.length ∧ extS (accS anchors hashes day name) pl (m + 1) l (usedS used) = firstO (fun i => match pl[i]? with
    | some c => bif usedS used i || !linkS l c then none else extS (accS anchors hashes day name) pl m (l ++ [c]) (fun j => decide (j = i) || usedS used j)
    | none => none) i (pl.length - i)) ∧ pl.length - s'.toNat < pl.length - (i : Int).toNat) (fun b => resS b = extS (accS anchors hashes day name) pl (m + 1) l (usedS used))) := fun b hb => by
      unfold g_ref04_extend.j2
      refine Ok.cond (fun ht => ?_) (fun ht => ?_)
      · exact J4 (by rw [← hb, ht]; rfl)
      · rw [← hb, ht] at he
        rw [← hb, ht] at J4
        refine Ok.bind (appI_ok' (by simp; omega)) fun l2 hl2 => ?_
        replace hl2 : l = l2 := hl2.symm
        subst hl2
        refine Ok.bindE hgc ?_
        refine Ok.bind (appI_ok' (by simp; omega)) fun l3 hl3 => ?_
        subst hl3
        refine Ok.bind (appI_ok' (by simp; omega)) fun l6 hl6 => ?_
        replace hl6 : used = l6 := hl6.symm
        subst hl6
        refine Ok.bind (appI_ok' (by simp; omega)) fun l7 hl7 => ?_
        subst hl7
        rw [hW]
        refine Ok.bind (ih (l ++ [c], pl, used ++ [(i : Int)], (m : Int), anchors, hashes, day, name) ⟨rfl, rfl, m, rfl, by omega, by simp, by simp; omega, hl.app hfc, by simp; omega⟩ (by simp)) fun y hy => ?_
        unfold PostR at hy
        simp only [Int.toNat_natCast] at hy
        rw [extS_u (v := fun j => decide (j = i) || usedS used j) m (l ++ [c]) (fun j _ => by
          unfold usedS
          rw [List.any_append]
          simp only [List.any_cons, List.any_nil, Bool.or_false]
          rw [Bool.or_comm]
          congr 1
          exact decide_eq_decide.2 (by omega))] at hy
        refine Ok.cond (fun hy2 => Ok.up (Ok.ret ?_)) (fun hy2 => J4 ?_)
        · unfold resS at hy
          rw [hy2] at hy
          show resS (y.1, true) = _
          rw [cond_false, ← hy] at he
          rw [he]
          rfl
        · unfold resS at hy
          rw [hy2] at hy
          rw [cond_false, ← hy]; rfl
    refine Ok.bindE hge (Ok.bindE (ref_Has used (i : Int) (lo8 (by omega))) ?_)
    refine Ok.cond (fun hu1 => J true ?_) (fun hu1 => Ok.bindE hgc (Ok.cond (fun hi1 => J true ?_) (fun hi1 => J _ ?_)))
    · rw [show usedS used i = true from hu1]; rfl
    · rw [hlk, show usedS used i = false from hu1]
      cases hd : decide (e.Issuer = c.Subject) with
      | true => rw [hd] at hi1; cases hi1
      | false => rfl
    · rw [hlk, show usedS used i = false from hu1]
      cases hd : decide (e.Issuer = c.Subject) with
      | true => rfl
      | false => rw [hd] at hi1; cases hi1
  · have hlt : ¬ i < pl.length := by have := of_decide_eq_false hlt; omega
    rw [show pl.length - i = 0 by omega] at he
    rw [he]; rfl
end
end Go.Proofs.YtadjcdhcdmiifaaGreat
