/- Exceptions: the law of seals. No program is in sight here. -/
import Derived.Test.YtmihjbejflcgkaaX2
set_option linter.unusedVariables false
set_option linter.unusedSimpArgs false
namespace Go.Proofs.Ytmihjbejflcgkaa
open Go
theorem mapPut_new {κ ν : Type} [DecidableEq κ] {l : List (κ × ν)} {x : κ} {v : ν} (h : ∀ p ∈ l, p.1 ≠ x) : mapPut l x v = l ++ [(x, v)] := by
  unfold mapPut
  have : l.findIdx? (fun p => decide (p.1 = x)) = none := List.findIdx?_eq_none_iff.2 fun p hp => decide_eq_false (h p hp)
  rw [this]
def okP (o : api_Owners) (sg : Int) (p : Int × Int) : Bool := decide (p.2 = sg) && decide (p.1 ∈ o.Keys)
def okS (o : api_Owners) (sg : Int) (s : api_Seal) : Bool := decide (s.Sum = sg) && decide (s.Key ∈ o.Keys)
theorem run_seals (o : api_Owners) (b : List UInt8) (e : Int) (hb : b.length ≤ 1000) (ho : o.Keys.length ≤ 1000) : ∀ (l : List (Int × Int)) (c : Nat), c + l.length ≤ 1000 → runL (fun p' q' => g_exception_Valid.l3 o (b, e) p' q') (fun q' => g_exception_Valid.e3 o q') l (c : Int) = some (decide (o.Need ≤ ((c + (l.filter (okP o (sumS b))).length : Nat) : Int)))
  | [], c, _ => rfl
  | p :: l, c, h => by
    rw [List.length_cons] at h
    have ih := run_seals o b e hb ho l
    show ((g_exception_Valid.l3 o (b, e) p (c : Int)).bind (lstep (runL _ _ l))) = _
    have step : g_exception_Valid.l3 o (b, e) p (c : Int) = some (.next ((c + (bif okP o (sumS b) p then 1 else 0) : Nat) : Int)) := by
      unfold g_exception_Valid.l3
      show ((g_certificate_Sum b).bind _) = _
      rw [cat_Sum b (by unfold Lo; omega), Option.bind_some, contains_int _ _ (by omega), Option.bind_some]
      unfold okP g_exception_Valid.j4
      cases decide (p.2 = sumS b) with
      | false => rfl
      | true =>
        cases decide (p.1 ∈ o.Keys) with
        | false => rfl
        | true =>
          show (some (Lp.next (W ((c : Int) + 1))) : Option (Lp Int Bool)) = _
          rw [W_id (by omega)]
          rfl
    rw [step, Option.bind_some]
    show runL _ _ l ((c + (bif okP o (sumS b) p then 1 else 0) : Nat) : Int) = _
    rw [ih _ (by cases okP o (sumS b) p <;> simp <;> omega)]
    cases hp : okP o (sumS b) p with
    | true =>
      rw [List.filter_cons_of_pos hp, List.length_cons]
      show some (decide (o.Need ≤ ((c + 1 + _ : Nat) : Int))) = _
      rw [Nat.add_assoc, Nat.add_comm 1]
    | false => rw [List.filter_cons_of_neg (by rw [hp]; decide)]; rfl
theorem valid_ok {x : api_Exception} {o : api_Owners} (hc : g_exception_Check x = some 0) (hsz : x.Endpoint.size ≤ 32) (hn : 1 ≤ o.Need) (hk : o.Keys.length ≤ 1000) (hl : x.Seals.length ≤ 100) (ha : AscK x.Seals) : g_exception_Valid x o = some (decide (o.Need ≤ ((x.Seals.filter (okS o (sumS (excB x)))).length : Int))) := by
  unfold g_exception_Valid
  have hblen := exc_len hsz
  rw [exc_bytes hc hsz, Option.bind_some, decide_eq_true rfl, Bool.not_true, cond_false, decide_eq_false (by omega)]
  unfold g_exception_Valid.j1
  rw [cond_false]
  have key : ∀ (m p : List api_Seal), p ++ m = x.Seals → loop (fun q' => g_exception_Valid.l2 x o (excB x, 0) q'.1 q'.2) ((p.length : Int), p.map fun s => (s.Key, s.Sum)) = some (decide (o.Need ≤ ((x.Seals.filter (okS o (sumS (excB x)))).length : Int))) := by
    intro m
    induction m with
    | nil =>
      intro p hp
      rw [List.append_nil] at hp
      subst hp
      refine loop_up ?_
      show g_exception_Valid.l2 x o (excB x, 0) (x.Seals.length : Int) _ = _
      unfold g_exception_Valid.l2
      rw [decide_eq_false (by omega), cond_false]
      refine congrArg up (mloop_of fun l' hp' => ?_)
      have := run_seals o (excB x) 0 hblen hk l' 0 (by rw [hp'.length_eq, List.length_map]; omega)
      have e : (l'.filter (okP o (sumS (excB x)))).length = (x.Seals.filter (okS o (sumS (excB x)))).length := by
        rw [(hp'.filter _).length_eq, List.filter_map, List.length_map]
        rfl
      rw [Nat.zero_add, e] at this
      exact this
    | cons s m ih =>
      intro p hp
      have hs : x.Seals[p.length]? = some s := by rw [← hp]; simp
      have hlt := at_lt hs
      have hnew : mapPut (p.map fun s => (s.Key, s.Sum)) s.Key s.Sum = (p ++ [s]).map fun s => (s.Key, s.Sum) := by
        rw [mapPut_new, List.map_append]
        · rfl
        · intro q hq
          obtain ⟨z, hz, rfl⟩ := List.mem_map.1 hq
          have ha' := ha
          unfold AscK at ha'
          rw [← hp] at ha'
          have := (List.pairwise_append.1 ha').2.2 z hz s (List.mem_cons_self ..)
          show z.Key ≠ s.Key
          omega
      have e1 : g_exception_Valid.l2 x o (excB x, 0) (p.length : Int) (p.map fun s => (s.Key, s.Sum)) = some (.next ((((p ++ [s]).length : Nat) : Int), (p ++ [s]).map fun s => (s.Key, s.Sum))) := by
        unfold g_exception_Valid.l2
        rw [decide_eq_true (by omega), cond_true, getI_nat, hs, Option.bind_some, hnew, W_id (by omega)]
        simp
      rw [loop_next (body := fun q' => g_exception_Valid.l2 x o (excB x, 0) q'.1 q'.2) e1, ih (p ++ [s]) (by simp [hp])]
  exact key x.Seals [] rfl
def seK : List Int := [51, 52, 53]
def Signed (S : List api_Seal) (g : List Int) : Prop := g.Nodup ∧ ∀ q, q ∈ g ↔ (51 ≤ q ∧ q ≤ 53) ∧ ∃ s ∈ S, s.Key = q
theorem signed_count {sg : Int} {S : List api_Seal} {g : List Int} {n : Int} (h : SealsOK sg S) (hg : Signed S g) : (S.filter (okS ⟨seK, n⟩ sg)).length = g.length := by
  have e : (S.filter (okS ⟨seK, n⟩ sg)).length = ((S.filter (okS ⟨seK, n⟩ sg)).map (·.Key)).length := by rw [List.length_map]
  rw [e]
  have hnd : ((S.filter (okS ⟨seK, n⟩ sg)).map (·.Key)).Nodup := by
    refine List.pairwise_map.2 ((h.asc.sublist List.filter_sublist).imp fun hab => by omega)
  refine ((List.perm_ext_iff_of_nodup hnd hg.1).2 fun q => ?_).length_eq
  rw [hg.2 q, List.mem_map]
  have hk : ∀ q : Int, q ∈ seK ↔ 51 ≤ q ∧ q ≤ 53 := fun q => by unfold seK; simp; omega
  constructor
  · rintro ⟨s, hs, rfl⟩
    obtain ⟨h1, h2⟩ := List.mem_filter.1 hs
    unfold okS at h2
    rw [Bool.and_eq_true] at h2
    exact ⟨(hk _).1 (of_decide_eq_true h2.2), s, h1, rfl⟩
  · rintro ⟨h1, s, hs, rfl⟩
    refine ⟨s, List.mem_filter.2 ⟨hs, ?_⟩, rfl⟩
    unfold okS
    rw [Bool.and_eq_true]
    exact ⟨decide_eq_true (h.all s hs).1, decide_eq_true ((hk _).2 h1)⟩
theorem signed_valid {x : api_Exception} {g : List Int} {n : Int} (hx : BaseX x) (h : SealsOK (sumS (excB x)) x.Seals) (hg : Signed x.Seals g) (hn : 1 ≤ n) : g_exception_Valid x ⟨seK, n⟩ = some (decide (n ≤ (g.length : Int))) := by
  have hl := h.len
  rw [valid_ok (h.check hx) (by rw [hx.nam]; decide) hn (by show 3 ≤ 1000; omega) (by omega) h.asc, signed_count h hg]
def addG (g : List Int) (k : Int) : List Int := bif decide (51 ≤ k) && decide (k ≤ 53) && !g.any (fun q => decide (q = k)) then g ++ [k] else g
theorem signed_add {S S' : List api_Seal} {g : List Int} {k : Int} (hg : Signed S g) (hS : ∀ q, (∃ s ∈ S', s.Key = q) ↔ q = k ∨ ∃ s ∈ S, s.Key = q) : Signed S' (addG g k) := by
  unfold addG
  by_cases h1 : 51 ≤ k ∧ k ≤ 53
  · rw [decide_eq_true h1.1, decide_eq_true h1.2, Bool.true_and, Bool.true_and]
    cases ha : g.any (fun q => decide (q = k)) with
    | true =>
      obtain ⟨q, hq, hqk⟩ := List.any_eq_true.1 ha
      have hqk := of_decide_eq_true hqk
      subst hqk
      refine ⟨hg.1, fun z => ?_⟩
      show z ∈ g ↔ _
      rw [hS z, hg.2 z]
      constructor
      · rintro ⟨a, b⟩
        exact ⟨a, .inr b⟩
      · rintro ⟨a, rfl | b⟩
        · exact (hg.2 z).1 hq
        · exact ⟨a, b⟩
    | false =>
      have hn : k ∉ g := fun hk => by
        have : g.any (fun q => decide (q = k)) = true := List.any_eq_true.2 ⟨k, hk, decide_eq_true rfl⟩
        rw [ha] at this; cases this
      refine ⟨?_, fun z => ?_⟩
      · show (g ++ [k]).Nodup
        refine List.nodup_append.2 ⟨hg.1, by simp, fun a ha' b hb e => ?_⟩
        rw [List.mem_singleton.1 hb] at e
        exact hn (e ▸ ha')
      · show z ∈ g ++ [k] ↔ _
        rw [List.mem_append, List.mem_singleton, hS z, hg.2 z]
        constructor
        · rintro (⟨a, b⟩ | rfl)
          · exact ⟨a, .inr b⟩
          · exact ⟨h1, .inl rfl⟩
        · rintro ⟨a, rfl | b⟩
          · exact .inr rfl
          · exact .inl ⟨a, b⟩
  · have e : (decide (51 ≤ k) && decide (k ≤ 53)) = false := by
      by_cases h2 : 51 ≤ k
      · rw [decide_eq_true h2, decide_eq_false (by omega)]; rfl
      · rw [decide_eq_false h2]; rfl
    rw [e, Bool.false_and]
    refine ⟨hg.1, fun z => ?_⟩
    show z ∈ g ↔ _
    rw [hS z, hg.2 z]
    constructor
    · rintro ⟨a, b⟩
      exact ⟨a, .inr b⟩
    · rintro ⟨a, rfl | b⟩
      · exact absurd a h1
      · exact ⟨a, b⟩
theorem signed_nil : Signed [] [] := ⟨.nil, fun q => by simp⟩
theorem seals_nil {sg : Int} : SealsOK sg [] := ⟨fun s h => (by cases h), .nil⟩
end Go.Proofs.Ytmihjbejflcgkaa
