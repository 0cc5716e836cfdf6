/- A chain is built: the program's answer is the reference's. No program is in sight here. -/
import Derived.Test.YtggimglopfdhiaaB0
import Derived.Test.YtggimglopfdhiaaB3
set_option linter.unusedVariables false
set_option linter.unusedSimpArgs false
namespace Go.Proofs.Ytggimglopfdhiaa
open Go
theorem cat_Copy {l : List api_Certificate} (hl : AllC l) (hlo : l.length ≤ 20) : g_certificate_Copy l = some l := by
  unfold g_certificate_Copy
  refine loop_path (body := fun q' => g_certificate_Copy.l1 l q'.1 q'.2) l.length (fun i => ((i : Int), l.take i)) l (fun i hi => ?_) ?_
  · obtain ⟨c, hc⟩ : ∃ c, l[i]? = some c := ⟨_, List.getElem?_eq_getElem hi⟩
    have hf := hl c (List.mem_of_getElem? hc)
    show g_certificate_Copy.l1 l (i : Int) (l.take i) = _
    unfold g_certificate_Copy.l1
    rw [for_in hc, sl_Clone_string _ hf.names, Option.bind_some, appI_ok (by simp; omega), Option.bind_some, W_succ (by omega), take_succ' hc]
  · show g_certificate_Copy.l1 l (l.length : Int) (l.take l.length) = _
    unfold g_certificate_Copy.l1
    rw [for_out, List.take_length]; rfl
def buildS (acc : List api_Certificate → Bool) (pool : List api_Certificate) (leaf : api_Certificate) : Option (List api_Certificate) :=
  firstO (fun k => extS acc pool k [leaf] (fun _ => false)) 0 (min (pool.length + 1) 8)
def outS (o : Option (List api_Certificate)) : List api_Certificate × Int := match o with
  | some x => (x, 0)
  | none => ([], 4)
section
variable {leaf : api_Certificate} {pool : List api_Certificate} {anchors hashes : List Int} {day : Int} {name : ByteArray}
theorem one_all (h : FitC leaf) : AllC [leaf] := fun c hc => by rw [List.mem_singleton.1 hc]; exact h
theorem chain_Build (hf : FitC leaf) (hp : AllC pool) (hpl : pool.length ≤ 8) (ha : Lo anchors) (hh : Lo hashes) :
    Ok (g_chain_Build leaf pool anchors hashes day name) (fun b => b = outS (buildS (accS anchors hashes day name) pool leaf)) := by
  unfold g_chain_Build
  rw [decide_eq_false (by omega), cond_false]
  refine Ok.loop (fun q => ∃ k : Nat, q = ((k + 1 : Nat) : Int) ∧ k ≤ min (pool.length + 1) 8 ∧ buildS (accS anchors hashes day name) pool leaf = firstO (fun k => extS (accS anchors hashes day name) pool k [leaf] (fun _ => false)) k (min (pool.length + 1) 8 - k)) (fun q => 20 - q.toNat) ?_ ⟨0, rfl, Nat.zero_le _, rfl⟩
  rintro q ⟨k, rfl, hk, he⟩
  show Ok (g_chain_Build.l1 leaf pool anchors hashes day name ((k + 1 : Nat) : Int)) _
  unfold g_chain_Build.l1
  rw [W_succ (by omega)]
  refine Ok.cond (fun hlt => ?_) (fun hlt => Ok.up (Ok.ret ?_))
  · have hlt : k < min (pool.length + 1) 8 := by have := of_decide_eq_true hlt; omega
    rw [firstO_step hlt] at he
    refine Ok.bindE (a := List.replicate pool.length false) (by unfold makI; rw [if_pos (by omega)]; simp) ?_
    have hW : ((k + 1 : Nat) : Int) = (([leaf].length + k : Nat) : Int) := by simp; omega
    obtain ⟨y, hy, h1, h2⟩ := chain_find (s := chain_search.mk pool anchors hashes day name) (n := k) (l := [leaf]) (used := List.replicate pool.length false) hp hpl ha hh (by simp) (by simp; omega) (by simp) (one_all hf)
    rw [extS_u (v := fun _ => false) k [leaf] (fun i hi => by
      unfold usedB
      rw [List.getElem?_replicate]
      split <;> rfl)] at h1
    have hacc : accF (chain_search.mk pool anchors hashes day name) = accS anchors hashes day name := rfl
    rw [hacc] at h1
    dsimp only at h1
    rw [hW]
    refine Ok.bindE hy ?_
    rw [← h1] at he
    unfold resF at he h1
    refine Ok.cond (fun hb => ?_) (fun hb => ?_)
    · rw [hb, cond_true] at he h1
      obtain ⟨q1, q2, -⟩ := extS_fit hp k (one_all hf) h1.symm
      refine Ok.bindE (cat_Copy q1 (by rw [q2]; simp; omega)) (Ok.up (Ok.ret ?_))
      rw [he]; rfl
    · rw [hb, cond_false] at he
      refine Ok.ret ⟨⟨k + 1, by rw [← hW, W_succ (by omega)], by omega, he⟩, ?_⟩
      rw [← hW, W_succ (by omega)]; omega
  · have hlt : ¬ k < min (pool.length + 1) 8 := by have := of_decide_eq_false hlt; omega
    rw [show min (pool.length + 1) 8 - k = 0 by omega] at he
    rw [he]; rfl
theorem build_all {o : List api_Certificate} (hf : FitC leaf) (hp : AllC pool) (h : buildS (accS anchors hashes day name) pool leaf = some o) : AllC o ∧ o.length ≤ 20 := by
  unfold buildS at h
  obtain ⟨k, -, h1, h2⟩ := firstO_some _ _ h
  obtain ⟨q1, q2, -⟩ := extS_fit hp k (one_all hf) h2
  exact ⟨q1, by rw [q2]; simp; omega⟩
end
end Go.Proofs.Ytggimglopfdhiaa
