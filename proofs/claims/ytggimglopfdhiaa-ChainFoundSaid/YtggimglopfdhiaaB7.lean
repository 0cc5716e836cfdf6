/- ChainFound: the plain law. No program is in sight here. -/
import Derived.Test.YtggimglopfdhiaaB6
import Derived.Test.YtggimglopfdhiaaOW
set_option linter.unusedVariables false
set_option linter.unusedSimpArgs false
namespace Go.Proofs.Ytggimglopfdhiaa
open Go
theorem found_l4 {pool : List api_Certificate} {y : List api_Certificate × Int} {i : Nat} {c : api_Certificate} (hp : AllC pool) (hpl : pool.length ≤ 8) (hc : y.1[i]? = some c) (hm : c ∈ pool) (hi : i < 100) : ∀ s : Bool × Int, (∃ k : Nat, s.2 = (k : Int) ∧ k ≤ pool.length ∧ s.1 = (pool.take k).any fun e => decide (e = c)) →
    Ok (g_law04_ChainFound.l4 pool y (i : Int) s.1 s.2) (Rd' (fun s' => (∃ k : Nat, s'.2 = (k : Int) ∧ k ≤ pool.length ∧ s'.1 = (pool.take k).any fun e => decide (e = c)) ∧ (20 - s'.2.toNat : Nat) < 20 - s.2.toNat) (fun r : Lp Int Bool => r = .next ((i + 1 : Nat) : Int))) := by
  rintro ⟨found, q⟩ ⟨k, hk1, hk2, hk3⟩
  dsimp only at hk1 hk3
  subst hk1
  unfold g_law04_ChainFound.l4
  refine Ok.cond (fun hlt => ?_) (fun hlt => ?_)
  · have hlt : k < pool.length := by have := of_decide_eq_true hlt; omega
    have step : ∀ b, b = (pool.take (k + 1)).any (fun e => decide (e = c)) → Ok (g_law04_ChainFound.j5 (k : Int) b) (Rd' (fun s' => (∃ k : Nat, s'.2 = (k : Int) ∧ k ≤ pool.length ∧ s'.1 = (pool.take k).any fun e => decide (e = c)) ∧ (20 - s'.2.toNat : Nat) < 20 - (k : Int).toNat) (fun r : Lp Int Bool => r = .next ((i + 1 : Nat) : Int))) := fun b hb => by
      unfold g_law04_ChainFound.j5
      refine Ok.ret ⟨⟨k + 1, W_succ (by omega), hlt, hb⟩, ?_⟩
      show 20 - (W ((k : Int) + 1)).toNat < _
      rw [W_succ (by omega)]
      omega
    have hx : pool[k]? = some pool[k] := List.getElem?_eq_getElem hlt
    have ht : (pool.take (k + 1)).any (fun e => decide (e = c)) = (found || decide (pool[k] = c)) := by
      rw [take_succ' hx, List.any_append, ← hk3]
      simp
    refine Ok.cond (fun hf => step _ (by have hf : found = true := hf; rw [ht, hf]; rfl)) (fun hf => ?_)
    have hf : found = false := hf
    have hgi : getI pool (k : Int) = some pool[k] := by rw [getI_nat, hx]
    have hgc : getI y.1 (i : Int) = some c := by rw [getI_nat, hc]
    refine Ok.bindE hgi ?_
    refine Ok.bindE hgc ?_
    have hn := (hp _ (List.mem_of_getElem? hx)).names
    refine Ok.bindE (ref_Same _ _ (by unfold Lo; omega)) ?_
    exact step _ (by rw [ht, hf]; rfl)
  · have hk : k = pool.length := by have := of_decide_eq_false hlt; omega
    subst hk
    rw [List.take_length] at hk3
    have : found = true := by
      rw [hk3]
      exact List.any_eq_true.2 ⟨c, hm, decide_eq_true rfl⟩
    rw [this]
    refine Ok.up ?_
    refine Ok.ret ?_
    rw [W_succ (by omega)]
theorem found_l3 {pool : List api_Certificate} {y : List api_Certificate × Int} (hp : AllC pool) (hpl : pool.length ≤ 8) (hy : y.1.length ≤ 20) (hm : ∀ i c, 1 ≤ i → y.1[i]? = some c → c ∈ pool) : Ok (loop (fun q' => g_law04_ChainFound.l3 pool y q') 1) (fun r => r = true) := by
  refine Ok.loop (fun q => ∃ i : Nat, q = (i : Int) ∧ 1 ≤ i ∧ i ≤ 60) (fun q => 200 - q.toNat) ?_ ⟨1, rfl, Nat.le_refl _, by omega⟩
  rintro q ⟨i, rfl, h1, h2⟩
  show Ok (g_law04_ChainFound.l3 pool y (i : Int)) _
  unfold g_law04_ChainFound.l3
  refine Ok.cond (fun hlt => ?_) (fun _ => Ok.up awakeOk)
  have hlt : i < y.1.length := by have := of_decide_eq_true hlt; omega
  have hx : y.1[i]? = some y.1[i] := List.getElem?_eq_getElem hlt
  refine (Ok.loop (fun s : Bool × Int => ∃ k : Nat, s.2 = (k : Int) ∧ k ≤ pool.length ∧ s.1 = (pool.take k).any fun e => decide (e = y.1[i])) (fun s => 20 - s.2.toNat) (found_l4 hp hpl hx (hm i _ h1 hx) (by omega)) ⟨0, rfl, Nat.zero_le _, rfl⟩).mono fun r hr => ?_
  subst hr
  exact ⟨⟨i + 1, rfl, by omega, by omega⟩, by omega⟩
theorem drop_one {α : Type} (l : List α) (n : Int) (h : n = (l.length : Int)) : (l.drop ((1 : Int).toNat)).take (n.toNat - (1 : Int).toNat) = l.drop 1 := by
  subst h
  apply List.take_of_length_le
  rw [List.length_drop]; omega
theorem law_ChainFound (x0 : (List Int)) (hok : okVs [.sl 1 (encL eI x0)]) : g_law04_ChainFound x0 = some true := by
  refine Ok.true_ ?_
  unfold g_law04_ChainFound g_make_Light
  rw [Option.bind_some]
  refine Ok.cond (fun _ => awakeOk) fun hb => ?_
  have hl : x0.length ≤ 400 := by
    have := of_decide_eq_true (by simpa using hb)
    omega
  refine Ok.bind (roll_ok hl) fun d hd => ?_
  refine Ok.bind (key_ok hd) fun y4 h4 => ?_
  refine Ok.bind (chain_ok h4.2 (by decide) h4.1 ⟨by decide, by decide⟩) fun y5 h5 => ?_
  refine Ok.bind (key_ok h5.2) fun y6 h6 => ?_
  refine Ok.bind (chain_ok h6.2 (by decide) h6.1 ⟨by decide, by decide⟩) fun y7 h7 => ?_
  obtain ⟨⟨a1, a2, a3⟩, ad⟩ := h5
  obtain ⟨⟨b1, b2, b3⟩, bd⟩ := h7
  refine Ok.bind (slI_ok (by omega)) fun l2 _ => ?_
  rw [drop_one _ _ rfl]
  refine Ok.bind (appI_ok' (by simp; omega)) fun l3 hl3 => ?_
  refine Ok.bind (appI_ok' (by subst hl3; simp; omega)) fun l4 hl4 => ?_
  refine Ok.bind (slI_ok (by omega)) fun l5 _ => ?_
  rw [drop_one _ _ rfl]
  have e4 : l4 = y7.1.drop 1 := by rw [hl4, hl3]; rfl
  subst e4
  refine Ok.bind (appI_ok' (by simp; omega)) fun pool hpool => ?_
  refine Ok.bind (of_ok bd _ (by decide) (by decide)) fun y8 h8 => ?_
  obtain ⟨leaf, t, ht⟩ : ∃ leaf t, y5.1 = leaf :: t := by
    cases hq : y5.1 with
    | nil => rw [hq] at a1; exact absurd a1 (by decide)
    | cons a b => exact ⟨a, b, rfl⟩
  have hleaf : FitC leaf := a3 leaf (by rw [ht]; exact List.mem_cons_self ..)
  have htl : t.length ≤ 2 := by rw [ht] at a2; simp at a2; omega
  have hpool' : pool = y7.1.drop 1 ++ t := by rw [hpool, ht]; rfl
  have hpl : pool.length ≤ 4 := by rw [hpool']; simp; omega
  have hp : AllC pool := fun c hc => by
    rw [hpool'] at hc
    rcases List.mem_append.1 hc with hc | hc
    · exact b3 c (List.mem_of_mem_drop hc)
    · exact a3 c (by rw [ht]; exact List.mem_cons_of_mem _ hc)
  refine Ok.bindE (a := leaf) (by rw [getI_z, ht]; rfl) ?_
  unfold g_law04_hashes
  rw [Option.bind_some]
  have h12 : Lo ([1, 2] : List Int) := lo_small (by decide)
  have hh : Lo ([1, 2, 3, 4] : List Int) := lo_small (by decide)
  refine Ok.bind (chain_Build (day := y8.1) (name := (⟨#[119, 101, 98]⟩ : ByteArray)) hleaf hp (by omega) h12 hh) fun y11 h11 => ?_
  rw [Option.bind_some]
  refine Ok.bindE (chain_Check y5.1 _ _ y8.1 (⟨#[119, 101, 98]⟩ : ByteArray) h12 hh a3) ?_
  have short := fun h : checkS y5.1 [1, 2] [1, 2, 3, 4] y8.1 (⟨#[119, 101, 98]⟩ : ByteArray) = 0 => build_some (anchors := [1, 2]) (hashes := [1, 2, 3, 4]) (day := y8.1) (name := (⟨#[119, 101, 98]⟩ : ByteArray)) (leaf := leaf) (pool := pool) (t := t) (p := (y7.1.drop 1).length) (fun j c hj => by rw [hpool', List.getElem?_append_right (by omega)]; rw [show (y7.1.drop 1).length + j - (y7.1.drop 1).length = j by omega]; exact hj) (by rw [hpool']; simp) (by omega) (by rw [← ht]; exact h)
  cases hB : buildS (accS [1, 2] [1, 2, 3, 4] y8.1 (⟨#[119, 101, 98]⟩ : ByteArray)) pool leaf with
  | none =>
    rw [hB] at h11
    subst h11
    have hne : ¬ checkS y5.1 [1, 2] [1, 2, 3, 4] y8.1 (⟨#[119, 101, 98]⟩ : ByteArray) = 0 := fun h => by
      obtain ⟨x, hx, -⟩ := short h
      rw [hB] at hx; cases hx
    rw [show (!decide ((outS (none : Option (List api_Certificate))).2 = 0)) = true from rfl, cond_true, show decide ((outS (none : Option (List api_Certificate))).2 = 4) = true from rfl, cond_true, decide_eq_false hne]
    exact awakeOk
  | some x =>
    rw [hB] at h11
    subst h11
    obtain ⟨hax, hxl⟩ := build_all hleaf hp hB
    have hB' := hB
    unfold buildS at hB'
    obtain ⟨k, -, -, hk⟩ := firstO_some _ _ hB'
    obtain ⟨hacc, r, hr, -, hmem⟩ := extS_mem k hk
    have hacc : checkS x [1, 2] [1, 2, 3, 4] y8.1 (⟨#[119, 101, 98]⟩ : ByteArray) = 0 := of_decide_eq_true hacc
    have hx0 : x[0]? = some leaf := by rw [hr]; rfl
    rw [show (!decide ((outS (some x)).2 = 0)) = false from rfl, cond_false]
    show Ok (cond (decide ((x.length : Int) = 0)) _ _) _
    rw [decide_eq_false (by rw [hr]; simp; omega), cond_false]
    refine Ok.bindE (a := leaf) (by show getI x 0 = _; rw [getI_z]; exact hx0) ?_
    have hn := hleaf.names
    refine Ok.bindE (ref_Same leaf leaf (by unfold Lo; omega)) ?_
    rw [decide_eq_true rfl, show (!true) = false from rfl, cond_false, Option.bind_some]
    refine Ok.bindE (chain_Check x _ _ y8.1 (⟨#[119, 101, 98]⟩ : ByteArray) h12 hh hax) ?_
    rw [decide_eq_true hacc, show (!true) = false from rfl, cond_false]
    have fin : Ok (g_law04_ChainFound.j2 pool (outS (some x)) false) (fun r => r = true) := by
      unfold g_law04_ChainFound.j2
      rw [cond_false]
      exact found_l3 (y := outS (some x)) hp (by omega) hxl fun i c hi hc => by
        have hc : x[i]? = some c := hc
        rw [hr, List.getElem?_append_right (by simpa using hi)] at hc
        exact hmem c (List.mem_of_getElem? hc)
    refine Ok.cond (fun hc => ?_) (fun _ => fin)
    obtain ⟨x', hx', hle⟩ := short (of_decide_eq_true hc)
    rw [hB] at hx'
    injection hx' with hx'
    subst hx'
    rw [show decide ((y5.1.length : Int) < ((outS (some x)).1.length : Int)) = false from decide_eq_false (by rw [ht]; show ¬ (((leaf :: t).length : Nat) : Int) < (x.length : Int); simp; omega)]
    exact fin
end Go.Proofs.Ytggimglopfdhiaa
