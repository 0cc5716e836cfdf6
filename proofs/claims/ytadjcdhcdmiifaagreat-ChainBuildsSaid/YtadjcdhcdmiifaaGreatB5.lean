/- ChainBuilds: the plain law. No program is in sight here. -/
import Derived.Test.YtadjcdhcdmiifaaGreatB4
import Derived.Test.YtadjcdhcdmiifaaGreatOW
set_option linter.unusedVariables false
set_option linter.unusedSimpArgs false
namespace Go.Proofs.YtadjcdhcdmiifaaGreat
open Go

theorem both_Build {leaf : api_Certificate} {pool : List api_Certificate} {anchors hashes : List Int} {day : Int} {name : ByteArray} (hf : FitC leaf) (hp : AllC pool) (ha : Lo anchors) (hh : Lo hashes) :
    ∃ b, g_chain_Build leaf pool anchors hashes day name = some b ∧ g_ref04_Build leaf pool anchors hashes day name = some b ∧ AllC b.1 ∧ b.1.length ≤ 20 := by
  by_cases h8 : pool.length ≤ 8
  · obtain ⟨b, h1, rfl⟩ := chain_Build (day := day) (name := name) hf hp h8 ha hh
    obtain ⟨b, h2, rfl⟩ := ref_Build (day := day) (name := name) hf hp h8 ha hh
    refine ⟨_, h1, h2, ?_⟩
    cases ho : buildS (accS anchors hashes day name) pool leaf with
    | some o => exact build_all hf hp ho
    | none => exact ⟨(fun c hc => by cases hc), Nat.zero_le _⟩
  · refine ⟨([], 3), ?_, ?_, (fun c hc => by cases hc), Nat.zero_le _⟩
    · unfold g_chain_Build
      rw [decide_eq_true (by omega)]; rfl
    · unfold g_ref04_Build
      rw [decide_eq_true (by omega)]; rfl
theorem builds_j5 {y : List api_Certificate × cipherplanmake_Dice} {d : cipherplanmake_Dice} {pool : List api_Certificate} (h0 : 1 ≤ y.1.length) (hy : AllC y.1) (hd : DOK d) (hp : AllC pool) : Ok (g_law04_ChainBuilds.j5 y d pool) (fun r => r = true) := by
  unfold g_law04_ChainBuilds.j5
  refine Ok.bind (next_ok hd 3 (by omega) (by omega)) fun y8 h8 => ?_
  refine Ok.bind (getI_mem (by omega) (by show y8.1 < (3 : Int); omega)) fun e he => ?_
  have hea : Lo e := by
    simp only [List.mem_cons, List.not_mem_nil, or_false] at he
    rcases he with rfl | rfl | rfl <;> exact lo_small (by decide)
  refine Ok.bind (of_ok h8.2 _ (by decide) (by decide)) fun y9 h9 => ?_
  refine Ok.bind (getI_mem (by omega) (by omega)) fun leaf hleaf => ?_
  unfold g_law04_hashes
  rw [Option.bind_some]
  have h4 : Lo ([1, 2, 3, 4] : List Int) := lo_small (by decide)
  obtain ⟨b, b1, b2, b3, b4⟩ := both_Build (day := y9.1) (name := (⟨#[119, 101, 98]⟩ : ByteArray)) (hy leaf hleaf) hp hea h4
  refine Ok.bindE b1 ?_
  rw [Option.bind_some]
  refine Ok.bindE b2 ?_
  rw [decide_eq_true rfl, cond_true]
  refine Ok.bindE (ref_SameChain b3 b4) ?_
  rw [cond_true]
  exact awakeOk
theorem builds_j2 {y : List api_Certificate × cipherplanmake_Dice} {d : cipherplanmake_Dice} {pool : List api_Certificate} (odd : UInt8) (h0 : 1 ≤ y.1.length) (hy : AllC y.1) (hd : DOK d) (hp : AllC pool) : Ok (g_law04_ChainBuilds.j2 odd y d pool) (fun r => r = true) := by
  unfold g_law04_ChainBuilds.j2
  refine Ok.bind (slI_ok (by omega)) fun l4 hl4 => ?_
  obtain ⟨q, hq⟩ : ∃ q, rem8 odd (40 : UInt8) = some q := by
    unfold rem8
    exact ⟨_, rfl⟩
  refine Ok.bindE hq ?_
  have ht : ∀ n, AllC (pool.take n) := fun n c hc => hp c (List.mem_of_mem_take hc)
  refine Ok.cond (fun _ => ?_) (fun _ => builds_j5 h0 hy hd (ht _))
  refine Ok.loop (fun s => AllC s ∧ s.length ≤ 9) (fun s => 9 - s.length) (fun s hs => ?_) ⟨ht _, by rw [List.length_take]; omega⟩
  show Ok (g_law04_ChainBuilds.l4 y d s) _
  unfold g_law04_ChainBuilds.l4
  refine Ok.cond (fun hb => ?_) (fun _ => Ok.up (builds_j5 h0 hy hd hs.1))
  have hb := of_decide_eq_true hb
  refine Ok.bind (getI_mem (by omega) (by omega)) fun e he => ?_
  refine Ok.bind (appI_ok' (by simp; omega)) fun l5 hl5 => ?_
  subst hl5
  exact Ok.ret ⟨⟨hs.1.app (hy e he), by simp; omega⟩, by simp; omega⟩
theorem law_ChainBuilds (x0 : (List Int)) (x1 : UInt8) (hok : okVs [.sl 1 (encL eI x0), .val (.int .u8 (x1.toNat : Int))]) : g_law04_ChainBuilds x0 x1 = some true := by
  refine Ok.true_ ?_
  unfold g_law04_ChainBuilds g_make_Light
  rw [Option.bind_some]
  refine Ok.cond (fun _ => awakeOk) fun hb => ?_
  have hl : x0.length ≤ 400 := by
    have := of_decide_eq_true (by simpa using hb)
    omega
  refine Ok.bind (roll_ok hl) fun d hd => ?_
  refine Ok.bind (made_ok hd) fun y hy => ?_
  obtain ⟨⟨hlen, hall⟩, hd⟩ := hy
  refine Ok.cond (fun _ => awakeOk) fun h0 => ?_
  have h0 : 1 ≤ y.1.length := by have := of_decide_eq_false h0; omega
  refine Ok.loop (fun q => (0 ≤ q.1 ∧ q.1 + (q.2.length : Int) ≤ 3 ∧ q.1 < (y.1.length : Int)) ∧ AllC q.2) (fun q => q.1.toNat) (fun q hq => ?_) ⟨⟨by rw [W_id (by omega)]; omega, by rw [W_id (by omega)]; simp; omega, by rw [W_id (by omega)]; omega⟩, fun c hc => by cases hc⟩
  obtain ⟨i, pool⟩ := q
  obtain ⟨⟨q1, q2, q3⟩, hp⟩ := hq
  dsimp only at q1 q2 q3 hp
  show Ok (g_law04_ChainBuilds.l1 x1 y i pool) _
  unfold g_law04_ChainBuilds.l1
  refine Ok.cond (fun hb => ?_) (fun _ => Ok.up ?_)
  · have hb := of_decide_eq_true hb
    refine Ok.bind (getI_mem (by omega) (by omega)) fun e he => ?_
    refine Ok.bind (appI_ok' (by simp; omega)) fun l2 hl2 => ?_
    subst hl2
    rw [W_id (by omega)]
    exact Ok.ret ⟨⟨⟨by show 0 ≤ i - 1; omega, by simp; omega, by show i - 1 < _; omega⟩, hp.app (hall e he)⟩, by show (i - 1).toNat < i.toNat; omega⟩
  · refine Ok.bind (one_ok hd 2 (by omega) (by omega)) fun y6 h6 => ?_
    refine Ok.cond (fun _ => ?_) (fun _ => builds_j2 x1 h0 hall h6 hp)
    refine Ok.bind (made_ok h6) fun y7 h7 => ?_
    obtain ⟨⟨r1, r2⟩, h7⟩ := h7
    refine Ok.bind (appI_ok' (by omega)) fun l3 hl3 => ?_
    subst hl3
    exact builds_j2 x1 h0 hall h7 (fun c hc => by
      rcases List.mem_append.1 hc with hc | hc
      · exact hp c hc
      · exact r2 c hc)
end Go.Proofs.YtadjcdhcdmiifaaGreat
