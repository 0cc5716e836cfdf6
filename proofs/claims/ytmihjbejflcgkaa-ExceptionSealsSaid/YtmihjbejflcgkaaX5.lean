/- Exceptions: the law of seals, itself. No program is in sight here. -/
import Derived.Test.YtmihjbejflcgkaaX4
set_option linter.unusedVariables false
set_option linter.unusedSimpArgs false
namespace Go.Proofs.Ytmihjbejflcgkaa
open Go
theorem of_ok {d : cipherplanmake_Dice} (h : DOK d) (l : List Int) (hl : 1 ≤ l.length) (hl2 : l.length ≤ 1000) : Ok (g_make_Dice_Of d l) (fun y => y.1 ∈ l ∧ DOK y.2) := by
  unfold g_make_Dice_Of
  refine Ok.bind (next_ok h _ (by omega) (by omega)) fun y hy => ?_
  refine Ok.bind (getI_mem (by omega) (by omega)) fun e he => ?_
  exact Ok.ret ⟨he, hy.2⟩
theorem size_spec {d : cipherplanmake_Dice} (hd : DOK d) {a : Int} (ha : 1 ≤ a ∧ a ≤ 22) : Ok (g_make_size d a) (fun y => decide (0 < strS ⟨a, y.1⟩) = true ∧ DOK y.2) := by
  rcases alg_cases ha with rfl | rfl | rfl | rfl | rfl | rfl | rfl | rfl | rfl | rfl | rfl | rfl | rfl | rfl | rfl | rfl | rfl | rfl | rfl | rfl | rfl | rfl
  · show Ok (some ((0 : Int), d)) _
    exact Ok.ret ⟨show decide (0 < strS ⟨1, 0⟩) = true by decide +kernel, hd⟩
  · show Ok (some ((0 : Int), d)) _
    exact Ok.ret ⟨show decide (0 < strS ⟨2, 0⟩) = true by decide +kernel, hd⟩
  · show Ok (some ((0 : Int), d)) _
    exact Ok.ret ⟨show decide (0 < strS ⟨3, 0⟩) = true by decide +kernel, hd⟩
  · show Ok (some ((0 : Int), d)) _
    exact Ok.ret ⟨show decide (0 < strS ⟨4, 0⟩) = true by decide +kernel, hd⟩
  · show Ok ((g_make_Dice_Of d ([2048, 1024, 512, 3072, 1023, 4096, 16384] : List Int)).bind fun y => some (y.1, y.2)) _
    refine Ok.bind (of_ok hd _ (by decide) (by decide)) fun y hy => Ok.ret ⟨?_, hy.2⟩
    have h := hy.1
    simp only [List.mem_cons, List.not_mem_nil, or_false] at h
    show decide (0 < strS ⟨5, y.1⟩) = true
    rcases h with e | e | e | e | e | e | e <;> rw [e] <;> decide +kernel
  · show Ok ((g_make_Dice_Of d ([2048, 1024, 512, 3072, 1023, 4096, 16384] : List Int)).bind fun y => some (y.1, y.2)) _
    refine Ok.bind (of_ok hd _ (by decide) (by decide)) fun y hy => Ok.ret ⟨?_, hy.2⟩
    have h := hy.1
    simp only [List.mem_cons, List.not_mem_nil, or_false] at h
    show decide (0 < strS ⟨6, y.1⟩) = true
    rcases h with e | e | e | e | e | e | e <;> rw [e] <;> decide +kernel
  · show Ok ((g_make_Dice_Of d ([256, 160, 224, 384, 521] : List Int)).bind fun y => some (y.1, y.2)) _
    refine Ok.bind (of_ok hd _ (by decide) (by decide)) fun y hy => Ok.ret ⟨?_, hy.2⟩
    have h := hy.1
    simp only [List.mem_cons, List.not_mem_nil, or_false] at h
    show decide (0 < strS ⟨7, y.1⟩) = true
    rcases h with e | e | e | e | e <;> rw [e] <;> decide +kernel
  · show Ok (some ((0 : Int), d)) _
    exact Ok.ret ⟨show decide (0 < strS ⟨8, 0⟩) = true by decide +kernel, hd⟩
  · show Ok ((g_make_Dice_Of d ([65, 44, 87] : List Int)).bind fun y => some (y.1, y.2)) _
    refine Ok.bind (of_ok hd _ (by decide) (by decide)) fun y hy => Ok.ret ⟨?_, hy.2⟩
    have h := hy.1
    simp only [List.mem_cons, List.not_mem_nil, or_false] at h
    show decide (0 < strS ⟨9, y.1⟩) = true
    rcases h with e | e | e <;> rw [e] <;> decide +kernel
  · show Ok ((g_make_Dice_Of d ([2048, 1024, 512, 3072, 1023, 4096, 16384] : List Int)).bind fun y => some (y.1, y.2)) _
    refine Ok.bind (of_ok hd _ (by decide) (by decide)) fun y hy => Ok.ret ⟨?_, hy.2⟩
    have h := hy.1
    simp only [List.mem_cons, List.not_mem_nil, or_false] at h
    show decide (0 < strS ⟨10, y.1⟩) = true
    rcases h with e | e | e | e | e | e | e <;> rw [e] <;> decide +kernel
  · show Ok ((g_make_Dice_Of d ([2048, 1024, 512, 3072, 1023, 4096, 16384] : List Int)).bind fun y => some (y.1, y.2)) _
    refine Ok.bind (of_ok hd _ (by decide) (by decide)) fun y hy => Ok.ret ⟨?_, hy.2⟩
    have h := hy.1
    simp only [List.mem_cons, List.not_mem_nil, or_false] at h
    show decide (0 < strS ⟨11, y.1⟩) = true
    rcases h with e | e | e | e | e | e | e <;> rw [e] <;> decide +kernel
  · show Ok ((g_make_Dice_Of d ([256, 160, 224, 384, 521] : List Int)).bind fun y => some (y.1, y.2)) _
    refine Ok.bind (of_ok hd _ (by decide) (by decide)) fun y hy => Ok.ret ⟨?_, hy.2⟩
    have h := hy.1
    simp only [List.mem_cons, List.not_mem_nil, or_false] at h
    show decide (0 < strS ⟨12, y.1⟩) = true
    rcases h with e | e | e | e | e <;> rw [e] <;> decide +kernel
  · show Ok ((g_make_Dice_Of d ([768, 512, 1024] : List Int)).bind fun y => some (y.1, y.2)) _
    refine Ok.bind (of_ok hd _ (by decide) (by decide)) fun y hy => Ok.ret ⟨?_, hy.2⟩
    have h := hy.1
    simp only [List.mem_cons, List.not_mem_nil, or_false] at h
    show decide (0 < strS ⟨13, y.1⟩) = true
    rcases h with e | e | e <;> rw [e] <;> decide +kernel
  · show Ok ((g_make_Dice_Of d ([128, 40] : List Int)).bind fun y => some (y.1, y.2)) _
    refine Ok.bind (of_ok hd _ (by decide) (by decide)) fun y hy => Ok.ret ⟨?_, hy.2⟩
    have h := hy.1
    simp only [List.mem_cons, List.not_mem_nil, or_false] at h
    show decide (0 < strS ⟨14, y.1⟩) = true
    rcases h with e | e <;> rw [e] <;> decide +kernel
  · show Ok ((g_make_Dice_Of d ([168, 112] : List Int)).bind fun y => some (y.1, y.2)) _
    refine Ok.bind (of_ok hd _ (by decide) (by decide)) fun y hy => Ok.ret ⟨?_, hy.2⟩
    have h := hy.1
    simp only [List.mem_cons, List.not_mem_nil, or_false] at h
    show decide (0 < strS ⟨15, y.1⟩) = true
    rcases h with e | e <;> rw [e] <;> decide +kernel
  · show Ok ((g_make_Dice_Of d ([128, 256] : List Int)).bind fun y => some (y.1, y.2)) _
    refine Ok.bind (of_ok hd _ (by decide) (by decide)) fun y hy => Ok.ret ⟨?_, hy.2⟩
    have h := hy.1
    simp only [List.mem_cons, List.not_mem_nil, or_false] at h
    show decide (0 < strS ⟨16, y.1⟩) = true
    rcases h with e | e <;> rw [e] <;> decide +kernel
  · show Ok ((g_make_Dice_Of d ([128, 256] : List Int)).bind fun y => some (y.1, y.2)) _
    refine Ok.bind (of_ok hd _ (by decide) (by decide)) fun y hy => Ok.ret ⟨?_, hy.2⟩
    have h := hy.1
    simp only [List.mem_cons, List.not_mem_nil, or_false] at h
    show decide (0 < strS ⟨17, y.1⟩) = true
    rcases h with e | e <;> rw [e] <;> decide +kernel
  · show Ok (some ((0 : Int), d)) _
    exact Ok.ret ⟨show decide (0 < strS ⟨18, 0⟩) = true by decide +kernel, hd⟩
  · show Ok (some ((0 : Int), d)) _
    exact Ok.ret ⟨show decide (0 < strS ⟨19, 0⟩) = true by decide +kernel, hd⟩
  · show Ok (some ((0 : Int), d)) _
    exact Ok.ret ⟨show decide (0 < strS ⟨20, 0⟩) = true by decide +kernel, hd⟩
  · show Ok (some ((0 : Int), d)) _
    exact Ok.ret ⟨show decide (0 < strS ⟨21, 0⟩) = true by decide +kernel, hd⟩
  · show Ok (some ((0 : Int), d)) _
    exact Ok.ret ⟨show decide (0 < strS ⟨22, 0⟩) = true by decide +kernel, hd⟩
theorem use_ok {d : cipherplanmake_Dice} (hd : DOK d) : Ok (g_make_Use d) (fun y => decide (0 < strS y.1) = true ∧ DOK y.2) := by
  unfold g_make_Use
  refine Ok.bind (next_ok hd 22 (by omega) (by omega)) fun y hy => ?_
  have := hy.1
  rw [W_id (by omega)]
  refine Ok.bind (size_spec hy.2 (by omega)) fun z hz => ?_
  exact Ok.ret ⟨hz.1, hz.2⟩
theorem xor_small : ∀ n ∈ List.range 100, 10 ≤ xorK .i64 ((n + 10 : Nat) : Int) 1 ∧ xorK .i64 ((n + 10 : Nat) : Int) 1 ≤ 109 ∧ xorK .i64 ((n + 10 : Nat) : Int) 1 ≠ ((n + 10 : Nat) : Int) := by decide +kernel
theorem ref_name_web : g_ref03_Name web = some true := by
  rw [ref_Name web (by decide), show nameS web = true by decide +kernel]
theorem law_ExceptionSeals (t : List Int) (keys : List UInt8) : g_law19_ExceptionSeals t keys = some true := by
  have h1 : g_law19_ExceptionSeals.j1 t keys true = some true := by unfold g_law19_ExceptionSeals.j1; rw [awake19]; rfl
  unfold g_law19_ExceptionSeals g_make_Light
  rw [Option.bind_some]
  by_cases hl : (t.length : Int) ≤ 400
  · rw [decide_eq_true hl, Bool.not_true, cond_false]
    by_cases hr : 8 < (keys.length : Int)
    · rw [decide_eq_true hr]; exact h1
    · rw [decide_eq_false hr]
      refine Ok.true_ ?_
      unfold g_law19_ExceptionSeals.j1
      rw [cond_false]
      refine Ok.bind (roll19 (by omega)) fun d hd => ?_
      unfold g_make_Owners
      rw [Option.bind_assoc]
      refine Ok.bind (next_ok hd 3 (by omega) (by omega)) fun y0 hy0 => ?_
      have b0 := hy0.1
      rw [Option.bind_some, W_id (x := 1 + y0.1) (by omega)]
      refine Ok.bind (use_ok hy0.2) fun y5 hy5 => ?_
      refine Ok.bind (next_ok hy5.2 100 (by omega) (by omega)) fun y6 hy6 => ?_
      have b6 := hy6.1
      rw [W_id (x := 10 + y6.1) (by omega)]
      obtain ⟨n, hn⟩ : ∃ n : Nat, y6.1 = (n : Int) := ⟨y6.1.toNat, by omega⟩
      have hto : 10 + y6.1 = ((n + 10 : Nat) : Int) := by omega
      generalize hN : 1 + y0.1 = N at *
      have hN1 : 1 ≤ N := by omega
      have base : ∀ (T : Int) (S : List api_Seal), 3 < T → T ≤ 1000 → BaseX ⟨y5.1, 1, web, ⟨3, T⟩, S⟩ := fun T S h1 h2 => ⟨hy5.1, rfl, rfl, ⟨rfl, h1, h2⟩⟩
      generalize hsg : sumS (excB ⟨y5.1, 1, web, ⟨3, ((n + 10 : Nat) : Int)⟩, []⟩) = sg
      have hsgS : ∀ S, sumS (excB ⟨y5.1, 1, web, ⟨3, ((n + 10 : Nat) : Int)⟩, S⟩) = sg := fun S => hsg
      rw [hto]
      refine Ok.loop (fun s : Bool × Int × api_Exception × List Int => ∃ (i : Nat) (S : List api_Seal), s.2.1 = (i : Int) ∧ i ≤ keys.length ∧ s.2.2.1 = ⟨y5.1, 1, web, ⟨3, ((n + 10 : Nat) : Int)⟩, S⟩ ∧ SealsOK sg S ∧ Signed S s.2.2.2 ∧ s.2.2.2.length ≤ i ∧ s.1 = decide (N ≤ (s.2.2.2.length : Int))) (fun s => keys.length - s.2.1.toNat) ?_ ⟨0, [], rfl, Nat.zero_le _, rfl, seals_nil, signed_nil, Nat.le_refl _, (decide_eq_false (by show ¬ N ≤ 0; omega)).symm⟩
      rintro ⟨was, _, _, g⟩ ⟨i, S, rfl, hi, rfl, hS, hg, hgl, hwas⟩
      dsimp only at hg hgl
      have hwas : was = decide (N ≤ (g.length : Int)) := hwas
      subst hwas
      show Ok (g_law19_ExceptionSeals.l2 keys (⟨seK, N⟩, y0.2) y5 y6 (decide (N ≤ (g.length : Int))) (i : Int) ⟨y5.1, 1, web, ⟨3, ((n + 10 : Nat) : Int)⟩, S⟩ g) _
      unfold g_law19_ExceptionSeals.l2
      refine Ok.cond (fun hb => ?_) (fun hb => ?_)
      · have hil : i < keys.length := by have := of_decide_eq_true hb; omega
        obtain ⟨e, he⟩ : ∃ e, keys[i]? = some e := ⟨_, List.getElem?_eq_getElem hil⟩
        have hq : remI (e.toNat : Int) 5 = some ((e.toNat % 5 : Nat) : Int) := by
          unfold remI
          rw [if_neg (by omega)]
          rfl
        have hq5 : e.toNat % 5 < 5 := Nat.mod_lt _ (by omega)
        generalize e.toNat % 5 = q at hq hq5
        rw [getI_nat, he, Option.bind_some, hq, Option.bind_some, W_id (x := 50 + (q : Int)) (by omega)]
        have hS' : SealsOK (sumS (excB ⟨y5.1, 1, web, ⟨3, ((n + 10 : Nat) : Int)⟩, S⟩)) S := by rw [hsgS]; exact hS
        refine Ok.bind (sign_ok (x := ⟨y5.1, 1, web, ⟨3, ((n + 10 : Nat) : Int)⟩, S⟩) (base _ _ (by omega) (by omega)) hS' (k := 50 + (q : Int)) (by omega)) fun y7 hy7 => ?_
        obtain ⟨z1, S2, z2, z3, z4⟩ := hy7
        obtain ⟨x7, e7⟩ := y7
        dsimp only at z1 z2
        subst z1
        subst z2
        rw [hsgS] at z3
        rw [decide_eq_true rfl, Bool.not_true, cond_false]
        generalize hk : 50 + (q : Int) = k at *
        have hga := addG_len (g := g) (k := k)
        have hgs := signed_add hg z4
        have z3' : SealsOK (sumS (excB ⟨y5.1, 1, web, ⟨3, ((n + 10 : Nat) : Int)⟩, S2⟩)) S2 := by rw [hsgS]; exact z3
        have J6 : ∀ g', g' = addG g k → Ok (g_law19_ExceptionSeals.j6 (⟨seK, N⟩, y0.2) (decide (N ≤ (g.length : Int))) (i : Int) (⟨y5.1, 1, web, ⟨3, ((n + 10 : Nat) : Int)⟩, S2⟩, 0) g') (Rd' (fun s' : Bool × Int × api_Exception × List Int => (∃ (i : Nat) (S : List api_Seal), s'.2.1 = (i : Int) ∧ i ≤ keys.length ∧ s'.2.2.1 = ⟨y5.1, 1, web, ⟨3, ((n + 10 : Nat) : Int)⟩, S⟩ ∧ SealsOK sg S ∧ Signed S s'.2.2.2 ∧ s'.2.2.2.length ≤ i ∧ s'.1 = decide (N ≤ (s'.2.2.2.length : Int))) ∧ keys.length - s'.2.1.toNat < keys.length - ((i : Int)).toNat) (fun r => r = true)) := by
          intro g' hg'
          subst hg'
          have hv := signed_valid (x := ⟨y5.1, 1, web, ⟨3, ((n + 10 : Nat) : Int)⟩, S2⟩) (n := N) (base _ _ (by omega) (by omega)) z3' hgs hN1
          unfold g_law19_ExceptionSeals.j6
          show Ok ((g_exception_Valid ⟨y5.1, 1, web, ⟨3, ((n + 10 : Nat) : Int)⟩, S2⟩ ⟨seK, N⟩).bind _) _
          rw [hv, Option.bind_some]
          have fin : Ok (g_law19_ExceptionSeals.j7 (i : Int) (⟨y5.1, 1, web, ⟨3, ((n + 10 : Nat) : Int)⟩, S2⟩, 0) (addG g k) (decide (N ≤ ((addG g k).length : Int))) (!decide (decide (N ≤ ((addG g k).length : Int)) = decide (N ≤ ((addG g k).length : Int))))) (Rd' (fun s' : Bool × Int × api_Exception × List Int => (∃ (i : Nat) (S : List api_Seal), s'.2.1 = (i : Int) ∧ i ≤ keys.length ∧ s'.2.2.1 = ⟨y5.1, 1, web, ⟨3, ((n + 10 : Nat) : Int)⟩, S⟩ ∧ SealsOK sg S ∧ Signed S s'.2.2.2 ∧ s'.2.2.2.length ≤ i ∧ s'.1 = decide (N ≤ (s'.2.2.2.length : Int))) ∧ keys.length - s'.2.1.toNat < keys.length - ((i : Int)).toNat) (fun r => r = true)) := by
            unfold g_law19_ExceptionSeals.j7
            rw [decide_eq_true rfl, Bool.not_true, cond_false, W_id (by omega)]
            exact Ok.ret ⟨⟨i + 1, S2, by show (i : Int) + 1 = _; omega, hil, rfl, z3, hgs, by show (addG g k).length ≤ i + 1; omega, rfl⟩, by show keys.length - ((i : Int) + 1).toNat < keys.length - ((i : Int)).toNat; omega⟩
          refine Ok.cond (fun hw => ?_) (fun _ => fin)
          have hw := of_decide_eq_true hw
          have hv2 : decide (N ≤ ((addG g k).length : Int)) = true := decide_eq_true (by omega)
          refine Ok.cond (fun hn2 => ?_) (fun _ => fin)
          rw [hv2] at hn2
          cases hn2
        have J3 : ∀ b, b = (decide (51 ≤ k) && decide (k ≤ 53)) → Ok (g_law19_ExceptionSeals.j3 (⟨seK, N⟩, y0.2) (decide (N ≤ (g.length : Int))) (i : Int) g (q : Int) (⟨y5.1, 1, web, ⟨3, ((n + 10 : Nat) : Int)⟩, S2⟩, 0) b) (Rd' (fun s' : Bool × Int × api_Exception × List Int => (∃ (i : Nat) (S : List api_Seal), s'.2.1 = (i : Int) ∧ i ≤ keys.length ∧ s'.2.2.1 = ⟨y5.1, 1, web, ⟨3, ((n + 10 : Nat) : Int)⟩, S⟩ ∧ SealsOK sg S ∧ Signed S s'.2.2.2 ∧ s'.2.2.2.length ≤ i ∧ s'.1 = decide (N ≤ (s'.2.2.2.length : Int))) ∧ keys.length - s'.2.1.toNat < keys.length - ((i : Int)).toNat) (fun r => r = true)) := by
          intro b hb
          unfold g_law19_ExceptionSeals.j3
          refine Ok.cond (fun h => ?_) (fun h => ?_)
          · rw [h] at hb
            refine Ok.loop (fun s : Bool × Int => ∃ m : Nat, s.2 = (m : Int) ∧ m ≤ g.length ∧ s.1 = (g.take m).any fun z => decide (z = k)) (fun s => g.length - s.2.toNat) ?_ ⟨0, rfl, Nat.zero_le _, rfl⟩
            rintro ⟨_, _⟩ ⟨m, rfl, hm, rfl⟩
            show Ok (g_law19_ExceptionSeals.l4 (⟨seK, N⟩, y0.2) (decide (N ≤ (g.length : Int))) (i : Int) g (q : Int) (⟨y5.1, 1, web, ⟨3, ((n + 10 : Nat) : Int)⟩, S2⟩, 0) ((g.take m).any fun z => decide (z = k)) (m : Int)) _
            unfold g_law19_ExceptionSeals.l4
            rw [W_id (x := 50 + (q : Int)) (by omega), hk]
            refine Ok.cond (fun hb2 => ?_) (fun hb2 => ?_)
            · have hml : m < g.length := by have := of_decide_eq_true hb2; omega
              obtain ⟨z, hz⟩ : ∃ z, g[m]? = some z := ⟨_, List.getElem?_eq_getElem hml⟩
              unfold g_law19_ExceptionSeals.j5
              rw [W_id (by omega)]
              refine Ok.cond (fun h1 => ?_) (fun h1 => ?_)
              · exact Ok.ret ⟨⟨m + 1, by show (m : Int) + 1 = _; omega, hml, by show true = _; rw [take_succ' hz, List.any_append, h1]; rfl⟩, by show g.length - ((m : Int) + 1).toNat < g.length - ((m : Int)).toNat; omega⟩
              · rw [getI_nat, hz, Option.bind_some]
                exact Ok.ret ⟨⟨m + 1, by show (m : Int) + 1 = _; omega, hml, by show decide (z = k) = _; rw [take_succ' hz, List.any_append, h1]; simp⟩, by show g.length - ((m : Int) + 1).toNat < g.length - ((m : Int)).toNat; omega⟩
            · have hml : m = g.length := by have := of_decide_eq_false hb2; omega
              subst hml
              rw [List.take_length]
              refine Ok.up (Ok.cond (fun h1 => ?_) (fun h1 => ?_))
              · refine Ok.bind (appI_ok' (by rw [List.length_singleton]; omega)) fun l' hl' => ?_
                subst hl'
                refine J6 _ ?_
                unfold addG
                rw [← hb, h1]; rfl
              · refine J6 _ ?_
                unfold addG
                rw [← hb, h1]; rfl
          · rw [h] at hb
            refine J6 _ ?_
            unfold addG
            rw [← hb]; rfl
        refine Ok.cond (fun h => J3 _ (by rw [h]; rfl)) (fun h => J3 _ (by rw [h]; rfl))
      · refine Ok.up ?_
        obtain ⟨w1, w2, w3⟩ := xor_small n (List.mem_range.2 (by omega))
        have hS' : SealsOK (sumS (excB ⟨y5.1, 1, web, ⟨3, ((n + 10 : Nat) : Int)⟩, S⟩)) S := by rw [hsgS]; exact hS
        have hSl := hS.len
        rw [SealsOK.check (x := ⟨y5.1, 1, web, ⟨3, ((n + 10 : Nat) : Int)⟩, S⟩) (base _ _ (by omega) (by omega)) hS', Option.bind_some, decide_eq_true rfl, cond_true, W_id (x := 10 + y6.1) (by omega), hto]
        obtain ⟨m, hm⟩ : ∃ m : Nat, xorK .i64 ((n + 10 : Nat) : Int) 1 = (m : Int) := ⟨(xorK .i64 ((n + 10 : Nat) : Int) 1).toNat, by omega⟩
        rw [hm] at w1 w2 w3 ⊢
        have hcy : g_exception_Check ⟨y5.1, 1, web, ⟨3, (m : Int)⟩, S⟩ = some 0 := SealsOK.check (x := ⟨y5.1, 1, web, ⟨3, (m : Int)⟩, S⟩) (base _ _ (by omega) (by omega)) hS'
        show Ok ((g_exception_Check ⟨y5.1, 1, web, ⟨3, (m : Int)⟩, S⟩).bind _) _
        rw [hcy, Option.bind_some, decide_eq_true rfl, cond_true]
        show Ok ((g_exception_Valid ⟨y5.1, 1, web, ⟨3, (m : Int)⟩, S⟩ ⟨seK, N⟩).bind _) _
        have hne : sumS (excB ⟨y5.1, 1, web, ⟨3, (m : Int)⟩, S⟩) ≠ sg := by
          rw [← hsg]
          exact sum_other (n := m) (m := n + 10) (by omega) (by omega) rfl rfl rfl rfl rfl rfl (by omega)
        have hz : S.filter (okS ⟨seK, N⟩ (sumS (excB ⟨y5.1, 1, web, ⟨3, (m : Int)⟩, S⟩))) = [] := by
          rw [List.filter_eq_nil_iff]
          intro s hs
          unfold okS
          rw [(hS.all s hs).1, decide_eq_false (fun e => hne e.symm)]
          simp
        rw [valid_ok (x := ⟨y5.1, 1, web, ⟨3, (m : Int)⟩, S⟩) hcy (by show web.size ≤ 32; decide) hN1 (by show 3 ≤ 1000; omega) (by show S.length ≤ 100; omega) hS.asc, Option.bind_some]
        show Ok (cond (!decide (N ≤ ((S.filter (okS ⟨seK, N⟩ (sumS (excB ⟨y5.1, 1, web, ⟨3, (m : Int)⟩, S⟩)))).length : Int))) _ _) _
        rw [hz, decide_eq_false (by show ¬ N ≤ 0; omega), Bool.not_false, cond_true]
        show Ok ((g_ref03_Name web).bind _) _
        rw [ref_name_web, Option.bind_some, cond_true, awake19, Option.bind_some]
        exact Ok.ret rfl
  · rw [decide_eq_false hl, Bool.not_false, cond_true]; exact h1
end Go.Proofs.Ytmihjbejflcgkaa
