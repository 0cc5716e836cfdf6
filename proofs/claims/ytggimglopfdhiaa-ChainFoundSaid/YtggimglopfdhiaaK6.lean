/- Chains: the program's answer is the reference's. No program is in sight here. -/
import Derived.Test.YtggimglopfdhiaaK5
import Derived.Test.YtggimglopfdhiaaL2
set_option linter.unusedVariables false
set_option linter.unusedSimpArgs false
namespace Go.Proofs.Ytggimglopfdhiaa
open Go
def sumS (b : List UInt8) : Int := W (b.foldl (fun s e => IntKind.wrap .u32 ((xorK .u32 s (IntKind.wrap .u32 (e.toNat : Int))) * 16777619)) 2166136261)
theorem cat_Sum (b : List UInt8) (h : Lo b) : g_certificate_Sum b = some (sumS b) := by
  unfold g_certificate_Sum
  refine loop_fold (body := fun q' => g_certificate_Sum.l1 b q'.1 q'.2) b _ 2166136261 W h (fun i x s hx => ?_) (fun s => ?_)
  · show g_certificate_Sum.l1 b s (i : Int) = _
    unfold g_certificate_Sum.l1; rw [for_in hx]
  · show g_certificate_Sum.l1 b s (b.length : Int) = _
    unfold g_certificate_Sum.l1; rw [for_out]; rfl
theorem ref_Sum (b : List UInt8) (h : Lo b) : g_ref03_Sum b = some (sumS b) := by
  unfold g_ref03_Sum
  refine loop_fold (body := fun q' => g_ref03_Sum.l1 b q'.1 q'.2) b _ 2166136261 W h (fun i x s hx => ?_) (fun s => ?_)
  · show g_ref03_Sum.l1 b s (i : Int) = _
    unfold g_ref03_Sum.l1; rw [for_in hx]
  · show g_ref03_Sum.l1 b s (b.length : Int) = _
    unfold g_ref03_Sum.l1; rw [for_out]; rfl
theorem encS_len (v : api_Value) : (encS v).1.length ≤ 4096 := by
  unfold encS
  split
  · split
    · exact Nat.zero_le _
    · split
      · exact Nat.zero_le _
      · simp; omega
  · exact Nat.zero_le _
theorem bytesS_len (c : api_Certificate) : (bytesS c).1.length ≤ 4096 := by
  unfold bytesS
  cases certS c with
  | false => exact Nat.zero_le _
  | true => exact encS_len _
theorem bytesS_lo (c : api_Certificate) : Lo (bytesS c).1 := by
  have := bytesS_len c
  unfold Lo; omega
def sealS (c : api_Certificate) (key : Int) : Bool := decide ((bytesS c).2 = 0) && (decide (c.Seal.Key = key) && decide (c.Seal.Sum = sumS (bytesS c).1))
theorem cat_Sealed (c : api_Certificate) (hf : FitC c) (key : Int) : g_certificate_Sealed c key = some (sealS c key) := by
  unfold g_certificate_Sealed sealS
  rw [cat_Bytes c hf, Option.bind_some, cat_Sum _ (bytesS_lo c), Option.bind_some]
  generalize sumS (bytesS c).1 = x
  have e : decide (c.Seal = ⟨key, x⟩) = (decide (c.Seal.Key = key) && decide (c.Seal.Sum = x)) := by
    cases c.Seal; simp
  rw [e]
  cases decide ((bytesS c).2 = 0) <;> rfl
theorem sl_Index_int (s : List Int) (v : Int) (h : Lo s) : g_slices_Index_int s v = some (firstS s fun e => decide (v = e)) := by
  unfold g_slices_Index_int
  refine loop_first s _ h (fun i x hx => ?_) ?_ <;> show g_slices_Index_int.l1 _ _ _ = _ <;> unfold g_slices_Index_int.l1
  · rw [for_in hx]; cases decide (v = x) <;> rfl
  · rw [for_out]; rfl
theorem sl_Contains_int (s : List Int) (v : Int) (h : Lo s) : g_slices_Contains_int s v = some (s.any fun e => decide (v = e)) := by
  unfold g_slices_Contains_int
  rw [sl_Index_int s v h, Option.bind_some, firstS_any]
theorem sl_Index_string (s : List ByteArray) (v : ByteArray) (h : Lo s) : g_slices_Index_string s v = some (firstS s fun e => decide (v = e)) := by
  unfold g_slices_Index_string
  refine loop_first s _ h (fun i x hx => ?_) ?_ <;> show g_slices_Index_string.l1 _ _ _ = _ <;> unfold g_slices_Index_string.l1
  · rw [for_in hx]; cases decide (v = x) <;> rfl
  · rw [for_out]; rfl
theorem sl_Contains_string (s : List ByteArray) (v : ByteArray) (h : Lo s) : g_slices_Contains_string s v = some (s.any fun e => decide (v = e)) := by
  unfold g_slices_Contains_string
  rw [sl_Index_string s v h, Option.bind_some, firstS_any]
theorem sl_IndexFunc_c (s : List api_Certificate) (f : api_Certificate → Option Bool) (p : api_Certificate → Bool) (h : Lo s) (hf : ∀ x ∈ s, f x = some (p x)) : g_slices_IndexFunc_api_Certificate s f = some (firstS s p) := by
  unfold g_slices_IndexFunc_api_Certificate
  refine loop_first s _ h (fun i x hx => ?_) ?_ <;> show g_slices_IndexFunc_api_Certificate.l1 _ _ _ = _ <;> unfold g_slices_IndexFunc_api_Certificate.l1
  · rw [for_in hx, hf x (at_mem hx), Option.bind_some]; cases p x <;> rfl
  · rw [for_out]; rfl
theorem sl_ContainsFunc_c (s : List api_Certificate) (f : api_Certificate → Option Bool) (p : api_Certificate → Bool) (h : Lo s) (hf : ∀ x ∈ s, f x = some (p x)) : g_slices_ContainsFunc_api_Certificate s f = some (s.any p) := by
  unfold g_slices_ContainsFunc_api_Certificate
  rw [sl_IndexFunc_c s f p h hf, Option.bind_some, firstS_any]
def pathS (l : List api_Certificate) (i : Nat) : Bool := match l[i]? with
  | some c => decide (i = 0) || (c.Authority && decide ((i : Int) - 1 ≤ c.Path))
  | none => false
theorem chain_Path (l : List api_Certificate) (i : Nat) (hi : i < 4611686018427387904) : g_chain_Path l (i : Int) = some (pathS l i) := by
  unfold g_chain_Path g_chain_Path.j1 pathS
  rw [decide_eq_false (show ¬ (i : Int) < 0 by omega), cond_false]
  by_cases h : l.length ≤ i
  · rw [decide_eq_true (by omega), List.getElem?_eq_none h]; rfl
  · rw [decide_eq_false (by omega), cond_false]
    obtain ⟨c, hc⟩ : ∃ c, l[i]? = some c := ⟨_, List.getElem?_eq_getElem (by omega)⟩
    rw [getI_nat, hc, Option.bind_some]
    by_cases h0 : i = 0
    · subst h0; rfl
    · rw [decide_eq_false (by omega), cond_false, W_id (by omega)]
      dsimp only
      rw [decide_eq_false h0]
      cases c.Authority <;> rfl
def issB (l : List api_Certificate) (i : Nat) : Bool := match l[i]?, l[i + 1]? with
  | some a, some b => !decide (a.Issuer = b.Subject)
  | _, _ => false
def keyS (l : List api_Certificate) (i : Nat) : Int := match l[i + 1]? with
  | some d => d.KeyId
  | none => match l[i]? with
    | some c => c.Seal.Key
    | none => 0
def sealB (l : List api_Certificate) (i : Nat) : Bool := match l[i]? with
  | some c => !sealS c (keyS l i)
  | none => false
def placeB (e : Int) (l : List api_Certificate) (i : Nat) : Bool := if e = 11 then issB l i else if e = 15 then !pathS l i else sealB l i
def failS (e : Int) (l : List api_Certificate) : Bool := (List.range l.length).any (placeB e l)
theorem chain_fails (l : List api_Certificate) (e : Int) (hl : Lo l) (hf : ∀ c ∈ l, FitC c) : g_chain_fails l e = some (failS e l) := by
  unfold g_chain_fails failS
  unfold Lo at hl
  have key : ∀ (i : Nat) (b : Bool), g_chain_fails.j2 (i : Int) b = some (bif b then .done true else .next (W ((i : Int) + 1))) := by
    intro i b; cases b <;> rfl
  refine (loop_hasN l.length (placeB e l) true false hl (fun i hi => ?_) ?_).trans ?_
  · obtain ⟨c, hc⟩ : ∃ c, l[i]? = some c := ⟨_, List.getElem?_eq_getElem hi⟩
    show g_chain_fails.l1 l e (i : Int) = _
    unfold g_chain_fails.l1 placeB g_chain_sealer
    rw [decide_eq_true (by omega), cond_true]
    simp only [key]
    rw [W_succ (by omega), getI_nat, getI_nat, hc]
    have hn : decide (((i + 1 : Nat) : Int) < (l.length : Int)) = decide (i + 1 < l.length) := by
      by_cases h : i + 1 < l.length
      · rw [decide_eq_true h, decide_eq_true (by omega)]
      · rw [decide_eq_false h, decide_eq_false (by omega)]
    rw [hn]
    by_cases h1 : e = 11
    · rw [decide_eq_true h1, if_pos h1, cond_true]
      unfold issB
      rw [hc]
      by_cases h2 : i + 1 < l.length
      · obtain ⟨d, hd⟩ : ∃ d, l[i + 1]? = some d := ⟨_, List.getElem?_eq_getElem h2⟩
        rw [decide_eq_true h2, hd]; rfl
      · rw [decide_eq_false h2, List.getElem?_eq_none (by omega)]; rfl
    · rw [decide_eq_false h1, if_neg h1, cond_false]
      by_cases h3 : e = 15
      · rw [decide_eq_true h3, if_pos h3, cond_true, chain_Path l i (by omega)]; rfl
      · rw [decide_eq_false h3, if_neg h3, cond_false]
        unfold sealB keyS
        rw [hc]
        by_cases h2 : i + 1 < l.length
        · obtain ⟨d, hd⟩ : ∃ d, l[i + 1]? = some d := ⟨_, List.getElem?_eq_getElem h2⟩
          rw [decide_eq_true h2, hd]
          simp only [Option.bind_some, cond_true]
          rw [cat_Sealed c (hf c (at_mem hc))]; rfl
        · rw [decide_eq_false h2, List.getElem?_eq_none (by omega)]
          simp only [Option.bind_some, cond_false]
          rw [cat_Sealed c (hf c (at_mem hc))]; rfl
  · show g_chain_fails.l1 l e (l.length : Int) = _
    unfold g_chain_fails.l1
    rw [for_out]; rfl
  · cases (List.range l.length).any (placeB e l) <;> rfl
def dayB (day : Int) (c : api_Certificate) : Bool := decide (day < c.From) || decide (c.To ≤ day)
def hasB (h : List Int) (n : Int) : Bool := h.any fun e => decide (n = e)
def hashB (hashes : List Int) (c : api_Certificate) : Bool := !hasB hashes c.Hash.Alg
def namedB (l : List api_Certificate) (name : ByteArray) : Bool := match l[0]? with
  | some c => c.Names.any fun e => decide (name = e)
  | none => false
def lastB (l : List api_Certificate) (anchors : List Int) : Bool := match l[l.length - 1]? with
  | some c => hasB anchors c.Seal.Key
  | none => false
def checkS (l : List api_Certificate) (anchors hashes : List Int) (day : Int) (name : ByteArray) : Int :=
  bif decide (l.length = 0) then 4 else bif decide (8 < l.length) then 3 else
  bif l.any (fun c => !certS c) then 9 else bif !namedB l name then 14 else bif l.any (dayB day) then 13 else bif l.any (hashB hashes) then 7 else
  bif failS 11 l then 11 else bif failS 15 l then 15 else bif failS 10 l then 10 else bif !lastB l anchors then 12 else 0
theorem chain_Check (l : List api_Certificate) (anchors hashes : List Int) (day : Int) (name : ByteArray) (ha : Lo anchors) (hh : Lo hashes) (hf : ∀ c ∈ l, FitC c) : g_chain_Check l anchors hashes day name = some (checkS l anchors hashes day name) := by
  unfold g_chain_Check checkS
  by_cases h0 : l.length = 0
  · rw [decide_eq_true h0, decide_eq_true (by omega)]; rfl
  rw [decide_eq_false h0, decide_eq_false (by omega), cond_false, cond_false]
  by_cases h8 : 8 < l.length
  · rw [decide_eq_true h8, decide_eq_true (by omega)]; rfl
  rw [decide_eq_false h8, decide_eq_false (by omega), cond_false, cond_false]
  have hl : Lo l := by unfold Lo; omega
  rw [sl_ContainsFunc_c l _ (fun c => !certS c) hl (fun x hx => by
    show (g_certificate_Check x).bind _ = _
    unfold g_certificate_Check
    rw [cat_valid x (hf x hx)]
    cases certS x <;> rfl), Option.bind_some]
  cases l.any (fun c => !certS c)
  case true => rfl
  rw [cond_false, cond_false]
  obtain ⟨c, hc⟩ : ∃ c, l[0]? = some c := ⟨_, List.getElem?_eq_getElem (by omega)⟩
  have hN := (hf c (at_mem hc)).names
  rw [getI_z, hc, Option.bind_some, sl_Contains_string _ _ (by unfold Lo; omega), Option.bind_some]
  have hn : namedB l name = c.Names.any fun e => decide (name = e) := by unfold namedB; rw [hc]
  rw [hn]
  cases c.Names.any (fun e => decide (name = e))
  case false => rfl
  rw [Bool.not_true, cond_false, cond_false]
  obtain ⟨z, hz⟩ : ∃ z, l[l.length - 1]? = some z := ⟨_, List.getElem?_eq_getElem (by omega)⟩
  have h3 : loop (fun q' => g_chain_Check.l3 l anchors q') 0 = some (bif failS 11 l then 11 else bif failS 15 l then 15 else bif failS 10 l then 10 else bif !lastB l anchors then 12 else 0) := by
    have s0 : g_chain_Check.l3 l anchors 0 = some (bif failS 11 l then .done 11 else .next 1) := by
      unfold g_chain_Check.l3
      rw [show decide ((0 : Int) < 3) = true from rfl, cond_true, show getI ([11, 15, 10] : List Int) 0 = some 11 from rfl, Option.bind_some, chain_fails l 11 hl hf]
      cases failS 11 l <;> rfl
    have s1 : g_chain_Check.l3 l anchors 1 = some (bif failS 15 l then .done 15 else .next 2) := by
      unfold g_chain_Check.l3
      rw [show decide ((1 : Int) < 3) = true from rfl, cond_true, show getI ([11, 15, 10] : List Int) 1 = some 15 from rfl, Option.bind_some, chain_fails l 15 hl hf]
      cases failS 15 l <;> rfl
    have s2 : g_chain_Check.l3 l anchors 2 = some (bif failS 10 l then .done 10 else .next 3) := by
      unfold g_chain_Check.l3
      rw [show decide ((2 : Int) < 3) = true from rfl, cond_true, show getI ([11, 15, 10] : List Int) 2 = some 10 from rfl, Option.bind_some, chain_fails l 10 hl hf]
      cases failS 10 l <;> rfl
    have s3 : g_chain_Check.l3 l anchors 3 = some (.done (bif !lastB l anchors then 12 else 0)) := by
      show up ((getI l (W ((l.length : Int) - 1))).bind _) = _
      rw [W_id (by omega), show (l.length : Int) - 1 = ((l.length - 1 : Nat) : Int) by omega, getI_nat, hz, Option.bind_some, sl_Contains_int _ _ ha, Option.bind_some]
      unfold lastB hasB
      rw [hz]
      dsimp only
      cases anchors.any fun e => decide (z.Seal.Key = e) <;> rfl
    rw [loop_eq, s0]
    cases failS 11 l
    case true => rfl
    show loop (fun q' => g_chain_Check.l3 l anchors q') 1 = _
    rw [loop_eq, s1]
    cases failS 15 l
    case true => rfl
    show loop (fun q' => g_chain_Check.l3 l anchors q') 2 = _
    rw [loop_eq, s2]
    cases failS 10 l
    case true => rfl
    show loop (fun q' => g_chain_Check.l3 l anchors q') 3 = _
    rw [loop_eq, s3]; rfl
  have t0 : g_chain_Check.l1 l anchors hashes day 0 = some (bif l.any (dayB day) then .done 13 else .next 1) := by
    unfold g_chain_Check.l1
    rw [show decide ((0 : Int) < 2) = true from rfl, cond_true, show getI ([13, 7] : List Int) 0 = some 13 from rfl, Option.bind_some, sl_ContainsFunc_c l _ (dayB day) hl (fun x hx => by
      show (g_chain_held x hashes day 13).bind _ = _
      unfold g_chain_held dayB
      rw [decide_eq_true rfl, cond_true]
      cases decide (day < x.From) <;> rfl), Option.bind_some]
    cases l.any (dayB day) <;> rfl
  have t1 : g_chain_Check.l1 l anchors hashes day 1 = some (bif l.any (hashB hashes) then .done 7 else .next 2) := by
    unfold g_chain_Check.l1
    rw [show decide ((1 : Int) < 2) = true from rfl, cond_true, show getI ([13, 7] : List Int) 1 = some 7 from rfl, Option.bind_some, sl_ContainsFunc_c l _ (hashB hashes) hl (fun x hx => by
      show (g_chain_held x hashes day 7).bind _ = _
      unfold g_chain_held hashB hasB
      rw [decide_eq_false (by omega), cond_false, sl_Contains_int _ _ hh]; rfl), Option.bind_some]
    cases l.any (hashB hashes) <;> rfl
  rw [loop_eq, t0]
  cases l.any (dayB day)
  case true => rfl
  show loop (fun q' => g_chain_Check.l1 l anchors hashes day q') 1 = _
  rw [loop_eq, t1]
  cases l.any (hashB hashes)
  case true => rfl
  show loop (fun q' => g_chain_Check.l1 l anchors hashes day q') 2 = _
  rw [loop_eq, show g_chain_Check.l1 l anchors hashes day 2 = up (loop (fun q' => g_chain_Check.l3 l anchors q') 0) from rfl, h3]; rfl
def untilS (l : List api_Certificate) : Int := match l with
  | [] => 0
  | c :: m => m.foldl (fun n x => min n x.To) c.To
theorem chain_Until (l : List api_Certificate) (h : Lo l) : g_chain_Until l = some (untilS l) := by
  unfold g_chain_Until untilS
  cases l with
  | nil => rfl
  | cons c m =>
    rw [decide_eq_false (by simp only [List.length_cons]; omega), cond_false, getI_z, show (c :: m)[0]? = some c from rfl, Option.bind_some]
    refine (loop_fold (body := fun q' => g_chain_Until.l1 (c :: m) q'.1 q'.2) (c :: m) (fun n x => min n x.To) c.To id h (fun i x s hx => ?_) (fun s => ?_)).trans ?_
    · show g_chain_Until.l1 (c :: m) s (i : Int) = _
      unfold g_chain_Until.l1; rw [for_in hx]
    · show g_chain_Until.l1 (c :: m) s ((c :: m).length : Int) = _
      unfold g_chain_Until.l1; rw [for_out]; rfl
    · rw [List.foldl_cons, Int.min_self]; rfl
end Go.Proofs.Ytggimglopfdhiaa
