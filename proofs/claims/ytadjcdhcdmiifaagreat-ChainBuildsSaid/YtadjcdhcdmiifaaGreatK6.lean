/- Chains: the program's answer is the reference's. No program is in sight here. -/
import Derived.Test.YtadjcdhcdmiifaaGreatK5
import Derived.Test.YtadjcdhcdmiifaaGreatL2
set_option linter.unusedVariables false
set_option linter.unusedSimpArgs false
namespace Go.Proofs.YtadjcdhcdmiifaaGreat
open Go

/-! the sum -/
def sumS (b : List UInt8) : Int := W (b.foldl (fun s e => IntKind.wrap .u32 ((xorK .u32 s (IntKind.wrap .u32 (e.toNat : Int))) * 16777619)) 2166136261)
theorem cat_Sum (b : List UInt8) (h : Lo b) : g_certificate_Sum b = some (sumS b) := by
  unfold g_certificate_Sum
  refine loop_fold (body := fun q' => g_certificate_Sum.l1 b q'.1 q'.2) b _ 2166136261 W h (fun i x s hx => ?_) (fun s => ?_)
  · show g_certificate_Sum.l1 b s (i : Int) = _
    unfold g_certificate_Sum.l1; rw [for_in hx]
  · show g_certificate_Sum.l1 b s (b.length : Int) = _
    unfold g_certificate_Sum.l1; rw [for_out]; rfl
theorem ref_Sum (b : List UInt8) (h : Lo b) : g_ref03_Sum b = some (sumS b) := by
  unfold g_ref03_Sum
  refine loop_fold (body := fun q' => g_ref03_Sum.l1 b q'.1 q'.2) b _ 2166136261 W h (fun i x s hx => ?_) (fun s => ?_)
  · show g_ref03_Sum.l1 b s (i : Int) = _
    unfold g_ref03_Sum.l1; rw [for_in hx]
  · show g_ref03_Sum.l1 b s (b.length : Int) = _
    unfold g_ref03_Sum.l1; rw [for_out]; rfl
theorem encS_len (v : api_Value) : (encS v).1.length ≤ 4096 := by
  unfold encS
  split
  · split
    · exact Nat.zero_le _
    · split
      · exact Nat.zero_le _
      · simp; omega
  · exact Nat.zero_le _
theorem bytesS_len (c : api_Certificate) : (bytesS c).1.length ≤ 4096 := by
  unfold bytesS
  cases certS c with
  | false => exact Nat.zero_le _
  | true => exact encS_len _
theorem bytesS_lo (c : api_Certificate) : Lo (bytesS c).1 := by
  have := bytesS_len c
  unfold Lo; omega
/-- A certificate is sealed by a key. -/
def sealS (c : api_Certificate) (key : Int) : Bool := decide ((bytesS c).2 = 0) && (decide (c.Seal.Key = key) && decide (c.Seal.Sum = sumS (bytesS c).1))
theorem cat_Sealed (c : api_Certificate) (hf : FitC c) (key : Int) : g_certificate_Sealed c key = some (sealS c key) := by
  unfold g_certificate_Sealed sealS
  rw [cat_Bytes c hf, Option.bind_some, cat_Sum _ (bytesS_lo c), Option.bind_some]
  generalize sumS (bytesS c).1 = x
  have e : decide (c.Seal = ⟨key, x⟩) = (decide (c.Seal.Key = key) && decide (c.Seal.Sum = x)) := by
    cases c.Seal; simp
  rw [e]
  cases decide ((bytesS c).2 = 0) <;> rfl
theorem ref_Sealed (c : api_Certificate) (hf : FitC c) (key : Int) : g_ref03_Sealed c key = some (sealS c key) := by
  unfold g_ref03_Sealed sealS
  rw [ref_Bytes c hf, Option.bind_some, ref_Sum _ (bytesS_lo c), Option.bind_some]
  cases decide ((bytesS c).2 = 0) <;> cases decide (c.Seal.Key = key) <;> rfl

/-! searches -/
theorem sl_Index_int (s : List Int) (v : Int) (h : Lo s) : g_slices_Index_int s v = some (firstS s fun e => decide (v = e)) := by
  unfold g_slices_Index_int
  refine loop_first s _ h (fun i x hx => ?_) ?_ <;> show g_slices_Index_int.l1 _ _ _ = _ <;> unfold g_slices_Index_int.l1
  · rw [for_in hx]; cases decide (v = x) <;> rfl
  · rw [for_out]; rfl
theorem sl_Contains_int (s : List Int) (v : Int) (h : Lo s) : g_slices_Contains_int s v = some (s.any fun e => decide (v = e)) := by
  unfold g_slices_Contains_int
  rw [sl_Index_int s v h, Option.bind_some, firstS_any]
theorem sl_Index_string (s : List ByteArray) (v : ByteArray) (h : Lo s) : g_slices_Index_string s v = some (firstS s fun e => decide (v = e)) := by
  unfold g_slices_Index_string
  refine loop_first s _ h (fun i x hx => ?_) ?_ <;> show g_slices_Index_string.l1 _ _ _ = _ <;> unfold g_slices_Index_string.l1
  · rw [for_in hx]; cases decide (v = x) <;> rfl
  · rw [for_out]; rfl
theorem sl_Contains_string (s : List ByteArray) (v : ByteArray) (h : Lo s) : g_slices_Contains_string s v = some (s.any fun e => decide (v = e)) := by
  unfold g_slices_Contains_string
  rw [sl_Index_string s v h, Option.bind_some, firstS_any]
theorem sl_IndexFunc_c (s : List api_Certificate) (f : api_Certificate → Option Bool) (p : api_Certificate → Bool) (h : Lo s) (hf : ∀ x ∈ s, f x = some (p x)) : g_slices_IndexFunc_api_Certificate s f = some (firstS s p) := by
  unfold g_slices_IndexFunc_api_Certificate
  refine loop_first s _ h (fun i x hx => ?_) ?_ <;> show g_slices_IndexFunc_api_Certificate.l1 _ _ _ = _ <;> unfold g_slices_IndexFunc_api_Certificate.l1
  · rw [for_in hx, hf x (at_mem hx), Option.bind_some]; cases p x <;> rfl
  · rw [for_out]; rfl
theorem sl_ContainsFunc_c (s : List api_Certificate) (f : api_Certificate → Option Bool) (p : api_Certificate → Bool) (h : Lo s) (hf : ∀ x ∈ s, f x = some (p x)) : g_slices_ContainsFunc_api_Certificate s f = some (s.any p) := by
  unfold g_slices_ContainsFunc_api_Certificate
  rw [sl_IndexFunc_c s f p h hf, Option.bind_some, firstS_any]
theorem eq_comm_d {α : Type} [DecidableEq α] (a b : α) : decide (a = b) = decide (b = a) := by
  by_cases h : a = b
  · rw [decide_eq_true h, decide_eq_true h.symm]
  · rw [decide_eq_false h, decide_eq_false fun e => h e.symm]
theorem ref_Has (s : List Int) (v : Int) (h : Lo s) : g_ref02_Has s v = some (s.any fun e => decide (v = e)) := by
  unfold g_ref02_Has
  refine (loop_has s (fun e => decide (v = e)) true false h (fun i x hx => ?_) ?_).trans ?_
  · show g_ref02_Has.l1 _ _ _ = _; unfold g_ref02_Has.l1; rw [for_in hx, eq_comm_d]; cases decide (v = x) <;> rfl
  · show g_ref02_Has.l1 _ _ _ = _; unfold g_ref02_Has.l1; rw [for_out]; rfl
  · cases s.any fun e => decide (v = e) <;> rfl
theorem ref_text (s : List ByteArray) (v : ByteArray) (h : Lo s) : g_ref04_text s v = some (s.any fun e => decide (v = e)) := by
  unfold g_ref04_text
  refine (loop_has s (fun e => decide (v = e)) true false h (fun i x hx => ?_) ?_).trans ?_
  · show g_ref04_text.l1 _ _ _ = _; unfold g_ref04_text.l1; rw [for_in hx, eq_comm_d]; cases decide (v = x) <;> rfl
  · show g_ref04_text.l1 _ _ _ = _; unfold g_ref04_text.l1; rw [for_out]; rfl
  · cases s.any fun e => decide (v = e) <;> rfl

/-! a certificate in its place -/
def pathS (l : List api_Certificate) (i : Nat) : Bool := match l[i]? with
  | some c => decide (i = 0) || (c.Authority && decide ((i : Int) - 1 ≤ c.Path))
  | none => false
theorem chain_Path (l : List api_Certificate) (i : Nat) (hi : i < 4611686018427387904) : g_chain_Path l (i : Int) = some (pathS l i) := by
  unfold g_chain_Path g_chain_Path.j1 pathS
  rw [decide_eq_false (show ¬ (i : Int) < 0 by omega), cond_false]
  by_cases h : l.length ≤ i
  · rw [decide_eq_true (by omega), List.getElem?_eq_none h]; rfl
  · rw [decide_eq_false (by omega), cond_false]
    obtain ⟨c, hc⟩ : ∃ c, l[i]? = some c := ⟨_, List.getElem?_eq_getElem (by omega)⟩
    rw [getI_nat, hc, Option.bind_some]
    by_cases h0 : i = 0
    · subst h0; rfl
    · rw [decide_eq_false (by omega), cond_false, W_id (by omega)]
      dsimp only
      rw [decide_eq_false h0]
      cases c.Authority <;> rfl
theorem ref_Path (l : List api_Certificate) (i : Nat) (hi : i < 4611686018427387904) : g_ref04_Path l (i : Int) = some (pathS l i) := chain_Path l i hi
def issB (l : List api_Certificate) (i : Nat) : Bool := match l[i]?, l[i + 1]? with
  | some a, some b => !decide (a.Issuer = b.Subject)
  | _, _ => false
def keyS (l : List api_Certificate) (i : Nat) : Int := match l[i + 1]? with
  | some d => d.KeyId
  | none => match l[i]? with
    | some c => c.Seal.Key
    | none => 0
def sealB (l : List api_Certificate) (i : Nat) : Bool := match l[i]? with
  | some c => !sealS c (keyS l i)
  | none => false
def placeB (e : Int) (l : List api_Certificate) (i : Nat) : Bool := if e = 11 then issB l i else if e = 15 then !pathS l i else sealB l i
def failS (e : Int) (l : List api_Certificate) : Bool := (List.range l.length).any (placeB e l)
theorem chain_fails (l : List api_Certificate) (e : Int) (hl : Lo l) (hf : ∀ c ∈ l, FitC c) : g_chain_fails l e = some (failS e l) := by
  unfold g_chain_fails failS
  unfold Lo at hl
  have key : ∀ (i : Nat) (b : Bool), g_chain_fails.j2 (i : Int) b = some (bif b then .done true else .next (W ((i : Int) + 1))) := by
    intro i b; cases b <;> rfl
  refine (loop_hasN l.length (placeB e l) true false hl (fun i hi => ?_) ?_).trans ?_
  · obtain ⟨c, hc⟩ : ∃ c, l[i]? = some c := ⟨_, List.getElem?_eq_getElem hi⟩
    show g_chain_fails.l1 l e (i : Int) = _
    unfold g_chain_fails.l1 placeB g_chain_sealer
    rw [decide_eq_true (by omega), cond_true]
    simp only [key]
    rw [W_succ (by omega), getI_nat, getI_nat, hc]
    have hn : decide (((i + 1 : Nat) : Int) < (l.length : Int)) = decide (i + 1 < l.length) := by
      by_cases h : i + 1 < l.length
      · rw [decide_eq_true h, decide_eq_true (by omega)]
      · rw [decide_eq_false h, decide_eq_false (by omega)]
    rw [hn]
    by_cases h1 : e = 11
    · rw [decide_eq_true h1, if_pos h1, cond_true]
      unfold issB
      rw [hc]
      by_cases h2 : i + 1 < l.length
      · obtain ⟨d, hd⟩ : ∃ d, l[i + 1]? = some d := ⟨_, List.getElem?_eq_getElem h2⟩
        rw [decide_eq_true h2, hd]; rfl
      · rw [decide_eq_false h2, List.getElem?_eq_none (by omega)]; rfl
    · rw [decide_eq_false h1, if_neg h1, cond_false]
      by_cases h3 : e = 15
      · rw [decide_eq_true h3, if_pos h3, cond_true, chain_Path l i (by omega)]; rfl
      · rw [decide_eq_false h3, if_neg h3, cond_false]
        unfold sealB keyS
        rw [hc]
        by_cases h2 : i + 1 < l.length
        · obtain ⟨d, hd⟩ : ∃ d, l[i + 1]? = some d := ⟨_, List.getElem?_eq_getElem h2⟩
          rw [decide_eq_true h2, hd]
          simp only [Option.bind_some, cond_true]
          rw [cat_Sealed c (hf c (at_mem hc))]; rfl
        · rw [decide_eq_false h2, List.getElem?_eq_none (by omega)]
          simp only [Option.bind_some, cond_false]
          rw [cat_Sealed c (hf c (at_mem hc))]; rfl
  · show g_chain_fails.l1 l e (l.length : Int) = _
    unfold g_chain_fails.l1
    rw [for_out]; rfl
  · cases (List.range l.length).any (placeB e l) <;> rfl

/-! the answer -/
def dayB (day : Int) (c : api_Certificate) : Bool := decide (day < c.From) || decide (c.To ≤ day)
def hasB (h : List Int) (n : Int) : Bool := h.any fun e => decide (n = e)
def hashB (hashes : List Int) (c : api_Certificate) : Bool := !hasB hashes c.Hash.Alg
def namedB (l : List api_Certificate) (name : ByteArray) : Bool := match l[0]? with
  | some c => c.Names.any fun e => decide (name = e)
  | none => false
def lastB (l : List api_Certificate) (anchors : List Int) : Bool := match l[l.length - 1]? with
  | some c => hasB anchors c.Seal.Key
  | none => false
def checkS (l : List api_Certificate) (anchors hashes : List Int) (day : Int) (name : ByteArray) : Int :=
  bif decide (l.length = 0) then 4 else bif decide (8 < l.length) then 3 else
  bif l.any (fun c => !certS c) then 9 else bif !namedB l name then 14 else bif l.any (dayB day) then 13 else bif l.any (hashB hashes) then 7 else
  bif failS 11 l then 11 else bif failS 15 l then 15 else bif failS 10 l then 10 else bif !lastB l anchors then 12 else 0
theorem chain_Check (l : List api_Certificate) (anchors hashes : List Int) (day : Int) (name : ByteArray) (ha : Lo anchors) (hh : Lo hashes) (hf : ∀ c ∈ l, FitC c) : g_chain_Check l anchors hashes day name = some (checkS l anchors hashes day name) := by
  unfold g_chain_Check checkS
  by_cases h0 : l.length = 0
  · rw [decide_eq_true h0, decide_eq_true (by omega)]; rfl
  rw [decide_eq_false h0, decide_eq_false (by omega), cond_false, cond_false]
  by_cases h8 : 8 < l.length
  · rw [decide_eq_true h8, decide_eq_true (by omega)]; rfl
  rw [decide_eq_false h8, decide_eq_false (by omega), cond_false, cond_false]
  have hl : Lo l := by unfold Lo; omega
  rw [sl_ContainsFunc_c l _ (fun c => !certS c) hl (fun x hx => by
    show (g_certificate_Check x).bind _ = _
    unfold g_certificate_Check
    rw [cat_valid x (hf x hx)]
    cases certS x <;> rfl), Option.bind_some]
  cases l.any (fun c => !certS c)
  case true => rfl
  rw [cond_false, cond_false]
  obtain ⟨c, hc⟩ : ∃ c, l[0]? = some c := ⟨_, List.getElem?_eq_getElem (by omega)⟩
  have hN := (hf c (at_mem hc)).names
  rw [getI_z, hc, Option.bind_some, sl_Contains_string _ _ (by unfold Lo; omega), Option.bind_some]
  have hn : namedB l name = c.Names.any fun e => decide (name = e) := by unfold namedB; rw [hc]
  rw [hn]
  cases c.Names.any (fun e => decide (name = e))
  case false => rfl
  rw [Bool.not_true, cond_false, cond_false]
  obtain ⟨z, hz⟩ : ∃ z, l[l.length - 1]? = some z := ⟨_, List.getElem?_eq_getElem (by omega)⟩
  have h3 : loop (fun q' => g_chain_Check.l3 l anchors q') 0 = some (bif failS 11 l then 11 else bif failS 15 l then 15 else bif failS 10 l then 10 else bif !lastB l anchors then 12 else 0) := by
    have s0 : g_chain_Check.l3 l anchors 0 = some (bif failS 11 l then .done 11 else .next 1) := by
      unfold g_chain_Check.l3
      rw [show decide ((0 : Int) < 3) = true from rfl, cond_true, show getI ([11, 15, 10] : List Int) 0 = some 11 from rfl, Option.bind_some, chain_fails l 11 hl hf]
      cases failS 11 l <;> rfl
    have s1 : g_chain_Check.l3 l anchors 1 = some (bif failS 15 l then .done 15 else .next 2) := by
      unfold g_chain_Check.l3
      rw [show decide ((1 : Int) < 3) = true from rfl, cond_true, show getI ([11, 15, 10] : List Int) 1 = some 15 from rfl, Option.bind_some, chain_fails l 15 hl hf]
      cases failS 15 l <;> rfl
    have s2 : g_chain_Check.l3 l anchors 2 = some (bif failS 10 l then .done 10 else .next 3) := by
      unfold g_chain_Check.l3
      rw [show decide ((2 : Int) < 3) = true from rfl, cond_true, show getI ([11, 15, 10] : List Int) 2 = some 10 from rfl, Option.bind_some, chain_fails l 10 hl hf]
      cases failS 10 l <;> rfl
    have s3 : g_chain_Check.l3 l anchors 3 = some (.done (bif !lastB l anchors then 12 else 0)) := by
      show up ((getI l (W ((l.length : Int) - 1))).bind _) = _
      rw [W_id (by omega), show (l.length : Int) - 1 = ((l.length - 1 : Nat) : Int) by omega, getI_nat, hz, Option.bind_some, sl_Contains_int _ _ ha, Option.bind_some]
      unfold lastB hasB
      rw [hz]
      dsimp only
      cases anchors.any fun e => decide (z.Seal.Key = e) <;> rfl
    rw [loop_eq, s0]
    cases failS 11 l
    case true => rfl
    show loop (fun q' => g_chain_Check.l3 l anchors q') 1 = _
    rw [loop_eq, s1]
    cases failS 15 l
    case true => rfl
    show loop (fun q' => g_chain_Check.l3 l anchors q') 2 = _
    rw [loop_eq, s2]
    cases failS 10 l
    case true => rfl
    show loop (fun q' => g_chain_Check.l3 l anchors q') 3 = _
    rw [loop_eq, s3]; rfl
  have t0 : g_chain_Check.l1 l anchors hashes day 0 = some (bif l.any (dayB day) then .done 13 else .next 1) := by
    unfold g_chain_Check.l1
    rw [show decide ((0 : Int) < 2) = true from rfl, cond_true, show getI ([13, 7] : List Int) 0 = some 13 from rfl, Option.bind_some, sl_ContainsFunc_c l _ (dayB day) hl (fun x hx => by
      show (g_chain_held x hashes day 13).bind _ = _
      unfold g_chain_held dayB
      rw [decide_eq_true rfl, cond_true]
      cases decide (day < x.From) <;> rfl), Option.bind_some]
    cases l.any (dayB day) <;> rfl
  have t1 : g_chain_Check.l1 l anchors hashes day 1 = some (bif l.any (hashB hashes) then .done 7 else .next 2) := by
    unfold g_chain_Check.l1
    rw [show decide ((1 : Int) < 2) = true from rfl, cond_true, show getI ([13, 7] : List Int) 1 = some 7 from rfl, Option.bind_some, sl_ContainsFunc_c l _ (hashB hashes) hl (fun x hx => by
      show (g_chain_held x hashes day 7).bind _ = _
      unfold g_chain_held hashB hasB
      rw [decide_eq_false (by omega), cond_false, sl_Contains_int _ _ hh]; rfl), Option.bind_some]
    cases l.any (hashB hashes) <;> rfl
  rw [loop_eq, t0]
  cases l.any (dayB day)
  case true => rfl
  show loop (fun q' => g_chain_Check.l1 l anchors hashes day q') 1 = _
  rw [loop_eq, t1]
  cases l.any (hashB hashes)
  case true => rfl
  show loop (fun q' => g_chain_Check.l1 l anchors hashes day q') 2 = _
  rw [loop_eq, show g_chain_Check.l1 l anchors hashes day 2 = up (loop (fun q' => g_chain_Check.l3 l anchors q') 0) from rfl, h3]; rfl
theorem ref_lastN (n i : Nat) (hi : i < n) (hn : n < 4611686018427387904) : decide ((i : Int) = W ((n : Int) - 1)) = decide (i + 1 = n) := by
  rw [W_id (by omega)]
  by_cases h : i + 1 = n
  · rw [decide_eq_true h, decide_eq_true (by omega)]
  · rw [decide_eq_false h, decide_eq_false (by omega)]
/-- What the reference asks of the certificate with an index. -/
def wrongS (e : Int) (l : List api_Certificate) (i : Nat) (anchors hashes : List Int) (day : Int) (name : ByteArray) : Bool := match l[i]? with
  | some c => if e = 9 then !certS c else if e = 14 then decide (i = 0) && !(c.Names.any fun e => decide (name = e)) else if e = 13 then dayB day c else if e = 7 then hashB hashes c else
      if e = 11 then issB l i else if e = 15 then !pathS l i else if e = 10 then sealB l i else decide (i + 1 = l.length) && !hasB anchors c.Seal.Key
  | none => false
theorem ref_wrong (e : Int) (l : List api_Certificate) (i : Nat) (anchors hashes : List Int) (day : Int) (name : ByteArray) (hi : i < l.length) (hl : Lo l) (ha : Lo anchors) (hh : Lo hashes) (hf : ∀ c ∈ l, FitC c) : g_ref04_wrong e l (i : Int) anchors hashes day name = some (wrongS e l i anchors hashes day name) := by
  obtain ⟨c, hc⟩ : ∃ c, l[i]? = some c := ⟨_, List.getElem?_eq_getElem hi⟩
  have hfc := hf c (at_mem hc)
  have hN := hfc.names
  unfold Lo at hl
  unfold g_ref04_wrong wrongS
  rw [getI_nat, hc, Option.bind_some, ref_lastN _ _ hi hl, W_succ (by omega)]
  dsimp only
  by_cases h : e = 9
  · rw [decide_eq_true h, if_pos h, cond_true, ref_Check c hfc]; cases certS c <;> rfl
  rw [decide_eq_false h, if_neg h, cond_false]; clear h
  by_cases h : e = 14
  · rw [decide_eq_true h, if_pos h, cond_true, ref_text _ _ (by unfold Lo; omega)]
    by_cases h0 : i = 0
    · subst h0; simp
    · rw [decide_eq_false h0, decide_eq_false (by omega)]; rfl
  rw [decide_eq_false h, if_neg h, cond_false]; clear h
  by_cases h : e = 13
  · rw [decide_eq_true h, if_pos h, cond_true]; unfold dayB; cases decide (day < c.From) <;> rfl
  rw [decide_eq_false h, if_neg h, cond_false]; clear h
  by_cases h : e = 7
  · rw [decide_eq_true h, if_pos h, cond_true, ref_Has _ _ hh]; rfl
  rw [decide_eq_false h, if_neg h, cond_false]; clear h
  have hk : ∀ h2 : i + 1 < l.length, ∃ d, l[i + 1]? = some d := fun h2 => ⟨_, List.getElem?_eq_getElem h2⟩
  by_cases h : e = 11
  · rw [decide_eq_true h, if_pos h, cond_true]
    unfold issB
    rw [hc]
    by_cases h2 : i + 1 = l.length
    · rw [decide_eq_true h2, List.getElem?_eq_none (by omega)]; rfl
    · obtain ⟨d, hd⟩ := hk (by omega)
      rw [decide_eq_false h2, Bool.not_false, cond_true, getI_nat, hd]; rfl
  rw [decide_eq_false h, if_neg h, cond_false]; clear h
  by_cases h : e = 15
  · rw [decide_eq_true h, if_pos h, cond_true, ref_Path _ _ (by omega)]; rfl
  rw [decide_eq_false h, if_neg h, cond_false]; clear h
  by_cases h : e = 10
  · rw [decide_eq_true h, if_pos h, cond_true]
    unfold sealB keyS
    rw [hc]
    by_cases h2 : i + 1 = l.length
    · rw [decide_eq_true h2, List.getElem?_eq_none (by omega), cond_true, ref_Sealed c hfc]; rfl
    · obtain ⟨d, hd⟩ := hk (by omega)
      rw [decide_eq_false h2, cond_false, getI_nat, hd, Option.bind_some, ref_Sealed c hfc]; rfl
  rw [decide_eq_false h, if_neg h, cond_false, ref_Has _ _ ha]
  cases decide (i + 1 = l.length) <;> rfl
theorem ref_round (l : List api_Certificate) (anchors hashes : List Int) (day : Int) (name : ByteArray) (hl : Lo l) (ha : Lo anchors) (hh : Lo hashes) (hf : ∀ c ∈ l, FitC c) (k e : Int) (hk : decide (k < 8) = true) (he : getI ([9, 14, 13, 7, 11, 15, 10, 12] : List Int) k = some e) (hw : W (k + 1) = k + 1) : g_ref04_Check.l1 l anchors hashes day name k = some (bif (List.range l.length).any (fun i => wrongS e l i anchors hashes day name) then .done e else .next (k + 1)) := by
  unfold g_ref04_Check.l1
  rw [show decide (k < (([9, 14, 13, 7, 11, 15, 10, 12] : List Int).length : Int)) = true from hk, cond_true]
  refine loop_hasN (R := Lp Int Int) l.length (fun i => wrongS e l i anchors hashes day name) (.done e) (.next (k + 1)) hl (fun i hi => ?_) ?_
  · show g_ref04_Check.l2 l anchors hashes day name k (i : Int) = _
    unfold g_ref04_Check.l2
    rw [decide_eq_true (by omega), cond_true, he, Option.bind_some, ref_wrong e l i anchors hashes day name hi hl ha hh hf, Option.bind_some]
    cases wrongS e l i anchors hashes day name <;> rfl
  · show g_ref04_Check.l2 l anchors hashes day name k (l.length : Int) = _
    unfold g_ref04_Check.l2
    rw [for_out, hw]; rfl
theorem any_index {α : Type} (l : List α) (p : α → Bool) (q : Nat → Bool) (h : ∀ i x, l[i]? = some x → q i = p x) : (List.range l.length).any q = l.any p := range_any l p q h
theorem ref04_Check (l : List api_Certificate) (anchors hashes : List Int) (day : Int) (name : ByteArray) (ha : Lo anchors) (hh : Lo hashes) (hf : ∀ c ∈ l, FitC c) : g_ref04_Check l anchors hashes day name = some (checkS l anchors hashes day name) := by
  unfold g_ref04_Check checkS
  by_cases h0 : l.length = 0
  · rw [decide_eq_true h0, decide_eq_true (by omega)]; rfl
  rw [decide_eq_false h0, decide_eq_false (by omega), cond_false, cond_false]
  by_cases h8 : 8 < l.length
  · rw [decide_eq_true h8, decide_eq_true (by omega)]; rfl
  rw [decide_eq_false h8, decide_eq_false (by omega), cond_false, cond_false]
  have hl : Lo l := by unfold Lo; omega
  have R := ref_round l anchors hashes day name hl ha hh hf
  have rfl' : ∀ {a b : Int}, a = b → (a : Int) = b := fun h => h
  have r0 := R 0 9 rfl rfl rfl
  have r1 := R 1 14 rfl rfl rfl
  have r2 := R 2 13 rfl rfl rfl
  have r3 := R 3 7 rfl rfl rfl
  have r4 := R 4 11 rfl rfl rfl
  have r5 := R 5 15 rfl rfl rfl
  have r6 := R 6 10 rfl rfl rfl
  have r7 := R 7 12 rfl rfl rfl
  have a0 : (List.range l.length).any (fun i => wrongS 9 l i anchors hashes day name) = l.any (fun c => !certS c) := range_any l _ _ fun i x hx => by unfold wrongS; rw [hx]; rfl
  have a2 : (List.range l.length).any (fun i => wrongS 13 l i anchors hashes day name) = l.any (dayB day) := range_any l _ _ fun i x hx => by unfold wrongS; rw [hx]; rfl
  have a3 : (List.range l.length).any (fun i => wrongS 7 l i anchors hashes day name) = l.any (hashB hashes) := range_any l _ _ fun i x hx => by unfold wrongS; rw [hx]; rfl
  have a1 : (List.range l.length).any (fun i => wrongS 14 l i anchors hashes day name) = !namedB l name := by
    refine (any_range_congr (q := fun i => decide (i = 0) && !namedB l name) fun i hi => ?_).trans (any_range_zero _ _ (by omega))
    obtain ⟨c, hc⟩ : ∃ c, l[i]? = some c := ⟨_, List.getElem?_eq_getElem hi⟩
    unfold wrongS namedB
    rw [hc]
    by_cases hz : i = 0
    · subst hz; rw [hc]; rfl
    · rw [decide_eq_false hz]; simp [hz]
  have a7 : (List.range l.length).any (fun i => wrongS 12 l i anchors hashes day name) = !lastB l anchors := by
    refine (any_range_congr (q := fun i => decide (i + 1 = l.length) && !lastB l anchors) fun i hi => ?_).trans (any_range_last _ _ (by omega))
    obtain ⟨c, hc⟩ : ∃ c, l[i]? = some c := ⟨_, List.getElem?_eq_getElem hi⟩
    unfold wrongS lastB
    rw [hc]
    by_cases hz : i + 1 = l.length
    · rw [show l.length - 1 = i by omega, hc]; rfl
    · rw [decide_eq_false hz]; simp [hz]
  have a4 : (List.range l.length).any (fun i => wrongS 11 l i anchors hashes day name) = failS 11 l := any_range_congr fun i hi => by
    obtain ⟨c, hc⟩ : ∃ c, l[i]? = some c := ⟨_, List.getElem?_eq_getElem hi⟩
    unfold wrongS; rw [hc]; rfl
  have a5 : (List.range l.length).any (fun i => wrongS 15 l i anchors hashes day name) = failS 15 l := any_range_congr fun i hi => by
    obtain ⟨c, hc⟩ : ∃ c, l[i]? = some c := ⟨_, List.getElem?_eq_getElem hi⟩
    unfold wrongS; rw [hc]; rfl
  have a6 : (List.range l.length).any (fun i => wrongS 10 l i anchors hashes day name) = failS 10 l := any_range_congr fun i hi => by
    obtain ⟨c, hc⟩ : ∃ c, l[i]? = some c := ⟨_, List.getElem?_eq_getElem hi⟩
    unfold wrongS; rw [hc]; rfl
  rw [a0] at r0
  rw [a1] at r1
  rw [a2] at r2
  rw [a3] at r3
  rw [a4] at r4
  rw [a5] at r5
  rw [a6] at r6
  rw [a7] at r7
  rw [loop_eq, r0]
  cases l.any (fun c => !certS c)
  case true => rfl
  show loop (fun q' => g_ref04_Check.l1 l anchors hashes day name q') 1 = _
  rw [loop_eq, r1]
  cases namedB l name
  case false => rfl
  show loop (fun q' => g_ref04_Check.l1 l anchors hashes day name q') 2 = _
  rw [loop_eq, r2]
  cases l.any (dayB day)
  case true => rfl
  show loop (fun q' => g_ref04_Check.l1 l anchors hashes day name q') 3 = _
  rw [loop_eq, r3]
  cases l.any (hashB hashes)
  case true => rfl
  show loop (fun q' => g_ref04_Check.l1 l anchors hashes day name q') 4 = _
  rw [loop_eq, r4]
  cases failS 11 l
  case true => rfl
  show loop (fun q' => g_ref04_Check.l1 l anchors hashes day name q') 5 = _
  rw [loop_eq, r5]
  cases failS 15 l
  case true => rfl
  show loop (fun q' => g_ref04_Check.l1 l anchors hashes day name q') 6 = _
  rw [loop_eq, r6]
  cases failS 10 l
  case true => rfl
  show loop (fun q' => g_ref04_Check.l1 l anchors hashes day name q') 7 = _
  rw [loop_eq, r7]
  cases lastB l anchors
  case false => rfl
  show loop (fun q' => g_ref04_Check.l1 l anchors hashes day name q') 8 = _
  rw [loop_eq]; rfl

/-! the last day -/
def untilS (l : List api_Certificate) : Int := match l with
  | [] => 0
  | c :: m => m.foldl (fun n x => min n x.To) c.To
theorem chain_Until (l : List api_Certificate) (h : Lo l) : g_chain_Until l = some (untilS l) := by
  unfold g_chain_Until untilS
  cases l with
  | nil => rfl
  | cons c m =>
    rw [decide_eq_false (by simp only [List.length_cons]; omega), cond_false, getI_z, show (c :: m)[0]? = some c from rfl, Option.bind_some]
    refine (loop_fold (body := fun q' => g_chain_Until.l1 (c :: m) q'.1 q'.2) (c :: m) (fun n x => min n x.To) c.To id h (fun i x s hx => ?_) (fun s => ?_)).trans ?_
    · show g_chain_Until.l1 (c :: m) s (i : Int) = _
      unfold g_chain_Until.l1; rw [for_in hx]
    · show g_chain_Until.l1 (c :: m) s ((c :: m).length : Int) = _
      unfold g_chain_Until.l1; rw [for_out]; rfl
    · rw [List.foldl_cons, Int.min_self]; rfl
theorem loop_from {S R : Type} {body : S → Option (Lp S R)} (n k : Nat) (G : Nat → S) (r : R) (hk : k ≤ n) (h1 : ∀ i, k ≤ i → i < n → body (G i) = some (.next (G (i + 1)))) (h2 : body (G n) = some (.done r)) : loop body (G k) = some r := by
  refine loop_path (n - k) (fun i => G (k + i)) r (fun i hi => h1 (k + i) (by omega) (by omega)) ?_
  show body (G (k + (n - k))) = _
  rw [show k + (n - k) = n by omega, h2]
end Go.Proofs.YtadjcdhcdmiifaaGreat
