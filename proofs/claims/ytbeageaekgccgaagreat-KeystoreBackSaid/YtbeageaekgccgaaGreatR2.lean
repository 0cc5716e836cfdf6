/- Certificates: the certificate of bytes. No program is in sight here. -/
import Derived.Test.YtbeageaekgccgaaGreatR1
set_option linter.unusedVariables false
set_option linter.unusedSimpArgs false
set_option maxRecDepth 100000
namespace Go.Proofs.YtbeageaekgccgaaGreat
open Go
abbrev BodyT := (((((((((((Unit × Int) × ByteArray) × ByteArray) × api_Use) × Int) × api_Use) × Int) × Int) × Bool) × Int) × List ByteArray)
def body10 {β : Type} (q : Option (β × List api_Value)) := seqP (seqP (seqP (seqP (seqP (seqP (seqP (seqP (seqP (seqP q asIntS) asTextS) asTextS) useQ) asIntS) useQ) asIntS) asIntS) asBoolS) asIntS
def bodyQ (q : Option (Unit × List api_Value)) : Option (BodyT × List api_Value) := seqP (body10 q) namesQ
def mkC (b : BodyT) (s : Int × Int) : api_Certificate := match b with
  | (((((((((((_, a1), a2), a3), a4), a5), a6), a7), a8), a9), a10), a11) => ⟨a1, a2, a3, a4, a5, a6, a7, a8, a9, a10, a11, ⟨s.1, s.2⟩⟩
theorem body_len {l : List api_Value} {b : BodyT} {t : List api_Value} (h : bodyQ (some ((), l)) = some (b, t)) : l.length = t.length + 11 := by
  unfold bodyQ body10 at h
  obtain ⟨x1, h1, -⟩ := seqP_some h
  obtain ⟨x2, h2, -⟩ := seqP_some h1
  obtain ⟨x3, h3, -⟩ := seqP_some h2
  obtain ⟨x4, h4, -⟩ := seqP_some h3
  obtain ⟨x5, h5, -⟩ := seqP_some h4
  obtain ⟨x6, h6, -⟩ := seqP_some h5
  obtain ⟨x7, h7, -⟩ := seqP_some h6
  obtain ⟨x8, h8, -⟩ := seqP_some h7
  obtain ⟨x9, h9, -⟩ := seqP_some h8
  obtain ⟨x10, h10, -⟩ := seqP_some h9
  obtain ⟨x11, h11, -⟩ := seqP_some h10
  injection h11 with h11
  injection h11 with _ h11
  rw [h11]; rfl
def bodyS (v : api_Value) : Option BodyT := match (asListS v).bind (fun l => bodyQ (some ((), l))) with
  | some (b, []) => some b
  | _ => none
def parseS (v : api_Value) : Option api_Certificate := match asListS v with
  | some [x, y] => (bodyS x).bind fun b => (pairS y).map fun s => mkC b s
  | _ => none
def zeroC' : api_Certificate := api_Certificate.mk 0 ⟨#[]⟩ ⟨#[]⟩ (api_Use.mk 0 0) 0 (api_Use.mk 0 0) 0 0 false 0 [] (api_Seal.mk 0 0)
theorem bodyN {v : api_Value} : bodyS v = (bodyQ (listN 11 v)).map (·.1) := by
  unfold bodyS listN
  cases hl : asListS v with
  | none => rfl
  | some l =>
    rw [Option.bind_some, Option.bind_some]
    by_cases h : l.length = 11
    · rw [if_pos h]
      cases hb : bodyQ (some ((), l)) with
      | none => rfl
      | some p =>
        obtain ⟨b, t⟩ := p
        have := body_len hb
        have ht : t = [] := List.eq_nil_of_length_eq_zero (by omega)
        subst ht
        rfl
    · rw [if_neg h]
      show _ = none
      cases hb : bodyQ (some ((), l)) with
      | none => rfl
      | some p =>
        obtain ⟨b, t⟩ := p
        have := body_len hb
        cases t with
        | nil => simp at this; omega
        | cons _ _ => rfl
theorem cert_Parse (v : api_Value) (hv : v.sz < 1073741824) : g_certificate_Parse v = some (match parseS v with | some c => (c, true) | none => (zeroC', false)) := by
  refine (?_ : Ok (g_certificate_Parse v) (fun y => y = (match parseS v with | some c => (c, true) | none => (zeroC', false)))) |> fun ⟨a, h1, h2⟩ => h1.trans (congrArg some h2)
  unfold g_certificate_Parse
  refine Ok.bind (p_Read v 2 hv) fun y hy => ?_
  refine Ok.bind (p_Next y _ _ hy) fun y2 h2 => ?_
  refine Ok.bind (p_Read y2.1 11 h2.2) fun y3 h3 => ?_
  refine Ok.bind (p_Next y2.2 _ _ h2.1) fun y4 h4 => ?_
  unfold g_certificate_Parse_c1 g_certificate_Parse_c2 g_certificate_Parse_c3 g_certificate_Parse_c4 g_certificate_Parse_c5 g_certificate_Parse_c6 g_certificate_Parse_c7 g_certificate_Parse_c8
  simp only [Option.bind_assoc, Option.bind_some]
  refine Ok.bind (p_Read y4.1 2 h4.2) fun y5 h5 => ?_
  refine Ok.bind (p_Int y3 _ _ h3) fun z1 k1 => ?_
  refine Ok.bind (p_Text z1.2 _ _ k1) fun z2 k2 => ?_
  refine Ok.bind (p_Text z2.2 _ _ k2) fun z3 k3 => ?_
  refine Ok.bind (p_Use z3.2 _ _ k3) fun z4 k4 => ?_
  refine Ok.bind (p_Int z4.2 _ _ k4) fun z5 k5 => ?_
  refine Ok.bind (p_Use z5.2 _ _ k5) fun z6 k6 => ?_
  refine Ok.bind (p_Int z6.2 _ _ k6) fun z7 k7 => ?_
  refine Ok.bind (p_Int z7.2 _ _ k7) fun z8 k8 => ?_
  refine Ok.bind (p_Bool z8.2 _ _ k8) fun z9 k9 => ?_
  refine Ok.bind (p_Int z9.2 _ _ k9) fun z10 k10 => ?_
  refine Ok.bind (p_names z10.2 _ _ k10) fun z11 k11 => ?_
  refine Ok.bind (p_Int y5 _ _ h5) fun w1 m1 => ?_
  refine Ok.bind (p_Int w1.2 _ _ m1) fun w2 m2 => ?_
  have J : ∀ y, parseS v = none → Ok (g_certificate_Parse.j1 y true) (fun y => y = (match parseS v with | some c => (c, true) | none => (zeroC', false))) := fun y h => Ok.ret (by rw [h]; rfl)
  -- the two elements
  have outer : (y4.2.Failed = true ∧ parseS v = none) ∨ (y4.2.Failed = false ∧ asListS v = some [y2.1, y4.1]) := by
    rcases h4.1.2 with ⟨hq, hf⟩ | ⟨t, hq, hr⟩
    · refine .inl ⟨hf, ?_⟩
      unfold parseS
      cases hl : asListS v with
      | none => rfl
      | some l =>
        match l with
        | [] => rfl
        | [_] => rfl
        | [a, b] =>
          have : listN 2 v = some ((), [a, b]) := by unfold listN; rw [hl]; rfl
          rw [this] at hq
          cases hq
        | _ :: _ :: _ :: _ => rfl
    · refine .inr ⟨by rw [hr], ?_⟩
      obtain ⟨x, e1, e2⟩ := seqP_some hq
      obtain ⟨x', e3, e4⟩ := seqP_some e1
      injection e2 with e2
      injection e4 with e4
      unfold listN at e3
      obtain ⟨l, e5, e6⟩ := Option.bind_eq_some_iff.1 e3
      split at e6
      · rename_i hlen
        injection e6 with e6
        injection e6 with _ e6
        subst e6
        have ht : t = [] := by simpa using hlen
        subst ht
        rw [e5, e2, e4]
      · cases e6
  rcases outer with ⟨hf, hn⟩ | ⟨hf, hl⟩
  · rw [hf, cond_true]
    exact J _ hn
  rw [hf, cond_false]
  have hp : parseS v = (bodyS y2.1).bind fun b => (pairS y4.1).map fun s => mkC b s := by unfold parseS; rw [hl]
  rcases k11.2 with ⟨hq, hb⟩ | ⟨t, hq, hr⟩
  · rw [hb, cond_true]
    refine J _ ?_
    rw [hp, bodyN]
    have : bodyQ (listN 11 y2.1) = none := hq
    rw [this]; rfl
  · have hb : bodyQ (listN 11 y2.1) = some (((((((((((((), z1.1), z2.1), z3.1), z4.1), z5.1), z6.1), z7.1), z8.1), z9.1), z10.1), z11.1), t) := hq
    have hbf : z11.2.Failed = false := by rw [hr]
    rw [hbf, cond_false]
    rw [bodyN, hb] at hp
    dsimp only [Option.map_some, Option.bind_some] at hp
    have hpair : (w2.2.Failed = true ∧ pairS y4.1 = none) ∨ (w2.2.Failed = false ∧ pairS y4.1 = some (w1.1, w2.1)) := by
      rcases m2.2 with ⟨hq2, hf2⟩ | ⟨t2, hq2, hr2⟩
      · refine .inl ⟨hf2, ?_⟩
        unfold pairS
        cases hl2 : asListS y4.1 with
        | none => rfl
        | some l2 =>
          rw [Option.bind_some]
          cases hp2 : pairQ l2 with
          | none => rfl
          | some p2 =>
            obtain ⟨⟨⟨u, a⟩, b⟩, t3⟩ := p2
            cases t3 with
            | cons _ _ => rfl
            | nil =>
              have hlen := pair_len hp2
              have : listN 2 y4.1 = some ((), l2) := by unfold listN; rw [hl2, Option.bind_some, if_pos (by simpa using hlen)]
              rw [this] at hq2
              unfold pairQ at hp2
              rw [hq2] at hp2; cases hp2
      · refine .inr ⟨by rw [hr2], ?_⟩
        have h0 := hq2
        obtain ⟨x1, e1, -⟩ := seqP_some hq2
        obtain ⟨x2, e2, -⟩ := seqP_some e1
        unfold listN at e2
        obtain ⟨l2, e3, e4⟩ := Option.bind_eq_some_iff.1 e2
        split at e4
        · rename_i hlen
          injection e4 with e4
          injection e4 with _ e4
          have ht : t2 = [] := by
            rw [e4] at hlen
            simp at hlen
            exact hlen
          subst ht
          unfold pairS
          have : listN 2 y4.1 = some ((), l2) := by unfold listN; rw [e3, Option.bind_some, if_pos hlen]
          rw [this] at h0
          rw [e3, Option.bind_some]
          unfold pairQ
          rw [h0]
        · cases e4
    rcases hpair with ⟨hf2, hn2⟩ | ⟨hf2, hs2⟩
    · rw [hf2]
      refine J _ ?_
      rw [hp, hn2]; rfl
    · rw [hf2]
      unfold g_certificate_Parse.j1
      rw [cond_false]
      refine Ok.ret ?_
      rw [hp, hs2]; rfl
end Go.Proofs.YtbeageaekgccgaaGreat
