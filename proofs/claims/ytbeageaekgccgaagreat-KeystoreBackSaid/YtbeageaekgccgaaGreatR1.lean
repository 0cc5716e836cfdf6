/- Certificates: what the elements of a certificate are, for both readers. No program is in sight here. -/
import Derived.Test.YtbeageaekgccgaaGreatD9
import Derived.Test.YtbeageaekgccgaaGreatM1
set_option linter.unusedVariables false
set_option linter.unusedSimpArgs false
set_option maxRecDepth 100000
namespace Go.Proofs.YtbeageaekgccgaaGreat
open Go
def one {α : Type} (f : api_Value → Option α) : List api_Value → Option (α × List api_Value)
  | [] => none
  | x :: t => (f x).map fun a => (a, t)
def seqP {α β : Type} (q : Option (β × List api_Value)) (f : api_Value → Option α) : Option ((β × α) × List api_Value) := q.bind fun p => (one f p.2).map fun r => ((p.1, r.1), r.2)
theorem seqP_some {α β : Type} {q : Option (β × List api_Value)} {f : api_Value → Option α} {b : β × α} {t : List api_Value} (h : seqP q f = some (b, t)) : ∃ x, q = some (b.1, x :: t) ∧ f x = some b.2 := by
  unfold seqP at h
  obtain ⟨p, hq, h⟩ := Option.bind_eq_some_iff.1 h
  obtain ⟨r, h1, h2⟩ := Option.map_eq_some_iff.1 h
  injection h2 with h2 h3
  obtain ⟨p1, l⟩ := p
  cases l with
  | nil => cases h1
  | cons x t' =>
    obtain ⟨a, h4, h5⟩ := Option.map_eq_some_iff.1 h1
    subst h5 h2 h3
    exact ⟨x, hq, h4⟩
def Simv {β : Type} (r : certificate_Reader) (q : Option (β × List api_Value)) (b : β) : Prop := szs r.l < 1073741824 ∧ ((q = none ∧ r.Failed = true) ∨ ∃ t, q = some (b, t) ∧ r = ⟨t, false⟩)
theorem asInt_z : asIntS zeroV = none := rfl
theorem asText_z : asTextS zeroV = none := rfl
theorem asBool_z : asBoolS zeroV = none := rfl
theorem asList_z : asListS zeroV = none := rfl
theorem next_c (r : certificate_Reader) (hs : szs r.l < 1073741824) : Ok (g_certificate_Reader_Next r) (fun y => szs y.2.l < 1073741824 ∧ y.1.sz < 1073741824 ∧ ((r.Failed = true ∨ r.l = []) ∧ y.2.Failed = true ∧ y.1 = zeroV ∨ ∃ x t, r.l = x :: t ∧ r.Failed = false ∧ y = (x, ⟨t, false⟩))) := by
  unfold g_certificate_Reader_Next
  have hz : zeroV.sz < 1073741824 := by decide
  refine Ok.cond (fun hf => ?_) fun hf => ?_
  · exact Ok.ret ⟨hs, hz, .inl ⟨.inl hf, rfl, rfl⟩⟩
  · unfold g_certificate_Reader_Next.j1
    refine Ok.cond (fun h0 => ?_) fun h0 => ?_
    · have h0 := of_decide_eq_true h0
      exact Ok.ret ⟨hs, hz, .inl ⟨.inr (List.eq_nil_of_length_eq_zero (by omega)), rfl, rfl⟩⟩
    · have h0 := of_decide_eq_false h0
      obtain ⟨l, fl⟩ := r
      dsimp only at hf h0 hs ⊢
      subst hf
      cases l with
      | nil => simp at h0
      | cons x t =>
        rw [getI_z]
        refine Ok.bindE (a := x) rfl (Ok.bindE (sl_all (k := 1) (by simp)) (Ok.ret ?_))
        rw [szs] at hs
        exact ⟨by show szs t < _; omega, by show x.sz < _; omega, .inr ⟨x, t, rfl, rfl, rfl⟩⟩
def ReadsP {α : Type} (f : api_Value → Option α) (g : certificate_Reader → Option (α × certificate_Reader)) : Prop := ∀ {β : Type} (r : certificate_Reader) (q : Option (β × List api_Value)) (b : β), Simv r q b → Ok (g r) (fun y => Simv y.2 (seqP q f) (b, y.1))
theorem reads_p {α : Type} {f : api_Value → Option α} {g : certificate_Reader → Option (α × certificate_Reader)} (d : α) {h : api_Value → Option (α × Int)} (hz : f zeroV = none) (hh : ∀ v : api_Value, v.sz < 1073741824 → h v = some (ores d (f v)))
    (hg : ∀ r, g r = (g_certificate_Reader_Next r).bind fun y => (h y.1).bind fun y_2 => cond (y.2.Failed) (some (y_2.1, (certificate_Reader.mk y.2.l true))) (some (y_2.1, (certificate_Reader.mk y.2.l (!decide (y_2.2 = 0)))))) : ReadsP f g := by
  intro β r q b hs
  rw [hg]
  refine Ok.bind (next_c r hs.1) fun y hy => ?_
  obtain ⟨h1, h2, hy⟩ := hy
  refine Ok.bindE (hh y.1 h2) ?_
  rcases hs.2 with ⟨hq, hf⟩ | ⟨t, hq, hr⟩
  · have hyf : y.2.Failed = true := by
      rcases hy with ⟨-, h3, -⟩ | ⟨x, t, -, h4, -⟩
      · exact h3
      · rw [hf] at h4; cases h4
    rw [hyf, cond_true, hq]
    exact Ok.ret ⟨h1, .inl ⟨rfl, rfl⟩⟩
  · subst hr
    rcases hy with ⟨h3, h4, h5⟩ | ⟨x, t', h3, -, h5⟩
    · rcases h3 with h3 | h3
      · cases h3
      · have h3 : t = [] := h3
        subst h3
        rw [h4, cond_true, hq]
        exact Ok.ret ⟨h1, .inl ⟨rfl, rfl⟩⟩
    · have h3 : t = x :: t' := h3
      subst h3 h5
      rw [cond_false, hq]
      refine Ok.ret ⟨h1, ?_⟩
      cases hx : f x with
      | none => exact .inl ⟨by unfold seqP one; simp [hx], rfl⟩
      | some a => exact .inr ⟨t', by unfold seqP one; simp [hx, ores], rfl⟩
theorem lo_bytes {v : api_Value} (h : v.sz < 1073741824) : Lo v.Bytes := by
  have := sz_eq v
  unfold Lo; omega
theorem p_Int : ReadsP asIntS g_certificate_Reader_Int := reads_p 0 (h := g_der_AsInt) asInt_z (fun v _ => der_AsInt v) (fun _ => rfl)
theorem p_Text : ReadsP asTextS g_certificate_Reader_Text := reads_p ⟨#[]⟩ (h := g_der_AsText) asText_z (fun v hv => der_AsText v (lo_bytes hv)) (fun _ => rfl)
theorem p_Bool : ReadsP asBoolS g_certificate_Reader_Bool := reads_p false (h := g_der_AsBool) asBool_z (fun v _ => der_AsBool v) (fun _ => rfl)
theorem p_List : ReadsP asListS g_certificate_Reader_List := reads_p [] (h := g_der_AsList) asList_z (fun v hv => der_AsList v hv) (fun _ => rfl)
def listN (n : Nat) (v : api_Value) : Option (Unit × List api_Value) := (asListS v).bind fun l => if l.length = n then some ((), l) else none
theorem asList_szs {v : api_Value} {l : List api_Value} (h : asListS v = some l) : szs l < v.sz := by
  unfold asListS at h
  split at h
  · injection h with h
    subst h
    have := sz_eq v
    omega
  · cases h
theorem p_Read (v : api_Value) (n : Nat) (hv : v.sz < 1073741824) : Ok (g_certificate_Read v (n : Int)) (fun r => Simv r (listN n v) ()) := by
  unfold g_certificate_Read listN
  refine Ok.bindE (der_AsList v hv) ?_
  cases hl : asListS v with
  | none => exact Ok.ret ⟨by show szs [] < 1073741824; decide, .inl ⟨rfl, rfl⟩⟩
  | some l =>
    have := asList_szs hl
    refine Ok.ret ⟨by show szs l < 1073741824; omega, ?_⟩
    show _ ∨ ∃ t, (if l.length = n then some ((), l) else none) = some ((), t) ∧ certificate_Reader.mk l (!decide ((l.length : Int) = (n : Int))) = ⟨t, false⟩
    by_cases h : l.length = n
    · have hd : (!decide ((l.length : Int) = (n : Int))) = false := by rw [decide_eq_true (by omega)]; rfl
      exact .inr ⟨l, if_pos h, congrArg (certificate_Reader.mk l) hd⟩
    · have hd : (!decide ((l.length : Int) = (n : Int))) = true := by rw [decide_eq_false (by omega)]; rfl
      exact .inl ⟨if_neg h, hd⟩
theorem p_Next {β : Type} (r : certificate_Reader) (q : Option (β × List api_Value)) (b : β) (hs : Simv r q b) : Ok (g_certificate_Reader_Next r) (fun y => Simv y.2 (seqP q some) (b, y.1) ∧ y.1.sz < 1073741824) := by
  refine (next_c r hs.1).mono fun y hy => ⟨⟨hy.1, ?_⟩, hy.2.1⟩
  obtain ⟨h1, h2, hy⟩ := hy
  rcases hs.2 with ⟨hq, hf⟩ | ⟨t, hq, hr⟩
  · refine .inl ⟨by rw [hq]; rfl, ?_⟩
    rcases hy with ⟨-, h3, -⟩ | ⟨x, t, -, h4, -⟩
    · exact h3
    · rw [hf] at h4; cases h4
  · subst hr
    rcases hy with ⟨h3, h4, h5⟩ | ⟨x, t', h3, -, h5⟩
    · rcases h3 with h3 | h3
      · cases h3
      · have h3 : t = [] := h3
        subst h3
        exact .inl ⟨by rw [hq]; rfl, h4⟩
    · have h3 : t = x :: t' := h3
      subst h3 h5
      exact .inr ⟨t', by rw [hq]; rfl, rfl⟩
def pairQ (l : List api_Value) : Option (((Unit × Int) × Int) × List api_Value) := seqP (seqP (some ((), l)) asIntS) asIntS
def pairS (v : api_Value) : Option (Int × Int) := match (asListS v).bind pairQ with
  | some (((_, a), b), []) => some (a, b)
  | _ => none
theorem pair_len {l : List api_Value} {b : (Unit × Int) × Int} {t : List api_Value} (h : pairQ l = some (b, t)) : l.length = t.length + 2 := by
  obtain ⟨x, h1, -⟩ := seqP_some h
  obtain ⟨y, h2, -⟩ := seqP_some h1
  injection h2 with h2
  injection h2 with _ h2
  rw [h2]; rfl
theorem p_pair (v : api_Value) (hv : v.sz < 1073741824) {T : Type} {k : Int × certificate_Reader → Int × certificate_Reader → Option T} {Q : T → Prop} (hk : ∀ y z : Int × certificate_Reader, ((z.2.Failed = true ∧ pairS v = none) ∨ (z.2.Failed = false ∧ pairS v = some (y.1, z.1))) → Ok (k y z) Q) :
    Ok ((g_certificate_Read v 2).bind fun x => (g_certificate_Reader_Int x).bind fun y => (g_certificate_Reader_Int y.2).bind fun z => k y z) Q := by
  refine Ok.bind (p_Read v 2 hv) fun x hx => ?_
  refine Ok.bind (p_Int x _ _ hx) fun y hy => ?_
  refine Ok.bind (p_Int y.2 _ _ hy) fun z hz => ?_
  refine hk y z ?_
  rcases hz.2 with ⟨hq, hf⟩ | ⟨t, hq, hr⟩
  · refine .inl ⟨hf, ?_⟩
    unfold pairS
    cases hl : asListS v with
    | none => rfl
    | some l =>
      rw [Option.bind_some]
      cases hp : pairQ l with
      | none => rfl
      | some p =>
        obtain ⟨⟨⟨u, a⟩, b⟩, t⟩ := p
        cases t with
        | cons _ _ => rfl
        | nil =>
          have hlen := pair_len hp
          have : listN 2 v = some ((), l) := by unfold listN; rw [hl, Option.bind_some, if_pos (by simpa using hlen)]
          rw [this] at hq
          unfold pairQ at hp
          rw [hq] at hp; cases hp
  · refine .inr ⟨by rw [hr], ?_⟩
    have h0 := hq
    obtain ⟨x1, h1, -⟩ := seqP_some hq
    obtain ⟨x2, h2, -⟩ := seqP_some h1
    unfold listN at h2
    obtain ⟨l, h3, h4⟩ := Option.bind_eq_some_iff.1 h2
    split at h4
    · rename_i hlen
      injection h4 with h4
      injection h4 with _ h4
      have ht : t = [] := by
        rw [h4] at hlen
        simp at hlen
        exact hlen
      subst ht
      unfold pairS
      have : listN 2 v = some ((), l) := by unfold listN; rw [h3, Option.bind_some, if_pos hlen]
      rw [this] at h0
      rw [h3, Option.bind_some]
      unfold pairQ
      rw [h0]
    · cases h4
def useQ (v : api_Value) : Option api_Use := (pairS v).map fun p => ⟨p.1, p.2⟩
theorem p_Use : ReadsP useQ g_certificate_Reader_Use := by
  intro β r q b hs
  unfold g_certificate_Reader_Use
  refine Ok.bind (next_c r hs.1) fun y hy => ?_
  obtain ⟨h1, h2, hy⟩ := hy
  refine p_pair y.1 h2 fun z w hz => ?_
  unfold g_certificate_Reader_Use.j1
  rcases hs.2 with ⟨hq, hf⟩ | ⟨t, hq, hr⟩
  · have hyf : y.2.Failed = true := by
      rcases hy with ⟨-, h3, -⟩ | ⟨x, t, -, h4, -⟩
      · exact h3
      · rw [hf] at h4; cases h4
    rw [hyf, cond_true, hq]
    exact Ok.ret ⟨h1, .inl ⟨rfl, rfl⟩⟩
  · subst hr
    rcases hy with ⟨h3, h4, h5⟩ | ⟨x, t', h3, -, h5⟩
    · rcases h3 with h3 | h3
      · cases h3
      · have h3 : t = [] := h3
        subst h3
        rw [h4, cond_true, hq]
        exact Ok.ret ⟨h1, .inl ⟨rfl, rfl⟩⟩
    · have h3 : t = x :: t' := h3
      subst h3 h5
      rw [cond_false, hq]
      refine Ok.ret ⟨h1, ?_⟩
      dsimp only at hz
      rcases hz with ⟨hz, e⟩ | ⟨hz, e⟩
      · exact .inl ⟨by unfold seqP one useQ; simp [e], hz⟩
      · refine .inr ⟨t', by unfold seqP one useQ; simp [e], ?_⟩
        rw [hz]
def txt (v : api_Value) : ByteArray := (asTextS v).getD ⟨#[]⟩
def textsS (l : List api_Value) : Option (List ByteArray) := if l.all (fun v => (asTextS v).isSome) then some (l.map txt) else none
def namesQ (v : api_Value) : Option (List ByteArray) := (asListS v).bind textsS
theorem names_loop (y : List api_Value × certificate_Reader) (hs : szs y.1 < 1073741824) : Ok (loop (fun q' => g_certificate_Reader_names.l1 y q'.1 q'.2.1 q'.2.2) (0, y.2.Failed, ([] : List ByteArray))) (fun z => z = (y.1.map txt, ⟨y.2.l, y.2.Failed || !y.1.all (fun v => (asTextS v).isSome)⟩)) := by
  have hn := szs_len y.1
  refine Ok.loop (fun s => ∃ k : Nat, k ≤ y.1.length ∧ s = ((k : Int), (y.2.Failed || !(y.1.take k).all (fun v => (asTextS v).isSome)), (y.1.take k).map txt)) (fun s => y.1.length - s.1.toNat) (fun s hk => ?_) ⟨0, Nat.zero_le _, by simp⟩
  obtain ⟨k, hk, rfl⟩ := hk
  show Ok (g_certificate_Reader_names.l1 y (k : Int) (y.2.Failed || !(y.1.take k).all (fun v => (asTextS v).isSome)) ((y.1.take k).map txt)) _
  unfold g_certificate_Reader_names.l1 g_certificate_Reader_names.j2
  refine Ok.cond (fun hc => ?_) fun hc => ?_
  · have hc := of_decide_eq_true hc
    obtain ⟨e, he⟩ : ∃ e, y.1[k]? = some e := ⟨_, List.getElem?_eq_getElem (by omega)⟩
    have hm := szs_mem (at_mem he)
    rw [getI_nat]
    refine Ok.bindE he (Ok.bindE (der_AsText e (lo_bytes (by omega))) ?_)
    have hx : (ores (⟨#[]⟩ : ByteArray) (asTextS e)).1 = txt e := by unfold txt; cases asTextS e <;> rfl
    have hy : (!decide ((ores (⟨#[]⟩ : ByteArray) (asTextS e)).2 = 0)) = !(asTextS e).isSome := by cases asTextS e <;> rfl
    have ha : appI 16 ((y.1.take k).map txt) [(ores (⟨#[]⟩ : ByteArray) (asTextS e)).1] = some ((y.1.take (k + 1)).map txt) := by
      rw [appI_ok (by simp; omega), hx, take_succ' he, List.map_append]; rfl
    have ht : (y.1.take (k + 1)).all (fun v => (asTextS v).isSome) = ((y.1.take k).all (fun v => (asTextS v).isSome) && (asTextS e).isSome) := by rw [take_succ' he, List.all_append]; simp
    rw [W_succ (by omega)]
    refine Ok.cond (fun hb => ?_) fun hb => ?_
    · refine Ok.bindE ha (Ok.ret ⟨⟨k + 1, by omega, ?_⟩, by show y.1.length - ((k + 1 : Nat) : Int).toNat < y.1.length - (k : Int).toNat; omega⟩)
      rw [ht]
      generalize (y.1.take k).all (fun v => (asTextS v).isSome) = a at *
      generalize (asTextS e).isSome = c at *
      cases a <;> cases c <;> simp_all
    · refine Ok.bindE ha (Ok.ret ⟨⟨k + 1, by omega, ?_⟩, by show y.1.length - ((k + 1 : Nat) : Int).toNat < y.1.length - (k : Int).toNat; omega⟩)
      rw [ht, hy]
      generalize (y.1.take k).all (fun v => (asTextS v).isSome) = a at *
      generalize (asTextS e).isSome = c at *
      cases a <;> cases c <;> simp_all
  · have hc := of_decide_eq_false hc
    have : k = y.1.length := by omega
    subst this
    refine Ok.up (Ok.ret ?_)
    rw [List.take_length]
theorem list_small (r : certificate_Reader) (hs : szs r.l < 1073741824) : Ok (g_certificate_Reader_List r) (fun z => szs z.1 < 1073741824) := by
  unfold g_certificate_Reader_List
  refine Ok.bind (next_c r hs) fun y hy => ?_
  refine Ok.bindE (der_AsList y.1 hy.2.1) ?_
  have : szs (ores ([] : List api_Value) (asListS y.1)).1 < 1073741824 := by
    have h2 := hy.2.1
    cases hl : asListS y.1 with
    | none => show szs [] < _; decide
    | some l =>
      have := asList_szs hl
      show szs l < _
      omega
  exact Ok.cond (fun _ => Ok.ret this) fun _ => Ok.ret this
theorem p_names : ReadsP namesQ g_certificate_Reader_names := by
  intro β r q b hs
  unfold g_certificate_Reader_names
  refine Ok.bind ((p_List r q b hs).and (list_small r hs.1)) fun y hy => ?_
  refine (names_loop y hy.2).mono fun z hz => ?_
  subst hz
  rcases hy.1.2 with ⟨hq, hf⟩ | ⟨t, hq, hr⟩
  · refine ⟨hy.1.1, .inl ⟨?_, by show (y.2.Failed || _) = true; rw [hf]; rfl⟩⟩
    cases q with
    | none => rfl
    | some p =>
      obtain ⟨b', l⟩ := p
      cases l with
      | nil => rfl
      | cons x l =>
        cases hx : asListS x with
        | none => simp [seqP, one, namesQ, hx]
        | some _ => simp [seqP, one, hx] at hq
  · obtain ⟨x, h1, h2⟩ := seqP_some hq
    have e : seqP q namesQ = (textsS y.1).map fun a => ((b, a), t) := by
      rw [h1]
      cases ht : textsS y.1 <;> simp [seqP, one, namesQ, h2, ht]
    refine ⟨hy.1.1, ?_⟩
    rw [e, hr]
    unfold textsS
    cases ha : y.1.all (fun v => (asTextS v).isSome) with
    | true => exact .inr ⟨t, rfl, rfl⟩
    | false => exact .inl ⟨rfl, rfl⟩
end Go.Proofs.YtbeageaekgccgaaGreat
