/- Certificates: the reference's reader. No program is in sight here. -/
import Derived.Test.YtlcfdnjokgbccaaGreatR2
set_option linter.unusedVariables false
set_option linter.unusedSimpArgs false
set_option maxRecDepth 100000
namespace Go.Proofs.YtlcfdnjokgbccaaGreat
open Go
structure RB (r : cipherplanref03_Reader) : Prop where
  sz : szs r.L < 1073741824
  a0 : 0 ≤ r.At
  a1 : r.At ≤ r.L.length
def Simr {β : Type} (r : cipherplanref03_Reader) (q : Option (β × List api_Value)) (b : β) : Prop := RB r ∧ ((q = none ∧ r.OK = false) ∨ ∃ t, q = some (b, t) ∧ r.OK = true ∧ r.L.drop r.At.toNat = t)
theorem next_r (r : cipherplanref03_Reader) (hs : RB r) : Ok (g_ref03_Reader_Next r) (fun y => RB y.2 ∧ y.1.sz < 1073741824 ∧ ((r.OK = false ∨ r.L.drop r.At.toNat = []) ∧ y.2.OK = false ∧ y.1 = zeroV ∨ ∃ x t, r.OK = true ∧ r.L.drop r.At.toNat = x :: t ∧ y.1 = x ∧ y.2.OK = true ∧ y.2.L.drop y.2.At.toNat = t)) := by
  have hz : zeroV.sz < 1073741824 := by decide
  have h0 := hs.a0
  have h1 := hs.a1
  have hn := szs_len r.L
  have hsz := hs.sz
  unfold g_ref03_Reader_Next g_ref03_Reader_Next.j1
  cases hf : r.OK with
  | false => exact Ok.ret ⟨⟨hs.sz, hs.a0, hs.a1⟩, hz, .inl ⟨.inl rfl, rfl, rfl⟩⟩
  | true =>
    rw [Bool.not_true, cond_false]
    refine Ok.cond (fun hc => ?_) fun hc => ?_
    · have hc := of_decide_eq_true hc
      exact Ok.ret ⟨⟨hs.sz, hs.a0, hs.a1⟩, hz, .inl ⟨.inr (List.drop_eq_nil_of_le (by omega)), rfl, rfl⟩⟩
    · have hc := of_decide_eq_false hc
      rw [W_id (x := r.At + 1) (by omega), W_id (by omega), show r.At + 1 - 1 = r.At by omega]
      obtain ⟨x, hx, hat⟩ := getI_ok (l := r.L) h0 (by omega)
      have hd : r.L.drop r.At.toNat = x :: r.L.drop (r.At.toNat + 1) := by
        obtain ⟨hk, e⟩ := List.getElem?_eq_some_iff.1 hat
        rw [List.drop_eq_getElem_cons hk, e]
      have hm := szs_mem (List.mem_of_getElem? hat)
      refine Ok.bindE hx (Ok.ret ⟨⟨hs.sz, by show 0 ≤ r.At + 1; omega, by show r.At + 1 ≤ (r.L.length : Int); omega⟩, by show x.sz < _; omega, .inr ⟨x, _, rfl, hd, rfl, rfl, ?_⟩⟩)
      show r.L.drop (r.At + 1).toNat = _
      rw [show (r.At + 1).toNat = r.At.toNat + 1 by omega]
def ReadsR {α : Type} (f : api_Value → Option α) (g : cipherplanref03_Reader → Option (α × cipherplanref03_Reader)) : Prop := ∀ {β : Type} (r : cipherplanref03_Reader) (q : Option (β × List api_Value)) (b : β), Simr r q b → Ok (g r) (fun y => Simr y.2 (seqP q f) (b, y.1))
theorem Simr.step {β : Type} {r : cipherplanref03_Reader} {q : Option (β × List api_Value)} {b : β} (hs : Simr r q b) {y : api_Value × cipherplanref03_Reader} (hy : (r.OK = false ∨ r.L.drop r.At.toNat = []) ∧ y.2.OK = false ∧ y.1 = zeroV ∨ ∃ x t, r.OK = true ∧ r.L.drop r.At.toNat = x :: t ∧ y.1 = x ∧ y.2.OK = true ∧ y.2.L.drop y.2.At.toNat = t) :
    (y.2.OK = false ∧ y.1 = zeroV ∧ ∀ {α : Type} (f : api_Value → Option α), seqP q f = none) ∨ (y.2.OK = true ∧ ∃ t, q = some (b, y.1 :: t) ∧ y.2.L.drop y.2.At.toNat = t) := by
  rcases hs.2 with ⟨hq, hf⟩ | ⟨t, hq, hr, hd⟩
  · rcases hy with ⟨-, h3, h4⟩ | ⟨x, t, h4, -⟩
    · exact .inl ⟨h3, h4, fun f => by rw [hq]; rfl⟩
    · rw [hf] at h4; cases h4
  · rcases hy with ⟨h3, h4, h5⟩ | ⟨x, t', h3, h4, h5, h6, h7⟩
    · refine .inl ⟨h4, h5, fun f => ?_⟩
      rcases h3 with h3 | h3
      · rw [hr] at h3; cases h3
      · rw [hd] at h3; subst h3; rw [hq]; rfl
    · rw [hd] at h4
      subst h4 h5
      exact .inr ⟨h6, t', hq, h7⟩
theorem seqP_cons {α β : Type} {b : β} {x : api_Value} {t : List api_Value} {f : api_Value → Option α} : seqP (some (b, x :: t)) f = (f x).map fun a => ((b, a), t) := by
  cases h : f x <;> simp [seqP, one, h]
theorem reads_r {α : Type} {f : api_Value → Option α} {g : cipherplanref03_Reader → Option (α × cipherplanref03_Reader)} (d : α) {h : api_Value → Option (α × Int)} (hh : ∀ v : api_Value, v.sz < 1073741824 → h v = some (ores d (f v)))
    (hg : ∀ r, g r = (g_ref03_Reader_Next r).bind fun y => (h y.1).bind fun y_2 => cond (y.2.OK) (some (y_2.1, (cipherplanref03_Reader.mk y.2.L y.2.At (decide (y_2.2 = 0))))) (some (y_2.1, (cipherplanref03_Reader.mk y.2.L y.2.At false)))) : ReadsR f g := by
  intro β r q b hs
  rw [hg]
  refine Ok.bind (next_r r hs.1) fun y hy => ?_
  obtain ⟨h1, h2, hy⟩ := hy
  refine Ok.bindE (hh y.1 h2) ?_
  rcases hs.step hy with ⟨hf, -, hn⟩ | ⟨hf, t, hq, hd⟩
  · rw [hf, cond_false, hn]
    exact Ok.ret ⟨⟨h1.sz, h1.a0, h1.a1⟩, .inl ⟨rfl, rfl⟩⟩
  · rw [hf, cond_true, hq, seqP_cons]
    refine Ok.ret ⟨⟨h1.sz, h1.a0, h1.a1⟩, ?_⟩
    cases hx : f y.1 with
    | none => exact .inl ⟨rfl, rfl⟩
    | some a => exact .inr ⟨t, rfl, rfl, hd⟩
theorem r_Int : ReadsR asIntS g_ref03_Reader_Int := reads_r 0 (h := g_ref01_AsInt) (fun v _ => ref01_AsInt v) (fun _ => rfl)
theorem r_Text : ReadsR asTextS g_ref03_Reader_Text := reads_r ⟨#[]⟩ (h := g_ref01_AsText) (fun v hv => ref01_AsText v (lo_bytes hv)) (fun _ => rfl)
theorem r_Bool : ReadsR asBoolS g_ref03_Reader_Bool := reads_r false (h := g_ref01_AsBool) (fun v _ => ref01_AsBool v) (fun _ => rfl)
theorem r_Text_at (r : cipherplanref03_Reader) (hs : RB r) (ho : r.OK = true) (ha : r.At < (r.L.length : Int)) : Ok (g_ref03_Reader_Text r) (fun y => y.2.L = r.L ∧ y.2.At = r.At + 1) := by
  have h0 := hs.a0
  have hn := szs_len r.L
  have hsz := hs.sz
  unfold g_ref03_Reader_Text g_ref03_Reader_Next g_ref03_Reader_Next.j1
  rw [ho, Bool.not_true, cond_false, decide_eq_false (by omega), cond_false]
  rw [W_id (x := r.At + 1) (by omega), W_id (by omega), show r.At + 1 - 1 = r.At by omega]
  obtain ⟨x, hx, hat⟩ := getI_ok (l := r.L) h0 (by omega)
  have hm := szs_mem (List.mem_of_getElem? hat)
  rw [hx, Option.bind_some, Option.bind_some, ref01_AsText x (lo_bytes (by omega)), Option.bind_some]
  exact Ok.ret ⟨rfl, rfl⟩
def listQ (v : api_Value) : Option (Unit × List api_Value) := (asListS v).map fun l => ((), l)
theorem r_Read (v : api_Value) (hv : v.sz < 1073741824) : Ok (g_ref03_Read v) (fun r => Simr r (listQ v) () ∧ r.L = (asListS v).getD []) := by
  unfold g_ref03_Read listQ
  refine Ok.bindE (ref01_AsList v hv) ?_
  cases hl : asListS v with
  | none => exact Ok.ret ⟨⟨⟨by show szs [] < 1073741824; decide, Int.le_refl _, Int.le_refl _⟩, .inl ⟨rfl, rfl⟩⟩, rfl⟩
  | some l =>
    have := asList_szs hl
    exact Ok.ret ⟨⟨⟨by show szs l < 1073741824; omega, Int.le_refl _, by show (0 : Int) ≤ (l.length : Int); omega⟩, .inr ⟨l, rfl, rfl, rfl⟩⟩, rfl⟩
theorem r_List {β : Type} (r : cipherplanref03_Reader) (q : Option (β × List api_Value)) (b : β) (hs : Simr r q b) : Ok (g_ref03_Reader_List r) (fun z => Simr z.2 (seqP q asListS) (b, z.1.L) ∧ Simr z.1 ((seqP q asListS).map fun p => ((), p.1.2)) ()) := by
  unfold g_ref03_Reader_List
  refine Ok.bind (next_r r hs.1) fun y hy => ?_
  obtain ⟨h1, h2, hy⟩ := hy
  refine Ok.bind (r_Read y.1 h2) fun z hz' => ?_
  obtain ⟨hz, hzL⟩ := hz'
  rcases hs.step hy with ⟨hf, he, hn⟩ | ⟨hf, t, hq, hd⟩
  · rw [hf, cond_false, hn]
    refine Ok.ret ⟨⟨⟨h1.sz, h1.a0, h1.a1⟩, .inl ⟨rfl, rfl⟩⟩, hz.1, .inl ⟨rfl, ?_⟩⟩
    rw [he] at hz
    rcases hz.2 with ⟨-, h⟩ | ⟨t, h, -⟩
    · exact h
    · cases h
  · rw [hf, cond_true, hq, seqP_cons]
    unfold listQ at hz
    cases hx : asListS y.1 with
    | none =>
      rw [hx] at hz
      rcases hz.2 with ⟨-, h⟩ | ⟨t, h, -⟩
      · exact Ok.ret ⟨⟨⟨h1.sz, h1.a0, h1.a1⟩, .inl ⟨rfl, h⟩⟩, hz.1, .inl ⟨rfl, h⟩⟩
      · cases h
    | some l =>
      rw [hx] at hz hzL
      have hzL : z.L = l := hzL
      rcases hz.2 with ⟨h, -⟩ | ⟨t2, h, h3, h4⟩
      · cases h
      · have e : l = t2 := by
          injection h with h
          injection h with _ h
        subst e
        refine Ok.ret ⟨⟨⟨h1.sz, h1.a0, h1.a1⟩, .inr ⟨t, ?_, h3, hd⟩⟩, hz.1, .inr ⟨l, rfl, h3, h4⟩⟩
        show some ((b, l), t) = some ((b, z.L), t)
        rw [hzL]
theorem r_End {β : Type} (r : cipherplanref03_Reader) (q : Option (β × List api_Value)) (b : β) (hs : Simr r q b) : ∃ e, g_ref03_Reader_End r = some (e, r) ∧ ((e = true ∧ q = some (b, [])) ∨ (e = false ∧ ∀ b', q ≠ some (b', []))) := by
  unfold g_ref03_Reader_End
  have h0 := hs.1.a0
  have h1 := hs.1.a1
  rcases hs.2 with ⟨hq, hf⟩ | ⟨t, hq, hf, hd⟩
  · rw [hf, cond_false]
    exact ⟨false, rfl, .inr ⟨rfl, fun b' h => by rw [hq] at h; cases h⟩⟩
  · rw [hf, cond_true]
    by_cases h : r.At = (r.L.length : Int)
    · refine ⟨_, rfl, .inl ⟨decide_eq_true h, ?_⟩⟩
      rw [hq, ← hd, List.drop_eq_nil_of_le (by omega)]
    · refine ⟨_, rfl, .inr ⟨decide_eq_false h, fun b' h' => ?_⟩⟩
      rw [hq] at h'
      injection h' with h'
      injection h' with _ h'
      rw [h'] at hd
      have := List.drop_eq_nil_iff.1 hd
      omega
theorem pairS_of {v : api_Value} {l : List api_Value} (h : asListS v = some l) : pairS v = match pairQ l with
  | some (((_, a), b), []) => some (a, b)
  | _ => none := by unfold pairS; rw [h]; rfl
theorem r_Use : ReadsR useQ g_ref03_Reader_Use := by
  intro β r q b hs
  unfold g_ref03_Reader_Use g_ref03_Reader_Use.j1
  refine Ok.bind (r_List r q b hs) fun z hz => ?_
  obtain ⟨hz1, hz2⟩ := hz
  refine Ok.bind (r_Int z.1 _ _ hz2) fun y1 h1 => ?_
  refine Ok.bind (r_Int y1.2 _ _ h1) fun y2 h2 => ?_
  have hB := hz1.1
  rcases hz1.2 with ⟨hq, hf⟩ | ⟨t, hq, hf, hd⟩
  · rw [hf, cond_false]
    refine Ok.ret ⟨⟨hB.sz, hB.a0, hB.a1⟩, .inl ⟨?_, rfl⟩⟩
    cases q with
    | none => rfl
    | some p =>
      obtain ⟨b', l⟩ := p
      cases l with
      | nil => rfl
      | cons x l =>
        rw [seqP_cons] at hq ⊢
        cases hx : asListS x with
        | none => unfold useQ pairS; rw [hx]; rfl
        | some _ => rw [hx] at hq; cases hq
  · obtain ⟨x, e1, e2⟩ := seqP_some hq
    have e1 : q = some (b, x :: t) := e1
    have e2 : asListS x = some z.1.L := e2
    rw [hq] at h2
    obtain ⟨e, he, hend⟩ := r_End y2.2 _ _ h2
    rw [hf, cond_true]
    refine Ok.bindE he (Ok.ret ⟨⟨hB.sz, hB.a0, hB.a1⟩, ?_⟩)
    rw [e1, seqP_cons]
    have hp := pairS_of e2
    have hpq : pairQ z.1.L = seqP (seqP ((some ((b, z.1.L), t)).map fun p : (β × List api_Value) × List api_Value => ((), p.1.2)) asIntS) asIntS := rfl
    rw [hpq] at hp
    rcases hend with ⟨he1, hq2⟩ | ⟨he1, hq2⟩
    · rw [hq2] at hp
      refine .inr ⟨t, ?_, he1, hd⟩
      unfold useQ
      rw [hp]; rfl
    · refine .inl ⟨?_, he1⟩
      have : pairS x = none := by
        rw [hp]
        split
        · rename_i u a b' hm
          exact absurd hm (hq2 _)
        · rfl
      unfold useQ
      rw [this]; rfl
theorem ref_From (v : api_Value) (hv : v.sz < 1073741824) : Ok (g_ref03_From v) (fun z => match parseS v with | some c => z = (c, true) | none => z.2 = false) := by
  unfold g_ref03_From
  refine Ok.bind (r_Read v hv) fun y hy => ?_
  refine Ok.bind (r_List y _ _ hy.1) fun y2 h2 => ?_
  refine Ok.bind (r_Int y2.1 _ _ h2.2) fun z1 k1 => ?_
  refine Ok.bind (r_Text z1.2 _ _ k1) fun z2 k2 => ?_
  refine Ok.bind (r_Text z2.2 _ _ k2) fun z3 k3 => ?_
  refine Ok.bind (r_Use z3.2 _ _ k3) fun z4 k4 => ?_
  refine Ok.bind (r_Int z4.2 _ _ k4) fun z5 k5 => ?_
  refine Ok.bind (r_Use z5.2 _ _ k5) fun z6 k6 => ?_
  refine Ok.bind (r_Int z6.2 _ _ k6) fun z7 k7 => ?_
  refine Ok.bind (r_Int z7.2 _ _ k7) fun z8 k8 => ?_
  refine Ok.bind (r_Bool z8.2 _ _ k8) fun z9 k9 => ?_
  refine Ok.bind (r_Int z9.2 _ _ k9) fun z10 k10 => ?_
  refine Ok.bind (r_List z10.2 _ _ k10) fun y13 h13 => ?_
  obtain ⟨kb, kn⟩ := h13
  have hB := kn.1
  refine Ok.loop (fun s => s.1.L = y13.1.L ∧ RB s.1 ∧ (s.2.length : Int) = s.1.At - y13.1.At ∧ y13.1.At ≤ s.1.At ∧
      ((s.1.OK = true ∧ y13.1.OK = true ∧ ((y13.1.L.drop y13.1.At.toNat).take s.2.length).all (fun v => (asTextS v).isSome) = true ∧ s.2 = ((y13.1.L.drop y13.1.At.toNat).take s.2.length).map txt) ∨ (s.1.OK = false ∧ (y13.1.OK = false ∨ textsS (y13.1.L.drop y13.1.At.toNat) = none)))) (fun s => (y13.1.L.length : Int).toNat + 1 - s.1.At.toNat) (fun s hs => ?_) ?_
  · obtain ⟨n, l⟩ := s
    obtain ⟨a1, a2, a3, a4, a5⟩ := hs
    dsimp only at a1 a2 a3 a4 a5
    have hn := szs_len n.L
    have hsz := a2.sz
    have b0 := a2.a0
    have b1 := a2.a1
    have c0 := hB.a0
    have c1 := hB.a1
    show Ok (g_ref03_From.l1 y2 z1 z2 z3 z4 z5 z6 z7 z8 z9 z10 y13 n l) _
    -- what comes behind the names
    have fin : (n.OK = false ∨ (n.L.length : Int) ≤ n.At) → Ok (g_ref03_From.j2 y2 z1 z2 z3 z4 z5 z6 z7 z8 z9 z10 y13 n l false) (Rd' (fun s' => (s'.1.L = y13.1.L ∧ RB s'.1 ∧ (s'.2.length : Int) = s'.1.At - y13.1.At ∧ y13.1.At ≤ s'.1.At ∧
        ((s'.1.OK = true ∧ y13.1.OK = true ∧ ((y13.1.L.drop y13.1.At.toNat).take s'.2.length).all (fun v => (asTextS v).isSome) = true ∧ s'.2 = ((y13.1.L.drop y13.1.At.toNat).take s'.2.length).map txt) ∨ (s'.1.OK = false ∧ (y13.1.OK = false ∨ textsS (y13.1.L.drop y13.1.At.toNat) = none)))) ∧ (y13.1.L.length : Int).toNat + 1 - s'.1.At.toNat < (y13.1.L.length : Int).toNat + 1 - ((n, l) : cipherplanref03_Reader × List ByteArray).1.At.toNat) (fun z => match parseS v with | some c => z = (c, true) | none => z.2 = false)) := by
      intro hend
      unfold g_ref03_From.j2
      rw [cond_false]
      refine Ok.up ?_
      refine Ok.bind (r_List y2.2 _ _ h2.1) fun y15 h15 => ?_
      refine Ok.bind (r_Int y15.1 _ _ h15.2) fun w1 m1 => ?_
      refine Ok.bind (r_Int w1.2 _ _ m1) fun w2 m2 => ?_
      obtain ⟨e18, he18, f18⟩ := r_End y15.2 _ _ h15.1
      obtain ⟨e19, he19, f19⟩ := r_End y13.2 _ _ kb
      obtain ⟨e21, he21, f21⟩ := r_End w2.2 _ _ m2
      -- the names' reader
      have f20 : ∃ e, g_ref03_Reader_End n = some (e, n) ∧ ((e = true ∧ y13.1.OK = true ∧ textsS (y13.1.L.drop y13.1.At.toNat) = some l) ∨ (e = false ∧ (y13.1.OK = false ∨ textsS (y13.1.L.drop y13.1.At.toNat) = none))) := by
        unfold g_ref03_Reader_End
        rcases a5 with ⟨o1, o2, o3, o4⟩ | ⟨o1, o2⟩
        · rw [o1, cond_true]
          rcases hend with h | h
          · rw [o1] at h; cases h
          have hall : n.At = (n.L.length : Int) := by omega
          refine ⟨_, rfl, .inl ⟨decide_eq_true hall, o2, ?_⟩⟩
          have hlen : l.length = (y13.1.L.drop y13.1.At.toNat).length := by
            rw [List.length_drop]
            have := congrArg List.length a1
            omega
          rw [hlen, List.take_length] at o3 o4
          unfold textsS
          rw [if_pos o3, o4]
        · rw [o1, cond_false]
          exact ⟨_, rfl, .inr ⟨rfl, o2⟩⟩
      obtain ⟨e20, he20, f20⟩ := f20
      refine Ok.bindE he18 ?_
      -- the outer list
      have houter : ∀ x y, asListS v = some [x, y] → seqP (seqP (listQ v) asListS) asListS = ((asListS x).bind fun l => (asListS y).map fun m => ((((), l), m), [])) := by
        intro x y h
        unfold listQ
        rw [h]
        show seqP (seqP (some ((), [x, y])) asListS) asListS = _
        rw [seqP_cons]
        cases hx : asListS x with
        | none => rfl
        | some lx =>
          show seqP (some (((), lx), [y])) asListS = _
          rw [seqP_cons]
          cases asListS y <;> rfl
      have hno : parseS v = none → Ok (some ((api_Certificate.mk z1.1 z2.1 z3.1 z4.1 z5.1 z6.1 z7.1 z8.1 z9.1 z10.1 l (api_Seal.mk w1.1 w2.1)), false)) (fun z : api_Certificate × Bool => match parseS v with | some c => z = (c, true) | none => z.2 = false) := fun h => Ok.ret (by rw [h])
      rcases f18 with ⟨g18, q18⟩ | ⟨g18, q18⟩
      rotate_left
      · -- not two lists
        subst g18
        refine hno ?_
        unfold parseS
        cases hl : asListS v with
        | none => rfl
        | some l2 =>
          match l2, hl with
          | [], _ => rfl
          | [_], _ => rfl
          | [x, y], hl =>
            have := houter x y hl
            dsimp only
            cases hx : asListS x with
            | none => unfold bodyS; rw [hx]; rfl
            | some lx =>
              cases hy' : asListS y with
              | none =>
                have : pairS y = none := by unfold pairS; rw [hy']; rfl
                rw [this]
                cases bodyS x <;> rfl
              | some ly =>
                rw [hx, hy'] at this
                exact absurd this (q18 _)
          | _ :: _ :: _ :: _, _ => rfl
      subst g18
      rw [show ((true, y15.2) : Bool × cipherplanref03_Reader).1 = true from rfl, cond_true]
      obtain ⟨y', p1, p2⟩ := seqP_some q18
      obtain ⟨x', p3, p4⟩ := seqP_some p1
      have hl : asListS v = some [x', y'] := by
        unfold listQ at p3
        obtain ⟨l3, q1, q2⟩ := Option.map_eq_some_iff.1 p3
        injection q2 with _ q2
        rw [q1, q2]
      have p4 : asListS x' = some y2.1.L := p4
      have p2 : asListS y' = some y15.1.L := p2
      have hp : parseS v = (bodyS x').bind fun b => (pairS y').map fun s => mkC b s := by unfold parseS; rw [hl]
      have hq0 : seqP (listQ v) asListS = some (((), y2.1.L), [y']) := p1
      rw [hq0] at k1 k2 k3 k4 k5 k6 k7 k8 k9 k10 kb kn f19
      rw [q18] at m2 f21
      have hbody : bodyS x' = match bodyQ (some ((), y2.1.L)) with
        | some (b, []) => some b
        | _ => none := by unfold bodyS; rw [p4]; rfl
      have hpair := pairS_of p2
      have hb10 : body10 (some ((), y2.1.L)) = seqP (seqP (seqP (seqP (seqP (seqP (seqP (seqP (seqP (seqP (Option.map (fun p : (Unit × List api_Value) × List api_Value => ((), p.1.2)) (some (((), y2.1.L), [y']))) asIntS) asTextS) asTextS) useQ) asIntS) useQ) asIntS) asIntS) asBoolS) asIntS := rfl
      rw [← hb10] at kb kn f19
      refine Ok.bindE he19 ?_
      rcases f19 with ⟨g19, q19⟩ | ⟨g19, q19⟩
      rotate_left
      · subst g19
        refine hno ?_
        have : bodyS x' = none := by
          rw [hbody]
          cases hQ : bodyQ (some ((), y2.1.L)) with
          | none => rfl
          | some p =>
            obtain ⟨b, t⟩ := p
            cases t with
            | cons _ _ => rfl
            | nil =>
              exfalso
              unfold bodyQ at hQ
              obtain ⟨xn, r1, r2⟩ := seqP_some hQ
              unfold namesQ at r2
              obtain ⟨ln, r3, -⟩ := Option.bind_eq_some_iff.1 r2
              refine q19 (b.1, ln) ?_
              rw [r1, seqP_cons, r3]; rfl
        rw [hp, this]; rfl
      subst g19
      rw [show ((true, y13.2) : Bool × cipherplanref03_Reader).1 = true from rfl, cond_true]
      obtain ⟨xn, r1, r2⟩ := seqP_some q19
      have r2 : asListS xn = some y13.1.L := r2
      have hdrop : y13.1.L.drop y13.1.At.toNat = y13.1.L ∧ y13.1.OK = true := by
        rcases kn.2 with ⟨h, -⟩ | ⟨t, h, h3, h4⟩
        · rw [q19] at h; cases h
        · rw [q19] at h
          injection h with h
          injection h with _ h
          rw [h4, ← h]; exact ⟨rfl, h3⟩
      rw [hdrop.1, hdrop.2] at f20
      refine Ok.bindE he20 ?_
      have hQ : bodyQ (some ((), y2.1.L)) = (textsS y13.1.L).map fun a => (((((((((((((), z1.1), z2.1), z3.1), z4.1), z5.1), z6.1), z7.1), z8.1), z9.1), z10.1), a), []) := by
        unfold bodyQ
        rw [r1, seqP_cons]
        unfold namesQ
        rw [r2]; rfl
      rcases f20 with ⟨g20, -, q20⟩ | ⟨g20, q20⟩
      rotate_left
      · subst g20
        refine hno ?_
        have q20 : textsS y13.1.L = none := by
          rcases q20 with h | h
          · cases h
          · exact h
        have : bodyS x' = none := by rw [hbody, hQ, q20]; rfl
        rw [hp, this]; rfl
      subst g20
      rw [show ((true, n) : Bool × cipherplanref03_Reader).1 = true from rfl, cond_true]
      rw [q20] at hQ
      have hb : bodyS x' = some ((((((((((((), z1.1), z2.1), z3.1), z4.1), z5.1), z6.1), z7.1), z8.1), z9.1), z10.1), l) := by rw [hbody, hQ]; rfl
      refine Ok.bindE he21 (Ok.ret ?_)
      have hpq : pairQ y15.1.L = seqP (seqP ((some ((((), y2.1.L), y15.1.L), [])).map fun p : ((Unit × List api_Value) × List api_Value) × List api_Value => ((), p.1.2)) asIntS) asIntS := rfl
      rw [hpq] at hpair
      rcases f21 with ⟨g21, q21⟩ | ⟨g21, q21⟩
      · rw [q21] at hpair
        rw [hp, hb, hpair, g21]; rfl
      · have : pairS y' = none := by
          rw [hpair]
          split
          · rename_i u a b' hm
            exact absurd hm (q21 _)
          · rfl
        rw [hp, hb, this, g21]; rfl
    unfold g_ref03_From.l1
    refine Ok.cond (fun hok => ?_) fun hok => fin (.inl hok)
    by_cases hat : n.At < (n.L.length : Int)
    rotate_left
    · rw [decide_eq_false hat]
      exact fin (.inr (by omega))
    rw [decide_eq_true hat]
    unfold g_ref03_From.j2
    rw [cond_true]
    -- one text more
    rcases a5 with ⟨o1, o2, o3, o4⟩ | ⟨o1, o2⟩
    rotate_left
    · rw [o1] at hok; cases hok
    obtain ⟨e, he⟩ : ∃ e, n.L[n.At.toNat]? = some e := ⟨_, List.getElem?_eq_getElem (by omega)⟩
    have hdr : n.L.drop n.At.toNat = e :: n.L.drop (n.At.toNat + 1) := by
      obtain ⟨hk, e'⟩ := List.getElem?_eq_some_iff.1 he
      rw [List.drop_eq_getElem_cons hk, e']
    refine Ok.bind ((r_Text n (some ((), n.L.drop n.At.toNat)) () ⟨a2, .inr ⟨_, rfl, o1, rfl⟩⟩).and (r_Text_at n a2 o1 hat)) fun y14 h14 => ?_
    obtain ⟨⟨h14, h14s⟩, h14L, h14A⟩ := h14
    rw [hdr, seqP_cons] at h14s
    refine Ok.bindE (appI_ok (by rw [List.length_singleton]; omega)) ?_
    have hel : (y13.1.L.drop y13.1.At.toNat)[l.length]? = some e := by
      rw [List.getElem?_drop, ← a1, show y13.1.At.toNat + l.length = n.At.toNat by omega]; exact he
    refine Ok.ret ⟨⟨h14L.trans a1, h14, ?_, by show y13.1.At ≤ y14.2.At; omega, ?_⟩, ?_⟩
    · show ((l ++ [y14.1]).length : Int) = y14.2.At - y13.1.At
      rw [List.length_append, List.length_singleton]; omega
    · show _ ∨ _
      dsimp only
      rcases h14s with ⟨g1, g2⟩ | ⟨t, g1, g2, g3⟩
      · refine .inr ⟨g2, .inr ?_⟩
        have : asTextS e = none := by cases hx : asTextS e with
          | none => rfl
          | some _ => rw [hx] at g1; cases g1
        unfold textsS
        rw [if_neg]
        intro hall
        have := List.all_eq_true.1 hall e (at_mem hel)
        rw [‹asTextS e = none›] at this
        cases this
      · have ht : asTextS e = some y14.1 := by
          cases hx : asTextS e with
          | none => rw [hx] at g1; cases g1
          | some s =>
            rw [hx] at g1
            injection g1 with g1
            injection g1 with g1 _
            injection g1 with _ g1
            rw [g1]
        refine .inl ⟨g2, o2, ?_, ?_⟩
        · rw [List.length_append, List.length_singleton, take_succ' hel, List.all_append, o3]
          simp [ht]
        · rw [List.length_append, List.length_singleton, take_succ' hel, List.map_append, ← o4]
          simp [txt, ht]
    · dsimp only
      have := congrArg List.length a1
      omega
  · refine ⟨rfl, hB, by dsimp only; simp, Int.le_refl _, ?_⟩
    cases ho : y13.1.OK with
    | true => exact .inl ⟨rfl, rfl, by simp, by simp⟩
    | false => exact .inr ⟨rfl, .inl rfl⟩
end Go.Proofs.YtlcfdnjokgbccaaGreat
