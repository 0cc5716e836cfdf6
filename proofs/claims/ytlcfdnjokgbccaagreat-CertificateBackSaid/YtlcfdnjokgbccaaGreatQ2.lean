/- Certificates that are made: small ones; the laws of made certificates and of bytes. No program is in sight here. -/
import Derived.Test.YtlcfdnjokgbccaaGreatQ1
import Derived.Test.YtlcfdnjokgbccaaGreatK8
set_option linter.unusedVariables false
set_option linter.unusedSimpArgs false
set_option maxRecDepth 100000
namespace Go.Proofs.YtlcfdnjokgbccaaGreat
open Go
structure SmC (c : api_Certificate) : Prop where
  i : c.Issuer.size ≤ 2000
  s : c.Subject.size ≤ 2000
  n : c.Names.length ≤ 10
  ns : ∀ s ∈ c.Names, s.size ≤ 2000
theorem texts_szs (l : List ByteArray) (h : ∀ s ∈ l, s.size ≤ 2000) : szs (l.map textV) ≤ 2001 * l.length := by
  induction l with
  | nil => exact Nat.zero_le _
  | cons s l ih =>
    have h1 := ih fun x hx => h x (List.mem_cons_of_mem _ hx)
    have h2 := h s (List.mem_cons_self ..)
    rw [List.map_cons, szs, text_sz, List.length_cons]; omega
theorem SmC.sz {c : api_Certificate} (h : SmC c) : szs (bodyL c) ≤ 1000000 := by
  have t := texts_szs c.Names h.ns
  have a1 := intV_sz c.Serial
  have a2 := use_sz c.Key
  have a3 := intV_sz c.KeyId
  have a4 := use_sz c.Hash
  have a5 := intV_sz c.From
  have a6 := intV_sz c.To
  have a7 := intV_sz c.Path
  have a8 : (boolV c.Authority).sz = 2 := by unfold boolV; rw [sz_eq]; simp [szs]
  have := h.i
  have := h.s
  have := h.n
  unfold bodyL
  simp only [szs, text_sz, list_sz, a8]
  omega
theorem zeroC_sm : SmC zeroC := ⟨by decide, by decide, by decide, by intro s hs; cases hs⟩
theorem signS_sm {c : api_Certificate} (h : SmC c) (key : Int) : SmC (signS c key).1 := by
  unfold signS
  cases certS (unsl c) && (decide (0 ≤ key) && decide (key ≤ 2147483648)) with
  | false => exact zeroC_sm
  | true => exact ⟨h.i, h.s, h.n, h.ns⟩
def FS (c : api_Certificate) : Prop := FitC c ∧ SmC c
theorem cert_ok2 {d : cipherplanmake_Dice} (h : DOK d) {issuer subject : ByteArray} {key : api_Use} {id signer : Int} (authority : Bool) (hi : issuer.size ≤ 1000) (hs : subject.size ≤ 1000) (hk : SmU key) (hid : I64 id) (hsg : I64 signer) : Ok (g_make_Certificate d issuer subject key id signer authority) (fun y => FS y.1 ∧ DOK y.2) := by
  unfold g_make_Certificate
  refine Ok.bind (next_ok h 1000 (by omega) (by omega)) fun y1 h1 => ?_
  refine Ok.bind (of_ok h1.2 _ (by decide) (by decide)) fun y2 h2 => ?_
  refine Ok.bind (of_ok h2.2 _ (by decide) (by decide)) fun y3 h3 => ?_
  refine Ok.bind (of_ok h3.2 _ (by decide) (by decide)) fun y4 h4 => ?_
  have i2 := (sm_of (by decide) h2.1).i64
  have i3 := (sm_of (by decide) h3.1).i64
  have i4 := (sm_of (by decide) h4.1).i64
  have i1 : I64 y1.1 := by have := h1.1; unfold I64; omega
  have j2 : ∀ (p : Int) (d' : cipherplanmake_Dice) (l : List ByteArray), I64 p → DOK d' → l.length ≤ 10 → (∀ s ∈ l, s.size ≤ 2000) → Ok (g_make_Certificate.j2 issuer subject key id signer authority y1 y2 y3 y4 p d' l) (fun y => FS y.1 ∧ DOK y.2) := by
    intro p d' l hp hd hl hn
    unfold g_make_Certificate.j2
    have hf : FitC (api_Certificate.mk y1.1 issuer subject key id (api_Use.mk y2.1 0) y3.1 y4.1 authority p l (api_Seal.mk 0 0)) := fit_mk (by show l.length < 1000000000; omega) (fun s hs => by have := hn s hs; omega) (by show issuer.size ≤ _; omega) (by show subject.size ≤ _; omega) i1 hk.1.i64 hk.2.i64 hid i2 i64_0 i3 i4 hp i64_0 i64_0
    refine Ok.bindE (ref_Sign _ hf signer) ?_
    exact Ok.ret ⟨⟨signS_fit hf hsg, signS_sm ⟨by show issuer.size ≤ _; omega, by show subject.size ≤ _; omega, hl, hn⟩ _⟩, hd⟩
  have j1 : ∀ (p : Int) (d' : cipherplanmake_Dice), I64 p → DOK d' → Ok (g_make_Certificate.j1 issuer subject key id signer authority y1 y2 y3 y4 d' p) (fun y => FS y.1 ∧ DOK y.2) := by
    intro p d' hp hd
    unfold g_make_Certificate.j1
    refine Ok.bind (one_ok hd 3 (by omega) (by omega)) fun y hy => ?_
    refine Ok.cond (fun _ => ?_) fun _ => ?_
    · have hx : (⟨#[120]⟩ : ByteArray).size = 1 := rfl
      refine Ok.bind (catI_ok (by omega)) fun s hs' => ?_
      refine Ok.bind (appI_ok' (by simp)) fun l hl => ?_
      subst hl hs'
      refine j2 p y.2 _ hp hy (by simp) ?_
      intro s hs'
      simp only [List.cons_append, List.nil_append, List.mem_cons, List.not_mem_nil, or_false] at hs'
      rcases hs' with rfl | rfl
      · omega
      · rw [ByteArray.size_append]; omega
    · refine j2 p y.2 _ hp hy (by simp) ?_
      intro s hs'
      rw [List.mem_singleton.1 hs']; omega
  refine Ok.cond (fun _ => ?_) fun _ => ?_
  · refine Ok.bind (of_ok h4.2 _ (by decide) (by decide)) fun y5 h5 => ?_
    exact j1 _ _ (sm_of (by decide) h5.1).i64 h5.2
  · exact j1 _ _ i64_0 h4.2
theorem in_i64 {l : List Int} (h : l.all (fun n => decide (-9223372036854775808 ≤ n) && decide (n ≤ 9223372036854775807)) = true) {n : Int} (hn : n ∈ l) : I64 n := by
  have := List.all_eq_true.1 h n hn
  simpa [I64] using this
theorem in_txt {l : List ByteArray} {k : Nat} (h : l.all (fun s => decide (s.size ≤ k)) = true) {s : ByteArray} (hs : s ∈ l) : s.size ≤ k := by
  have := List.all_eq_true.1 h s hs
  simpa using this
theorem made03_ok {d : cipherplanmake_Dice} (h : DOK d) : Ok (g_law03_made d) (fun y => FS y.1 ∧ DOK y.2) := by
  unfold g_law03_made g_law03_made.j1
  refine Ok.bind (word_ok h _ (by decide) (by decide)) fun y1 h1 => ?_
  refine Ok.bind (word_ok h1.2 _ (by decide) (by decide)) fun y2 h2 => ?_
  refine Ok.bind (key_ok h2.2) fun y3 h3 => ?_
  refine Ok.bind (next_ok h3.2 200 (by omega) (by omega)) fun y4 h4 => ?_
  refine Ok.bind (next_ok h4.2 20 (by omega) (by omega)) fun y5 h5 => ?_
  refine Ok.bind (one_ok h5.2 2 (by omega) (by omega)) fun y6 h6 => ?_
  have s1 : y1.1.size ≤ 1000 := in_txt (by decide) h1.1
  have s2 : y2.1.size ≤ 1000 := in_txt (by decide) h2.1
  refine Ok.bind (cert_ok2 h6 _ s1 s2 h3.1 (by have := h4.1; unfold I64; omega) (by have := h5.1; unfold I64; omega)) fun y7 h7 => ?_
  obtain ⟨⟨hf, hm⟩, hd⟩ := h7
  have i := hf.is
  refine Ok.bind (next_ok hd 16 (by omega) (by omega)) fun y8 h8 => ?_
  have K : ∀ (c : api_Certificate) (d' : cipherplanmake_Dice), FS c → DOK d' → Ok (some (c, d')) (fun y : api_Certificate × cipherplanmake_Dice => FS y.1 ∧ DOK y.2) := fun c d' hc hd => Ok.ret ⟨hc, hd⟩
  refine Ok.cond (fun _ => Ok.bind (of_ok h8.2 _ (by decide) (by decide)) fun y h => K _ _ ⟨fit_mk hf.names hf.name hf.issuer hf.subject (in_i64 (by decide) h.1) i.a2 i.a3 i.a4 i.a5 i.a6 i.a7 i.a8 i.a9 i.b1 i.b2, ⟨hm.i, hm.s, hm.n, hm.ns⟩⟩ h.2) fun _ => ?_
  refine Ok.cond (fun _ => Ok.bind (word_ok h8.2 _ (by decide) (by decide)) fun y h => ?_) fun _ => ?_
  · have hs : y.1.size ≤ 1000 := in_txt (by decide) h.1
    exact K _ _ ⟨fit_mk hf.names hf.name (show y.1.size ≤ _ by omega) hf.subject i.a1 i.a2 i.a3 i.a4 i.a5 i.a6 i.a7 i.a8 i.a9 i.b1 i.b2, ⟨show y.1.size ≤ _ by omega, hm.s, hm.n, hm.ns⟩⟩ h.2
  refine Ok.cond (fun _ => Ok.bind (word_ok h8.2 _ (by decide) (by decide)) fun y h => ?_) fun _ => ?_
  · have hs : y.1.size ≤ 1000 := in_txt (by decide) h.1
    exact K _ _ ⟨fit_mk hf.names hf.name hf.issuer (show y.1.size ≤ _ by omega) i.a1 i.a2 i.a3 i.a4 i.a5 i.a6 i.a7 i.a8 i.a9 i.b1 i.b2, ⟨hm.i, show y.1.size ≤ _ by omega, hm.n, hm.ns⟩⟩ h.2
  refine Ok.cond (fun _ => Ok.bind (of_ok h8.2 _ (by decide) (by decide)) fun y h => Ok.bind (of_ok h.2 _ (by decide) (by decide)) fun z k => K _ _ ⟨fit_mk hf.names hf.name hf.issuer hf.subject i.a1 (in_i64 (by decide) h.1) (in_i64 (by decide) k.1) i.a4 i.a5 i.a6 i.a7 i.a8 i.a9 i.b1 i.b2, ⟨hm.i, hm.s, hm.n, hm.ns⟩⟩ k.2) fun _ => ?_
  refine Ok.cond (fun _ => Ok.bind (of_ok h8.2 _ (by decide) (by decide)) fun y h => K _ _ ⟨fit_mk hf.names hf.name hf.issuer hf.subject i.a1 i.a2 i.a3 (in_i64 (by decide) h.1) i.a5 i.a6 i.a7 i.a8 i.a9 i.b1 i.b2, ⟨hm.i, hm.s, hm.n, hm.ns⟩⟩ h.2) fun _ => ?_
  refine Ok.cond (fun _ => Ok.bind (of_ok h8.2 _ (by decide) (by decide)) fun y h => K _ _ ⟨fit_mk hf.names hf.name hf.issuer hf.subject i.a1 i.a2 i.a3 i.a4 (in_i64 (by decide) h.1) i64_0 i.a7 i.a8 i.a9 i.b1 i.b2, ⟨hm.i, hm.s, hm.n, hm.ns⟩⟩ h.2) fun _ => ?_
  refine Ok.cond (fun _ => Ok.bind (of_ok h8.2 _ (by decide) (by decide)) fun y h => Ok.bind (of_ok h.2 _ (by decide) (by decide)) fun z k => K _ _ ⟨fit_mk hf.names hf.name hf.issuer hf.subject i.a1 i.a2 i.a3 i.a4 i.a5 i.a6 (in_i64 (by decide) h.1) (in_i64 (by decide) k.1) i.a9 i.b1 i.b2, ⟨hm.i, hm.s, hm.n, hm.ns⟩⟩ k.2) fun _ => ?_
  refine Ok.cond (fun _ => Ok.bind (of_ok h8.2 _ (by decide) (by decide)) fun y h => K _ _ ⟨fit_mk hf.names hf.name hf.issuer hf.subject i.a1 i.a2 i.a3 i.a4 i.a5 i.a6 i.a7 i.a8 (in_i64 (by decide) h.1) i.b1 i.b2, ⟨hm.i, hm.s, hm.n, hm.ns⟩⟩ h.2) fun _ => ?_
  refine Ok.cond (fun _ => Ok.bind (next_ok h8.2 4 (by omega) (by omega)) fun y h => ?_) fun _ => ?_
  · refine Ok.bind (getI_mem (by omega) (show y.1 < (4 : Int) by omega)) fun e he => ?_
    have hl : e.length ≤ 10 ∧ ∀ s ∈ e, s.size ≤ 2000 := by
      simp only [List.mem_cons, List.not_mem_nil, or_false] at he
      rcases he with rfl | rfl | rfl | rfl
      · exact ⟨by decide, fun s hs => by cases hs⟩
      · exact ⟨by decide, fun s hs => in_txt (l := [⟨#[98]⟩, ⟨#[97]⟩]) (by decide) hs⟩
      · exact ⟨by decide, fun s hs => in_txt (l := [⟨#[97]⟩, ⟨#[97]⟩]) (by decide) hs⟩
      · exact ⟨by decide, fun s hs => in_txt (by decide) hs⟩
    exact K _ _ ⟨fit_mk (show e.length < _ by omega) (fun s hs => by have := hl.2 s hs; omega) hf.issuer hf.subject i.a1 i.a2 i.a3 i.a4 i.a5 i.a6 i.a7 i.a8 i.a9 i.b1 i.b2, ⟨hm.i, hm.s, hl.1, hl.2⟩⟩ h.2
  refine Ok.cond (fun _ => Ok.bind (of_ok h8.2 _ (by decide) (by decide)) fun y h => Ok.bind (of_ok h.2 _ (by decide) (by decide)) fun z k => K _ _ ⟨fit_mk hf.names hf.name hf.issuer hf.subject i.a1 i.a2 i.a3 i.a4 i.a5 i.a6 i.a7 i.a8 i.a9 (in_i64 (by decide) h.1) (in_i64 (by decide) k.1), ⟨hm.i, hm.s, hm.n, hm.ns⟩⟩ k.2) fun _ => ?_
  refine Ok.cond (fun _ => K _ _ ⟨fit_mk hf.names hf.name hf.issuer hf.subject i.a1 i.a2 i.a3 i.a4 i.a5 i.a6 i.a7 i.a8 i.a9 i.b1 i.b2, ⟨hm.i, hm.s, hm.n, hm.ns⟩⟩ h8.2) fun _ => ?_
  exact K _ _ ⟨hf, hm⟩ h8.2
theorem FitC.lo {c : api_Certificate} (h : FitC c) : Lo c.Names := by
  have := h.names
  unfold Lo; omega
end Go.Proofs.YtlcfdnjokgbccaaGreat
