/- Findings of a look: there are some, and not many. No program is in sight here. -/
import Derived.Test.YtoekocjflclojaaGreatW3
set_option linter.unusedVariables false
set_option linter.unusedSimpArgs false
namespace Go.Proofs.YtoekocjflclojaaGreat
open Go
structure FitF (f : api_Finding) : Prop where
  host : f.Host.size ≤ 1000
  subj : f.Subject.size ≤ 1000
  text : f.Text.size ≤ 1000
def AllF (l : List api_Finding) : Prop := ∀ f ∈ l, FitF f
abbrev T' {α : Type} : α → Prop := fun _ => True
theorem chk_j4 (b : Bool) : Ok (g_ref14_Check.j4 b) T' := by
  unfold g_ref14_Check.j4
  exact Ok.cond (fun _ => Ok.ret trivial) (fun _ => Ok.ret trivial)
theorem chk_j3 {f : api_Finding} (h : FitF f) (b : Bool) : Ok (g_ref14_Check.j3 f b) T' := by
  have h3 := h.text
  unfold g_ref14_Check.j3
  repeat' (first | exact chk_j4 _ | refine Ok.cond (fun _ => ?_) (fun _ => ?_) | refine Ok.bindE (ref_Name _ (by omega)) ?_)
theorem chk_j2 {f : api_Finding} (h : FitF f) (b : Bool) : Ok (g_ref14_Check.j2 f b) T' := by
  unfold g_ref14_Check.j2
  repeat' (first | exact chk_j4 _ | exact chk_j3 h _ | refine Ok.cond (fun _ => ?_) (fun _ => ?_) | refine Ok.bindE (ref_Valid _) ?_ | refine Ok.bindE (ref_Signature _) ?_)
theorem chk_j1 {f : api_Finding} (h : FitF f) (b : Bool) : Ok (g_ref14_Check.j1 f b) T' := by
  unfold g_ref14_Check.j1
  repeat' (first | exact chk_j2 h _ | exact Ok.ret trivial | refine Ok.cond (fun _ => ?_) (fun _ => ?_))
theorem chk_ok {f : api_Finding} (h : FitF f) : Ok (g_ref14_Check f) T' := by
  have h1 := h.host
  have h2 := h.subj
  unfold g_ref14_Check
  repeat' (first | exact chk_j1 h _ | refine Ok.cond (fun _ => ?_) (fun _ => ?_) | refine Ok.bindE (ref_Name _ (by omega)) ?_)
theorem txt_ok (a b : ByteArray) : Ok (g_ref14_texts a b) T' := by
  unfold g_ref14_texts
  exact Ok.cond (fun _ => Ok.ret trivial) (fun _ => Ok.cond (fun _ => Ok.ret trivial) (fun _ => Ok.ret trivial))
theorem ints_ok {a b : List Int} (h : a.length = b.length) (hl : a.length ≤ 100) : Ok (g_ref14_ints a b) T' := by
  unfold g_ref14_ints
  refine Ok.loop (fun s : Int => 0 ≤ s ∧ s ≤ a.length) (fun s => ((a.length : Int) - s).toNat) (fun s hs => ?_) ⟨Int.le_refl _, by omega⟩
  show Ok (g_ref14_ints.l1 a b s) _
  unfold g_ref14_ints.l1
  refine Ok.cond (fun hb => ?_) fun _ => Ok.up (Ok.ret trivial)
  have hb := of_decide_eq_true hb
  refine Ok.bind (getI_ok hs.1 hb) fun x _ => ?_
  refine Ok.bind (getI_ok hs.1 (by omega)) fun y _ => ?_
  refine Ok.cond (fun _ => Ok.up (Ok.ret trivial)) fun _ => Ok.cond (fun _ => Ok.up (Ok.ret trivial)) fun _ => ?_
  rw [W_id (by omega)]
  exact Ok.ret ⟨⟨by omega, by omega⟩, by omega⟩
theorem ord_ok (a b : api_Finding) : Ok (g_ref14_Order a b) T' := by
  unfold g_ref14_Order
  refine Ok.bind (txt_ok _ _) fun _ _ => Ok.cond (fun _ => Ok.ret trivial) fun _ => ?_
  refine Ok.bind (ints_ok rfl (by simp)) fun _ _ => Ok.cond (fun _ => Ok.ret trivial) fun _ => ?_
  refine Ok.bind (txt_ok _ _) fun _ _ => Ok.cond (fun _ => Ok.ret trivial) fun _ => ?_
  refine Ok.bind (ints_ok rfl (by simp)) fun _ _ => Ok.cond (fun _ => Ok.ret trivial) fun _ => ?_
  refine Ok.bind (txt_ok _ _) fun _ _ => Ok.cond (fun _ => Ok.ret trivial) fun _ => ?_
  exact Ok.bind (ints_ok rfl (by simp)) fun _ _ => Ok.ret trivial
def PutQ (l : List api_Finding) (f : api_Finding) (r : List api_Finding) : Prop := r.length ≤ l.length + 1 ∧ ∀ x ∈ r, x ∈ l ∨ x = f
theorem put_ok {l : List api_Finding} (f : api_Finding) (hl : l.length ≤ 1000) : Ok (g_ref14_put l f) (PutQ l f) := by
  unfold g_ref14_put
  refine Ok.loop (fun s : Int => 0 ≤ s ∧ s ≤ l.length) (fun s => s.toNat) (fun s hs => ?_) ⟨by omega, Int.le_refl _⟩
  have J3 : ∀ b, Ok (g_ref14_put.j3 l f s b) (PutQ l f) := fun b => by
    unfold g_ref14_put.j3
    refine Ok.cond (fun _ => Ok.ret ⟨by omega, fun x hx => .inl hx⟩) fun _ => ?_
    refine Ok.bind (slI_ok ⟨Int.le_refl _, by omega, hs.2⟩) fun l2 h2 => ?_
    have e2 : l2 = l.take s.toNat := by
      rw [h2]
      show (l.drop 0).take (s.toNat - 0) = _
      rw [List.drop_zero, Nat.sub_zero]
    have n2 : l2.length ≤ 1000 := by rw [e2, List.length_take]; omega
    refine Ok.bind (appI_ok' (by simp; omega)) fun l3 h3 => ?_
    have h3 : l3 = l2 := by rw [h3, List.nil_append]
    subst h3
    refine Ok.bind (appI_ok' (by rw [List.length_singleton]; omega)) fun l4 h4 => ?_
    refine Ok.bind (slI_ok ⟨hs.1, by omega, by omega⟩) fun l5 h5 => ?_
    have n5 : l5.length ≤ l.length - s.toNat := by rw [h5, List.length_take, List.length_drop]; omega
    have m5 : ∀ x ∈ l5, x ∈ l := fun x hx => by rw [h5] at hx; exact List.mem_of_mem_drop (List.mem_of_mem_take hx)
    have n4 : l4.length = l3.length + 1 := by rw [h4, List.length_append, List.length_singleton]
    refine Ok.bind (appI_ok' (by omega)) fun l6 h6 => ?_
    refine Ok.ret ⟨?_, fun x hx => ?_⟩
    · rw [h6, List.length_append, n4, e2, List.length_take]
      have := hs.2
      omega
    · rw [h6] at hx
      rcases List.mem_append.1 hx with hx | hx
      · rw [h4] at hx
        rcases List.mem_append.1 hx with hx | hx
        · rw [e2] at hx; exact .inl (List.mem_of_mem_take hx)
        · exact .inr (List.mem_singleton.1 hx)
      · exact .inl (m5 x hx)
  have J2 : ∀ b, (b = true → 0 < s) → Ok (g_ref14_put.j2 l f s b) (Rd' (fun s' : Int => (0 ≤ s' ∧ s' ≤ l.length) ∧ s'.toNat < s.toNat) (PutQ l f)) := fun b hb => by
    unfold g_ref14_put.j2
    refine Ok.cond (fun h => ?_) fun _ => Ok.up (Ok.cond (fun h => ?_) fun _ => J3 _)
    · have := hb h
      rw [W_id (by omega)]
      exact Ok.ret ⟨⟨by omega, by omega⟩, by omega⟩
    · have h := of_decide_eq_true h
      rw [W_id (by omega)]
      exact Ok.bind (getI_ok (by omega) (by omega)) fun e _ => Ok.bind (ord_ok e f) fun y _ => J3 _
  show Ok (g_ref14_put.l1 l f s) _
  unfold g_ref14_put.l1
  refine Ok.cond (fun h => ?_) fun _ => J2 false (fun h => by cases h)
  have h := of_decide_eq_true h
  rw [W_id (by omega)]
  exact Ok.bind (getI_ok (by omega) (by omega)) fun e _ => Ok.bind (ord_ok e f) fun y _ => J2 _ (fun _ => h)
theorem norm_ok {l : List api_Finding} (hl : l.length ≤ 900) (hf : AllF l) : Ok (g_ref14_Norm l) (fun y => y.1.length ≤ l.length ∧ AllF y.1) := by
  unfold g_ref14_Norm
  refine Ok.loop (fun s : Int => 0 ≤ s ∧ s ≤ l.length) (fun s => ((l.length : Int) - s).toNat) (fun s hs => ?_) ⟨Int.le_refl _, by omega⟩
  show Ok (g_ref14_Norm.l1 l s) _
  unfold g_ref14_Norm.l1
  refine Ok.cond (fun hb => ?_) fun _ => Ok.up ?_
  · have hb := of_decide_eq_true hb
    refine Ok.bind (getI_mem hs.1 hb) fun x hx => ?_
    refine Ok.bind (chk_ok (hf x hx)) fun y _ => ?_
    refine Ok.cond (fun _ => Ok.up (Ok.ret ⟨Nat.zero_le _, fun x hx => by cases hx⟩)) fun _ => ?_
    rw [W_id (by omega)]
    exact Ok.ret ⟨⟨by omega, by omega⟩, by omega⟩
  · refine Ok.loop (fun s : List api_Finding × Int => (0 ≤ s.2 ∧ s.2 ≤ l.length) ∧ (s.1.length : Int) ≤ s.2 ∧ AllF s.1) (fun s => ((l.length : Int) - s.2).toNat) (fun s hs => ?_) ⟨⟨Int.le_refl _, by show (0 : Int) ≤ (l.length : Int); omega⟩, Int.le_refl _, fun x hx => by cases hx⟩
    obtain ⟨out, i⟩ := s
    obtain ⟨a1, a2, a3⟩ := hs
    dsimp only at a1 a2 a3
    show Ok (g_ref14_Norm.l2 l out i) _
    unfold g_ref14_Norm.l2
    refine Ok.cond (fun hb => ?_) fun _ => Ok.up (Ok.ret ⟨by show out.length ≤ _; omega, a3⟩)
    have hb := of_decide_eq_true hb
    refine Ok.bind (getI_mem a1.1 hb) fun x hx => ?_
    refine Ok.bind (put_ok x (by omega)) fun r hr => ?_
    refine Ok.cond (fun _ => Ok.up (Ok.ret ⟨Nat.zero_le _, fun x hx => by cases hx⟩)) fun _ => ?_
    rw [W_id (by omega)]
    refine Ok.ret ⟨⟨⟨by show 0 ≤ i + 1; omega, by show i + 1 ≤ _; omega⟩, by show (r.length : Int) ≤ i + 1; have := hr.1; omega, fun z hz => ?_⟩, by show ((l.length : Int) - (i + 1)).toNat < ((l.length : Int) - i).toNat; omega⟩
    rcases hr.2 z hz with h | rfl
    · exact a3 z h
    · exact hf z hx
theorem word_in {d : cipherplanmake_Dice} (h : DOK d) (l : List ByteArray) (hl : 1 ≤ l.length) (hl2 : l.length ≤ 1000) (hs : l.all (fun s => decide (s.size ≤ 1000)) = true) : Ok (g_make_Dice_Word d l) (fun y => y.1.size ≤ 1000 ∧ DOK y.2) :=
  (word_ok h l hl hl2).mono fun y hy => ⟨of_decide_eq_true (List.all_eq_true.1 hs y.1 hy.1), hy.2⟩
theorem mkf_j3 {d : cipherplanmake_Dice} (hd : DOK d) {f : api_Finding} (hf : FitF f) : Ok (g_make_Finding.j3 d f) (fun y => FitF y.1 ∧ DOK y.2) := Ok.ret ⟨hf, hd⟩
theorem finding_ok {d : cipherplanmake_Dice} (h : DOK d) : Ok (g_make_Finding d) (fun y => FitF y.1 ∧ DOK y.2) := by
  unfold g_make_Finding
  refine Ok.bind (next_ok h 7 (by omega) (by omega)) fun y1 h1 => ?_
  refine Ok.bind (word_in h1.2 _ (by decide) (by decide) (by decide)) fun y2 h2 => ?_
  refine Ok.bind (of_ok h2.2 _ (by decide) (by decide)) fun y3 h3 => ?_
  refine Ok.bind (next_ok h3.2 12 (by omega) (by omega)) fun y4 h4 => ?_
  refine Ok.bind (of_ok h4.2 _ (by decide) (by decide)) fun y5 h5 => ?_
  refine Ok.bind (next_ok h5.2 8 (by omega) (by omega)) fun y6 h6 => ?_
  refine Ok.bind (word_in h6.2 _ (by decide) (by decide) (by decide)) fun y7 h7 => ?_
  have F : ∀ {so ma da co ki nu : Int} {u : api_Use} {t : ByteArray}, t.size ≤ 1000 → FitF (api_Finding.mk so y2.1 ma da co ki y7.1 u nu t) := fun ht => ⟨h2.1, h7.1, ht⟩
  have e0 : (⟨#[]⟩ : ByteArray).size ≤ 1000 := by decide
  have J2 : ∀ b, Ok (g_make_Finding.j2 y1 y2 y3 y4 y5 y6 y7 b) (fun y => FitF y.1 ∧ DOK y.2) := fun b => by
    unfold g_make_Finding.j2
    refine Ok.cond (fun _ => ?_) fun _ => Ok.cond (fun _ => ?_) fun _ => Ok.cond (fun _ => ?_) fun _ => mkf_j3 h7.2 (F e0)
    · exact Ok.bind (next_ok h7.2 4 (by omega) (by omega)) fun z k => mkf_j3 k.2 (F e0)
    · exact Ok.bind (next_ok h7.2 3 (by omega) (by omega)) fun z k => mkf_j3 k.2 (F e0)
    · exact Ok.bind (word_in h7.2 _ (by decide) (by decide) (by decide)) fun z k => mkf_j3 k.2 (F k.1)
  have J1 : ∀ b, Ok (g_make_Finding.j1 y1 y2 y3 y4 y5 y6 y7 b) (fun y => FitF y.1 ∧ DOK y.2) := fun b => by
    unfold g_make_Finding.j1
    refine Ok.cond (fun _ => ?_) fun _ => Ok.cond (fun _ => ?_) fun _ => Ok.cond (fun _ => ?_) fun _ => Ok.cond (fun _ => J2 _) fun _ => J2 _
    · refine Ok.bind (next_ok h7.2 4 (by omega) (by omega)) fun z k => ?_
      have := k.1
      exact Ok.bind (getI_mem (by omega) (by show z.1 < (4 : Int); omega)) fun u _ => mkf_j3 k.2 (F e0)
    · exact Ok.bind (next_ok h7.2 5 (by omega) (by omega)) fun z k => mkf_j3 k.2 (F e0)
    · exact Ok.bind (of_ok h7.2 _ (by decide) (by decide)) fun z k => Ok.bind (next_ok k.2 3 (by omega) (by omega)) fun z' k' => mkf_j3 k'.2 (F e0)
  exact Ok.cond (fun _ => J1 _) fun _ => J1 _
theorem findings_ok {d : cipherplanmake_Dice} (h : DOK d) : Ok (g_make_Findings d 4) (fun y => (y.1.length ≤ 4 ∧ AllF y.1) ∧ DOK y.2) := by
  unfold g_make_Findings
  rw [W_id (x := 4 + 1) (by omega)]
  refine Ok.bind (next_ok h (4 + 1) (by omega) (by omega)) fun y1 h1 => ?_
  have b1 := h1.1
  refine Ok.loop (fun s : Int × cipherplanmake_Dice × List api_Finding => (0 ≤ s.1 ∧ s.1 + (s.2.2.length : Int) ≤ 4) ∧ DOK s.2.1 ∧ AllF s.2.2) (fun s => s.1.toNat) (fun s hs => ?_) ⟨⟨b1.1, by show y1.1 + ((([] : List api_Finding).length : Nat) : Int) ≤ 4; simp; omega⟩, h1.2, fun x hx => by cases hx⟩
  obtain ⟨i, d1, l⟩ := s
  obtain ⟨⟨a1, a2⟩, a3, a4⟩ := hs
  dsimp only at a1 a2 a3 a4
  show Ok (g_make_Findings.l1 i d1 l) _
  unfold g_make_Findings.l1
  refine Ok.cond (fun hb => ?_) fun hb => Ok.up ?_
  · have hb := of_decide_eq_true hb
    refine Ok.bind (finding_ok a3) fun y2 h2 => ?_
    refine Ok.bind (appI_ok' (by rw [List.length_singleton]; omega)) fun l' hl' => ?_
    subst hl'
    rw [W_id (by omega)]
    refine Ok.ret ⟨⟨⟨by show 0 ≤ i - 1; omega, ?_⟩, h2.2, fun x hx => ?_⟩, by show (i - 1).toNat < i.toNat; omega⟩
    · show i - 1 + ((l ++ [y2.1]).length : Int) ≤ 4
      rw [List.length_append, List.length_singleton]; omega
    · rcases List.mem_append.1 hx with hx | hx
      · exact a4 x hx
      · rw [List.mem_singleton.1 hx]; exact h2.1
  · refine Ok.bind (norm_ok (by omega) a4) fun y3 h3 => ?_
    exact Ok.ret ⟨⟨by have := h3.1; show y3.1.length ≤ 4; omega, h3.2⟩, a3⟩
end Go.Proofs.YtoekocjflclojaaGreat
