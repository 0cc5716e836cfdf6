/- Exceptions: everything has an answer. No program is in sight here. -/
import Derived.Test.YtmihjbejflcgkaaX4
set_option linter.unusedVariables false
set_option linter.unusedSimpArgs false
namespace Go.Proofs.Ytmihjbejflcgkaa
open Go
theorem of_ok {d : cipherplanmake_Dice} (h : DOK d) (l : List Int) (hl : 1 ≤ l.length) (hl2 : l.length ≤ 1000) : Ok (g_make_Dice_Of d l) (fun y => y.1 ∈ l ∧ DOK y.2) := by
  unfold g_make_Dice_Of
  refine Ok.bind (next_ok h _ (by omega) (by omega)) fun y hy => ?_
  refine Ok.bind (getI_mem (by omega) (by omega)) fun e he => ?_
  exact Ok.ret ⟨he, hy.2⟩
theorem word_ok {d : cipherplanmake_Dice} (h : DOK d) (l : List ByteArray) (hl : 1 ≤ l.length) (hl2 : l.length ≤ 1000) : Ok (g_make_Dice_Word d l) (fun y => y.1 ∈ l ∧ DOK y.2) := by
  unfold g_make_Dice_Word
  refine Ok.bind (next_ok h _ (by omega) (by omega)) fun y hy => ?_
  refine Ok.bind (getI_mem (by omega) (by omega)) fun e he => ?_
  exact Ok.ret ⟨he, hy.2⟩
theorem one_ok {d : cipherplanmake_Dice} (h : DOK d) (n : Int) (hn : 1 ≤ n) (hn2 : n ≤ 1000) : Ok (g_make_Dice_One d n) (fun y => DOK y.2) := by
  unfold g_make_Dice_One
  refine Ok.bind (next_ok h _ (by omega) (by omega)) fun y hy => ?_
  exact Ok.ret hy.2
structure SmX (n : Nat) (x : api_Exception) : Prop where
  nam : x.Endpoint.size ≤ 32
  len : x.Seals.length ≤ n
  alg : 0 ≤ x.Use.Alg ∧ x.Use.Alg ≤ 100000
  bits : 0 ≤ x.Use.Bits ∧ x.Use.Bits ≤ 100000
  pur : 0 ≤ x.Purpose ∧ x.Purpose ≤ 100000
  frm : 0 ≤ x.Days.From ∧ x.Days.From ≤ 100000
  to : 0 ≤ x.Days.To ∧ x.Days.To ≤ 100000
theorem SmX.le {n m : Nat} {x : api_Exception} (h : SmX n x) (hm : n ≤ m) : SmX m x := ⟨h.nam, Nat.le_trans h.len hm, h.alg, h.bits, h.pur, h.frm, h.to⟩
abbrev Tot {α : Type} (x : Option α) : Prop := Ok x (fun _ => True)
theorem rcheck_tot {n : Nat} {x : api_Exception} (h : SmX n x) (hn : n ≤ 1000) : Tot (g_ref19_Check x) := by
  have hl := h.len
  have J1 : ∀ b, Tot (g_ref19_Check.j1 x b) := fun b => by
    unfold g_ref19_Check.j1
    refine Ok.cond (fun _ => Ok.ret trivial) (fun _ => ?_)
    refine Ok.loop (fun s : Int => ∃ i : Nat, s = (i : Int) ∧ i ≤ x.Seals.length) (fun s => x.Seals.length - s.toNat) ?_ ⟨0, rfl, Nat.zero_le _⟩
    rintro _ ⟨i, rfl, hi⟩
    show Ok (g_ref19_Check.l2 x (i : Int)) _
    unfold g_ref19_Check.l2
    have J4 : i < x.Seals.length → ∀ b, Ok (g_ref19_Check.j3 (i : Int) b) (Rd' (fun s' : Int => (∃ i : Nat, s' = (i : Int) ∧ i ≤ x.Seals.length) ∧ x.Seals.length - s'.toNat < x.Seals.length - ((i : Int)).toNat) (fun _ : Int => True)) := fun hil b => by
      unfold g_ref19_Check.j3
      refine Ok.cond (fun _ => Ok.up (Ok.ret trivial)) (fun _ => ?_)
      rw [W_id (by omega)]
      exact Ok.ret ⟨⟨i + 1, by omega, hil⟩, by show x.Seals.length - ((i : Int) + 1).toNat < x.Seals.length - ((i : Int)).toNat; omega⟩
    refine Ok.cond (fun hb => ?_) (fun _ => Ok.up (Ok.ret trivial))
    have hil : i < x.Seals.length := by have := of_decide_eq_true hb; omega
    obtain ⟨e, he⟩ : ∃ e, x.Seals[i]? = some e := ⟨_, List.getElem?_eq_getElem hil⟩
    rw [getI_nat, he, Option.bind_some]
    refine Ok.cond (fun _ => J4 hil _) (fun _ => Ok.cond (fun _ => J4 hil _) (fun _ => Ok.cond (fun _ => J4 hil _) (fun _ => Ok.cond (fun _ => J4 hil _) (fun _ => Ok.cond (fun h0 => ?_) (fun _ => J4 hil _)))))
    have h0 := of_decide_eq_true h0
    rw [W_id (by omega)]
    exact Ok.bind (getI_ok (by omega) (by omega)) fun _ _ => J4 hil _
  unfold g_ref19_Check
  rw [ref_Valid, Option.bind_some]
  refine Ok.cond (fun _ => J1 _) (fun _ => Ok.cond (fun _ => J1 _) (fun _ => Ok.cond (fun _ => J1 _) (fun _ => ?_)))
  rw [ref_Name _ (by have := h.nam; omega), Option.bind_some]
  exact Ok.cond (fun _ => J1 _) (fun _ => Ok.cond (fun _ => J1 _) (fun _ => Ok.cond (fun _ => J1 _) (fun _ => Ok.cond (fun _ => J1 _) (fun _ => J1 _))))
theorem rbytes_tot {n : Nat} {x : api_Exception} (h : SmX n x) (hn : n ≤ 1000) : Ok (g_ref19_Bytes x) (fun y => y.1.length ≤ 1000) := by
  have hs := exc_szs h.nam
  have hz := list_sz (excL x)
  have h1 := h.alg
  have h2 := h.bits
  have h3 := h.pur
  have h4 := h.frm
  have h5 := h.to
  unfold g_ref19_Bytes
  refine Ok.bind (rcheck_tot h hn) fun c _ => ?_
  refine Ok.cond (fun _ => Ok.ret (Nat.zero_le _)) (fun _ => ?_)
  rw [ref01_Int _ (by omega) (by omega), Option.bind_some, ref01_Int _ (by omega) (by omega), Option.bind_some, ref01_Int _ (by omega) (by omega), Option.bind_some, show g_ref01_Text x.Endpoint = some (textV x.Endpoint) from rfl, Option.bind_some, ref01_Int _ (by omega) (by omega), Option.bind_some, ref01_Int _ (by omega) (by omega), Option.bind_some]
  show Ok ((g_ref01_List (excL x)).bind _) _
  rw [ref01_List _ (by omega), Option.bind_some]
  show Ok ((g_ref01_Encode (listV (excL x))).bind _) _
  have he : g_ref01_Encode (listV (excL x)) = some (excB x, 0) := by
    have := exc_enc h.nam
    rw [der_Encode _ (by omega)] at this
    rw [ref01_Encode _ (by omega)]
    exact this
  rw [he]
  exact Ok.ret (exc_len h.nam)
theorem zero_sm (n : Nat) : SmX n ⟨⟨0, 0⟩, 0, ⟨#[]⟩, ⟨0, 0⟩, []⟩ := ⟨by show (0 : Nat) ≤ 32; omega, Nat.zero_le _, ⟨by show (0 : Int) ≤ 0; omega, by show (0 : Int) ≤ 100000; omega⟩, ⟨by show (0 : Int) ≤ 0; omega, by show (0 : Int) ≤ 100000; omega⟩, ⟨by show (0 : Int) ≤ 0; omega, by show (0 : Int) ≤ 100000; omega⟩, ⟨by show (0 : Int) ≤ 0; omega, by show (0 : Int) ≤ 100000; omega⟩, ⟨by show (0 : Int) ≤ 0; omega, by show (0 : Int) ≤ 100000; omega⟩⟩
theorem SmX.seals {n m : Nat} {x : api_Exception} (h : SmX n x) {S : List api_Seal} (hS : S.length ≤ m) : SmX m ⟨x.Use, x.Purpose, x.Endpoint, x.Days, S⟩ := ⟨h.nam, hS, h.alg, h.bits, h.pur, h.frm, h.to⟩
theorem slI_v' {α : Type} {l : List α} {a b : Int} (h : 0 ≤ a ∧ a ≤ b ∧ b ≤ l.length) : Ok (slI l a b) (fun r => r.length ≤ l.length ∧ (r.length : Int) = b - a) := ⟨_, if_pos h, by rw [List.length_take, List.length_drop]; omega, by rw [List.length_take, List.length_drop]; omega⟩
theorem rsign_tot {n : Nat} {x : api_Exception} (h : SmX n x) (hn : n ≤ 100) (key : Int) : Ok (g_ref19_Sign x key) (fun y => SmX (n + 1) y.1) := by
  have hl := h.len
  have J5 : ∀ (s : Int) (k : Nat) (r : List api_Seal), k ≤ x.Seals.length → k + r.length ≤ n → Ok (g_ref19_Sign.j5 x key s (k : Int) r) (fun y => SmX (n + 1) y.1) := by
    intro s k r hk hr
    unfold g_ref19_Sign.j5
    refine Ok.bind (slI_v' (by omega)) fun l3 h3 => ?_
    refine Ok.bind (appI_ok' (by simp; omega)) fun l4 h4 => ?_
    refine Ok.bind (appI_ok' (by rw [h4]; simp; omega)) fun l5 h5 => ?_
    refine Ok.bind (appI_ok' (by rw [h5, h4]; simp; omega)) fun l6 h6 => ?_
    refine Ok.cond (fun _ => Ok.ret (zero_sm _)) (fun _ => Ok.ret (h.seals ?_))
    rw [h6, h5, h4]
    simp
    omega
  have J1 : ∀ (y : List UInt8 × Int) b, y.1.length ≤ 1000 → Ok (g_ref19_Sign.j1 x key y b) (fun y => SmX (n + 1) y.1) := by
    intro y b hy
    unfold g_ref19_Sign.j1
    refine Ok.cond (fun _ => Ok.ret (zero_sm _)) (fun _ => ?_)
    rw [ref_Sum y.1 (by unfold Lo; omega), Option.bind_some]
    refine Ok.loop (fun s : Int => ∃ i : Nat, s = (i : Int) ∧ i ≤ x.Seals.length) (fun s => x.Seals.length - s.toNat) ?_ ⟨0, rfl, Nat.zero_le _⟩
    rintro _ ⟨i, rfl, hi⟩
    show Ok (g_ref19_Sign.l2 x key (sumS y.1) (i : Int)) _
    unfold g_ref19_Sign.l2
    have J3 : ∀ b, (b = true → i < x.Seals.length) → Ok (g_ref19_Sign.j3 x key (sumS y.1) (i : Int) b) (Rd' (fun s' : Int => (∃ i : Nat, s' = (i : Int) ∧ i ≤ x.Seals.length) ∧ x.Seals.length - s'.toNat < x.Seals.length - ((i : Int)).toNat) (fun y => SmX (n + 1) y.1)) := by
      intro b hb
      unfold g_ref19_Sign.j3
      refine Ok.cond (fun h1 => ?_) (fun _ => ?_)
      · have hil := hb h1
        rw [W_id (by omega)]
        exact Ok.ret ⟨⟨i + 1, by omega, hil⟩, by show x.Seals.length - ((i : Int) + 1).toNat < x.Seals.length - ((i : Int)).toNat; omega⟩
      · refine Ok.up (Ok.bind (slI_v' (by omega)) fun l hl2 => ?_)
        obtain ⟨q1, q2⟩ := hl2
        have J4 : ∀ b, (b = true → 0 < l.length) → Ok (g_ref19_Sign.j4 x key (sumS y.1) (i : Int) l b) (fun y => SmX (n + 1) y.1) := by
          intro b hb
          unfold g_ref19_Sign.j4
          refine Ok.cond (fun h2 => ?_) (fun _ => J5 _ _ _ hi (by omega))
          have := hb h2
          exact Ok.bind (slI_v' (by omega)) fun l2 hl2 => J5 _ _ _ hi (by omega)
        refine Ok.cond (fun h2 => ?_) (fun _ => J4 _ (fun h => by cases h))
        have h2 := of_decide_eq_true h2
        exact Ok.bind (getI_ok (by omega) (by omega)) fun e _ => J4 _ (fun _ => by omega)
    refine Ok.cond (fun hb => ?_) (fun _ => J3 _ (fun h => by cases h))
    have hil : i < x.Seals.length := by have := of_decide_eq_true hb; omega
    obtain ⟨e, he⟩ : ∃ e, x.Seals[i]? = some e := ⟨_, List.getElem?_eq_getElem hil⟩
    rw [getI_nat, he, Option.bind_some]
    exact J3 _ (fun _ => hil)
  unfold g_ref19_Sign
  refine Ok.bind (rbytes_tot h (by omega)) fun y hy => ?_
  exact Ok.cond (fun _ => Ok.ret (zero_sm _)) (fun _ => Ok.cond (fun _ => J1 _ _ hy) (fun _ => J1 _ _ hy))
theorem c_and (b x : Bool) : cond b (some x) (some false) = some (b && x) := by cases b <;> rfl
def aboutS (u : api_Use) (p : Int) (e : ByteArray) (x : api_Exception) : Bool := decide (x.Use = u) && (decide (x.Purpose = p) && decide (x.Endpoint = e))
def covS (u : api_Use) (p : Int) (e : ByteArray) (x : api_Exception) (day : Int) : Bool := aboutS u p e x && (decide (x.Days.From ≤ day) && decide (day < x.Days.To))
theorem covers_ok (u : api_Use) (p : Int) (e : ByteArray) (x : api_Exception) (day : Int) : g_exception_Covers x u p e day = some (covS u p e x day) := by
  unfold g_exception_Covers covS aboutS
  simp only [c_and, Bool.and_assoc]
end Go.Proofs.Ytmihjbejflcgkaa
