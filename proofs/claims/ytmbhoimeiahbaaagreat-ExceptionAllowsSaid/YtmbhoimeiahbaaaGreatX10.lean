/- Plain texts, joined. No program is in sight here. -/
import Derived.Test.YtmbhoimeiahbaaaGreatX4
import Derived.Test.YtmbhoimeiahbaaaGreatAS
import Derived.Test.YtmbhoimeiahbaaaGreatCO
import Derived.Test.YtmbhoimeiahbaaaGreatOW
import Derived.Test.YtmbhoimeiahbaaaGreatT1
set_option linter.unusedVariables false
set_option linter.unusedSimpArgs false
namespace Go.Proofs.YtmbhoimeiahbaaaGreat
section
open Go
theorem of_ok {d : cipherplanmake_Dice} (h : DOK d) (l : List Int) (hl : 1 ≤ l.length) (hl2 : l.length ≤ 1000) : Ok (g_make_Dice_Of d l) (fun y => y.1 ∈ l ∧ DOK y.2) := by
  unfold g_make_Dice_Of
  refine Ok.bind (next_ok h _ (by omega) (by omega)) fun y hy => ?_
  refine Ok.bind (getI_mem (by omega) (by omega)) fun e he => ?_
  exact Ok.ret ⟨he, hy.2⟩
theorem word_ok {d : cipherplanmake_Dice} (h : DOK d) (l : List ByteArray) (hl : 1 ≤ l.length) (hl2 : l.length ≤ 1000) : Ok (g_make_Dice_Word d l) (fun y => y.1 ∈ l ∧ DOK y.2) := by
  unfold g_make_Dice_Word
  refine Ok.bind (next_ok h _ (by omega) (by omega)) fun y hy => ?_
  refine Ok.bind (getI_mem (by omega) (by omega)) fun e he => ?_
  exact Ok.ret ⟨he, hy.2⟩
theorem one_ok {d : cipherplanmake_Dice} (h : DOK d) (n : Int) (hn : 1 ≤ n) (hn2 : n ≤ 1000) : Ok (g_make_Dice_One d n) (fun y => DOK y.2) := by
  unfold g_make_Dice_One
  refine Ok.bind (next_ok h _ (by omega) (by omega)) fun y hy => ?_
  exact Ok.ret hy.2
structure SmX (n : Nat) (x : api_Exception) : Prop where
  nam : x.Endpoint.size ≤ 32
  len : x.Seals.length ≤ n
  alg : 0 ≤ x.Use.Alg ∧ x.Use.Alg ≤ 100000
  bits : 0 ≤ x.Use.Bits ∧ x.Use.Bits ≤ 100000
  pur : 0 ≤ x.Purpose ∧ x.Purpose ≤ 100000
  frm : 0 ≤ x.Days.From ∧ x.Days.From ≤ 100000
  to : 0 ≤ x.Days.To ∧ x.Days.To ≤ 100000
theorem SmX.le {n m : Nat} {x : api_Exception} (h : SmX n x) (hm : n ≤ m) : SmX m x := ⟨h.nam, Nat.le_trans h.len hm, h.alg, h.bits, h.pur, h.frm, h.to⟩
abbrev Tot {α : Type} (x : Option α) : Prop := Ok x (fun _ => True)
theorem rcheck_tot {n : Nat} {x : api_Exception} (h : SmX n x) (hn : n ≤ 1000) : Tot (g_ref19_Check x) := by
  have hl := h.len
  have J1 : ∀ b, Tot (g_ref19_Check.j1 x b) := fun b => by
    unfold g_ref19_Check.j1
    refine Ok.cond (fun _ => Ok.ret trivial) (fun _ => ?_)
    refine Ok.loop (fun s : Int => ∃ i : Nat, s = (i : Int) ∧ i ≤ x.Seals.length) (fun s => x.Seals.length - s.toNat) ?_ ⟨0, rfl, Nat.zero_le _⟩
    rintro _ ⟨i, rfl, hi⟩
    show Ok (g_ref19_Check.l2 x (i : Int)) _
    unfold g_ref19_Check.l2
    have J4 : i < x.Seals.length → ∀ b, Ok (g_ref19_Check.j3 (i : Int) b) (Rd' (fun s' : Int => (∃ i : Nat, s' = (i : Int) ∧ i ≤ x.Seals.length) ∧ x.Seals.length - s'.toNat < x.Seals.length - ((i : Int)).toNat) (fun _ : Int => True)) := fun hil b => by
      unfold g_ref19_Check.j3
      refine Ok.cond (fun _ => Ok.up (Ok.ret trivial)) (fun _ => ?_)
      rw [W_id (by omega)]
      exact Ok.ret ⟨⟨i + 1, by omega, hil⟩, by show x.Seals.length - ((i : Int) + 1).toNat < x.Seals.length - ((i : Int)).toNat; omega⟩
    refine Ok.cond (fun hb => ?_) (fun _ => Ok.up (Ok.ret trivial))
    have hil : i < x.Seals.length := by have := of_decide_eq_true hb; omega
    obtain ⟨e, he⟩ : ∃ e, x.Seals[i]? = some e := ⟨_, List.getElem?_eq_getElem hil⟩
    rw [getI_nat, he, Option.bind_some]
    refine Ok.cond (fun _ => J4 hil _) (fun _ => Ok.cond (fun _ => J4 hil _) (fun _ => Ok.cond (fun _ => J4 hil _) (fun _ => Ok.cond (fun _ => J4 hil _) (fun _ => Ok.cond (fun h0 => ?_) (fun _ => J4 hil _)))))
    have h0 := of_decide_eq_true h0
    rw [W_id (by omega)]
    exact Ok.bind (getI_ok (by omega) (by omega)) fun _ _ => J4 hil _
  unfold g_ref19_Check
  rw [ref_Valid, Option.bind_some]
  refine Ok.cond (fun _ => J1 _) (fun _ => Ok.cond (fun _ => J1 _) (fun _ => Ok.cond (fun _ => J1 _) (fun _ => ?_)))
  rw [ref_Name _ (by have := h.nam; omega), Option.bind_some]
  exact Ok.cond (fun _ => J1 _) (fun _ => Ok.cond (fun _ => J1 _) (fun _ => Ok.cond (fun _ => J1 _) (fun _ => Ok.cond (fun _ => J1 _) (fun _ => J1 _))))
theorem rbytes_tot {n : Nat} {x : api_Exception} (h : SmX n x) (hn : n ≤ 1000) : Ok (g_ref19_Bytes x) (fun y => y.1.length ≤ 1000) := by
  have hs := exc_szs h.nam
  have hz := list_sz (excL x)
  have h1 := h.alg
  have h2 := h.bits
  have h3 := h.pur
  have h4 := h.frm
  have h5 := h.to
  unfold g_ref19_Bytes
  refine Ok.bind (rcheck_tot h hn) fun c _ => ?_
  refine Ok.cond (fun _ => Ok.ret (Nat.zero_le _)) (fun _ => ?_)
  rw [ref01_Int _ (by omega) (by omega), Option.bind_some, ref01_Int _ (by omega) (by omega), Option.bind_some, ref01_Int _ (by omega) (by omega), Option.bind_some, show g_ref01_Text x.Endpoint = some (textV x.Endpoint) from rfl, Option.bind_some, ref01_Int _ (by omega) (by omega), Option.bind_some, ref01_Int _ (by omega) (by omega), Option.bind_some]
  show Ok ((g_ref01_List (excL x)).bind _) _
  rw [ref01_List _ (by omega), Option.bind_some]
  show Ok ((g_ref01_Encode (listV (excL x))).bind _) _
  have he : g_ref01_Encode (listV (excL x)) = some (excB x, 0) := by
    have := exc_enc h.nam
    rw [der_Encode _ (by omega)] at this
    rw [ref01_Encode _ (by omega)]
    exact this
  rw [he]
  exact Ok.ret (exc_len h.nam)
theorem zero_sm (n : Nat) : SmX n ⟨⟨0, 0⟩, 0, ⟨#[]⟩, ⟨0, 0⟩, []⟩ := ⟨by show (0 : Nat) ≤ 32; omega, Nat.zero_le _, ⟨by show (0 : Int) ≤ 0; omega, by show (0 : Int) ≤ 100000; omega⟩, ⟨by show (0 : Int) ≤ 0; omega, by show (0 : Int) ≤ 100000; omega⟩, ⟨by show (0 : Int) ≤ 0; omega, by show (0 : Int) ≤ 100000; omega⟩, ⟨by show (0 : Int) ≤ 0; omega, by show (0 : Int) ≤ 100000; omega⟩, ⟨by show (0 : Int) ≤ 0; omega, by show (0 : Int) ≤ 100000; omega⟩⟩
theorem SmX.seals {n m : Nat} {x : api_Exception} (h : SmX n x) {S : List api_Seal} (hS : S.length ≤ m) : SmX m ⟨x.Use, x.Purpose, x.Endpoint, x.Days, S⟩ := ⟨h.nam, hS, h.alg, h.bits, h.pur, h.frm, h.to⟩
theorem slI_v' {α : Type} {l : List α} {a b : Int} (h : 0 ≤ a ∧ a ≤ b ∧ b ≤ l.length) : Ok (slI l a b) (fun r => r.length ≤ l.length ∧ (r.length : Int) = b - a) := ⟨_, if_pos h, by rw [List.length_take, List.length_drop]; omega, by rw [List.length_take, List.length_drop]; omega⟩
theorem rsign_tot {n : Nat} {x : api_Exception} (h : SmX n x) (hn : n ≤ 100) (key : Int) : Ok (g_ref19_Sign x key) (fun y => SmX (n + 1) y.1) := by
  have hl := h.len
  have J5 : ∀ (s : Int) (k : Nat) (r : List api_Seal), k ≤ x.Seals.length → k + r.length ≤ n → Ok (g_ref19_Sign.j5 x key s (k : Int) r) (fun y => SmX (n + 1) y.1) := by
    intro s k r hk hr
    unfold g_ref19_Sign.j5
    refine Ok.bind (slI_v' (by omega)) fun l3 h3 => ?_
    refine Ok.bind (appI_ok' (by simp; omega)) fun l4 h4 => ?_
    refine Ok.bind (appI_ok' (by rw [h4]; simp; omega)) fun l5 h5 => ?_
    refine Ok.bind (appI_ok' (by rw [h5, h4]; simp; omega)) fun l6 h6 => ?_
    refine Ok.cond (fun _ => Ok.ret (zero_sm _)) (fun _ => Ok.ret (h.seals ?_))
    rw [h6, h5, h4]
    simp
    omega
  have J1 : ∀ (y : List UInt8 × Int) b, y.1.length ≤ 1000 → Ok (g_ref19_Sign.j1 x key y b) (fun y => SmX (n + 1) y.1) := by
    intro y b hy
    unfold g_ref19_Sign.j1
    refine Ok.cond (fun _ => Ok.ret (zero_sm _)) (fun _ => ?_)
    rw [ref_Sum y.1 (by unfold Lo; omega), Option.bind_some]
    refine Ok.loop (fun s : Int => ∃ i : Nat, s = (i : Int) ∧ i ≤ x.Seals.length) (fun s => x.Seals.length - s.toNat) ?_ ⟨0, rfl, Nat.zero_le _⟩
    rintro _ ⟨i, rfl, hi⟩
    show Ok (g_ref19_Sign.l2 x key (sumS y.1) (i : Int)) _
    unfold g_ref19_Sign.l2
    have J3 : ∀ b, (b = true → i < x.Seals.length) → Ok (g_ref19_Sign.j3 x key (sumS y.1) (i : Int) b) (Rd' (fun s' : Int => (∃ i : Nat, s' = (i : Int) ∧ i ≤ x.Seals.length) ∧ x.Seals.length - s'.toNat < x.Seals.length - ((i : Int)).toNat) (fun y => SmX (n + 1) y.1)) := by
      intro b hb
      unfold g_ref19_Sign.j3
      refine Ok.cond (fun h1 => ?_) (fun _ => ?_)
      · have hil := hb h1
        rw [W_id (by omega)]
        exact Ok.ret ⟨⟨i + 1, by omega, hil⟩, by show x.Seals.length - ((i : Int) + 1).toNat < x.Seals.length - ((i : Int)).toNat; omega⟩
      · refine Ok.up (Ok.bind (slI_v' (by omega)) fun l hl2 => ?_)
        obtain ⟨q1, q2⟩ := hl2
        have J4 : ∀ b, (b = true → 0 < l.length) → Ok (g_ref19_Sign.j4 x key (sumS y.1) (i : Int) l b) (fun y => SmX (n + 1) y.1) := by
          intro b hb
          unfold g_ref19_Sign.j4
          refine Ok.cond (fun h2 => ?_) (fun _ => J5 _ _ _ hi (by omega))
          have := hb h2
          exact Ok.bind (slI_v' (by omega)) fun l2 hl2 => J5 _ _ _ hi (by omega)
        refine Ok.cond (fun h2 => ?_) (fun _ => J4 _ (fun h => by cases h))
        have h2 := of_decide_eq_true h2
        exact Ok.bind (getI_ok (by omega) (by omega)) fun e _ => J4 _ (fun _ => by omega)
    refine Ok.cond (fun hb => ?_) (fun _ => J3 _ (fun h => by cases h))
    have hil : i < x.Seals.length := by have := of_decide_eq_true hb; omega
    obtain ⟨e, he⟩ : ∃ e, x.Seals[i]? = some e := ⟨_, List.getElem?_eq_getElem hil⟩
    rw [getI_nat, he, Option.bind_some]
    exact J3 _ (fun _ => hil)
  unfold g_ref19_Sign
  refine Ok.bind (rbytes_tot h (by omega)) fun y hy => ?_
  exact Ok.cond (fun _ => Ok.ret (zero_sm _)) (fun _ => Ok.cond (fun _ => J1 _ _ hy) (fun _ => J1 _ _ hy))
theorem c_and (b x : Bool) : cond b (some x) (some false) = some (b && x) := by cases b <;> rfl
def aboutS (u : api_Use) (p : Int) (e : ByteArray) (x : api_Exception) : Bool := decide (x.Use = u) && (decide (x.Purpose = p) && decide (x.Endpoint = e))
def covS (u : api_Use) (p : Int) (e : ByteArray) (x : api_Exception) (day : Int) : Bool := aboutS u p e x && (decide (x.Days.From ≤ day) && decide (day < x.Days.To))
theorem covers_ok (u : api_Use) (p : Int) (e : ByteArray) (x : api_Exception) (day : Int) : g_exception_Covers x u p e day = some (covS u p e x day) := by
  unfold g_exception_Covers covS aboutS
  simp only [c_and, Bool.and_assoc]
end
section
open Go
theorem cov_iff {u : api_Use} {p : Int} {e : ByteArray} {x : api_Exception} {day : Int} : covS u p e x day = true ↔ aboutS u p e x = true ∧ x.Days.From ≤ day ∧ day < x.Days.To := by
  unfold covS
  simp [Bool.and_eq_true]
section
variable {l : List api_Exception} {o : api_Owners} {u : api_Use} {p : Int} {e : ByteArray}
end
theorem make_Exception_ok {d : cipherplanmake_Dice} (hd : DOK d) {u : api_Use} (hu : (0 ≤ u.Alg ∧ u.Alg ≤ 100000) ∧ 0 ≤ u.Bits ∧ u.Bits ≤ 100000) {e : ByteArray} (he : e.size ≤ 32) : Ok (g_make_Exception d u e) (fun y => SmX 50 y.1 ∧ DOK y.2) := by
  unfold g_make_Exception
  refine Ok.bind (of_ok hd _ (by decide) (by decide)) fun y1 h1 => ?_
  refine Ok.bind (of_ok h1.2 _ (by decide) (by decide)) fun y2 h2 => ?_
  refine Ok.bind (of_ok h2.2 _ (by decide) (by decide)) fun y3 h3 => ?_
  refine Ok.bind (next_ok h3.2 4 (by omega) (by omega)) fun y4 h4 => ?_
  have b1 : 0 ≤ y1.1 ∧ y1.1 ≤ 3 := by
    have := h1.1
    simp only [List.mem_cons, List.not_mem_nil, or_false] at this
    omega
  have b2 : 0 ≤ y2.1 ∧ y2.1 ≤ 30 := by
    have := h2.1
    simp only [List.mem_cons, List.not_mem_nil, or_false] at this
    omega
  have b3 : 0 ≤ y3.1 ∧ y3.1 ≤ 200 := by
    have := h3.1
    simp only [List.mem_cons, List.not_mem_nil, or_false] at this
    omega
  have b4 := h4.1
  rw [W_id (by omega)]
  refine Ok.loop (fun s : Int × Int × Int × Int × ByteArray × Int × Int × List api_Seal => (0 ≤ s.1 ∧ s.1 ≤ 4) ∧ ∃ n : Nat, (n : Int) + s.1 ≤ 10 ∧ SmX n ⟨⟨s.2.1, s.2.2.1⟩, s.2.2.2.1, s.2.2.2.2.1, ⟨s.2.2.2.2.2.1, s.2.2.2.2.2.2.1⟩, s.2.2.2.2.2.2.2⟩) (fun s => s.1.toNat) ?_ ⟨⟨b4.1, by show y4.1 ≤ 4; omega⟩, 0, by show ((0 : Nat) : Int) + y4.1 ≤ 10; omega, ⟨he, Nat.zero_le _, hu.1, hu.2, ⟨b1.1, by show y1.1 ≤ 100000; omega⟩, ⟨b2.1, by show y2.1 ≤ 100000; omega⟩, ⟨by show 0 ≤ y2.1 + y3.1; omega, by show y2.1 + y3.1 ≤ 100000; omega⟩⟩⟩
  rintro ⟨i, a1, a2, a3, a4, a5, a6, S⟩ ⟨⟨hi0, hi4⟩, n, hn, hS⟩
  dsimp only at hi0 hi4 hn hS
  show Ok (g_make_Exception.l1 y4 i a1 a2 a3 a4 a5 a6 S) _
  unfold g_make_Exception.l1
  refine Ok.cond (fun hb => ?_) (fun hb => ?_)
  · have hb := of_decide_eq_true hb
    refine Ok.bind (rsign_tot hS (by omega) _) fun y5 h5 => ?_
    rw [W_id (x := i - 1) (by omega)]
    refine Ok.ret ⟨⟨⟨by show 0 ≤ i - 1; omega, by show i - 1 ≤ 4; omega⟩, n + 1, by show ((n + 1 : Nat) : Int) + (i - 1) ≤ 10; omega, h5⟩, by show (i - 1).toNat < i.toNat; omega⟩
  · refine Ok.up ?_
    have hl := hS.len
    have fin : ∀ (S' : List api_Seal) (d' : cipherplanmake_Dice), S'.length = S.length → DOK d' → Ok (g_make_Exception.j4 a1 a2 a3 a4 a5 a6 d'.L d'.At S') (fun y => SmX 50 y.1 ∧ DOK y.2) := fun S' d' h1 h2 => by
      unfold g_make_Exception.j4
      exact Ok.ret ⟨⟨hS.nam, by show S'.length ≤ 50; rw [h1]; have : S.length ≤ n := hl; omega, hS.alg, hS.bits, hS.pur, hS.frm, hS.to⟩, h2⟩
    have J3 : ∀ (b : Bool) (d' : cipherplanmake_Dice), (b = true → 0 < S.length) → DOK d' → Ok (g_make_Exception.j3 a1 a2 a3 a4 a5 a6 S b d'.L d'.At) (fun y => SmX 50 y.1 ∧ DOK y.2) := fun b d' hb hd' => by
      unfold g_make_Exception.j3
      refine Ok.cond (fun h1 => ?_) (fun _ => fin _ _ rfl hd')
      have := hb h1
      refine Ok.bind (getI_ok (by omega) (by omega)) fun q _ => fin _ _ ?_ hd'
      unfold setI
      rw [List.length_set]
    refine Ok.cond (fun h1 => ?_) (fun _ => J3 _ _ (fun h => by cases h) h4.2)
    have h1 := of_decide_eq_true h1
    exact Ok.bind (one_ok h4.2 6 (by omega) (by omega)) fun y6 h6 => J3 _ _ (fun _ => by omega) h6
end
section
open Go
structure FitX (x : api_Exception) : Prop where
  nam : x.Endpoint.size ≤ 200
  len : x.Seals.length ≤ 60
  alg : -9223372036854775808 ≤ x.Use.Alg ∧ x.Use.Alg ≤ 9223372036854775807
  bits : -9223372036854775808 ≤ x.Use.Bits ∧ x.Use.Bits ≤ 9223372036854775807
  pur : -9223372036854775808 ≤ x.Purpose ∧ x.Purpose ≤ 9223372036854775807
  frm : -9223372036854775808 ≤ x.Days.From ∧ x.Days.From ≤ 9223372036854775807
  to : -9223372036854775808 ≤ x.Days.To ∧ x.Days.To ≤ 9223372036854775807
theorem d_lt (a b : Int) : decide (a < b) = !decide (b ≤ a) := by
  by_cases h : a < b
  · rw [decide_eq_true h, decide_eq_false (by omega)]; rfl
  · rw [decide_eq_false h, decide_eq_true (by omega)]; rfl
def badE (e : api_Seal) : Bool := !(decide (0 ≤ e.Key) && decide (e.Key ≤ 2147483648)) || (!decide (0 ≤ e.Sum) || decide (4294967296 ≤ e.Sum))
def badS (S : List api_Seal) (i : Nat) : Bool := badE (S.getD i ⟨0, 0⟩) || (decide (0 < i) && decide ((S.getD i ⟨0, 0⟩).Key ≤ (S.getD (i - 1) ⟨0, 0⟩).Key))
def preX (x : api_Exception) : Bool := decide (0 < strS x.Use) && (decide (1 ≤ x.Purpose) && (decide (x.Purpose ≤ 4) && (nameS x.Endpoint && (decide (0 ≤ x.Days.From) && (!decide (x.Days.To ≤ x.Days.From) && (decide (x.Days.To ≤ 40001) && decide ((x.Seals.length : Int) ≤ 8)))))))
def chkX (x : api_Exception) : Int := bif preX x && !(List.range x.Seals.length).any (badS x.Seals) then 0 else 26
theorem getD_of {α : Type} {l : List α} {i : Nat} {x y : α} (h : l[i]? = some x) : l.getD i y = x := by
  rw [List.getD_eq_getElem?_getD, h]; rfl
theorem loopP (x : api_Exception) (hl : x.Seals.length ≤ 1000) : loop (fun q' => g_exception_Check.l3 x q') 0 = some (bif (List.range x.Seals.length).any (badS x.Seals) then 26 else 0) := by
  have ej : ∀ (i : Int) b, g_exception_Check.j4 i b = some (bif b then .done 26 else .next (W (i + 1))) := fun i b => by cases b <;> rfl
  refine loop_hasN x.Seals.length (badS x.Seals) (26 : Int) (0 : Int) (by omega) (fun i hi => ?_) ?_
  · show g_exception_Check.l3 x (i : Int) = _
    obtain ⟨e, he⟩ : ∃ e, x.Seals[i]? = some e := ⟨_, List.getElem?_eq_getElem hi⟩
    unfold g_exception_Check.l3
    have hk : g_certificate_Key e.Key = some (decide (0 ≤ e.Key) && decide (e.Key ≤ 2147483648)) := by
      unfold g_certificate_Key
      exact c_and _ _
    rw [for_in he, hk, Option.bind_some]
    unfold badS badE
    rw [getD_of he]
    simp only [ej, d_lt]
    cases i with
    | zero =>
      generalize (decide (0 ≤ e.Key) && decide (e.Key ≤ 2147483648)) = a1
      generalize decide (0 ≤ e.Sum) = a2
      generalize decide (4294967296 ≤ e.Sum) = a3
      cases a1 <;> cases a2 <;> cases a3 <;> rfl
    | succ i =>
      obtain ⟨q, hq⟩ : ∃ q, x.Seals[i]? = some q := ⟨_, List.getElem?_eq_getElem (by omega)⟩
      have e1 : (!decide (((i + 1 : Nat) : Int) ≤ 0)) = true := by rw [decide_eq_false (by omega)]; rfl
      have e2 : decide (0 < i + 1) = true := decide_eq_true (by omega)
      rw [e1, e2, cond_true, Bool.true_and, Nat.add_sub_cancel, getD_of hq, W_id (x := ((i + 1 : Nat) : Int) - 1) (by omega), show ((i + 1 : Nat) : Int) - 1 = (i : Int) by omega, getI_nat, hq, Option.bind_some]
      generalize (decide (0 ≤ e.Key) && decide (e.Key ≤ 2147483648)) = a1
      generalize decide (0 ≤ e.Sum) = a2
      generalize decide (4294967296 ≤ e.Sum) = a3
      generalize decide (e.Key ≤ q.Key) = a4
      cases a1 <;> cases a2 <;> cases a3 <;> cases a4 <;> rfl
  · show g_exception_Check.l3 x (x.Seals.length : Int) = _
    unfold g_exception_Check.l3
    rw [for_out]; rfl
theorem loopR (x : api_Exception) (hl : x.Seals.length ≤ 1000) : loop (fun q' => g_ref19_Check.l2 x q') 0 = some (bif (List.range x.Seals.length).any (badS x.Seals) then 26 else 0) := by
  have ej : ∀ (i : Int) b, g_ref19_Check.j3 i b = some (bif b then .done 26 else .next (W (i + 1))) := fun i b => by cases b <;> rfl
  refine loop_hasN x.Seals.length (badS x.Seals) (26 : Int) (0 : Int) (by omega) (fun i hi => ?_) ?_
  · show g_ref19_Check.l2 x (i : Int) = _
    obtain ⟨e, he⟩ : ∃ e, x.Seals[i]? = some e := ⟨_, List.getElem?_eq_getElem hi⟩
    unfold g_ref19_Check.l2
    rw [for_in he]
    unfold badS badE
    rw [getD_of he]
    simp only [ej, d_lt]
    cases i with
    | zero =>
      generalize decide (0 ≤ e.Key) = a0
      generalize decide (e.Key ≤ 2147483648) = a1
      generalize decide (0 ≤ e.Sum) = a2
      generalize decide (4294967296 ≤ e.Sum) = a3
      cases a0 <;> cases a1 <;> cases a2 <;> cases a3 <;> rfl
    | succ i =>
      obtain ⟨q, hq⟩ : ∃ q, x.Seals[i]? = some q := ⟨_, List.getElem?_eq_getElem (by omega)⟩
      have e1 : (!decide (((i + 1 : Nat) : Int) ≤ 0)) = true := by rw [decide_eq_false (by omega)]; rfl
      have e2 : decide (0 < i + 1) = true := decide_eq_true (by omega)
      rw [e1, e2, cond_true, Bool.true_and, Nat.add_sub_cancel, getD_of hq, W_id (x := ((i + 1 : Nat) : Int) - 1) (by omega), show ((i + 1 : Nat) : Int) - 1 = (i : Int) by omega, getI_nat, hq, Option.bind_some]
      generalize decide (0 ≤ e.Key) = a0
      generalize decide (e.Key ≤ 2147483648) = a1
      generalize decide (0 ≤ e.Sum) = a2
      generalize decide (4294967296 ≤ e.Sum) = a3
      generalize decide (e.Key ≤ q.Key) = a4
      cases a0 <;> cases a1 <;> cases a2 <;> cases a3 <;> cases a4 <;> rfl
  · show g_ref19_Check.l2 x (x.Seals.length : Int) = _
    unfold g_ref19_Check.l2
    rw [for_out]; rfl
theorem chk_eq (x : api_Exception) : chkX x = bif !decide (strS x.Use ≤ 0) && (decide (1 ≤ x.Purpose) && (decide (x.Purpose ≤ 4) && (nameS x.Endpoint && (decide (0 ≤ x.Days.From) && (!decide (x.Days.To ≤ x.Days.From) && (decide (x.Days.To ≤ 40001) && decide ((x.Seals.length : Int) ≤ 8))))))) && !(List.range x.Seals.length).any (badS x.Seals) then 0 else 26 := by
  unfold chkX preX
  rw [d_lt 0 (strS x.Use)]
theorem checkP {x : api_Exception} (h : FitX x) : g_exception_Check x = some (chkX x) := by
  have hl := h.len
  unfold g_exception_Check g_exception_Check.j1 g_exception_Check.j2
  simp only [cat_Valid, cat_Named _ (show x.Endpoint.size ≤ 9223372036854775807 by have := h.nam; omega), Option.bind_some, loopP x (by omega), d_lt]
  rw [chk_eq]
  generalize decide (strS x.Use ≤ 0) = b0
  generalize decide (1 ≤ x.Purpose) = b1
  generalize decide (x.Purpose ≤ 4) = b2
  generalize nameS x.Endpoint = b3
  generalize decide (0 ≤ x.Days.From) = b4
  generalize decide (x.Days.To ≤ x.Days.From) = b5
  generalize decide (x.Days.To ≤ 40001) = b6
  generalize decide ((x.Seals.length : Int) ≤ 8) = b7
  generalize (List.range x.Seals.length).any (badS x.Seals) = b8
  cases b0 <;> try rfl
  cases b1 <;> try rfl
  cases b2 <;> try rfl
  cases b3 <;> try rfl
  cases b4 <;> try rfl
  cases b5 <;> try rfl
  cases b6 <;> try rfl
  cases b7 <;> try rfl
  cases b8 <;> rfl
theorem checkR {x : api_Exception} (h : FitX x) : g_ref19_Check x = some (chkX x) := by
  have hl := h.len
  unfold g_ref19_Check g_ref19_Check.j1
  simp only [ref_Valid, ref_Name _ (show x.Endpoint.size ≤ 9223372036854775807 by have := h.nam; omega), Option.bind_some, loopR x (by omega), d_lt]
  rw [chk_eq]
  generalize decide (strS x.Use ≤ 0) = b0
  generalize decide (1 ≤ x.Purpose) = b1
  generalize decide (x.Purpose ≤ 4) = b2
  generalize nameS x.Endpoint = b3
  generalize decide (0 ≤ x.Days.From) = b4
  generalize decide (x.Days.To ≤ x.Days.From) = b5
  generalize decide (x.Days.To ≤ 40001) = b6
  generalize decide ((x.Seals.length : Int) ≤ 8) = b7
  generalize (List.range x.Seals.length).any (badS x.Seals) = b8
  cases b0 <;> try rfl
  cases b1 <;> try rfl
  cases b2 <;> try rfl
  cases b3 <;> try rfl
  cases b4 <;> try rfl
  cases b5 <;> try rfl
  cases b6 <;> try rfl
  cases b7 <;> try rfl
  cases b8 <;> rfl
end
section
open Go
structure GoodX (x : api_Exception) : Prop where
  nam : x.Endpoint.size ≤ 32
  len : x.Seals.length ≤ 8
  key : ∀ s ∈ x.Seals, 0 ≤ s.Key ∧ s.Key ≤ 2147483648
  asc : AscK x.Seals
theorem pairwise_of {α : Type} {R : α → α → Prop} (htr : ∀ a b c, R a b → R b c → R a c) : ∀ {l : List α}, (∀ i, i + 1 < l.length → ∀ a b, l[i]? = some a → l[i + 1]? = some b → R a b) → l.Pairwise R
  | [], _ => .nil
  | [a], _ => List.pairwise_singleton _ _
  | a :: b :: l, h => by
    have ih : (b :: l).Pairwise R := pairwise_of htr fun i hi x y hx hy => h (i + 1) (by simpa using hi) x y (by simpa using hx) (by simpa using hy)
    have hab : R a b := h 0 (by simp) a b rfl rfl
    refine List.pairwise_cons.2 ⟨fun z hz => ?_, ih⟩
    rcases List.mem_cons.1 hz with rfl | hz
    · exact hab
    · exact htr _ _ _ hab ((List.pairwise_cons.1 ih).1 z hz)
theorem chk_good {x : api_Exception} (h : chkX x = 0) : GoodX x := by
  unfold chkX at h
  cases hp : preX x && !(List.range x.Seals.length).any (badS x.Seals) with
  | false => rw [hp] at h; cases h
  | true =>
    rw [Bool.and_eq_true, Bool.not_eq_true'] at hp
    obtain ⟨h1, h2⟩ := hp
    unfold preX at h1
    simp only [Bool.and_eq_true] at h1
    have h3 : ∀ i, i < x.Seals.length → badS x.Seals i = false := fun i hi => by
      have := List.any_eq_false.1 h2 i (List.mem_range.2 hi)
      cases hb : badS x.Seals i with
      | false => rfl
      | true => exact absurd hb this
    have h4 : ∀ i e, x.Seals[i]? = some e → badE e = false ∧ (0 < i → ∀ q, x.Seals[i - 1]? = some q → q.Key < e.Key) := fun i e he => by
      have := h3 i (at_lt he)
      unfold badS at this
      rw [getD_of he, Bool.or_eq_false_iff] at this
      refine ⟨this.1, fun hi q hq => ?_⟩
      have h5 := this.2
      rw [decide_eq_true hi, Bool.true_and, getD_of hq] at h5
      have := of_decide_eq_false h5
      omega
    refine ⟨?_, ?_, fun s hs => ?_, ?_⟩
    · have := h1.2.2.2.1
      unfold nameS at this
      simp only [Bool.and_eq_true] at this
      have := of_decide_eq_true this.1.2
      omega
    · have := of_decide_eq_true h1.2.2.2.2.2.2.2
      omega
    · obtain ⟨i, hi⟩ := List.getElem?_of_mem hs
      have := (h4 i s hi).1
      unfold badE at this
      rw [Bool.or_eq_false_iff] at this
      have := this.1
      rw [Bool.not_eq_false', Bool.and_eq_true] at this
      exact ⟨of_decide_eq_true this.1, of_decide_eq_true this.2⟩
    · refine pairwise_of (R := fun a b : api_Seal => a.Key < b.Key) (fun a b c h h' => Int.lt_trans h h') fun i hi a b ha hb => ?_
      exact (h4 (i + 1) b hb).2 (by omega) a (by rw [Nat.add_sub_cancel]; exact ha)
theorem chk_two (x : api_Exception) : chkX x = 0 ∨ chkX x = 26 := by
  unfold chkX
  cases preX x && !(List.range x.Seals.length).any (badS x.Seals)
  · exact .inr rfl
  · exact .inl rfl
def bytS (x : api_Exception) : List UInt8 × Int := if chkX x = 0 then (excB x, 0) else ([], 26)
theorem bytesP {x : api_Exception} (h : FitX x) : g_exception_Bytes x = some (bytS x) := by
  unfold bytS
  rcases chk_two x with e | e
  · rw [if_pos e]
    exact exc_bytes (by rw [checkP h, e]) (chk_good e).nam
  · rw [if_neg (by rw [e]; decide)]
    unfold g_exception_Bytes
    rw [checkP h, e]
    rfl
theorem bytesR {x : api_Exception} (h : FitX x) : g_ref19_Bytes x = some (bytS x) := by
  unfold bytS g_ref19_Bytes
  rw [checkR h, Option.bind_some]
  rcases chk_two x with e | e
  · rw [if_pos e, e]
    have hn := (chk_good e).nam
    have hs := exc_szs hn
    have hz := list_sz (excL x)
    have h1 := h.alg
    have h2 := h.bits
    have h3 := h.pur
    have h4 := h.frm
    have h5 := h.to
    show (g_ref01_Int x.Use.Alg).bind _ = _
    rw [ref01_Int _ (by omega) (by omega), Option.bind_some, ref01_Int _ (by omega) (by omega), Option.bind_some, ref01_Int _ (by omega) (by omega), Option.bind_some, show g_ref01_Text x.Endpoint = some (textV x.Endpoint) from rfl, Option.bind_some, ref01_Int _ (by omega) (by omega), Option.bind_some, ref01_Int _ (by omega) (by omega), Option.bind_some]
    show (g_ref01_List (excL x)).bind _ = _
    rw [ref01_List _ (by omega), Option.bind_some]
    show (g_ref01_Encode (listV (excL x))).bind _ = _
    have he : g_ref01_Encode (listV (excL x)) = some (excB x, 0) := by
      have := exc_enc hn
      rw [der_Encode _ (by omega)] at this
      rw [ref01_Encode _ (by omega)]
      exact this
    rw [he]
    rfl
  · rw [if_neg (by rw [e]; decide), e]
    rfl
theorem splitK (k : Int) : ∀ {S : List api_Seal}, AscK S → ∃ A B, S = A ++ B ∧ (∀ a ∈ A, a.Key < k) ∧ (B = [] ∨ ∃ b B', B = b :: B' ∧ k ≤ b.Key ∧ ∀ c ∈ B', b.Key < c.Key)
  | [], _ => ⟨[], [], rfl, fun a h => (by cases h), .inl rfl⟩
  | s :: S, h => by
    obtain ⟨h1, h2⟩ := List.pairwise_cons.1 h
    by_cases hk : s.Key < k
    · obtain ⟨A, B, e, hA, hB⟩ := splitK k h2
      refine ⟨s :: A, B, by rw [e]; rfl, fun a ha => ?_, hB⟩
      rcases List.mem_cons.1 ha with rfl | ha
      · exact hk
      · exact hA a ha
    · exact ⟨[], s :: S, rfl, fun a h => (by cases h), .inr ⟨s, S, rfl, by omega, h1⟩⟩
def restK (k : Int) (B : List api_Seal) : List api_Seal := match B with | [] => [] | b :: B' => if b.Key = k then B' else b :: B'
def zeroX : api_Exception := ⟨⟨0, 0⟩, 0, ⟨#[]⟩, ⟨0, 0⟩, []⟩
def insK (S : List api_Seal) (k sg : Int) : List api_Seal := S.filter (fun s => decide (s.Key < k)) ++ ⟨k, sg⟩ :: S.filter fun s => decide (k < s.Key)
def signS (x : api_Exception) (k : Int) : api_Exception × Int :=
  if chkX x = 0 then if 0 ≤ k ∧ k ≤ 2147483648 then if (x.Seals.filter (kp k)).length = 8 then (zeroX, 3) else (⟨x.Use, x.Purpose, x.Endpoint, x.Days, insK x.Seals k (sumS (excB x))⟩, 0) else (zeroX, 2) else (zeroX, 26)
theorem filter_all {α : Type} {p : α → Bool} {l : List α} (h : ∀ a ∈ l, p a = true) : l.filter p = l := List.filter_eq_self.2 h
theorem filter_no {α : Type} {p : α → Bool} {l : List α} (h : ∀ a ∈ l, p a = false) : l.filter p = [] := List.filter_eq_nil_iff.2 fun a ha hp => by rw [h a ha] at hp; cases hp
theorem split_filters {S A B : List api_Seal} {k : Int} (e : S = A ++ B) (hA : ∀ a ∈ A, a.Key < k) (hB : B = [] ∨ ∃ b B', B = b :: B' ∧ k ≤ b.Key ∧ ∀ c ∈ B', b.Key < c.Key) : S.filter (fun s => decide (s.Key < k)) = A ∧ S.filter (fun s => decide (k < s.Key)) = restK k B ∧ S.filter (kp k) = A ++ restK k B := by
  subst e
  rw [List.filter_append, List.filter_append, List.filter_append]
  have hA1 : A.filter (fun s => decide (s.Key < k)) = A := filter_all fun a ha => decide_eq_true (hA a ha)
  have hA2 : A.filter (fun s => decide (k < s.Key)) = [] := filter_no fun a ha => decide_eq_false (by have := hA a ha; omega)
  have hA3 : A.filter (kp k) = A := filter_all fun a ha => by unfold kp; rw [decide_eq_false (by have := hA a ha; omega)]; rfl
  rw [hA1, hA2, hA3]
  rcases hB with rfl | ⟨b, B', rfl, hb, hB'⟩
  · exact ⟨List.append_nil _, rfl, rfl⟩
  · have hB1 : (b :: B').filter (fun s => decide (s.Key < k)) = [] := filter_no fun a ha => by
      refine decide_eq_false ?_
      rcases List.mem_cons.1 ha with rfl | ha
      · omega
      · have := hB' a ha; omega
    have c1 : B'.filter (fun s => decide (k < s.Key)) = B' := filter_all fun a ha => decide_eq_true (by have := hB' a ha; omega)
    have c2 : B'.filter (kp k) = B' := filter_all fun a ha => by unfold kp; rw [decide_eq_false (by have := hB' a ha; omega)]; rfl
    rw [hB1]
    unfold restK
    by_cases he : b.Key = k
    · have k1 : ¬ (decide (k < b.Key) = true) := by rw [decide_eq_false (by omega)]; decide
      have k2 : ¬ (kp k b = true) := by unfold kp; rw [decide_eq_true he]; decide
      rw [List.filter_cons_of_neg (p := fun s : api_Seal => decide (k < s.Key)) k1, List.filter_cons_of_neg k2, c1, c2]
      dsimp only
      rw [if_pos he]
      exact ⟨List.append_nil _, rfl, rfl⟩
    · have k1 : decide (k < b.Key) = true := decide_eq_true (by omega)
      have k2 : kp k b = true := by unfold kp; rw [decide_eq_false he]; rfl
      rw [List.filter_cons_of_pos (p := fun s : api_Seal => decide (k < s.Key)) k1, List.filter_cons_of_pos k2, c1, c2]
      dsimp only
      rw [if_neg he]
      exact ⟨List.append_nil _, rfl, rfl⟩
theorem ins_asc {S : List api_Seal} (h : AscK S) (k sg : Int) : AscK (insK S k sg) := by
  unfold insK
  refine List.pairwise_append.2 ⟨h.sublist List.filter_sublist, List.pairwise_cons.2 ⟨fun b hb => ?_, h.sublist List.filter_sublist⟩, fun a ha b hb => ?_⟩
  · exact of_decide_eq_true (List.mem_filter.1 hb).2
  · have h1 := of_decide_eq_true (List.mem_filter.1 ha).2
    rcases List.mem_cons.1 hb with rfl | hb
    · exact h1
    · have h2 := of_decide_eq_true (List.mem_filter.1 hb).2
      omega
theorem ins_mem {S : List api_Seal} {k sg : Int} {s : api_Seal} : s ∈ insK S k sg ↔ s = ⟨k, sg⟩ ∨ s ∈ S.filter (kp k) := by
  unfold insK kp
  simp only [List.mem_append, List.mem_cons, List.mem_filter, decide_eq_true_eq, Bool.not_eq_true', decide_eq_false_iff_not]
  constructor
  · rintro (⟨h1, h2⟩ | h | ⟨h1, h2⟩)
    · exact .inr ⟨h1, by omega⟩
    · exact .inl h
    · exact .inr ⟨h1, by omega⟩
  · rintro (h | ⟨h1, h2⟩)
    · exact .inr (.inl h)
    · by_cases h3 : s.Key < k
      · exact .inl ⟨h1, h3⟩
      · exact .inr (.inr ⟨h1, by omega⟩)
theorem signR {x : api_Exception} (h : FitX x) (k : Int) : g_ref19_Sign x k = some (signS x k) := by
  unfold g_ref19_Sign signS
  rw [bytesR h, Option.bind_some]
  unfold bytS
  rcases chk_two x with e | e
  · rw [if_pos e, if_pos e]
    have hg := chk_good e
    have hlen := hg.len
    have hblen := exc_len hg.nam
    rw [decide_eq_true rfl, Bool.not_true, cond_false]
    by_cases hk : 0 ≤ k ∧ k ≤ 2147483648
    · rw [if_pos hk, decide_eq_false (by omega), cond_false, decide_eq_false (by omega)]
      unfold g_ref19_Sign.j1
      rw [cond_false, ref_Sum (excB x) (by unfold Lo; omega), Option.bind_some]
      obtain ⟨A, B, hS, hA, hB⟩ := splitK k hg.asc
      obtain ⟨f1, f2, f3⟩ := split_filters hS hA hB
      have hAl : A.length + B.length ≤ 8 := by rw [hS, List.length_append] at hlen; exact hlen
      refine loop_path (body := fun q' => g_ref19_Sign.l2 x k (sumS (excB x)) q') A.length (fun i => (i : Int)) _ (fun i hi => ?_) ?_
      · show g_ref19_Sign.l2 x k (sumS (excB x)) (i : Int) = _
        unfold g_ref19_Sign.l2
        obtain ⟨a, ha⟩ : ∃ a, A[i]? = some a := ⟨_, List.getElem?_eq_getElem hi⟩
        have ha' : x.Seals[i]? = some a := by rw [hS, List.getElem?_append_left hi, ha]
        rw [for_in ha', decide_eq_true (hA a (List.mem_of_getElem? ha))]
        unfold g_ref19_Sign.j3
        rw [cond_true, W_id (by omega)]
        rfl
      · show g_ref19_Sign.l2 x k (sumS (excB x)) (A.length : Int) = _
        have hSl : x.Seals.length = A.length + B.length := by rw [hS, List.length_append]
        have hdrop : slI x.Seals (A.length : Int) (x.Seals.length : Int) = some B := by
          rw [slI_v (by omega), Int.toNat_natCast, Int.toNat_natCast, hS, List.drop_left, List.take_of_length_le (by rw [List.length_append]; omega)]
        have htake : slI x.Seals 0 (A.length : Int) = some A := by
          rw [slI_v (by omega), hS]
          show some (((A ++ B).drop 0).take (A.length - 0)) = _
          rw [List.drop_zero, Nat.sub_zero, List.take_left]
        have J5 : ∀ r : List api_Seal, r.length ≤ 8 → r = restK k B → g_ref19_Sign.j5 x k (sumS (excB x)) (A.length : Int) r = some (if (x.Seals.filter (kp k)).length = 8 then (zeroX, 3) else (⟨x.Use, x.Purpose, x.Endpoint, x.Days, insK x.Seals k (sumS (excB x))⟩, 0)) := fun r hr hrr => by
          unfold g_ref19_Sign.j5
          rw [htake, Option.bind_some]
          obtain ⟨l4, e4, h4⟩ := appI_ok' (k := 32) (l := ([] : List api_Seal)) (m := A) (by simp; omega)
          rw [e4, Option.bind_some]
          obtain ⟨l5, e5, h5⟩ := appI_ok' (k := 32) (l := l4) (m := [(⟨k, sumS (excB x)⟩ : api_Seal)]) (by rw [h4]; simp; omega)
          rw [e5, Option.bind_some]
          obtain ⟨l6, e6, h6⟩ := appI_ok' (k := 32) (l := l5) (m := r) (by rw [h5, h4]; simp; omega)
          rw [e6, Option.bind_some]
          have e7 : l6 = insK x.Seals k (sumS (excB x)) := by
            unfold insK
            rw [f1, f2, h6, h5, h4, hrr]
            simp
          have e8 : l6.length = (x.Seals.filter (kp k)).length + 1 := by
            rw [f3, h6, h5, h4, hrr]
            simp
            omega
          have e9 : (x.Seals.filter (kp k)).length ≤ x.Seals.length := List.length_filter_le _ _
          by_cases h8 : (x.Seals.filter (kp k)).length = 8
          · rw [if_pos h8, decide_eq_true (by omega)]; rfl
          · rw [if_neg h8, decide_eq_false (by omega), cond_false, e7]
        have J3 : g_ref19_Sign.j3 x k (sumS (excB x)) (A.length : Int) false = some (.done (if (x.Seals.filter (kp k)).length = 8 then (zeroX, 3) else (⟨x.Use, x.Purpose, x.Endpoint, x.Days, insK x.Seals k (sumS (excB x))⟩, 0))) := by
          unfold g_ref19_Sign.j3
          rw [cond_false, hdrop, Option.bind_some]
          rcases hB with rfl | ⟨b, B', rfl, hb, hB'⟩
          · rw [decide_eq_false (by decide), cond_false]
            unfold g_ref19_Sign.j4
            rw [cond_false, J5 [] (by decide) rfl]
            rfl
          · rw [decide_eq_true (by rw [List.length_cons]; omega), cond_true]
            show up ((getI (b :: B') ((0 : Nat) : Int)).bind _) = _
            rw [getI_nat]
            show up (g_ref19_Sign.j4 x k (sumS (excB x)) (A.length : Int) (b :: B') (decide (b.Key = k))) = _
            unfold g_ref19_Sign.j4
            rw [List.length_cons] at hAl
            by_cases hbk : b.Key = k
            · rw [decide_eq_true hbk, cond_true, slI_v (by rw [List.length_cons]; omega), Option.bind_some]
              have : ((b :: B').drop (1 : Int).toNat).take (((b :: B').length : Int).toNat - (1 : Int).toNat) = B' := by
                show B'.take (((b :: B').length : Int).toNat - 1) = B'
                rw [List.take_of_length_le (by rw [List.length_cons]; omega)]
              rw [this, J5 B' (by omega) (by unfold restK; dsimp only; rw [if_pos hbk])]
              rfl
            · rw [decide_eq_false hbk, cond_false, J5 (b :: B') (by rw [List.length_cons]; omega) (by unfold restK; dsimp only; rw [if_neg hbk])]
              rfl
        unfold g_ref19_Sign.l2
        rcases hB with hB | ⟨b, B', hB, hb, hB'⟩
        · rw [decide_eq_false (by rw [hSl, hB, List.length_nil]; omega), cond_false]
          exact J3
        · have ha' : x.Seals[A.length]? = some b := by rw [hS, List.getElem?_append_right (Nat.le_refl _), hB, Nat.sub_self]; rfl
          rw [for_in ha', decide_eq_false (by omega)]
          exact J3
    · rw [if_neg hk]
      have J1 : g_ref19_Sign.j1 x k (excB x, 0) true = some (zeroX, 2) := rfl
      by_cases h0 : k < 0
      · rw [decide_eq_true h0, cond_true, J1]
      · rw [decide_eq_false h0, cond_false, decide_eq_true (by omega), J1]
  · rw [if_neg (by rw [e]; decide), if_neg (by rw [e]; decide)]
    rfl
def vaS (x : api_Exception) (o : api_Owners) : Bool := decide (chkX x = 0) && (decide (1 ≤ o.Need) && decide (o.Need ≤ ((x.Seals.filter (okS o (sumS (excB x)))).length : Int)))
theorem validP {x : api_Exception} (h : FitX x) {o : api_Owners} (ho : o.Keys.length ≤ 1000) : g_exception_Valid x o = some (vaS x o) := by
  have hb := bytesP h
  unfold bytS at hb
  unfold vaS
  rcases chk_two x with e | e
  · rw [if_pos e] at hb
    have hg := chk_good e
    have hlen := hg.len
    rw [decide_eq_true e, Bool.true_and]
    by_cases hn : 1 ≤ o.Need
    · rw [decide_eq_true hn, Bool.true_and]
      exact valid_ok (by rw [checkP h, e]) hg.nam hn ho (by omega) hg.asc
    · rw [decide_eq_false hn, Bool.false_and]
      unfold g_exception_Valid
      rw [hb, Option.bind_some, decide_eq_true rfl, Bool.not_true, cond_false, decide_eq_true (show o.Need < 1 by omega)]
      rfl
  · rw [if_neg (by rw [e]; decide)] at hb
    rw [decide_eq_false (by rw [e]; decide), Bool.false_and]
    unfold g_exception_Valid
    rw [hb]
    rfl
theorem validR {x : api_Exception} (h : FitX x) {o : api_Owners} (ho : o.Keys.length ≤ 1000) : g_ref19_Valid x o = some (vaS x o) := by
  have hb := bytesR h
  unfold bytS at hb
  unfold vaS g_ref19_Valid
  rcases chk_two x with e | e
  · rw [if_pos e] at hb
    have hg := chk_good e
    have hlen := hg.len
    have hblen := exc_len hg.nam
    rw [decide_eq_true (p := chkX x = 0) e, Bool.true_and, hb, Option.bind_some, decide_eq_true rfl, Bool.not_true, cond_false]
    by_cases hn : 1 ≤ o.Need
    · rw [decide_eq_true hn, Bool.true_and, decide_eq_false (by omega)]
      unfold g_ref19_Valid.j1
      rw [cond_false]
      have key : ∀ (m p : List api_Seal), p ++ m = x.Seals → loop (fun q' => g_ref19_Valid.l2 x o (excB x, 0) q'.1 q'.2) (((p.filter (okS o (sumS (excB x)))).length : Int), (p.length : Int)) = some (decide (o.Need ≤ ((x.Seals.filter (okS o (sumS (excB x)))).length : Int))) := by
        intro m
        induction m with
        | nil =>
          intro p hp
          rw [List.append_nil] at hp
          subst hp
          refine loop_up ?_
          show g_ref19_Valid.l2 x o (excB x, 0) _ (x.Seals.length : Int) = _
          unfold g_ref19_Valid.l2
          rw [for_out]
        | cons s m ih =>
          intro p hp
          have hs : x.Seals[p.length]? = some s := by rw [← hp]; simp
          have hlt := at_lt hs
          have hfl := List.length_filter_le (okS o (sumS (excB x))) p
          have hnew : ((p ++ [s]).filter (okS o (sumS (excB x)))).length = (p.filter (okS o (sumS (excB x)))).length + (bif okS o (sumS (excB x)) s then 1 else 0) := by
            rw [List.filter_append, List.length_append]
            cases hq : okS o (sumS (excB x)) s with
            | true => rw [List.filter_cons_of_pos hq]; rfl
            | false => rw [List.filter_cons_of_neg (by rw [hq]; decide)]; rfl
          have e1 : g_ref19_Valid.l2 x o (excB x, 0) ((p.filter (okS o (sumS (excB x)))).length : Int) (p.length : Int) = some (.next ((((p ++ [s]).filter (okS o (sumS (excB x)))).length : Int), ((p ++ [s]).length : Int))) := by
            unfold g_ref19_Valid.l2
            rw [for_in hs]
            show (g_ref03_Sum (excB x)).bind _ = _
            rw [ref_Sum (excB x) (by unfold Lo; omega), Option.bind_some, ref_Has _ _ (by unfold Lo; omega), Option.bind_some, hnew, List.length_append, List.length_singleton]
            generalize (p.filter (okS o (sumS (excB x)))).length = n at hfl ⊢
            have hany : (o.Keys.any fun e => decide (s.Key = e)) = decide (s.Key ∈ o.Keys) := by
              rw [Bool.eq_iff_iff, List.any_eq_true, decide_eq_true_eq]
              constructor
              · rintro ⟨z, hz, hz2⟩
                rw [of_decide_eq_true hz2]; exact hz
              · intro hz
                exact ⟨_, hz, decide_eq_true rfl⟩
            rw [hany]
            unfold okS g_ref19_Valid.j3 g_ref19_Valid.j4
            rw [W_id (x := (p.length : Int) + 1) (by omega)]
            cases decide (s.Sum = sumS (excB x)) with
            | false => rfl
            | true =>
              cases decide (s.Key ∈ o.Keys) with
              | false => rfl
              | true =>
                rw [cond_true, cond_true, Bool.and_self, cond_true, W_id (by omega)]
                rfl
          rw [loop_next (body := fun q' => g_ref19_Valid.l2 x o (excB x, 0) q'.1 q'.2) e1, ih (p ++ [s]) (by simp [hp])]
      exact key x.Seals [] rfl
    · rw [decide_eq_false hn, Bool.false_and, decide_eq_true (show o.Need < 1 by omega)]
      rfl
  · rw [if_neg (by rw [e]; decide)] at hb
    rw [decide_eq_false (p := chkX x = 0) (by rw [e]; decide), Bool.false_and, hb]
    rfl
theorem coversR (u : api_Use) (p : Int) (e : ByteArray) (x : api_Exception) (day : Int) : g_ref19_Covers x u p e day = some (covS u p e x day) := covers_ok u p e x day
end
section
open Go
theorem size_rng {d : cipherplanmake_Dice} (hd : DOK d) (a : Int) : Ok (g_make_size d a) (fun y => (0 ≤ y.1 ∧ y.1 ≤ 100000) ∧ DOK y.2) := by
  have D : ∀ l : List Int, 1 ≤ l.length → l.length ≤ 1000 → (l.all fun z => decide (0 ≤ z) && decide (z ≤ 100000)) = true → Ok ((g_make_Dice_Of d l).bind fun y => some (y.1, y.2)) (fun y => (0 ≤ y.1 ∧ y.1 ≤ 100000) ∧ DOK y.2) := fun l h1 h2 h3 => by
    refine Ok.bind (of_ok hd l h1 h2) fun y hy => Ok.ret ⟨?_, hy.2⟩
    have := List.all_eq_true.1 h3 _ hy.1
    rw [Bool.and_eq_true] at this
    exact ⟨of_decide_eq_true this.1, of_decide_eq_true this.2⟩
  have J3 : ∀ b, Ok (g_make_size.j3 d b) (fun y => (0 ≤ y.1 ∧ y.1 ≤ 100000) ∧ DOK y.2) := fun b => by
    unfold g_make_size.j3
    exact Ok.cond (fun _ => D _ (by decide) (by decide) (by decide)) (fun _ => Ok.ret ⟨⟨Int.le_refl _, by show (0 : Int) ≤ 100000; decide⟩, hd⟩)
  have J2 : ∀ b, Ok (g_make_size.j2 d a b) (fun y => (0 ≤ y.1 ∧ y.1 ≤ 100000) ∧ DOK y.2) := fun b => by
    unfold g_make_size.j2
    refine Ok.cond (fun _ => D _ (by decide) (by decide) (by decide)) (fun _ => ?_)
    refine Ok.cond (fun _ => D _ (by decide) (by decide) (by decide)) (fun _ => ?_)
    refine Ok.cond (fun _ => D _ (by decide) (by decide) (by decide)) (fun _ => ?_)
    refine Ok.cond (fun _ => D _ (by decide) (by decide) (by decide)) (fun _ => ?_)
    refine Ok.cond (fun _ => D _ (by decide) (by decide) (by decide)) (fun _ => ?_)
    exact Ok.cond (fun _ => J3 _) (fun _ => J3 _)
  have J1 : ∀ b, Ok (g_make_size.j1 d a b) (fun y => (0 ≤ y.1 ∧ y.1 ≤ 100000) ∧ DOK y.2) := fun b => by
    unfold g_make_size.j1
    refine Ok.cond (fun _ => D _ (by decide) (by decide) (by decide)) (fun _ => ?_)
    exact Ok.cond (fun _ => J2 _) (fun _ => J2 _)
  unfold g_make_size
  exact Ok.cond (fun _ => J1 _) (fun _ => Ok.cond (fun _ => J1 _) (fun _ => Ok.cond (fun _ => J1 _) (fun _ => J1 _)))
theorem use_rng {d : cipherplanmake_Dice} (hd : DOK d) : Ok (g_make_Use d) (fun y => ((0 ≤ y.1.Alg ∧ y.1.Alg ≤ 100000) ∧ 0 ≤ y.1.Bits ∧ y.1.Bits ≤ 100000) ∧ DOK y.2) := by
  unfold g_make_Use
  refine Ok.bind (next_ok hd 22 (by omega) (by omega)) fun y hy => ?_
  have := hy.1
  rw [W_id (by omega)]
  refine Ok.bind (size_rng hy.2 _) fun z hz => ?_
  exact Ok.ret ⟨⟨⟨by show 0 ≤ 1 + y.1; omega, by show 1 + y.1 ≤ 100000; omega⟩, hz.1⟩, hz.2⟩
theorem mem3 {a b c x : Int} (h : x ∈ [a, b, c]) : x = a ∨ x = b ∨ x = c := by simpa using h
theorem mem2 {a b x : Int} (h : x ∈ [a, b]) : x = a ∨ x = b := by simpa using h
theorem made_ok {d : cipherplanmake_Dice} (hd : DOK d) : Ok (g_law19_made d) (fun y => FitX y.1 ∧ DOK y.2) := by
  unfold g_law19_made
  refine Ok.bind (use_rng hd) fun y hy => ?_
  refine Ok.bind (word_ok hy.2 _ (by decide) (by decide)) fun y2 h2 => ?_
  have hsz : ∀ {s : ByteArray} {l : List ByteArray}, s ∈ l → (l.all fun s => decide (s.size ≤ 32)) = true → s.size ≤ 32 := fun h1 h2 => of_decide_eq_true (List.all_eq_true.1 h2 _ h1)
  refine Ok.bind (make_Exception_ok h2.2 hy.1 (hsz h2.1 (by decide))) fun y3 h3 => ?_
  obtain ⟨⟨⟨al, bi⟩, pu, nm, ⟨fr, to⟩, S⟩, d3⟩ := y3
  obtain ⟨hx, hd3⟩ := h3
  have x1 : nm.size ≤ 32 := hx.nam
  have x2 : S.length ≤ 50 := hx.len
  have x3 : 0 ≤ al ∧ al ≤ 100000 := hx.alg
  have x4 : 0 ≤ bi ∧ bi ≤ 100000 := hx.bits
  have x5 : 0 ≤ pu ∧ pu ≤ 100000 := hx.pur
  have x6 : 0 ≤ fr ∧ fr ≤ 100000 := hx.frm
  have x7 : 0 ≤ to ∧ to ≤ 100000 := hx.to
  refine Ok.bind (next_ok hd3 14 (by omega) (by omega)) fun y4 h4 => ?_
  have J2 : ∀ (d' : cipherplanmake_Dice) (a b p : Int) (n : ByteArray) (f t : Int) (l : List api_Seal), DOK d' → n.size ≤ 32 → l.length ≤ 60 → (-100000 ≤ a ∧ a ≤ 100000) → (-100000 ≤ b ∧ b ≤ 100000) → (-100000 ≤ p ∧ p ≤ 100000) → (-100000 ≤ f ∧ f ≤ 100000) → (-100000 ≤ t ∧ t ≤ 100000) → Ok (g_law19_made.j2 d'.L d'.At a b p n f t l) (fun y => FitX y.1 ∧ DOK y.2) := fun d' a b p n f t l k1 k2 k3 k4 k5 k6 k7 k8 => by
    unfold g_law19_made.j2
    exact Ok.ret ⟨⟨by show n.size ≤ 200; omega, k3, by show _ ≤ a ∧ a ≤ _; omega, by show _ ≤ b ∧ b ≤ _; omega, by show _ ≤ p ∧ p ≤ _; omega, by show _ ≤ f ∧ f ≤ _; omega, by show _ ≤ t ∧ t ≤ _; omega⟩, k1⟩
  refine Ok.cond (fun _ => J2 _ _ _ _ _ _ _ _ h4.2 x1 (by show S.length ≤ 60; omega) (by omega) (by omega) (by show _ ≤ pu ∧ pu ≤ _; omega) (by show _ ≤ fr ∧ fr ≤ _; omega) (by show _ ≤ to ∧ to ≤ _; omega)) (fun _ => ?_)
  refine Ok.cond (fun _ => ?_) (fun _ => ?_)
  · refine Ok.bind (of_ok h4.2 _ (by decide) (by decide)) fun y5 h5 => ?_
    have := mem2 h5.1
    exact J2 _ _ _ _ _ _ _ _ h5.2 x1 (by show S.length ≤ 60; omega) (by show _ ≤ al ∧ al ≤ _; omega) (by show _ ≤ bi ∧ bi ≤ _; omega) (by omega) (by show _ ≤ fr ∧ fr ≤ _; omega) (by show _ ≤ to ∧ to ≤ _; omega)
  refine Ok.cond (fun _ => ?_) (fun _ => ?_)
  · refine Ok.bind (word_ok h4.2 _ (by decide) (by decide)) fun y5 h5 => ?_
    exact J2 _ _ _ _ _ _ _ _ h5.2 (hsz h5.1 (by decide)) (by show S.length ≤ 60; omega) (by show _ ≤ al ∧ al ≤ _; omega) (by show _ ≤ bi ∧ bi ≤ _; omega) (by show _ ≤ pu ∧ pu ≤ _; omega) (by show _ ≤ fr ∧ fr ≤ _; omega) (by show _ ≤ to ∧ to ≤ _; omega)
  refine Ok.cond (fun _ => ?_) (fun _ => ?_)
  · refine Ok.bind (of_ok h4.2 _ (by decide) (by decide)) fun y5 h5 => ?_
    refine Ok.bind (of_ok h5.2 _ (by decide) (by decide)) fun y6 h6 => ?_
    have := mem3 h5.1
    have := mem3 h6.1
    exact J2 _ _ _ _ _ _ _ _ h6.2 x1 (by show S.length ≤ 60; omega) (by show _ ≤ al ∧ al ≤ _; omega) (by show _ ≤ bi ∧ bi ≤ _; omega) (by show _ ≤ pu ∧ pu ≤ _; omega) (by omega) (by omega)
  refine Ok.cond (fun _ => ?_) (fun _ => ?_)
  · refine Ok.bind (of_ok h4.2 _ (by decide) (by decide)) fun y5 h5 => ?_
    refine Ok.bind (of_ok h5.2 _ (by decide) (by decide)) fun y6 h6 => ?_
    refine Ok.bind (appI_ok' (by show (S.length + 1) * 32 ≤ _; omega)) fun l hl => ?_
    exact J2 _ _ _ _ _ _ _ _ h6.2 x1 (by rw [hl]; show (S ++ [_]).length ≤ 60; rw [List.length_append, List.length_singleton]; omega) (by show _ ≤ al ∧ al ≤ _; omega) (by show _ ≤ bi ∧ bi ≤ _; omega) (by show _ ≤ pu ∧ pu ≤ _; omega) (by show _ ≤ fr ∧ fr ≤ _; omega) (by show _ ≤ to ∧ to ≤ _; omega)
  refine Ok.cond (fun _ => ?_) (fun _ => J2 _ _ _ _ _ _ _ _ h4.2 x1 (by show S.length ≤ 60; omega) (by show _ ≤ al ∧ al ≤ _; omega) (by show _ ≤ bi ∧ bi ≤ _; omega) (by show _ ≤ pu ∧ pu ≤ _; omega) (by show _ ≤ fr ∧ fr ≤ _; omega) (by show _ ≤ to ∧ to ≤ _; omega))
  refine Ok.loop (fun s : Int × List Int × Int × List api_Seal => (0 ≤ s.1 ∧ s.1 ≤ 8) ∧ DOK ⟨s.2.1, s.2.2.1⟩ ∧ (s.2.2.2.length : Int) ≤ 50 + s.1) (fun s => (8 - s.1).toNat) ?_ ⟨⟨Int.le_refl _, by show (0 : Int) ≤ 8; decide⟩, h4.2, by show (S.length : Int) ≤ 50 + 0; omega⟩
  rintro ⟨i, dl, da, l⟩ ⟨⟨i1, i2⟩, i3, i4⟩
  dsimp only at i1 i2 i3 i4
  show Ok (g_law19_made.l1 _ i dl da l) _
  unfold g_law19_made.l1
  refine Ok.bind (next_ok i3 3 (by omega) (by omega)) fun y11 h11 => ?_
  have := h11.1
  rw [W_id (x := 6 + y11.1) (by omega)]
  refine Ok.cond (fun hb => ?_) (fun hb => ?_)
  · have hb := of_decide_eq_true hb
    refine Ok.bind (appI_ok' (by rw [List.length_singleton]; omega)) fun l2 hl => ?_
    rw [W_id (x := i + 1) (by omega)]
    refine Ok.ret ⟨⟨⟨by show 0 ≤ i + 1; omega, by show i + 1 ≤ 8; omega⟩, h11.2, ?_⟩, by show (8 - (i + 1)).toNat < (8 - i).toNat; omega⟩
    show (l2.length : Int) ≤ 50 + (i + 1)
    rw [hl, List.length_append, List.length_singleton]
    omega
  · exact Ok.up (J2 _ _ _ _ _ _ _ _ h11.2 x1 (by omega) (by show _ ≤ al ∧ al ≤ _; omega) (by show _ ≤ bi ∧ bi ≤ _; omega) (by show _ ≤ pu ∧ pu ≤ _; omega) (by show _ ≤ fr ∧ fr ≤ _; omega) (by show _ ≤ to ∧ to ≤ _; omega))
theorem zero_fit : FitX zeroX := ⟨by show (0 : Nat) ≤ 200; omega, by show (0 : Nat) ≤ 60; omega, by show _ ≤ (0 : Int) ∧ (0 : Int) ≤ _; omega, by show _ ≤ (0 : Int) ∧ (0 : Int) ≤ _; omega, by show _ ≤ (0 : Int) ∧ (0 : Int) ≤ _; omega, by show _ ≤ (0 : Int) ∧ (0 : Int) ≤ _; omega, by show _ ≤ (0 : Int) ∧ (0 : Int) ≤ _; omega⟩
theorem sign_fit {x : api_Exception} (h : FitX x) (k : Int) : FitX (signS x k).1 := by
  unfold signS
  by_cases e : chkX x = 0
  · rw [if_pos e]
    split
    · split
      · exact zero_fit
      · have hl := (chk_good e).len
        refine ⟨h.nam, ?_, h.alg, h.bits, h.pur, h.frm, h.to⟩
        show (insK x.Seals k (sumS (excB x))).length ≤ 60
        unfold insK
        have h1 := List.length_filter_le (fun s : api_Seal => decide (s.Key < k)) x.Seals
        have h2 := List.length_filter_le (fun s : api_Seal => decide (k < s.Key)) x.Seals
        rw [List.length_append, List.length_cons]
        omega
    · exact zero_fit
  · rw [if_neg e]
    exact zero_fit
end
end Go.Proofs.YtmbhoimeiahbaaaGreat
