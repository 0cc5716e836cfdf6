/- Exceptions: how long they last. No program is in sight here. -/
import Derived.Test.YtmihjbejflcgkaaX6
set_option linter.unusedVariables false
set_option linter.unusedSimpArgs false
namespace Go.Proofs.Ytmihjbejflcgkaa
open Go
section
variable {l : List api_Exception} {o : api_Owners} {u : api_Use} {p : Int} {e : ByteArray}
end
theorem make_Exception_ok {d : cipherplanmake_Dice} (hd : DOK d) {u : api_Use} (hu : (0 ≤ u.Alg ∧ u.Alg ≤ 100000) ∧ 0 ≤ u.Bits ∧ u.Bits ≤ 100000) {e : ByteArray} (he : e.size ≤ 32) : Ok (g_make_Exception d u e) (fun y => SmX 50 y.1 ∧ DOK y.2) := by
  unfold g_make_Exception
  refine Ok.bind (of_ok hd _ (by decide) (by decide)) fun y1 h1 => ?_
  refine Ok.bind (of_ok h1.2 _ (by decide) (by decide)) fun y2 h2 => ?_
  refine Ok.bind (of_ok h2.2 _ (by decide) (by decide)) fun y3 h3 => ?_
  refine Ok.bind (next_ok h3.2 4 (by omega) (by omega)) fun y4 h4 => ?_
  have b1 : 0 ≤ y1.1 ∧ y1.1 ≤ 3 := by
    have := h1.1
    simp only [List.mem_cons, List.not_mem_nil, or_false] at this
    omega
  have b2 : 0 ≤ y2.1 ∧ y2.1 ≤ 30 := by
    have := h2.1
    simp only [List.mem_cons, List.not_mem_nil, or_false] at this
    omega
  have b3 : 0 ≤ y3.1 ∧ y3.1 ≤ 200 := by
    have := h3.1
    simp only [List.mem_cons, List.not_mem_nil, or_false] at this
    omega
  have b4 := h4.1
  rw [W_id (by omega)]
  refine Ok.loop (fun s : Int × Int × Int × Int × ByteArray × Int × Int × List api_Seal => (0 ≤ s.1 ∧ s.1 ≤ 4) ∧ ∃ n : Nat, (n : Int) + s.1 ≤ 10 ∧ SmX n ⟨⟨s.2.1, s.2.2.1⟩, s.2.2.2.1, s.2.2.2.2.1, ⟨s.2.2.2.2.2.1, s.2.2.2.2.2.2.1⟩, s.2.2.2.2.2.2.2⟩) (fun s => s.1.toNat) ?_ ⟨⟨b4.1, by show y4.1 ≤ 4; omega⟩, 0, by show ((0 : Nat) : Int) + y4.1 ≤ 10; omega, ⟨he, Nat.zero_le _, hu.1, hu.2, ⟨b1.1, by show y1.1 ≤ 100000; omega⟩, ⟨b2.1, by show y2.1 ≤ 100000; omega⟩, ⟨by show 0 ≤ y2.1 + y3.1; omega, by show y2.1 + y3.1 ≤ 100000; omega⟩⟩⟩
  rintro ⟨i, a1, a2, a3, a4, a5, a6, S⟩ ⟨⟨hi0, hi4⟩, n, hn, hS⟩
  dsimp only at hi0 hi4 hn hS
  show Ok (g_make_Exception.l1 y4 i a1 a2 a3 a4 a5 a6 S) _
  unfold g_make_Exception.l1
  refine Ok.cond (fun hb => ?_) (fun hb => ?_)
  · have hb := of_decide_eq_true hb
    refine Ok.bind (rsign_tot hS (by omega) _) fun y5 h5 => ?_
    rw [W_id (x := i - 1) (by omega)]
    refine Ok.ret ⟨⟨⟨by show 0 ≤ i - 1; omega, by show i - 1 ≤ 4; omega⟩, n + 1, by show ((n + 1 : Nat) : Int) + (i - 1) ≤ 10; omega, h5⟩, by show (i - 1).toNat < i.toNat; omega⟩
  · refine Ok.up ?_
    have hl := hS.len
    have fin : ∀ (S' : List api_Seal) (d' : cipherplanmake_Dice), S'.length = S.length → DOK d' → Ok (g_make_Exception.j4 a1 a2 a3 a4 a5 a6 d'.L d'.At S') (fun y => SmX 50 y.1 ∧ DOK y.2) := fun S' d' h1 h2 => by
      unfold g_make_Exception.j4
      exact Ok.ret ⟨⟨hS.nam, by show S'.length ≤ 50; rw [h1]; have : S.length ≤ n := hl; omega, hS.alg, hS.bits, hS.pur, hS.frm, hS.to⟩, h2⟩
    have J3 : ∀ (b : Bool) (d' : cipherplanmake_Dice), (b = true → 0 < S.length) → DOK d' → Ok (g_make_Exception.j3 a1 a2 a3 a4 a5 a6 S b d'.L d'.At) (fun y => SmX 50 y.1 ∧ DOK y.2) := fun b d' hb hd' => by
      unfold g_make_Exception.j3
      refine Ok.cond (fun h1 => ?_) (fun _ => fin _ _ rfl hd')
      have := hb h1
      refine Ok.bind (getI_ok (by omega) (by omega)) fun q _ => fin _ _ ?_ hd'
      unfold setI
      rw [List.length_set]
    refine Ok.cond (fun h1 => ?_) (fun _ => J3 _ _ (fun h => by cases h) h4.2)
    have h1 := of_decide_eq_true h1
    exact Ok.bind (one_ok h4.2 6 (by omega) (by omega)) fun y6 h6 => J3 _ _ (fun _ => by omega) h6
end Go.Proofs.Ytmihjbejflcgkaa
