import Derived.Test.YtidpkjdkfkkgiaaGreatSH
import Derived.Test.YtidpkjdkfkkgiaaGreatM2
set_option linter.unusedVariables false
set_option linter.unusedSimpArgs false
namespace Go.Proofs.YtidpkjdkfkkgiaaGreat
open Go
theorem mN {d : Ad} (h : Mu d) {name : ByteArray} {key : As} {id : Int} (hs : Et name = true) (hs31 : name.size <= 31) (hk : eG key) (hid : 0 <= id /\ id <= 2147483648) :
  Ok (F5 d name key id) (fun y => (y.1.length <= 3 /\ (∀ c ∈ y.1, Gx c = true /\ Qd c) /\ Xs key id y.1 = true) /\ Mu y.2) := by
 unfold F5
 refine Ok.bind (L3 h _ (by decide) (by decide)) fun y1 h1 => ?_
 have hy1 : 0 <= y1.1 /\ y1.1 <= 2 := by
  have := h1.1
  simp only [List.mem_cons, List.not_mem_nil, or_false] at this
  omega
 refine Ok.bind (Gp h1.2 2 (by omega) (by omega)) fun y2 h2 => ?_
 have hy2 := h2.1
 refine Ok.loop (fun s => (0 <= s.1 /\ s.1 <= 100) /\ Et s.2.1 = true /\ 0 <= s.2.2.1 /\ s.2.2.1 <= y1.1 /\ Mu s.2.2.2.1 /\ (s.2.2.2.2.length : Int) = s.2.2.1 /\ ∀ c ∈ s.2.2.2.2, Gx c = true /\ Qd c) (fun s => (y1.1 - s.2.2.1).toNat) (fun s hs' => ?_) ⟨by rw [Ee (by omega)]; constructor <;> omega, by show Et ⟨#[114, 111, 111, 116]⟩ = true; decide +kernel, Int.le_refl _, hy1.1, h2.2, rfl, fun c hc => by cases hc⟩
 obtain ⟨signer, issuer, i, d1, above⟩ := s
 obtain ⟨a1, a2, a3, a4, a5, a6, a7⟩ := hs'
 dsimp only at a1 a2 a3 a4 a5 a6 a7
 show Ok (F5.l1 name key id y1 signer issuer i d1 above) _
 unfold F5.l1
 refine Ok.cond (fun hb => ?_) fun hb => ?_
 ·have hb := of_decide_eq_true hb
  refine Ok.bind (Kr (by omega) (by show i < (3 : Int); omega)) fun e he => ?_
  have hes : Et e = true /\ e.size <= 31 := by
   simp only [List.mem_cons, List.not_mem_nil, or_false] at he
   rcases he with rfl | rfl | rfl <;> exact ⟨by decide +kernel, by decide⟩
  have e11 : W (11 + i) = 11 + i := Ee (by omega)
  refine Ok.bind (fQ a5 true a2 hes.1 hes.2 ⟨⟨⟨by decide, by decide⟩, ⟨by decide, by decide⟩⟩, by decide +kernel⟩ (by rw [e11]; omega) (by omega)) fun y3 h3 => ?_
  refine Ok.bind (Ju (by simp; omega)) fun l hl => ?_
  subst hl
  rw [Ee (x := i + 1) (by omega), e11]
  clear e11
  refine Ok.ret ⟨⟨⟨by show 0 <= 11 + i; omega, by show 11 + i <= 100; omega⟩, hes.1, ?_, ?_, h3.2, ?_, ?_⟩, ?_⟩
  ·show 0 <= i + 1; omega
  ·show i + 1 <= y1.1; omega
  ·show ((y3.1 :: above).length : Int) = i + 1
   rw [List.length_cons]; omega
  ·intro c hc
   rcases List.mem_cons.1 hc with rfl | hc
   ·exact ⟨h3.1.ok, h3.1.fit⟩
   ·exact a7 c hc
  ·show (y1.1 - (i + 1)).toNat < (y1.1 - i).toNat; omega
 ·have hb := of_decide_eq_false hb
  refine Ok.up ?_
  refine Ok.bind (fQ a5 false a2 hs hs31 hk hid (by omega)) fun y4 h4 => ?_
  refine Ok.bind (Ju (by simp; omega)) fun l hl => ?_
  subst hl
  refine Ok.ret ⟨⟨?_, ?_, ?_⟩, h4.2⟩
  ·show ([y4.1] ++ above).length <= 3
   rw [List.length_append, List.length_singleton]; omega
  ·intro c hc
   rcases List.mem_cons.1 hc with rfl | hc
   ·exact ⟨h4.1.ok, h4.1.fit⟩
   ·exact a7 c hc
  ·show (decide (y4.1.Key = key) && decide (y4.1.KeyId = id)) = true
   rw [h4.1.key_, h4.1.id_, decide_eq_true rfl, decide_eq_true rfl]; rfl
theorem qT {key : As} {id : Int} {l : List Af} (hk : Mb key 2 = true) (hid : 0 <= id /\ id <= 2147483648) (hl : l.length <= 8) (hc : ∀ c ∈ l, Gx c = true) (hh : Xs key id l = true) : Tj key id l = true := by
 unfold Tj tY
 have h1 : (l.any fun c => !Gx c) = false := List.any_eq_false.2 fun c h => by rw [hc c h]; simp
 rw [hk, decide_eq_false (show ¬ id < 0 by omega), decide_eq_false (show ¬ 2147483648 < id by omega), decide_eq_false (show ¬ 8 < (l.length : Int) by omega), h1, hh]
 rfl
end Go.Proofs.YtidpkjdkfkkgiaaGreat
